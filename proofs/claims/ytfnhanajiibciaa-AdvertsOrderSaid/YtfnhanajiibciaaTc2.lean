/-
The table of functions, brought into the machine's form (Tc, part 2). Written by program (wip/tools/table.lean.txt).
-/
import Derived.Test.YtfnhanajiibciaaTc0
import Derived.Test.YtfnhanajiibciaaMm3
import Derived.Test.YtfnhanajiibciaaRows
import Derived.KernelRfl
namespace Go.Dm.Tc
open Go.Proofs
def t107l0:DCode :=
 (.seq (oQ [oM 26 9,oM 27 1,oM 28 6,oW 29 (.arith .quo (.t 28) (oI 4)),oW 30 (.arith .mul (.t 29) (oI 2)),oW 31 (.arith .add (.t 27) (.t 30)),oW 32 (.arith .add (.t 31) (oI 1)),oW 33 (.arith .leq (.t 26) (.t 32))]
 (.cond (.t 33) .skip (.exit 0)))
 (.seq (.block 1 (oQ [oW 36 (.call (oF 125) [.t 7]),oM 37 8,oW 38 (.arith .sub (.t 37) (.c (.int .u64 1))),oW 39 (.arith .and (.t 36) (.t 38)),oW 40 (.conv .i64 (.t 39)),oM 10 40]
 (.seq (oQ [oM 41 10,oM 42 6,oW 43 (.arith .geq (.t 41) (.t 42))]
 (.cond (.t 43) (.region [oM 44 10,oM 45 6,oW 46 (.arith .sub (.t 44) (.t 45)),oM 10 46]) .skip))
 (.draw [oRM 53 0,oRM 54 1,oRM 55 10,oR 56 (.arith .add (.t 54) (.t 55)),oR 57 (.indexAddr 1 (.t 53) (.t 56)),oRD 58 57,oRM 59 0,oRM 60 9,oR 61 (.indexAddr 1 (.t 59) (.t 60)),oRD 62 61,oRM 47 0,oRM 48 9,oR 63 (.indexAddr 1 (.t 47) (.t 48)),oS 1 63 58,oRM 49 0,oRM 50 1,oRM 51 10,oR 52 (.arith .add (.t 50) (.t 51)),nK 64 (.indexAddr 1 (.t 49) (.t 52)) .read 1,⟨none,.store 1 (.t 64) (.t 62),none,.write,1,false⟩]))))
 (.region [oM 34 9,oW 35 (.arith .add (.t 34) (oI 1)),oM 9 35])))
def t107:DFunc:={ntmps:=65,results:=[],mode:=.full,body :=
 (oQ [oM 11 2,oM 12 1,oW 13 (.arith .sub (.t 11) (.t 12)),oM 6 13]
 (oQ [oM 14 6,oW 15 (.arith .geq (.t 14) (oI 8))]
 (.cond (.t 15) (oQ [oM 16 6,oW 17 (.conv .u64 (.t 16)),oW 7 (.alloc 154 1 (.int .u64 0)),oS 1 7 17]
 (oQ [oM 18 6,oW 19 (.call (oF 124) [.t 18]),oM 8 19]
 (oQ [oM 20 1,oM 21 6,oW 22 (.arith .quo (.t 21) (oI 4)),oW 23 (.arith .mul (.t 22) (oI 2)),oW 24 (.arith .add (.t 20) (.t 23)),oW 25 (.arith .sub (.t 24) (oI 1)),oM 9 25]
 (.block 0 (.loop t107l0))))) .skip)))}
theorem c107:compFunc Try.prog Try.f107 .full=some t107:=by kernel_rfl
def t108:DFunc:={ntmps:=57,results:=[.t 6,.t 7],mode:=.full,body :=
 (oQ [oW 6 (.move (oI 0)),oW 7 (.move (oI 0))]
 (oQ [oM 13 2,oM 14 1,oW 15 (.arith .sub (.t 13) (.t 14)),oM 8 15]
 (oQ [oW 9 (.alloc 3 1 (.int .i64 0))]
 (oQ [oM 16 1,oM 17 8,oW 18 (.arith .quo (.t 17) (oI 4)),oW 19 (.arith .mul (.t 18) (oI 1)),oW 20 (.arith .add (.t 16) (.t 19)),oM 10 20]
 (oQ [oM 21 1,oM 22 8,oW 23 (.arith .quo (.t 22) (oI 4)),oW 24 (.arith .mul (.t 23) (oI 2)),oW 25 (.arith .add (.t 21) (.t 24)),oM 11 25]
 (oQ [oM 26 1,oM 27 8,oW 28 (.arith .quo (.t 27) (oI 4)),oW 29 (.arith .mul (.t 28) (oI 3)),oW 30 (.arith .add (.t 26) (.t 29)),oM 12 30]
 (.seq (oQ [oM 31 8,oW 32 (.arith .geq (.t 31) (oI 8))]
 (.cond (.t 32) (.seq (oQ [oM 33 8,oW 34 (.arith .geq (.t 33) (oI 50))]
 (.cond (.t 34) (oQ [oM 35 0,oM 36 10,oW 37 (.call (oF 126) [.t 35,.t 36,.t 9]),oM 10 37]
 (oQ [oM 38 0,oM 39 11,oW 40 (.call (oF 126) [.t 38,.t 39,.t 9]),oM 11 40]
 (.region [oM 41 0,oM 42 12,oW 43 (.call (oF 126) [.t 41,.t 42,.t 9]),oM 12 43]))) .skip))
 (.region [oM 44 0,oM 45 10,oM 46 11,oM 47 12,oW 48 (.call (oF 127) [.t 44,.t 45,.t 46,.t 47,.t 9]),oM 11 48])) .skip))
 (oQ [oD 49 9]
 (.block 0 (oQ [oW 52 (.arith .eql (.t 49) (oI 0)),oM 51 52]
 (.cond (.t 51) (oQ [oM 53 11,oM 6 53,oW 7 (.move (oI 1))]
 .ret) (oQ [oW 55 (.arith .eql (.t 49) (oI 12)),oM 54 55]
 (.cond (.t 54) (oQ [oM 56 11,oM 6 56,oW 7 (.move (oI 2))]
 .ret) (oQ [oM 50 11,oM 6 50,oW 7 (.move (oI 0))]
 .ret))))))))))))))}
theorem c108:compFunc Try.prog Try.f108 .full=some t108:=by kernel_rfl
def t109l0:DCode :=
 (.seq (oQ [oM 11 6,oM 12 7,oW 13 (.arith .lss (.t 11) (.t 12))]
 (.cond (.t 13) .skip (.exit 0)))
 (.block 1 (.seq (.draw [oRM 18 0,oRM 19 7,oR 20 (.indexAddr 1 (.t 18) (.t 19)),oRD 21 20,oRM 22 0,oRM 23 6,oR 24 (.indexAddr 1 (.t 22) (.t 23)),oRD 25 24,oRM 14 0,oRM 15 6,oR 26 (.indexAddr 1 (.t 14) (.t 15)),oS 1 26 21,oRM 16 0,oRM 17 7,nK 27 (.indexAddr 1 (.t 16) (.t 17)) .read 1,⟨none,.store 1 (.t 27) (.t 25),none,.write,1,false⟩])
 (oQ [oM 28 6,oW 29 (.arith .add (.t 28) (oI 1)),oM 6 29]
 (.region [oM 30 7,oW 31 (.arith .sub (.t 30) (oI 1)),oM 7 31])))))
def t109:DFunc:={ntmps:=32,results:=[],mode:=.full,body :=
 (oQ [oM 8 1,oM 6 8]
 (oQ [oM 9 2,oW 10 (.arith .sub (.t 9) (oI 1)),oM 7 10]
 (.block 0 (.loop t109l0))))}
theorem c109:compFunc Try.prog Try.f109 .full=some t109:=by kernel_rfl
def t110l0:DCode :=
 (.seq (.seq (.draw [oRM 17 7,oRM 18 2,oR 19 (.arith .lss (.t 17) (.t 18)),oRM 20 19,rM 21 0 20 true,rM 22 7 20 true,rW 23 (.indexAddr 1 (.t 21) (.t 22)) 20 true,rD 24 23 20 true,rM 25 0 20 true,rM 26 7 20 true,rW 27 (.arith .sub (.t 26) (oI 1)) 20 true,rW 28 (.indexAddr 1 (.t 25) (.t 27)) 20 true,rD 29 28 20 true,gW 30 (.call (oF 111) [.t 24,.t 29]) 20 true,⟨(some 31),.un .not (.t 30),(some (20,true)),.read,1,false⟩,nK 32 (.pick (.t 20) (.t 31) (oB false)) .read 1])
 (.cond (.t 32) .skip (.exit 2)))
 (.block 3 (.region [oM 33 7,oW 34 (.arith .add (.t 33) (oI 1)),oM 7 34])))
def t110l1:DCode :=
 (.seq (oQ [oM 64 9,oW 65 (.arith .geq (.t 64) (oI 1))]
 (.cond (.t 65) .skip (.exit 4)))
 (.seq (.block 5 (.seq (.seq (.draw [oRM 68 0,oRM 69 9,oR 70 (.indexAddr 1 (.t 68) (.t 69)),oRD 71 70,oRM 72 0,oRM 73 9,oR 74 (.arith .sub (.t 73) (oI 1)),oR 75 (.indexAddr 1 (.t 72) (.t 74)),oRD 76 75,oW 77 (.call (oF 111) [.t 71,.t 76]),nK 78 (.un .not (.t 77)) .read 1])
 (.cond (.t 78) (.exit 4) .skip))
 (.draw [oRM 84 0,oRM 85 9,oR 86 (.arith .sub (.t 85) (oI 1)),oR 87 (.indexAddr 1 (.t 84) (.t 86)),oRD 88 87,oRM 89 0,oRM 90 9,oR 91 (.indexAddr 1 (.t 89) (.t 90)),oRD 92 91,oRM 79 0,oRM 80 9,oR 93 (.indexAddr 1 (.t 79) (.t 80)),oS 1 93 88,oRM 81 0,oRM 82 9,oR 83 (.arith .sub (.t 82) (oI 1)),nK 94 (.indexAddr 1 (.t 81) (.t 83)) .read 1,⟨none,.store 1 (.t 94) (.t 92),none,.write,1,false⟩])))
 (.region [oM 66 9,oW 67 (.arith .sub (.t 66) (oI 1)),oM 9 67])))
def t110l2:DCode :=
 (.seq (oQ [oM 101 10,oM 102 2,oW 103 (.arith .lss (.t 101) (.t 102))]
 (.cond (.t 103) .skip (.exit 6)))
 (.seq (.block 7 (.seq (.seq (.draw [oRM 106 0,oRM 107 10,oR 108 (.indexAddr 1 (.t 106) (.t 107)),oRD 109 108,oRM 110 0,oRM 111 10,oR 112 (.arith .sub (.t 111) (oI 1)),oR 113 (.indexAddr 1 (.t 110) (.t 112)),oRD 114 113,oW 115 (.call (oF 111) [.t 109,.t 114]),nK 116 (.un .not (.t 115)) .read 1])
 (.cond (.t 116) (.exit 6) .skip))
 (.draw [oRM 122 0,oRM 123 10,oR 124 (.arith .sub (.t 123) (oI 1)),oR 125 (.indexAddr 1 (.t 122) (.t 124)),oRD 126 125,oRM 127 0,oRM 128 10,oR 129 (.indexAddr 1 (.t 127) (.t 128)),oRD 130 129,oRM 117 0,oRM 118 10,oR 131 (.indexAddr 1 (.t 117) (.t 118)),oS 1 131 126,oRM 119 0,oRM 120 10,oR 121 (.arith .sub (.t 120) (oI 1)),nK 132 (.indexAddr 1 (.t 119) (.t 121)) .read 1,⟨none,.store 1 (.t 132) (.t 130),none,.write,1,false⟩])))
 (.region [oM 104 10,oW 105 (.arith .add (.t 104) (oI 1)),oM 10 105])))
def t110k0:DCode :=
 (oQ [oM 95 2,oM 96 7,oW 97 (.arith .sub (.t 95) (.t 96)),oW 98 (.arith .geq (.t 97) (oI 2))]
 (.cond (.t 98) (oQ [oM 99 7,oW 100 (.arith .add (.t 99) (oI 1)),oM 10 100]
 (.block 6 (.loop t110l2))) .skip))
def t110k1:DCode :=
 (.seq (oQ [oM 35 7,oM 36 2,oW 37 (.arith .eql (.t 35) (.t 36))]
 (.cond (.t 37) (oQ [oW 6 (.move (oB true))]
 .ret) .skip))
 (.seq (oQ [oM 38 2,oM 39 1,oW 40 (.arith .sub (.t 38) (.t 39)),oW 41 (.arith .lss (.t 40) (oI 50))]
 (.cond (.t 41) (oQ [oW 6 (.move (oB false))]
 .ret) .skip))
 (.seq (.draw [oRM 47 0,oRM 48 7,oR 49 (.arith .sub (.t 48) (oI 1)),oR 50 (.indexAddr 1 (.t 47) (.t 49)),oRD 51 50,oRM 52 0,oRM 53 7,oR 54 (.indexAddr 1 (.t 52) (.t 53)),oRD 55 54,oRM 42 0,oRM 43 7,oR 56 (.indexAddr 1 (.t 42) (.t 43)),oS 1 56 51,oRM 44 0,oRM 45 7,oR 46 (.arith .sub (.t 45) (oI 1)),nK 57 (.indexAddr 1 (.t 44) (.t 46)) .read 1,⟨none,.store 1 (.t 57) (.t 55),none,.write,1,false⟩])
 (.seq (oQ [oM 58 7,oM 59 1,oW 60 (.arith .sub (.t 58) (.t 59)),oW 61 (.arith .geq (.t 60) (oI 2))]
 (.cond (.t 61) (oQ [oM 62 7,oW 63 (.arith .sub (.t 62) (oI 1)),oM 9 63]
 (.block 4 (.loop t110l1))) .skip))
 t110k0))))
def t110k2:DCode :=
 (.region [oM 15 8,oW 16 (.arith .add (.t 15) (oI 1)),oM 8 16])
def t110l3:DCode :=
 (.seq (oQ [oM 13 8,oW 14 (.arith .lss (.t 13) (oI 5))]
 (.cond (.t 14) .skip (.exit 0)))
 (.seq (.block 1 (.seq (.block 2 (.loop t110l0))
 t110k1))
 t110k2))
def t110k3:DCode :=
 (oQ [oW 6 (.move (oB false))]
 .ret)
def t110:DFunc:={ntmps:=133,results:=[.t 6],mode:=.full,body :=
 (oQ [oW 6 (.move (oB false))]
 (oQ [oM 11 1,oW 12 (.arith .add (.t 11) (oI 1)),oM 7 12]
 (.seq (oQ [oW 8 (.move (oI 0))]
 (.block 0 (.loop t110l3)))
 t110k3)))}
theorem c110:compFunc Try.prog Try.f110 .full=some t110:=by kernel_rfl
def t111:DFunc:={ntmps:=17,results:=[.t 4],mode:=.pure,body :=
 (oQ [oW 4 (.move (oB false))]
 (oQ [oM 5 0,oW 6 (.call (oF 118) [.t 5]),oM 7 6,gM 8 1 7 true,gW 9 (.call (oF 118) [.t 8]) 7 true,gW 10 (.un .not (.t 9)) 7 true,oW 11 (.pick (.t 7) (.t 10) (oB false)),oM 12 11,gM 13 0 12 false,gM 14 1 12 false,gW 15 (.arith .lss (.t 13) (.t 14)) 12 false,oW 16 (.pick (.t 12) (oB true) (.t 15)),oM 4 16]
 .ret))}
theorem c111:compFunc Try.prog Try.f111 .pure=some t111:=by kernel_rfl
def t112l0:DCode :=
 (.seq (.seq (.draw [oRM 29 9,oRM 30 10,oR 31 (.arith .leq (.t 29) (.t 30)),oRM 32 31,rM 33 0 32 true,rM 34 1 32 true,rW 35 (.indexAddr 1 (.t 33) (.t 34)) 32 true,rD 36 35 32 true,rM 37 0 32 true,rM 38 9 32 true,rW 39 (.indexAddr 1 (.t 37) (.t 38)) 32 true,rD 40 39 32 true,gW 41 (.call (oF 111) [.t 36,.t 40]) 32 true,⟨(some 42),.un .not (.t 41),(some (32,true)),.read,1,false⟩,nK 43 (.pick (.t 32) (.t 42) (oB false)) .read 1])
 (.cond (.t 43) .skip (.exit 2)))
 (.block 3 (.region [oM 44 9,oW 45 (.arith .add (.t 44) (oI 1)),oM 9 45])))
def t112l1:DCode :=
 (.seq (.seq (.draw [oRM 46 9,oRM 47 10,oR 48 (.arith .leq (.t 46) (.t 47)),oRM 49 48,rM 50 0 49 true,rM 51 1 49 true,rW 52 (.indexAddr 1 (.t 50) (.t 51)) 49 true,rD 53 52 49 true,rM 54 0 49 true,rM 55 10 49 true,rW 56 (.indexAddr 1 (.t 54) (.t 55)) 49 true,rD 57 56 49 true,gW 58 (.call (oF 111) [.t 53,.t 57]) 49 true,nK 59 (.pick (.t 49) (.t 58) (oB false)) .read 1])
 (.cond (.t 59) .skip (.exit 4)))
 (.block 5 (.region [oM 60 10,oW 61 (.arith .sub (.t 60) (oI 1)),oM 10 61])))
def t112k0:DCode :=
 (.seq (oQ [oM 62 9,oM 63 10,oW 64 (.arith .gtr (.t 62) (.t 63))]
 (.cond (.t 64) (.exit 0) .skip))
 (.seq (.draw [oRM 69 0,oRM 70 10,oR 71 (.indexAddr 1 (.t 69) (.t 70)),oRD 72 71,oRM 73 0,oRM 74 9,oR 75 (.indexAddr 1 (.t 73) (.t 74)),oRD 76 75,oRM 65 0,oRM 66 9,oR 77 (.indexAddr 1 (.t 65) (.t 66)),oS 1 77 72,oRM 67 0,oRM 68 10,nK 78 (.indexAddr 1 (.t 67) (.t 68)) .read 1,⟨none,.store 1 (.t 78) (.t 76),none,.write,1,false⟩])
 (oQ [oM 79 9,oW 80 (.arith .add (.t 79) (oI 1)),oM 9 80]
 (.region [oM 81 10,oW 82 (.arith .sub (.t 81) (oI 1)),oM 10 82]))))
def t112k1:DCode :=
 (.seq (.block 4 (.loop t112l1))
 t112k0)
def t112l2:DCode :=
 (.block 1 (.seq (.block 2 (.loop t112l0))
 t112k1))
def t112k2:DCode :=
 (oQ [oM 83 9,oM 8 83]
 .ret)
def t112:DFunc:={ntmps:=84,results:=[.t 8],mode:=.full,body :=
 (oQ [oW 8 (.move (oI 0))]
 (.seq (.draw [oRM 15 0,oRM 16 3,oR 17 (.indexAddr 1 (.t 15) (.t 16)),oRD 18 17,oRM 19 0,oRM 20 1,oR 21 (.indexAddr 1 (.t 19) (.t 20)),oRD 22 21,oRM 11 0,oRM 12 1,oR 23 (.indexAddr 1 (.t 11) (.t 12)),oS 1 23 18,oRM 13 0,oRM 14 3,nK 24 (.indexAddr 1 (.t 13) (.t 14)) .read 1,⟨none,.store 1 (.t 24) (.t 22),none,.write,1,false⟩])
 (oQ [oM 25 1,oW 26 (.arith .add (.t 25) (oI 1)),oM 27 2,oW 28 (.arith .sub (.t 27) (oI 1)),oM 9 26,oM 10 28]
 (.seq (.block 0 (.loop t112l2))
 t112k2))))}
theorem c112:compFunc Try.prog Try.f112 .full=some t112:=by kernel_rfl
def t113l0:DCode :=
 (.seq (.seq (.draw [oRM 30 10,oRM 31 11,oR 32 (.arith .leq (.t 30) (.t 31)),oRM 33 32,rM 34 0 33 true,rM 35 10 33 true,rW 36 (.indexAddr 1 (.t 34) (.t 35)) 33 true,rD 37 36 33 true,rM 38 0 33 true,rM 39 1 33 true,rW 40 (.indexAddr 1 (.t 38) (.t 39)) 33 true,rD 41 40 33 true,gW 42 (.call (oF 111) [.t 37,.t 41]) 33 true,nK 43 (.pick (.t 33) (.t 42) (oB false)) .read 1])
 (.cond (.t 43) .skip (.exit 0)))
 (.block 1 (.region [oM 44 10,oW 45 (.arith .add (.t 44) (oI 1)),oM 10 45])))
def t113l1:DCode :=
 (.seq (.seq (.draw [oRM 46 10,oRM 47 11,oR 48 (.arith .leq (.t 46) (.t 47)),oRM 49 48,rM 50 0 49 true,rM 51 11 49 true,rW 52 (.indexAddr 1 (.t 50) (.t 51)) 49 true,rD 53 52 49 true,rM 54 0 49 true,rM 55 1 49 true,rW 56 (.indexAddr 1 (.t 54) (.t 55)) 49 true,rD 57 56 49 true,gW 58 (.call (oF 111) [.t 53,.t 57]) 49 true,⟨(some 59),.un .not (.t 58),(some (49,true)),.read,1,false⟩,nK 60 (.pick (.t 49) (.t 59) (oB false)) .read 1])
 (.cond (.t 60) .skip (.exit 2)))
 (.block 3 (.region [oM 61 11,oW 62 (.arith .sub (.t 61) (oI 1)),oM 11 62])))
def t113l2:DCode :=
 (.seq (.seq (.draw [oRM 99 10,oRM 100 11,oR 101 (.arith .leq (.t 99) (.t 100)),oRM 102 101,rM 103 0 102 true,rM 104 10 102 true,rW 105 (.indexAddr 1 (.t 103) (.t 104)) 102 true,rD 106 105 102 true,rM 107 0 102 true,rM 108 1 102 true,rW 109 (.indexAddr 1 (.t 107) (.t 108)) 102 true,rD 110 109 102 true,gW 111 (.call (oF 111) [.t 106,.t 110]) 102 true,nK 112 (.pick (.t 102) (.t 111) (oB false)) .read 1])
 (.cond (.t 112) .skip (.exit 6)))
 (.block 7 (.region [oM 113 10,oW 114 (.arith .add (.t 113) (oI 1)),oM 10 114])))
def t113l3:DCode :=
 (.seq (.seq (.draw [oRM 115 10,oRM 116 11,oR 117 (.arith .leq (.t 115) (.t 116)),oRM 118 117,rM 119 0 118 true,rM 120 11 118 true,rW 121 (.indexAddr 1 (.t 119) (.t 120)) 118 true,rD 122 121 118 true,rM 123 0 118 true,rM 124 1 118 true,rW 125 (.indexAddr 1 (.t 123) (.t 124)) 118 true,rD 126 125 118 true,gW 127 (.call (oF 111) [.t 122,.t 126]) 118 true,⟨(some 128),.un .not (.t 127),(some (118,true)),.read,1,false⟩,nK 129 (.pick (.t 118) (.t 128) (oB false)) .read 1])
 (.cond (.t 129) .skip (.exit 8)))
 (.block 9 (.region [oM 130 11,oW 131 (.arith .sub (.t 130) (oI 1)),oM 11 131])))
def t113k0:DCode :=
 (.seq (oQ [oM 132 10,oM 133 11,oW 134 (.arith .gtr (.t 132) (.t 133))]
 (.cond (.t 134) (.exit 4) .skip))
 (.seq (.draw [oRM 139 0,oRM 140 11,oR 141 (.indexAddr 1 (.t 139) (.t 140)),oRD 142 141,oRM 143 0,oRM 144 10,oR 145 (.indexAddr 1 (.t 143) (.t 144)),oRD 146 145,oRM 135 0,oRM 136 10,oR 147 (.indexAddr 1 (.t 135) (.t 136)),oS 1 147 142,oRM 137 0,oRM 138 11,nK 148 (.indexAddr 1 (.t 137) (.t 138)) .read 1,⟨none,.store 1 (.t 148) (.t 146),none,.write,1,false⟩])
 (oQ [oM 149 10,oW 150 (.arith .add (.t 149) (oI 1)),oM 10 150]
 (.region [oM 151 11,oW 152 (.arith .sub (.t 151) (oI 1)),oM 11 152]))))
def t113k1:DCode :=
 (.seq (.block 8 (.loop t113l3))
 t113k0)
def t113l4:DCode :=
 (.block 5 (.seq (.block 6 (.loop t113l2))
 t113k1))
def t113k2:DCode :=
 (.seq (.draw [oRM 157 0,oRM 158 1,oR 159 (.indexAddr 1 (.t 157) (.t 158)),oRD 160 159,oRM 161 0,oRM 162 11,oR 163 (.indexAddr 1 (.t 161) (.t 162)),oRD 164 163,oRM 153 0,oRM 154 11,oR 165 (.indexAddr 1 (.t 153) (.t 154)),oS 1 165 160,oRM 155 0,oRM 156 1,nK 166 (.indexAddr 1 (.t 155) (.t 156)) .read 1,⟨none,.store 1 (.t 166) (.t 164),none,.write,1,false⟩])
 (oQ [oM 167 11,oM 8 167,oW 9 (.move (oB false))]
 .ret))
def t113k3:DCode :=
 (.seq (oQ [oM 63 10,oM 64 11,oW 65 (.arith .gtr (.t 63) (.t 64))]
 (.cond (.t 65) (.seq (.draw [oRM 70 0,oRM 71 1,oR 72 (.indexAddr 1 (.t 70) (.t 71)),oRD 73 72,oRM 74 0,oRM 75 11,oR 76 (.indexAddr 1 (.t 74) (.t 75)),oRD 77 76,oRM 66 0,oRM 67 11,oR 78 (.indexAddr 1 (.t 66) (.t 67)),oS 1 78 73,oRM 68 0,oRM 69 1,nK 79 (.indexAddr 1 (.t 68) (.t 69)) .read 1,⟨none,.store 1 (.t 79) (.t 77),none,.write,1,false⟩])
 (oQ [oM 80 11,oM 8 80,oW 9 (.move (oB true))]
 .ret)) .skip))
 (.seq (.draw [oRM 85 0,oRM 86 11,oR 87 (.indexAddr 1 (.t 85) (.t 86)),oRD 88 87,oRM 89 0,oRM 90 10,oR 91 (.indexAddr 1 (.t 89) (.t 90)),oRD 92 91,oRM 81 0,oRM 82 10,oR 93 (.indexAddr 1 (.t 81) (.t 82)),oS 1 93 88,oRM 83 0,oRM 84 11,nK 94 (.indexAddr 1 (.t 83) (.t 84)) .read 1,⟨none,.store 1 (.t 94) (.t 92),none,.write,1,false⟩])
 (oQ [oM 95 10,oW 96 (.arith .add (.t 95) (oI 1)),oM 10 96]
 (oQ [oM 97 11,oW 98 (.arith .sub (.t 97) (oI 1)),oM 11 98]
 (.seq (.block 4 (.loop t113l4))
 t113k2)))))
def t113k4:DCode :=
 (.seq (.block 2 (.loop t113l1))
 t113k3)
def t113:DFunc:={ntmps:=168,results:=[.t 8,.t 9],mode:=.full,body :=
 (oQ [oW 8 (.move (oI 0)),oW 9 (.move (oB false))]
 (.seq (.draw [oRM 16 0,oRM 17 3,oR 18 (.indexAddr 1 (.t 16) (.t 17)),oRD 19 18,oRM 20 0,oRM 21 1,oR 22 (.indexAddr 1 (.t 20) (.t 21)),oRD 23 22,oRM 12 0,oRM 13 1,oR 24 (.indexAddr 1 (.t 12) (.t 13)),oS 1 24 19,oRM 14 0,oRM 15 3,nK 25 (.indexAddr 1 (.t 14) (.t 15)) .read 1,⟨none,.store 1 (.t 25) (.t 23),none,.write,1,false⟩])
 (oQ [oM 26 1,oW 27 (.arith .add (.t 26) (oI 1)),oM 28 2,oW 29 (.arith .sub (.t 28) (oI 1)),oM 10 27,oM 11 29]
 (.seq (.block 0 (.loop t113l0))
 t113k4))))}
theorem c113:compFunc Try.prog Try.f113 .full=some t113:=by kernel_rfl
def t114:DFunc:={ntmps:=19,results:=[.t 2],mode:=.pure,body :=
 (oQ [oW 2 (.move (oI 0))]
 (.seq (oQ [oM 3 0,oW 4 (.arith .geq (.t 3) (.c (.int .u32 65536)))]
 (.cond (.t 4) (oQ [oM 5 0,oW 6 (.arith .shr (.t 5) (.c (.int .u64 16))),oM 0 6]
 (.region [oW 2 (.move (oI 16))])) .skip))
 (.seq (oQ [oM 7 0,oW 8 (.arith .geq (.t 7) (.c (.int .u32 256)))]
 (.cond (.t 8) (oQ [oM 9 0,oW 10 (.arith .shr (.t 9) (.c (.int .u64 8))),oM 0 10]
 (.region [oM 11 2,oW 12 (.arith .add (.t 11) (oI 8)),oM 2 12])) .skip))
 (oQ [oM 13 2,oM 14 0,oW 15 (.conv .u8 (.t 14)),oW 16 (.indexStr (.c (.str [0,1,2,2,3,3,3,3,4,4,4,4,4,4,4,4,5,5,5,5,5,5,5,5,5,5,5,5,5,5,5,5,6,6,6,6,6,6,6,6,6,6,6,6,6,6,6,6,6,6,6,6,6,6,6,6,6,6,6,6,6,6,6,6,7,7,7,7,7,7,7,7,7,7,7,7,7,7,7,7,7,7,7,7,7,7,7,7,7,7,7,7,7,7,7,7,7,7,7,7,7,7,7,7,7,7,7,7,7,7,7,7,7,7,7,7,7,7,7,7,7,7,7,7,7,7,7,7,8,8,8,8,8,8,8,8,8,8,8,8,8,8,8,8,8,8,8,8,8,8,8,8,8,8,8,8,8,8,8,8,8,8,8,8,8,8,8,8,8,8,8,8,8,8,8,8,8,8,8,8,8,8,8,8,8,8,8,8,8,8,8,8,8,8,8,8,8,8,8,8,8,8,8,8,8,8,8,8,8,8,8,8,8,8,8,8,8,8,8,8,8,8,8,8,8,8,8,8,8,8,8,8,8,8,8,8,8,8,8,8,8,8,8,8,8,8,8,8,8,8,8,8,8,8,8,8])) (.t 15)),oW 17 (.conv .i64 (.t 16)),oW 18 (.arith .add (.t 13) (.t 17)),oM 2 18]
 .ret))))}
theorem c114:compFunc Try.prog Try.f114 .pure=some t114:=by kernel_rfl
def t115:DFunc:={ntmps:=25,results:=[.t 2],mode:=.pure,body :=
 (oQ [oW 2 (.move (oI 0))]
 (.seq (oQ [oM 3 0,oW 4 (.arith .geq (.t 3) (.c (.int .u64 4294967296)))]
 (.cond (.t 4) (oQ [oM 5 0,oW 6 (.arith .shr (.t 5) (.c (.int .u64 32))),oM 0 6]
 (.region [oW 2 (.move (oI 32))])) .skip))
 (.seq (oQ [oM 7 0,oW 8 (.arith .geq (.t 7) (.c (.int .u64 65536)))]
 (.cond (.t 8) (oQ [oM 9 0,oW 10 (.arith .shr (.t 9) (.c (.int .u64 16))),oM 0 10]
 (.region [oM 11 2,oW 12 (.arith .add (.t 11) (oI 16)),oM 2 12])) .skip))
 (.seq (oQ [oM 13 0,oW 14 (.arith .geq (.t 13) (.c (.int .u64 256)))]
 (.cond (.t 14) (oQ [oM 15 0,oW 16 (.arith .shr (.t 15) (.c (.int .u64 8))),oM 0 16]
 (.region [oM 17 2,oW 18 (.arith .add (.t 17) (oI 8)),oM 2 18])) .skip))
 (oQ [oM 19 2,oM 20 0,oW 21 (.conv .u8 (.t 20)),oW 22 (.indexStr (.c (.str [0,1,2,2,3,3,3,3,4,4,4,4,4,4,4,4,5,5,5,5,5,5,5,5,5,5,5,5,5,5,5,5,6,6,6,6,6,6,6,6,6,6,6,6,6,6,6,6,6,6,6,6,6,6,6,6,6,6,6,6,6,6,6,6,7,7,7,7,7,7,7,7,7,7,7,7,7,7,7,7,7,7,7,7,7,7,7,7,7,7,7,7,7,7,7,7,7,7,7,7,7,7,7,7,7,7,7,7,7,7,7,7,7,7,7,7,7,7,7,7,7,7,7,7,7,7,7,7,8,8,8,8,8,8,8,8,8,8,8,8,8,8,8,8,8,8,8,8,8,8,8,8,8,8,8,8,8,8,8,8,8,8,8,8,8,8,8,8,8,8,8,8,8,8,8,8,8,8,8,8,8,8,8,8,8,8,8,8,8,8,8,8,8,8,8,8,8,8,8,8,8,8,8,8,8,8,8,8,8,8,8,8,8,8,8,8,8,8,8,8,8,8,8,8,8,8,8,8,8,8,8,8,8,8,8,8,8,8,8,8,8,8,8,8,8,8,8,8,8,8,8,8,8,8,8,8])) (.t 21)),oW 23 (.conv .i64 (.t 22)),oW 24 (.arith .add (.t 19) (.t 23)),oM 2 24]
 .ret)))))}
theorem c115:compFunc Try.prog Try.f115 .pure=some t115:=by kernel_rfl
def t116:DFunc:={ntmps:=14,results:=[],mode:=.full,body :=
 (oQ [oM 4 0,oM 5 1,oW 6 (.sliceSl 4 (.t 4) none (some (.t 5))),oW 7 (.call (oF 128) [.t 6])]
 (oQ [oM 8 0,oM 9 1,oW 10 (.sliceSl 4 (.t 8) (some (.t 9)) none),oW 11 (.call (oF 128) [.t 10])]
 (.region [oM 12 0,oW 13 (.call (oF 128) [.t 12])])))}
theorem c116:compFunc Try.prog Try.f116 .full=some t116:=by kernel_rfl
def t117:DFunc:={ntmps:=14,results:=[],mode:=.full,body :=
 (oQ [oM 4 0,oM 5 1,oW 6 (.sliceSl 2 (.t 4) none (some (.t 5))),oW 7 (.call (oF 129) [.t 6])]
 (oQ [oM 8 0,oM 9 1,oW 10 (.sliceSl 2 (.t 8) (some (.t 9)) none),oW 11 (.call (oF 129) [.t 10])]
 (.region [oM 12 0,oW 13 (.call (oF 129) [.t 12])])))}
theorem c117:compFunc Try.prog Try.f117 .full=some t117:=by kernel_rfl
def t118:DFunc:={ntmps:=6,results:=[.t 2],mode:=.pure,body :=
 (oQ [oW 2 (.move (oB false))]
 (oQ [oM 3 0,oM 4 0,oW 5 (.arith .neq (.t 3) (.t 4)),oM 2 5]
 .ret))}
theorem c118:compFunc Try.prog Try.f118 .pure=some t118:=by kernel_rfl
def t119l0:DCode :=
 (oQ [oW 9 (.arith .lss (.t 8) (.t 7))]
 (.seq (.cond (.t 9) .skip (.exit 0))
 (.seq (.block 1 (oQ [oM 10 8,oM 5 10]
 (oQ [oM 11 1,oM 12 0,oM 13 5,oW 14 (.indexAddr 1 (.t 12) (.t 13)),oD 15 14,oW 16 (.arith .eql (.t 11) (.t 15))]
 (.cond (.t 16) (oQ [oM 17 5,oM 4 17]
 .ret) .skip))))
 (.region [oW 18 (.arith .add (.t 8) (oI 1)),oM 8 18]))))
def t119k0:DCode :=
 (oQ [oW 4 (.move (oI (-1)))]
 .ret)
def t119:DFunc:={ntmps:=19,results:=[.t 4],mode:=.pure,body :=
 (oQ [oW 4 (.move (oI 0))]
 (.seq (oQ [oM 6 0,oW 7 (.len 1 (.t 6)),oW 8 (.move (oI 0))]
 (.block 0 (.loop t119l0)))
 t119k0))}
theorem c119:compFunc Try.prog Try.f119 .pure=some t119:=by kernel_rfl
def t120l0:DCode :=
 (oQ [oW 7 (.arith .lss (.t 6) (.t 5))]
 (.seq (.cond (.t 7) .skip (.exit 0))
 (.seq (.block 1 (oQ [oM 8 6,oM 3 8]
 (oQ [oM 9 0,oM 10 3,oW 11 (.indexStr (.t 9) (.t 10)),oW 12 (.arith .lss (.t 11) (.c (.int .u8 97))),oM 13 12,gM 14 0 13 false,gM 15 3 13 false,gW 16 (.indexStr (.t 14) (.t 15)) 13 false,gW 17 (.arith .gtr (.t 16) (.c (.int .u8 122))) 13 false,oW 18 (.pick (.t 13) (oB true) (.t 17))]
 (.cond (.t 18) (oQ [oW 2 (.move (oB false))]
 .ret) .skip))))
 (.region [oW 19 (.arith .add (.t 6) (oI 1)),oM 6 19]))))
def t120k0:DCode :=
 (oQ [oM 20 0,oW 21 (.arith .neq (.t 20) (.c (.str []))),oM 22 21,gM 23 0 22 true,gW 24 (.len 0 (.t 23)) 22 true,gW 25 (.arith .leq (.t 24) (oI 12)) 22 true,oW 26 (.pick (.t 22) (.t 25) (oB false)),oM 2 26]
 .ret)
def t120:DFunc:={ntmps:=27,results:=[.t 2],mode:=.pure,body :=
 (oQ [oW 2 (.move (oB false))]
 (.seq (oQ [oM 4 0,oW 5 (.len 0 (.t 4)),oW 6 (.move (oI 0))]
 (.block 0 (.loop t120l0)))
 t120k0))}
theorem c120:compFunc Try.prog Try.f120 .pure=some t120:=by kernel_rfl
def t123l0:DCode :=
 (.block 1 (oQ [oM 11 8,oW 12 (.arith .mul (oI 2) (.t 11)),oW 13 (.arith .add (.t 12) (oI 1)),oM 9 13]
 (.seq (oQ [oM 14 9,oM 15 2,oW 16 (.arith .geq (.t 14) (.t 15))]
 (.cond (.t 16) (.exit 0) .skip))
 (.seq (.seq (.draw [oRM 17 9,oR 18 (.arith .add (.t 17) (oI 1)),oRM 19 2,oR 20 (.arith .lss (.t 18) (.t 19)),oRM 21 20,rM 22 0 21 true,rM 23 3 21 true,rM 24 9 21 true,rW 25 (.arith .add (.t 23) (.t 24)) 21 true,rW 26 (.indexAddr 1 (.t 22) (.t 25)) 21 true,rD 27 26 21 true,rM 28 0 21 true,rM 29 3 21 true,rM 30 9 21 true,rW 31 (.arith .add (.t 29) (.t 30)) 21 true,rW 32 (.arith .add (.t 31) (oI 1)) 21 true,rW 33 (.indexAddr 1 (.t 28) (.t 32)) 21 true,rD 34 33 21 true,gW 35 (.call (oF 111) [.t 27,.t 34]) 21 true,nK 36 (.pick (.t 21) (.t 35) (oB false)) .read 1])
 (.cond (.t 36) (.region [oM 37 9,oW 38 (.arith .add (.t 37) (oI 1)),oM 9 38]) .skip))
 (.seq (.seq (.draw [oRM 39 0,oRM 40 3,oRM 41 8,oR 42 (.arith .add (.t 40) (.t 41)),oR 43 (.indexAddr 1 (.t 39) (.t 42)),oRD 44 43,oRM 45 0,oRM 46 3,oRM 47 9,oR 48 (.arith .add (.t 46) (.t 47)),oR 49 (.indexAddr 1 (.t 45) (.t 48)),oRD 50 49,oW 51 (.call (oF 111) [.t 44,.t 50]),nK 52 (.un .not (.t 51)) .read 1])
 (.cond (.t 52) .ret .skip))
 (.seq (.draw [oRM 61 0,oRM 62 3,oRM 63 9,oR 64 (.arith .add (.t 62) (.t 63)),oR 65 (.indexAddr 1 (.t 61) (.t 64)),oRD 66 65,oRM 67 0,oRM 68 3,oRM 69 8,oR 70 (.arith .add (.t 68) (.t 69)),oR 71 (.indexAddr 1 (.t 67) (.t 70)),oRD 72 71,oRM 53 0,oRM 54 3,oRM 55 8,oR 56 (.arith .add (.t 54) (.t 55)),oR 73 (.indexAddr 1 (.t 53) (.t 56)),oS 1 73 66,oRM 57 0,oRM 58 3,oRM 59 9,oR 60 (.arith .add (.t 58) (.t 59)),nK 74 (.indexAddr 1 (.t 57) (.t 60)) .read 1,⟨none,.store 1 (.t 74) (.t 72),none,.write,1,false⟩])
 (.region [oM 75 9,oM 8 75])))))))
def t123:DFunc:={ntmps:=76,results:=[],mode:=.full,body :=
 (oQ [oM 10 1,oM 8 10]
 (.block 0 (.loop t123l0)))}
theorem c123:compFunc Try.prog Try.f123 .full=some t123:=by kernel_rfl
def t124:DFunc:={ntmps:=7,results:=[.t 2],mode:=.pure,body :=
 (oQ [oW 2 (.move (.c (.int .u64 0)))]
 (oQ [oM 3 0,oW 4 (.conv .u64 (.t 3)),oW 5 (.call (oF 79) [.t 4]),oW 6 (.arith .shl (.c (.int .u64 1)) (.t 5)),oM 2 6]
 .ret))}
theorem c124:compFunc Try.prog Try.f124 .pure=some t124:=by kernel_rfl
def t125:DFunc:={ntmps:=33,results:=[.t 2],mode:=.full,body :=
 (oQ [oW 2 (.move (.c (.int .u64 0)))]
 (.seq (.draw [oRM 3 0,oR 4 (.nilCheck (.t 3)),oRD 5 4,oRM 6 0,oR 7 (.nilCheck (.t 6)),oRD 8 7,oR 9 (.arith .shl (.t 8) (.c (.int .u64 13))),oR 10 (.arith .xor (.t 5) (.t 9)),oR 11 (.nilCheck (.t 3)),oS 1 11 10])
 (.seq (.draw [oRM 12 0,oR 13 (.nilCheck (.t 12)),oRD 14 13,oRM 15 0,oR 16 (.nilCheck (.t 15)),oRD 17 16,oR 18 (.arith .shr (.t 17) (.c (.int .u64 7))),oR 19 (.arith .xor (.t 14) (.t 18)),oR 20 (.nilCheck (.t 12)),oS 1 20 19])
 (.seq (.draw [oRM 21 0,oR 22 (.nilCheck (.t 21)),oRD 23 22,oRM 24 0,oR 25 (.nilCheck (.t 24)),oRD 26 25,oR 27 (.arith .shl (.t 26) (.c (.int .u64 17))),oR 28 (.arith .xor (.t 23) (.t 27)),oR 29 (.nilCheck (.t 21)),oS 1 29 28])
 (oQ [oM 30 0,oW 31 (.nilCheck (.t 30)),oD 32 31,oM 2 32]
 .ret)))))}
theorem c125:compFunc Try.prog Try.f125 .full=some t125:=by kernel_rfl
def t126:DFunc:={ntmps:=15,results:=[.t 6],mode:=.full,body :=
 (oQ [oW 6 (.move (oI 0))]
 (oQ [oM 7 0,oM 8 1,oW 9 (.arith .sub (.t 8) (oI 1)),oM 10 1,oM 11 1,oW 12 (.arith .add (.t 11) (oI 1)),oM 13 2,oW 14 (.call (oF 127) [.t 7,.t 9,.t 10,.t 12,.t 13]),oM 6 14]
 .ret))}
theorem c126:compFunc Try.prog Try.f126 .full=some t126:=by kernel_rfl
def t127:DFunc:={ntmps:=36,results:=[.t 10],mode:=.full,body :=
 (oQ [oW 10 (.move (oI 0))]
 (oQ [oM 12 0,oM 13 1,oM 14 2,oM 15 4,oW 16 (.call (oF 131) [.t 12,.t 13,.t 14,.t 15]),oM 11 16,oX 17 11 0,oX 18 11 1,oM 1 17,oM 2 18]
 (oQ [oM 20 0,oM 21 2,oM 22 3,oM 23 4,oW 24 (.call (oF 131) [.t 20,.t 21,.t 22,.t 23]),oM 19 24,oX 25 19 0,oX 26 19 1,oM 2 25,oM 3 26]
 (oQ [oM 28 0,oM 29 1,oM 30 2,oM 31 4,oW 32 (.call (oF 131) [.t 28,.t 29,.t 30,.t 31]),oM 27 32,oX 33 27 0,oX 34 27 1,oM 1 33,oM 2 34]
 (oQ [oM 35 2,oM 10 35]
 .ret)))))}
theorem c127:compFunc Try.prog Try.f127 .full=some t127:=by kernel_rfl
def t128l0:DCode :=
 (.seq (oQ [oM 7 2,oM 8 3,oW 9 (.arith .lss (.t 7) (.t 8))]
 (.cond (.t 9) .skip (.exit 0)))
 (.seq (.block 1 (.draw [oRM 18 0,oRM 19 3,oR 20 (.indexAddr 4 (.t 18) (.t 19)),oRL 21 4 20,oRM 22 0,oRM 23 2,oR 24 (.indexAddr 4 (.t 22) (.t 23)),oRL 25 4 24,oRM 14 0,oRM 15 2,oR 26 (.indexAddr 4 (.t 14) (.t 15)),oS 4 26 21,oRM 16 0,oRM 17 3,nK 27 (.indexAddr 4 (.t 16) (.t 17)) .read 1,⟨none,.store 4 (.t 27) (.t 25),none,.write,1,false⟩]))
 (.region [oM 10 2,oW 11 (.arith .add (.t 10) (oI 1)),oM 12 3,oW 13 (.arith .sub (.t 12) (oI 1)),oM 2 11,oM 3 13])))
def t128:DFunc:={ntmps:=28,results:=[],mode:=.full,body :=
 (oQ [oM 4 0,oW 5 (.len 1 (.t 4)),oW 6 (.arith .sub (.t 5) (oI 1)),oW 2 (.move (oI 0)),oM 3 6]
 (.block 0 (.loop t128l0)))}
theorem c128:compFunc Try.prog Try.f128 .full=some t128:=by kernel_rfl
def t129l0:DCode :=
 (.seq (oQ [oM 7 2,oM 8 3,oW 9 (.arith .lss (.t 7) (.t 8))]
 (.cond (.t 9) .skip (.exit 0)))
 (.seq (.block 1 (.draw [oRM 18 0,oRM 19 3,oR 20 (.indexAddr 2 (.t 18) (.t 19)),oRL 21 2 20,oRM 22 0,oRM 23 2,oR 24 (.indexAddr 2 (.t 22) (.t 23)),oRL 25 2 24,oRM 14 0,oRM 15 2,oR 26 (.indexAddr 2 (.t 14) (.t 15)),oS 2 26 21,oRM 16 0,oRM 17 3,nK 27 (.indexAddr 2 (.t 16) (.t 17)) .read 1,⟨none,.store 2 (.t 27) (.t 25),none,.write,1,false⟩]))
 (.region [oM 10 2,oW 11 (.arith .add (.t 10) (oI 1)),oM 12 3,oW 13 (.arith .sub (.t 12) (oI 1)),oM 2 11,oM 3 13])))
def t129:DFunc:={ntmps:=28,results:=[],mode:=.full,body :=
 (oQ [oM 4 0,oW 5 (.len 1 (.t 4)),oW 6 (.arith .sub (.t 5) (oI 1)),oW 2 (.move (oI 0)),oM 3 6]
 (.block 0 (.loop t129l0)))}
theorem c129:compFunc Try.prog Try.f129 .full=some t129:=by kernel_rfl
def t131:DFunc:={ntmps:=28,results:=[.t 8,.t 9],mode:=.pure,body :=
 (oQ [oW 8 (.move (oI 0)),oW 9 (.move (oI 0))]
 (.seq (.seq (.draw [oRM 10 0,oRM 11 2,oR 12 (.indexAddr 1 (.t 10) (.t 11)),oRD 13 12,oRM 14 0,oRM 15 1,oR 16 (.indexAddr 1 (.t 14) (.t 15)),oRD 17 16,oW 18 (.call (oF 111) [.t 13,.t 17])])
 (.cond (.t 18) (oQ [oM 19 3,oW 20 (.nilCheck (.t 19)),oD 21 20,oW 22 (.arith .add (.t 21) (oI 1)),oW 23 (.nilCheck (.t 19)),oS 1 23 22]
 (oQ [oM 24 2,oM 25 1,oM 8 24,oM 9 25]
 .ret)) .skip))
 (oQ [oM 26 1,oM 27 2,oM 8 26,oM 9 27]
 .ret)))}
theorem c131:compFunc Try.prog Try.f131 .pure=some t131:=by kernel_rfl
end Go.Dm.Tc
