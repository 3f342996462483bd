/-
The table of functions, brought into the machine's form (Tc, part 2). Written by program (wip/tools/table.lean.txt).
-/
import Derived.Test.YtfnhanajiibciaaGreatTc0
import Derived.Test.YtfnhanajiibciaaGreatMm3
import Derived.Test.YtfnhanajiibciaaGreatRows
import Derived.KernelRfl
namespace Go.Dm.Tc
open Go.Proofs
def t111:DFunc:={ntmps:=65,results:=[(.cell 6 (some 6)),.t 7,.t 8],mode:=.frz,body :=
 (oQ [oW 3 (.box 29 6 (.t 0)),oW 5 (.box 84 7 (.t 2)),oW 6 (.alloc 29 6 (.agg [.int .i64 0,.nsl,.nsl,.nsl,.nsl,.nsl])),oW 7 (.move (.c .nsl)),oW 8 (.move (.c .nsl))]
 (oQ [oW 9 (.move (.c .nsl))]
 (oQ [oW 10 (.move (.c .nsl))]
 (.seq (oQ [oA 11 0 5,oD 12 11]
 (.block 0 (oQ [oW 14 (.arith .eql (.t 12) (oI 1)),oM 13 14]
 (.cond (.t 13) (.region [oL 16 6 3,oM 17 1,oA 18 1 5,oL 19 2 18,oA 20 5 5,oD 21 20,oW 22 (.call (oF 59) [.t 16,.t 17,.t 19,.t 21]),oM 15 22,oX 23 15 0,oX 24 15 1,oS 6 3 23,oM 9 24]) (oQ [oW 26 (.arith .eql (.t 12) (oI 2)),oM 25 26]
 (.cond (.t 25) (.region [oL 28 6 3,oM 29 1,oA 30 1 5,oL 31 2 30,oW 32 (.call (oF 58) [.t 28,.t 29,.t 31]),oM 27 32,oX 33 27 0,oX 34 27 1,oS 6 3 33,oM 9 34]) (oQ [oW 36 (.arith .eql (.t 12) (oI 3)),oM 35 36]
 (.cond (.t 35) (.region [oL 38 6 3,oM 39 1,oL 40 7 5,oW 41 (.call (oF 62) [.t 38,.t 39,.t 40]),oM 37 41,oX 42 37 0,oX 43 37 1,oS 6 3 42,oM 9 43]) (oQ [oW 45 (.arith .eql (.t 12) (oI 4)),oM 44 45]
 (.cond (.t 44) (.region [oL 47 6 3,oM 48 1,oL 49 7 5,oW 50 (.call (oF 63) [.t 47,.t 48,.t 49]),oM 46 50,oX 51 46 0,oX 52 46 1,oS 6 3 51,oM 9 52]) (oQ [oW 54 (.arith .eql (.t 12) (oI 5)),oM 53 54]
 (.cond (.t 53) (.region [oL 56 6 3,oM 57 1,oL 58 7 5,oW 59 (.call (oF 153) [.t 56,.t 57,.t 58]),oM 55 59,oX 60 55 0,oX 61 55 1,oM 9 60,oM 10 61]) .skip))))))))))))
 (oQ [oL 62 6 3,oM 63 9,oM 64 10,oS 6 6 62,oM 7 63,oM 8 64]
 .ret)))))}
theorem c111:compFunc Tryz.prog Tryz.f111 .frz=some t111:=by kernel_rfl
def t118l0:DCode :=
 (oQ [oW 19 (.arith .lss (.t 18) (.t 17))]
 (.seq (.cond (.t 19) .skip (.exit 2))
 (.seq (.block 3 (oQ [oW 20 (.indexAddr 5 (.t 16) (.t 18)),oL 21 5 20,oW 9 (.alloc 62 5 (.agg [.str [],.int .i64 0,.int .i64 0,.int .i64 0,.str []])),oS 5 9 21]
 (.region [oM 22 7,oM 23 22,gA 24 0 9 23 false,gD 25 24 23 false,gA 26 0 6 23 false,gD 27 26 23 false,gW 28 (.arith .eql (.t 25) (.t 27)) 23 false,gM 29 28 23 false,gL 30 5 9 29 true,gL 31 5 6 29 true,gW 32 (.call (oF 158) [.t 30,.t 31]) 29 true,gW 33 (.pick (.t 29) (.t 32) (oB false)) 23 false,oW 34 (.pick (.t 23) (oB true) (.t 33)),oM 7 34])))
 (.region [oW 35 (.arith .add (.t 18) (oI 1)),oM 18 35]))))
def t118k0:DCode :=
 (oQ [oM 36 7,oW 37 (.un .not (.t 36))]
 (.cond (.t 37) (oQ [oW 4 (.move (oB false))]
 .ret) .skip))
def t118k1:DCode :=
 (.region [oW 38 (.arith .add (.t 12) (oI 1)),oM 12 38])
def t118l1:DCode :=
 (oQ [oW 13 (.arith .lss (.t 12) (.t 11))]
 (.seq (.cond (.t 13) .skip (.exit 0))
 (.seq (.block 1 (oQ [oW 14 (.indexAddr 5 (.t 10) (.t 12)),oL 15 5 14,oW 6 (.alloc 62 5 (.agg [.str [],.int .i64 0,.int .i64 0,.int .i64 0,.str []])),oS 5 6 15]
 (oQ [oW 7 (.move (oB false))]
 (.seq (oQ [oM 16 1,oW 17 (.len 1 (.t 16)),oW 18 (.move (oI 0))]
 (.block 2 (.loop t118l0)))
 t118k0))))
 t118k1)))
def t118k2:DCode :=
 (oQ [oW 4 (.move (oB true))]
 .ret)
def t118:DFunc:={ntmps:=39,results:=[.t 4],mode:=.pure,body :=
 (oQ [oW 4 (.move (oB false))]
 (.seq (oQ [oM 10 0,oW 11 (.len 1 (.t 10)),oW 12 (.move (oI 0))]
 (.block 0 (.loop t118l1)))
 t118k2))}
theorem c118:compFunc Tryz.prog Tryz.f118 .pure=some t118:=by kernel_rfl
def t119l0:DCode :=
 (oQ [oW 13 (.arith .lss (.t 12) (.t 11))]
 (.seq (.cond (.t 13) .skip (.exit 0))
 (.seq (.block 1 (oQ [oM 14 12,oW 15 (.indexAddr 7 (.t 10) (.t 12)),oL 16 7 15,oW 8 (.alloc 58 7 (.agg [.int .i64 0,.int .i64 0,.int .i64 0,.int .i64 0,.nsl,.int .i64 0,.bool false])),oM 7 14,oS 7 8 16]
 (oQ [oA 17 0 8,oL 18 2 17,oL 19 2 4,oW 20 (.eqa false [1,1] (.t 18) (.t 19)),oM 21 20,gA 22 2 8 21 true,gL 23 2 22 21 true,gL 24 2 5 21 true,gW 25 (.eqa false [1,1] (.t 23) (.t 24)) 21 true,oW 26 (.pick (.t 21) (.t 25) (oB false))]
 (.cond (.t 26) (oQ [oM 27 7,oM 6 27]
 .ret) .skip))))
 (.region [oW 28 (.arith .add (.t 12) (oI 1)),oM 12 28]))))
def t119k0:DCode :=
 (oQ [oW 6 (.move (oI (-1)))]
 .ret)
def t119:DFunc:={ntmps:=29,results:=[.t 6],mode:=.pure,body :=
 (oQ [oW 3 (.box 29 6 (.t 0)),oW 4 (.box 37 2 (.t 1)),oW 5 (.box 37 2 (.t 2)),oW 6 (.move (oI 0))]
 (.seq (oQ [oA 9 4 3,oD 10 9,oW 11 (.len 1 (.t 10)),oW 12 (.move (oI 0))]
 (.block 0 (.loop t119l0)))
 t119k0))}
theorem c119:compFunc Tryz.prog Tryz.f119 .pure=some t119:=by kernel_rfl
def t121:DFunc:={ntmps:=22,results:=[.t 4],mode:=.pure,body :=
 (oQ [oW 4 (.move (oB false))]
 (oQ [oW 8 (.buildSlice 62 5 (.agg [.str [],.int .i64 0,.int .i64 0,.int .i64 0,.str []]) 0 []),oM 9 0,oW 10 (.append 62 5 56 (.t 8) (.t 9)),oM 11 1,oW 12 (.append 62 5 56 (.t 10) (.t 11)),oW 13 (.call (oF 159) [.t 12]),oM 7 13,oX 14 7 0,oX 15 7 1,oM 5 14,oM 6 15]
 (oQ [oM 16 6,oM 17 16,gM 18 5 17 true,gW 19 (.len 1 (.t 18)) 17 true,gW 20 (.arith .leq (.t 19) (oI 5)) 17 true,oW 21 (.pick (.t 17) (.t 20) (oB false)),oM 4 21]
 .ret)))}
theorem c121:compFunc Tryz.prog Tryz.f121 .pure=some t121:=by kernel_rfl
def t122:DFunc:={ntmps:=10,results:=[(.cell 2 (some 7))],mode:=.pure,body :=
 (oQ [oW 1 (.box 58 7 (.t 0)),oW 2 (.alloc 84 7 (.agg [.int .i64 0,.int .i64 0,.int .i64 0,.int .i64 0,.int .i64 0,.nsl,.nsl]))]
 (oQ [oA 3 0 1,oL 4 2 3,oA 5 2 1,oL 6 2 5,oA 7 4 1,oD 8 7,oW 9 (.build [.int .i64 0,.int .i64 0,.int .i64 0,.int .i64 0,.int .i64 0,.nsl,.nsl] [(0,1,oI 3),(1,2,.t 4),(3,2,.t 6),(5,1,.t 8)]),oS 7 2 9]
 .ret))}
theorem c122:compFunc Tryz.prog Tryz.f122 .pure=some t122:=by kernel_rfl
def t131l0:DCode :=
 (oQ [oW 14 (.arith .lss (.t 13) (.t 12))]
 (.seq (.cond (.t 14) .skip (.exit 0))
 (.seq (.block 1 (oQ [oW 15 (.indexAddr 1 (.t 11) (.t 13)),oD 16 15,oM 9 16]
 (oQ [oM 17 9,oM 18 1,oW 19 (.arith .neq (.t 17) (.t 18))]
 (.cond (.t 19) (.region [oM 20 7,oM 21 9,oL 22 7 5,oW 23 (.build [.int .i64 0,.int .i64 0,.int .i64 0,.int .i64 0,.int .i64 0,.int .i64 0,.nsl,.nsl] [(0,1,.t 21),(1,7,.t 22)]),oW 24 (.buildSlice 86 8 (.agg [.int .i64 0,.int .i64 0,.int .i64 0,.int .i64 0,.int .i64 0,.int .i64 0,.nsl,.nsl]) 1 [(0,.t 23)]),oW 25 (.append 86 8 96 (.t 20) (.t 24)),oM 7 25]) .skip))))
 (.region [oW 26 (.arith .add (.t 13) (oI 1)),oM 13 26]))))
def t131k0:DCode :=
 (oQ [oM 27 7,oM 6 27]
 .ret)
def t131:DFunc:={ntmps:=28,results:=[.t 6],mode:=.full,body :=
 (oQ [oW 3 (.box 29 6 (.t 0)),oW 5 (.box 84 7 (.t 2)),oW 6 (.move (.c .nsl))]
 (oQ [oW 7 (.move (.c .nsl))]
 (.seq (oQ [oA 10 1 3,oD 11 10,oW 12 (.len 1 (.t 11)),oW 13 (.move (oI 0))]
 (.block 0 (.loop t131l0)))
 t131k0)))}
theorem c131:compFunc Tryz.prog Tryz.f131 .full=some t131:=by kernel_rfl
def t133l0:DCode :=
 (oQ [oW 39 (.arith .lss (.t 38) (.t 37))]
 (.seq (.cond (.t 39) .skip (.exit 0))
 (.seq (.block 1 (oQ [oW 40 (.indexAddr 7 (.t 36) (.t 38)),oL 41 7 40,oW 15 (.alloc 58 7 (.agg [.int .i64 0,.int .i64 0,.int .i64 0,.int .i64 0,.nsl,.int .i64 0,.bool false])),oS 7 15 41]
 (.region [oM 42 13,oM 43 12,oL 44 7 15,oW 45 (.call (oF 122) [.t 44]),oW 46 (.build [.int .i64 0,.int .i64 0,.int .i64 0,.int .i64 0,.int .i64 0,.int .i64 0,.nsl,.nsl] [(0,1,.t 43),(1,7,.t 45)]),oW 47 (.buildSlice 86 8 (.agg [.int .i64 0,.int .i64 0,.int .i64 0,.int .i64 0,.int .i64 0,.int .i64 0,.nsl,.nsl]) 1 [(0,.t 46)]),oW 48 (.append 86 8 96 (.t 42) (.t 47)),oM 13 48])))
 (.region [oW 49 (.arith .add (.t 38) (oI 1)),oM 38 49]))))
def t133k0:DCode :=
 (.seq (.draw [oRL 50 6 4,oRL 53 2 5,oRL 54 2 6,oRM 51 13,oRM 52 12,oR 55 (.build [.int .i64 0,.int .i64 0,.int .i64 0,.int .i64 0,.int .i64 0,.nsl,.nsl] [(0,1,oI 4),(1,2,.t 53),(3,2,.t 54)]),oR 56 (.build [.int .i64 0,.int .i64 0,.int .i64 0,.int .i64 0,.int .i64 0,.int .i64 0,.nsl,.nsl] [(0,1,.t 52),(1,7,.t 55)]),nK 57 (.buildSlice 86 8 (.agg [.int .i64 0,.int .i64 0,.int .i64 0,.int .i64 0,.int .i64 0,.int .i64 0,.nsl,.nsl]) 1 [(0,.t 56)]) .create 0,nK 58 (.append 86 8 96 (.t 51) (.t 57)) .create 0,⟨none,.store 6 (.t 8) (.t 50),none,.write,2,false⟩,nK 9 (.move (.t 58)) .read 3])
 .ret)
def t133:DFunc:={ntmps:=59,results:=[(.cell 8 (some 6)),.t 9],mode:=.frz,body :=
 (oQ [oW 4 (.box 29 6 (.t 0)),oW 5 (.box 37 2 (.t 1)),oW 6 (.box 37 2 (.t 2)),oW 8 (.alloc 29 6 (.agg [.int .i64 0,.nsl,.nsl,.nsl,.nsl,.nsl])),oW 9 (.move (.c .nsl))]
 (oQ [oL 17 6 4,oL 18 2 5,oL 19 2 6,oM 20 3,oW 21 (.call (oF 38) [.t 17,.t 18,.t 19,.t 20]),oM 16 21,oX 22 16 0,oX 23 16 1,oX 24 16 2,oS 6 4 22,oM 10 23,oM 11 24]
 (.seq (oQ [oM 25 11,oW 26 (.un .not (.t 25))]
 (.cond (.t 26) (oQ [oL 27 6 4,oS 6 8 27,oW 9 (.move (.c .nsl))]
 .ret) .skip))
 (.seq (.draw [oRA 28 2 4,oRD 29 28,oRL 30 6 4,oRL 31 2 5,nK 32 (.call (oF 24) [.t 30,.t 31]) .create 0,nK 33 (.indexAddr 4 (.t 29) (.t 32)) .read 1,nK 34 (.fieldAddr 3 (.t 33)) .read 1,nK 35 (.load none (.t 34)) .read 1,nK 12 (.move (.t 35)) .read 1])
 (oQ [oW 13 (.move (.c .nsl))]
 (.seq (oQ [oM 36 10,oW 37 (.len 1 (.t 36)),oW 38 (.move (oI 0))]
 (.block 0 (.loop t133l0)))
 t133k0))))))}
theorem c133:compFunc Tryz.prog Tryz.f133 .frz=some t133:=by kernel_rfl
def t134l0:DCode :=
 (.block 1 (oQ [oM 19 2,oM 20 1,oW 21 (.arith .sub (.t 19) (.t 20)),oM 10 21]
 (.seq (oQ [oM 22 10,oW 23 (.arith .leq (.t 22) (oI 12))]
 (.cond (.t 23) (oQ [oM 24 0,oM 25 1,oM 26 2,oW 27 (.call (oF 170) [.t 24,.t 25,.t 26])]
 .ret) .skip))
 (.seq (oQ [oM 28 3,oW 29 (.arith .eql (.t 28) (oI 0))]
 (.cond (.t 29) (oQ [oM 30 0,oM 31 1,oM 32 2,oW 33 (.call (oF 171) [.t 30,.t 31,.t 32])]
 .ret) .skip))
 (.seq (oQ [oM 34 8,oW 35 (.un .not (.t 34))]
 (.cond (.t 35) (oQ [oM 36 0,oM 37 1,oM 38 2,oW 39 (.call (oF 172) [.t 36,.t 37,.t 38])]
 (.region [oM 40 3,oW 41 (.arith .sub (.t 40) (oI 1)),oM 3 41])) .skip))
 (oQ [oM 43 0,oM 44 1,oM 45 2,oW 46 (.call (oF 173) [.t 43,.t 44,.t 45]),oM 42 46,oX 47 42 0,oX 48 42 1,oM 11 47,oM 12 48]
 (.seq (oQ [oM 49 12,oW 50 (.arith .eql (.t 49) (oI 2))]
 (.cond (.t 50) (oQ [oM 51 0,oM 52 1,oM 53 2,oW 54 (.call (oF 174) [.t 51,.t 52,.t 53])]
 (oQ [oM 55 2,oW 56 (.arith .sub (.t 55) (oI 1)),oM 57 11,oM 58 1,oW 59 (.arith .sub (.t 57) (.t 58)),oW 60 (.arith .sub (.t 56) (.t 59)),oM 11 60]
 (.region [oW 12 (.move (oI 1))]))) .skip))
 (.seq (oQ [oM 61 8,oM 62 61,gM 63 9 62 true,oW 64 (.pick (.t 62) (.t 63) (oB false)),oM 65 64,gM 66 12 65 true,gW 67 (.arith .eql (.t 66) (oI 1)) 65 true,oW 68 (.pick (.t 65) (.t 67) (oB false))]
 (.cond (.t 68) (oQ [oM 69 0,oM 70 1,oM 71 2,oW 72 (.call (oF 175) [.t 69,.t 70,.t 71])]
 (.cond (.t 72) .ret .skip)) .skip))
 (.seq (.seq (.draw [oRM 73 1,oR 74 (.arith .gtr (.t 73) (oI 0)),oRM 75 74,rM 76 0 75 true,rM 77 1 75 true,rW 78 (.arith .sub (.t 77) (oI 1)) 75 true,rW 79 (.indexAddr 1 (.t 76) (.t 78)) 75 true,rD 80 79 75 true,rM 81 0 75 true,rM 82 11 75 true,rW 83 (.indexAddr 1 (.t 81) (.t 82)) 75 true,rD 84 83 75 true,gW 85 (.call (oF 176) [.t 80,.t 84]) 75 true,⟨(some 86),.un .not (.t 85),(some (75,true)),.read,1,false⟩,nK 87 (.pick (.t 75) (.t 86) (oB false)) .read 1])
 (.cond (.t 87) (oQ [oM 88 0,oM 89 1,oM 90 2,oM 91 11,oW 92 (.call (oF 177) [.t 88,.t 89,.t 90,.t 91]),oM 13 92]
 (oQ [oM 93 13,oM 1 93]
 (.exit 1))) .skip))
 (oQ [oM 95 0,oM 96 1,oM 97 2,oM 98 11,oW 99 (.call (oF 178) [.t 95,.t 96,.t 97,.t 98]),oM 94 99,oX 100 94 0,oX 101 94 1,oM 14 100,oM 15 101]
 (oQ [oM 102 15,oM 9 102]
 (oQ [oM 103 14,oM 104 1,oW 105 (.arith .sub (.t 103) (.t 104)),oM 106 2,oM 107 14,oW 108 (.arith .sub (.t 106) (.t 107)),oM 16 105,oM 17 108]
 (oQ [oM 109 10,oW 110 (.arith .quo (.t 109) (oI 8)),oM 18 110]
 (oQ [oM 111 16,oM 112 17,oW 113 (.arith .lss (.t 111) (.t 112))]
 (.cond (.t 113) (oQ [oM 114 16,oM 115 18,oW 116 (.arith .geq (.t 114) (.t 115)),oM 8 116]
 (oQ [oM 117 0,oM 118 1,oM 119 14,oM 120 3,oW 121 (.call (oF 134) [.t 117,.t 118,.t 119,.t 120])]
 (.region [oM 122 14,oW 123 (.arith .add (.t 122) (oI 1)),oM 1 123]))) (oQ [oM 124 17,oM 125 18,oW 126 (.arith .geq (.t 124) (.t 125)),oM 8 126]
 (oQ [oM 127 0,oM 128 14,oW 129 (.arith .add (.t 128) (oI 1)),oM 130 2,oM 131 3,oW 132 (.call (oF 134) [.t 127,.t 129,.t 130,.t 131])]
 (.region [oM 133 14,oM 2 133]))))))))))))))))))
def t134:DFunc:={ntmps:=134,results:=[],mode:=.full,body :=
 (oQ [oW 8 (.move (oB true))]
 (oQ [oW 9 (.move (oB true))]
 (.block 0 (.loop t134l0))))}
theorem c134:compFunc Tryz.prog Tryz.f134 .full=some t134:=by kernel_rfl
def t135:DFunc:={ntmps:=8,results:=[.t 2],mode:=.pure,body :=
 (oQ [oW 2 (.move (oI 0))]
 (.seq (.cond (oB false) (oQ [oM 3 0,oW 4 (.conv .u32 (.t 3)),oW 5 (.call (oF 179) [.t 4]),oM 2 5]
 .ret) .skip)
 (oQ [oM 6 0,oW 7 (.call (oF 180) [.t 6]),oM 2 7]
 .ret)))}
theorem c135:compFunc Tryz.prog Tryz.f135 .pure=some t135:=by kernel_rfl
def t136:DFunc:={ntmps:=2,results:=[.t 0],mode:=.pure,body :=
 (oQ [oW 0 (.move (.c .nsl))]
 (oQ [oW 1 (.buildSlice 9 1 (.str []) 7 [(0,(.c (.str []))),(1,(.c (.str [120]))),(2,(.c (.str [120,121]))),(3,(.c (.str [120,121,122]))),(4,(.c (.str [120,122]))),(5,(.c (.str [121]))),(6,(.c (.str [121,121])))]),oM 0 1]
 .ret))}
theorem c136:compFunc Tryz.prog Tryz.f136 .pure=some t136:=by kernel_rfl
def t139l0:DCode :=
 (.seq (oQ [oM 15 9,oM 16 10,oW 17 (.arith .lss (.t 15) (.t 16))]
 (.cond (.t 17) .skip (.exit 0)))
 (.block 1 (oQ [oM 18 9,oM 19 10,oW 20 (.arith .add (.t 18) (.t 19)),oW 21 (.conv .u64 (.t 20)),oW 22 (.arith .shr (.t 21) (.c (.int .u64 1))),oW 23 (.conv .i64 (.t 22)),oM 11 23]
 (.seq (.draw [oRM 25 0,oRM 26 11,oR 27 (.indexAddr 2 (.t 25) (.t 26)),oRL 28 2 27,oRL 29 2 4,oRM 24 2,oW 30 (.call (.t 24) [.t 28,.t 29]),nK 31 (.arith .lss (.t 30) (oI 0)) .read 1])
 (.cond (.t 31) (.region [oM 32 11,oW 33 (.arith .add (.t 32) (oI 1)),oM 9 33]) (.region [oM 34 11,oM 10 34]))))))
def t139k0:DCode :=
 (.seq (.draw [oRM 36 9,oRM 37 8,oR 38 (.arith .lss (.t 36) (.t 37)),oRM 39 38,rM 41 0 39 true,rM 42 9 39 true,rW 43 (.indexAddr 2 (.t 41) (.t 42)) 39 true,rL 44 2 43 39 true,rL 45 2 4 39 true,rM 40 2 39 true,gW 46 (.call (.t 40) [.t 44,.t 45]) 39 true,oRM 35 9,⟨(some 47),.arith .eql (.t 46) (oI 0),(some (39,true)),.read,1,false⟩,nK 48 (.pick (.t 39) (.t 47) (oB false)) .read 1,nK 6 (.move (.t 35)) .read 1,nK 7 (.move (.t 48)) .read 1])
 .ret)
def t139:DFunc:={ntmps:=49,results:=[.t 6,.t 7],mode:=.pure,body :=
 (oQ [oW 4 (.box 37 2 (.t 1)),oW 6 (.move (oI 0)),oW 7 (.move (oB false))]
 (oQ [oM 12 0,oW 13 (.len 1 (.t 12)),oM 8 13]
 (oQ [oM 14 8,oW 9 (.move (oI 0)),oM 10 14]
 (.seq (.block 0 (.loop t139l0))
 t139k0))))}
theorem c139:compFunc Tryz.prog Tryz.f139 .pure=some t139:=by kernel_rfl
def t140l0:DCode :=
 (.seq (oQ [oM 15 9,oM 16 10,oW 17 (.arith .lss (.t 15) (.t 16))]
 (.cond (.t 17) .skip (.exit 0)))
 (.block 1 (oQ [oM 18 9,oM 19 10,oW 20 (.arith .add (.t 18) (.t 19)),oW 21 (.conv .u64 (.t 20)),oW 22 (.arith .shr (.t 21) (.c (.int .u64 1))),oW 23 (.conv .i64 (.t 22)),oM 11 23]
 (.seq (.draw [oRM 25 0,oRM 26 11,oR 27 (.indexAddr 4 (.t 25) (.t 26)),oRL 28 4 27,oRL 29 2 4,oRM 24 2,oW 30 (.call (.t 24) [.t 28,.t 29]),nK 31 (.arith .lss (.t 30) (oI 0)) .read 1])
 (.cond (.t 31) (.region [oM 32 11,oW 33 (.arith .add (.t 32) (oI 1)),oM 9 33]) (.region [oM 34 11,oM 10 34]))))))
def t140k0:DCode :=
 (.seq (.draw [oRM 36 9,oRM 37 8,oR 38 (.arith .lss (.t 36) (.t 37)),oRM 39 38,rM 41 0 39 true,rM 42 9 39 true,rW 43 (.indexAddr 4 (.t 41) (.t 42)) 39 true,rL 44 4 43 39 true,rL 45 2 4 39 true,rM 40 2 39 true,gW 46 (.call (.t 40) [.t 44,.t 45]) 39 true,oRM 35 9,⟨(some 47),.arith .eql (.t 46) (oI 0),(some (39,true)),.read,1,false⟩,nK 48 (.pick (.t 39) (.t 47) (oB false)) .read 1,nK 6 (.move (.t 35)) .read 1,nK 7 (.move (.t 48)) .read 1])
 .ret)
def t140:DFunc:={ntmps:=49,results:=[.t 6,.t 7],mode:=.pure,body :=
 (oQ [oW 4 (.box 37 2 (.t 1)),oW 6 (.move (oI 0)),oW 7 (.move (oB false))]
 (oQ [oM 12 0,oW 13 (.len 1 (.t 12)),oM 8 13]
 (oQ [oM 14 8,oW 9 (.move (oI 0)),oM 10 14]
 (.seq (.block 0 (.loop t140l0))
 t140k0))))}
theorem c140:compFunc Tryz.prog Tryz.f140 .pure=some t140:=by kernel_rfl
def t141:DFunc:={ntmps:=9,results:=[.t 4],mode:=.pure,body :=
 (oQ [oW 2 (.box 42 4 (.t 0)),oW 3 (.box 37 2 (.t 1)),oW 4 (.move (oI 0))]
 (oQ [oA 5 0 2,oL 6 2 5,oL 7 2 3,oW 8 (.call (oF 101) [.t 6,.t 7]),oM 4 8]
 .ret))}
theorem c141:compFunc Tryz.prog Tryz.f141 .pure=some t141:=by kernel_rfl
def t143:DFunc:={ntmps:=10,results:=[],mode:=.full,body :=
 (.region [oM 4 0,oM 5 0,oW 6 (.len 1 (.t 5)),oM 7 1,oW 8 (.arith .sub (.t 6) (.t 7)),oW 9 (.call (oF 181) [.t 4,.t 8])])}
theorem c143:compFunc Tryz.prog Tryz.f143 .full=some t143:=by kernel_rfl
def t145:DFunc:={ntmps:=10,results:=[],mode:=.full,body :=
 (.region [oM 4 0,oM 5 0,oW 6 (.len 1 (.t 5)),oM 7 1,oW 8 (.arith .sub (.t 6) (.t 7)),oW 9 (.call (oF 182) [.t 4,.t 8])])}
theorem c145:compFunc Tryz.prog Tryz.f145 .full=some t145:=by kernel_rfl
def t146l0:DCode :=
 (oQ [oW 9 (.arith .lss (.t 8) (.t 7))]
 (.seq (.cond (.t 9) .skip (.exit 0))
 (.seq (.block 1 (oQ [oM 10 8,oM 5 10]
 (oQ [oM 11 1,oM 12 0,oM 13 5,oW 14 (.indexAddr 7 (.t 12) (.t 13)),oL 15 7 14,oW 16 (.call (.t 11) [.t 15])]
 (.cond (.t 16) (oQ [oM 17 5,oM 4 17]
 .ret) .skip))))
 (.region [oW 18 (.arith .add (.t 8) (oI 1)),oM 8 18]))))
def t146k0:DCode :=
 (oQ [oW 4 (.move (oI (-1)))]
 .ret)
def t146:DFunc:={ntmps:=19,results:=[.t 4],mode:=.pure,body :=
 (oQ [oW 4 (.move (oI 0))]
 (.seq (oQ [oM 6 0,oW 7 (.len 1 (.t 6)),oW 8 (.move (oI 0))]
 (.block 0 (.loop t146l0)))
 t146k0))}
theorem c146:compFunc Tryz.prog Tryz.f146 .pure=some t146:=by kernel_rfl
def t147l0:DCode :=
 (oQ [oW 14 (.arith .lss (.t 13) (.t 12))]
 (.seq (.cond (.t 14) .skip (.exit 0))
 (.seq (.block 1 (oQ [oM 15 13,oM 5 15]
 (.seq (.draw [oRM 16 0,oRM 17 5,oR 18 (.indexAddr 5 (.t 16) (.t 17)),oRL 19 5 18,oRM 20 1,oRM 21 5,oR 22 (.indexAddr 5 (.t 20) (.t 21)),oRL 23 5 22,oR 24 (.eqa true [2,1,1,1,2] (.t 19) (.t 23))])
 (.cond (.t 24) (oQ [oW 4 (.move (oB false))]
 .ret) .skip))))
 (.region [oW 25 (.arith .add (.t 13) (oI 1)),oM 13 25]))))
def t147k0:DCode :=
 (oQ [oW 4 (.move (oB true))]
 .ret)
def t147:DFunc:={ntmps:=26,results:=[.t 4],mode:=.pure,body :=
 (oQ [oW 4 (.move (oB false))]
 (.seq (oQ [oM 6 0,oW 7 (.len 1 (.t 6)),oM 8 1,oW 9 (.len 1 (.t 8)),oW 10 (.arith .neq (.t 7) (.t 9))]
 (.cond (.t 10) (oQ [oW 4 (.move (oB false))]
 .ret) .skip))
 (.seq (oQ [oM 11 0,oW 12 (.len 1 (.t 11)),oW 13 (.move (oI 0))]
 (.block 0 (.loop t147l0)))
 t147k0)))}
theorem c147:compFunc Tryz.prog Tryz.f147 .pure=some t147:=by kernel_rfl
def t148:DFunc:={ntmps:=20,results:=[.t 4],mode:=.pure,body :=
 (oQ [oW 4 (.move (oI 0))]
 (oQ [oM 7 0,oW 8 (.call (oF 183) [.t 7]),oM 5 8]
 (oQ [oM 9 1,oW 10 (.call (oF 183) [.t 9]),oM 6 10]
 (.seq (oQ [oM 11 5]
 (.cond (.t 11) (.seq (oQ [oM 12 6]
 (.cond (.t 12) (oQ [oW 4 (.move (oI 0))]
 .ret) .skip))
 (oQ [oW 4 (.move (oI (-1)))]
 .ret)) .skip))
 (.seq (oQ [oM 13 6]
 (.cond (.t 13) (oQ [oW 4 (.move (oI 1))]
 .ret) .skip))
 (.seq (oQ [oM 14 0,oM 15 1,oW 16 (.arith .lss (.t 14) (.t 15))]
 (.cond (.t 16) (oQ [oW 4 (.move (oI (-1)))]
 .ret) .skip))
 (.seq (oQ [oM 17 0,oM 18 1,oW 19 (.arith .gtr (.t 17) (.t 18))]
 (.cond (.t 19) (oQ [oW 4 (.move (oI 1))]
 .ret) .skip))
 (oQ [oW 4 (.move (oI 0))]
 .ret))))))))}
theorem c148:compFunc Tryz.prog Tryz.f148 .pure=some t148:=by kernel_rfl
def t149l0:DCode :=
 (oQ [oW 9 (.arith .lss (.t 8) (.t 7))]
 (.seq (.cond (.t 9) .skip (.exit 0))
 (.seq (.block 1 (oQ [oM 10 8,oM 5 10]
 (oQ [oM 11 1,oM 12 0,oM 13 5,oW 14 (.indexAddr 4 (.t 12) (.t 13)),oL 15 4 14,oW 16 (.call (.t 11) [.t 15])]
 (.cond (.t 16) (oQ [oM 17 5,oM 4 17]
 .ret) .skip))))
 (.region [oW 18 (.arith .add (.t 8) (oI 1)),oM 8 18]))))
def t149k0:DCode :=
 (oQ [oW 4 (.move (oI (-1)))]
 .ret)
def t149:DFunc:={ntmps:=19,results:=[.t 4],mode:=.pure,body :=
 (oQ [oW 4 (.move (oI 0))]
 (.seq (oQ [oM 6 0,oW 7 (.len 1 (.t 6)),oW 8 (.move (oI 0))]
 (.block 0 (.loop t149l0)))
 t149k0))}
theorem c149:compFunc Tryz.prog Tryz.f149 .pure=some t149:=by kernel_rfl
def t150:DFunc:={ntmps:=9,results:=[.t 4],mode:=.pure,body :=
 (oQ [oW 4 (.move (oB false))]
 (oQ [oM 5 0,oM 6 1,oW 7 (.call (oF 184) [.t 5,.t 6]),oW 8 (.arith .geq (.t 7) (oI 0)),oM 4 8]
 .ret))}
theorem c150:compFunc Tryz.prog Tryz.f150 .pure=some t150:=by kernel_rfl
def t151:DFunc:={ntmps:=43,results:=[.t 2],mode:=.pure,body :=
 (oQ [oW 1 (.box 62 5 (.t 0)),oW 2 (.move (oB false))]
 (.seq (oQ [oA 3 0 1,oD 4 3,oW 5 (.call (oF 185) [.t 4]),oW 6 (.un .not (.t 5))]
 (.cond (.t 6) (oQ [oW 2 (.move (oB false))]
 .ret) .skip))
 (.seq (oQ [oA 7 1 1,oD 8 7]
 (.block 0 (.seq (.block 3 (.seq (.block 2 (.seq (.block 1 (.seq (.seq (oQ [oW 10 (.arith .eql (.t 8) (oI 1)),oM 9 10]
 (.cond (.t 9) (.exit 1) .skip))
 (.seq (oQ [oW 12 (.arith .eql (.t 8) (oI 3)),oM 11 12]
 (.cond (.t 11) (.exit 2) .skip))
 (oQ [oW 14 (.arith .eql (.t 8) (oI 2)),oM 13 14]
 (.cond (.t 13) (.exit 3) .skip))))
 (.exit 0)))
 (.seq (oQ [oA 15 2 1,oD 16 15,oA 17 3 1,oD 18 17,oW 19 (.arith .leq (.t 16) (.t 18)),oM 20 19,gA 21 4 1 20 true,gD 22 21 20 true,gW 23 (.arith .eql (.t 22) (.c (.str []))) 20 true,oW 24 (.pick (.t 20) (.t 23) (oB false)),oM 2 24]
 .ret)
 (.exit 0))))
 (oQ [oA 25 4 1,oD 26 25,oW 27 (.len 0 (.t 26)),oW 28 (.arith .eql (.t 27) (oI 12))]
 (.cond (.t 28) (oQ [oW 2 (.move (oB false))]
 .ret) .skip))))
 (.seq (oQ [oA 29 2 1,oD 30 29,oW 31 (.arith .eql (.t 30) (oI 0)),oM 32 31,gA 33 3 1 32 true,gD 34 33 32 true,gW 35 (.arith .eql (.t 34) (oI 0)) 32 true,oW 36 (.pick (.t 32) (.t 35) (oB false)),oM 37 36,gA 38 4 1 37 true,gD 39 38 37 true,gW 40 (.len 0 (.t 39)) 37 true,gW 41 (.arith .leq (.t 40) (oI 12)) 37 true,oW 42 (.pick (.t 37) (.t 41) (oB false)),oM 2 42]
 .ret)
 (.exit 0)))))
 (oQ [oW 2 (.move (oB false))]
 .ret))))}
theorem c151:compFunc Tryz.prog Tryz.f151 .pure=some t151:=by kernel_rfl
def t152l0:DCode :=
 (oQ [oW 9 (.arith .lss (.t 8) (.t 7))]
 (.seq (.cond (.t 9) .skip (.exit 0))
 (.seq (.block 1 (oQ [oM 10 8,oM 5 10]
 (oQ [oM 11 1,oM 12 0,oM 13 5,oW 14 (.indexAddr 3 (.t 12) (.t 13)),oL 15 3 14,oW 16 (.call (.t 11) [.t 15])]
 (.cond (.t 16) (oQ [oM 17 5,oM 4 17]
 .ret) .skip))))
 (.region [oW 18 (.arith .add (.t 8) (oI 1)),oM 8 18]))))
def t152k0:DCode :=
 (oQ [oW 4 (.move (oI (-1)))]
 .ret)
def t152:DFunc:={ntmps:=19,results:=[.t 4],mode:=.pure,body :=
 (oQ [oW 4 (.move (oI 0))]
 (.seq (oQ [oM 6 0,oW 7 (.len 1 (.t 6)),oW 8 (.move (oI 0))]
 (.block 0 (.loop t152l0)))
 t152k0))}
theorem c152:compFunc Tryz.prog Tryz.f152 .pure=some t152:=by kernel_rfl
def t153l0:DCode :=
 (oQ [oW 47 (.arith .lss (.t 46) (.t 45))]
 (.seq (.cond (.t 47) .skip (.exit 2))
 (.seq (.block 3 (oQ [oW 48 (.indexAddr 7 (.t 44) (.t 46)),oL 49 7 48,oW 14 (.alloc 58 7 (.agg [.int .i64 0,.int .i64 0,.int .i64 0,.int .i64 0,.nsl,.int .i64 0,.bool false])),oS 7 14 49]
 (.region [oM 50 12,oM 51 50,gA 52 0 14 51 false,gL 53 2 52 51 false,gA 54 1 5 51 false,gL 55 2 54 51 false,gW 56 (.eqa false [1,1] (.t 53) (.t 55)) 51 false,gM 57 56 51 false,gA 58 5 14 57 true,gD 59 58 57 true,gM 60 11 57 true,gW 61 (.arith .eql (.t 59) (.t 60)) 57 true,gW 62 (.pick (.t 57) (.t 61) (oB false)) 51 false,gM 63 62 51 false,gA 64 4 14 63 true,gD 65 64 63 true,gA 66 6 5 63 true,gD 67 66 63 true,gW 68 (.call (oF 186) [.t 65,.t 67]) 63 true,gW 69 (.pick (.t 63) (.t 68) (oB false)) 51 false,oW 70 (.pick (.t 51) (oB true) (.t 69)),oM 12 70])))
 (.region [oW 71 (.arith .add (.t 46) (oI 1)),oM 46 71]))))
def t153k0:DCode :=
 (oQ [oM 72 12]
 (.cond (.t 72) (.region [oM 73 9,oM 74 11,oL 75 7 5,oW 76 (.build [.int .i64 0,.int .i64 0,.int .i64 0,.int .i64 0,.int .i64 0,.int .i64 0,.nsl,.nsl] [(0,1,.t 74),(1,7,.t 75)]),oW 77 (.buildSlice 86 8 (.agg [.int .i64 0,.int .i64 0,.int .i64 0,.int .i64 0,.int .i64 0,.int .i64 0,.nsl,.nsl]) 1 [(0,.t 76)]),oW 78 (.append 86 8 96 (.t 73) (.t 77)),oM 9 78]) .skip))
def t153k1:DCode :=
 (.region [oW 79 (.arith .add (.t 39) (oI 1)),oM 39 79])
def t153l1:DCode :=
 (oQ [oW 40 (.arith .lss (.t 39) (.t 38))]
 (.seq (.cond (.t 40) .skip (.exit 0))
 (.seq (.block 1 (oQ [oW 41 (.indexAddr 1 (.t 37) (.t 39)),oD 42 41,oM 11 42]
 (oQ [oW 12 (.move (oB false))]
 (.seq (oQ [oA 43 4 3,oD 44 43,oW 45 (.len 1 (.t 44)),oW 46 (.move (oI 0))]
 (.block 2 (.loop t153l0)))
 t153k0))))
 t153k1)))
def t153l2:DCode :=
 (oQ [oW 87 (.arith .lss (.t 86) (.t 85))]
 (.seq (.cond (.t 87) .skip (.exit 6))
 (.seq (.block 7 (oQ [oW 88 (.indexAddr 3 (.t 84) (.t 86)),oL 89 3 88,oW 19 (.alloc 60 3 (.agg [.int .i64 0,.int .i64 0,.nsl])),oS 3 19 89]
 (.region [oM 90 17,oM 91 90,gA 92 0 19 91 false,gA 93 0 92 91 false,gD 94 93 91 false,gM 95 16 91 false,gW 96 (.arith .eql (.t 94) (.t 95)) 91 false,gM 97 96 91 false,gA 98 2 19 97 true,gD 99 98 97 true,gA 100 6 5 97 true,gD 101 100 97 true,gW 102 (.call (oF 186) [.t 99,.t 101]) 97 true,gW 103 (.pick (.t 97) (.t 102) (oB false)) 91 false,oW 104 (.pick (.t 91) (oB true) (.t 103)),oM 17 104])))
 (.region [oW 105 (.arith .add (.t 86) (oI 1)),oM 86 105]))))
def t153k2:DCode :=
 (oQ [oM 106 17]
 (.cond (.t 106) (.region [oM 107 15,oM 108 16,oA 109 3 5,oL 110 2 109,oA 111 6 5,oD 112 111,oW 113 (.build [.int .i64 0,.int .i64 0,.int .i64 0,.nsl] [(0,1,.t 108),(1,2,.t 110),(3,1,.t 112)]),oW 114 (.buildSlice 222 4 (.agg [.int .i64 0,.int .i64 0,.int .i64 0,.nsl]) 1 [(0,.t 113)]),oW 115 (.append 222 4 48 (.t 107) (.t 114)),oM 15 115]) .skip))
def t153k3:DCode :=
 (.region [oW 116 (.arith .add (.t 80) (oI 1)),oM 80 116])
def t153l3:DCode :=
 (oQ [oW 81 (.arith .lss (.t 80) (oI 32))]
 (.seq (.cond (.t 81) .skip (.exit 4))
 (.seq (.block 5 (oQ [oM 82 80,oM 16 82]
 (oQ [oW 17 (.move (oB false))]
 (.seq (oQ [oA 83 5 3,oD 84 83,oW 85 (.len 1 (.t 84)),oW 86 (.move (oI 0))]
 (.block 6 (.loop t153l2)))
 t153k2))))
 t153k3)))
def t153k4:DCode :=
 (oQ [oM 117 9,oM 118 15,oM 6 117,oM 7 118]
 .ret)
def t153k5:DCode :=
 (oQ [oW 15 (.move (.c .nsl))]
 (.seq (oQ [oW 80 (.move (oI 0))]
 (.block 4 (.loop t153l3)))
 t153k4))
def t153:DFunc:={ntmps:=119,results:=[.t 6,.t 7],mode:=.pure,body :=
 (oQ [oW 3 (.box 29 6 (.t 0)),oW 5 (.box 84 7 (.t 2)),oW 6 (.move (.c .nsl)),oW 7 (.move (.c .nsl))]
 (oQ [oL 20 6 3,oA 21 1 5,oL 22 2 21,oW 23 (.call (oF 24) [.t 20,.t 22]),oM 8 23]
 (.seq (oQ [oM 24 8,oW 25 (.arith .lss (.t 24) (oI 0)),oM 26 25,gA 27 2 3 26 false,gD 28 27 26 false,gM 29 8 26 false,gW 30 (.indexAddr 4 (.t 28) (.t 29)) 26 false,gA 31 3 30 26 false,gD 32 31 26 false,gM 33 1 26 false,gW 34 (.arith .neq (.t 32) (.t 33)) 26 false,oW 35 (.pick (.t 26) (oB true) (.t 34))]
 (.cond (.t 35) (oQ [oW 6 (.move (.c .nsl)),oW 7 (.move (.c .nsl))]
 .ret) .skip))
 (oQ [oW 9 (.move (.c .nsl))]
 (.seq (oQ [oA 36 1 3,oD 37 36,oW 38 (.len 1 (.t 37)),oW 39 (.move (oI 0))]
 (.block 0 (.loop t153l1)))
 t153k5)))))}
theorem c153:compFunc Tryz.prog Tryz.f153 .pure=some t153:=by kernel_rfl
def t158:DFunc:={ntmps:=50,results:=[.t 4],mode:=.pure,body :=
 (oQ [oW 2 (.box 62 5 (.t 0)),oW 3 (.box 62 5 (.t 1)),oW 4 (.move (oB false))]
 (.seq (.block 0 (oQ [oA 6 1 2,oD 7 6,oW 8 (.arith .eql (.t 7) (oI 1)),oM 5 8]
 (.cond (.t 5) (oQ [oA 9 1 3,oD 10 9,oW 11 (.arith .eql (.t 10) (oI 1)),oM 12 11,gA 13 2 2 12 true,gD 14 13 12 true,gA 15 2 3 12 true,gD 16 15 12 true,gW 17 (.arith .geq (.t 14) (.t 16)) 12 true,oW 18 (.pick (.t 12) (.t 17) (oB false)),oM 19 18,gA 20 3 2 19 true,gD 21 20 19 true,gA 22 3 3 19 true,gD 23 22 19 true,gW 24 (.arith .leq (.t 21) (.t 23)) 19 true,oW 25 (.pick (.t 19) (.t 24) (oB false)),oM 4 25]
 .ret) (oQ [oA 27 1 3,oD 28 27,oW 29 (.arith .eql (.t 28) (oI 2)),oM 26 29]
 (.cond (.t 26) (oQ [oA 30 1 2,oD 31 30,oW 32 (.arith .eql (.t 31) (oI 2)),oM 33 32,gA 34 4 2 33 true,gD 35 34 33 true,gA 36 4 3 33 true,gD 37 36 33 true,gW 38 (.arith .eql (.t 35) (.t 37)) 33 true,oW 39 (.pick (.t 33) (.t 38) (oB false)),oM 4 39]
 .ret) .skip)))))
 (oQ [oA 40 1 3,oD 41 40,oW 42 (.arith .eql (.t 41) (oI 3)),oM 43 42,gA 44 4 2 43 true,gD 45 44 43 true,gA 46 4 3 43 true,gD 47 46 43 true,gW 48 (.call (oF 188) [.t 45,.t 47]) 43 true,oW 49 (.pick (.t 43) (.t 48) (oB false)),oM 4 49]
 .ret)))}
theorem c158:compFunc Tryz.prog Tryz.f158 .pure=some t158:=by kernel_rfl
def t159l0:DCode :=
 (.seq (.seq (.draw [oRM 16 7,oRM 17 4,oR 18 (.len 1 (.t 17)),oR 19 (.arith .lss (.t 16) (.t 18)),oRM 20 19,rM 21 4 20 true,rM 22 7 20 true,rW 23 (.indexAddr 5 (.t 21) (.t 22)) 20 true,rA 24 0 23 20 true,rD 25 24 20 true,rA 26 0 6 20 true,rD 27 26 20 true,rW 28 (.arith .lss (.t 25) (.t 27)) 20 true,oR 29 (.pick (.t 20) (.t 28) (oB false))])
 (.cond (.t 29) .skip (.exit 2)))
 (.block 3 (.region [oM 30 7,oW 31 (.arith .add (.t 30) (oI 1)),oM 7 31])))
def t159k0:DCode :=
 (.seq (.seq (.draw [oRM 32 7,oRM 33 4,oR 34 (.len 1 (.t 33)),oR 35 (.arith .lss (.t 32) (.t 34)),oRM 36 35,rM 37 4 36 true,rM 38 7 36 true,rW 39 (.indexAddr 5 (.t 37) (.t 38)) 36 true,rA 40 0 39 36 true,rD 41 40 36 true,rA 42 0 6 36 true,rD 43 42 36 true,rW 44 (.arith .eql (.t 41) (.t 43)) 36 true,oR 45 (.pick (.t 36) (.t 44) (oB false))])
 (.cond (.t 45) (.seq (.draw [oRM 47 4,oRM 48 7,oR 49 (.indexAddr 5 (.t 47) (.t 48)),oRL 50 5 49,oRL 51 5 6,oW 52 (.call (oF 189) [.t 50,.t 51]),nK 46 (.move (.t 52)) .read 1,nK 53 (.extract (.t 46) 0) .read 1,nK 8 (.alloc 62 5 (.agg [.str [],.int .i64 0,.int .i64 0,.int .i64 0,.str []])) .create 0,⟨none,.store 5 (.t 8) (.t 53),none,.write,2,false⟩,nK 54 (.extract (.t 46) 1) .read 1,nK 9 (.move (.t 54)) .read 3])
 (.seq (oQ [oM 55 9,oW 56 (.un .not (.t 55))]
 (.cond (.t 56) (oQ [oW 2 (.move (.c .nsl)),oW 3 (.move (oB false))]
 .ret) .skip))
 (oQ [oW 57 (.buildSlice 62 5 (.agg [.str [],.int .i64 0,.int .i64 0,.int .i64 0,.str []]) 0 []),oM 58 4,oW 59 (.append 62 5 56 (.t 57) (.t 58)),oM 4 59]
 (oQ [oM 60 4,oM 61 7,oL 62 5 8,oW 63 (.indexAddr 5 (.t 60) (.t 61)),oS 5 63 62]
 (.exit 1))))) .skip))
 (.draw [oRM 65 4,oRM 66 7,oR 67 (.sliceSl 5 (.t 65) none (some (.t 66))),nK 64 (.buildSlice 62 5 (.agg [.str [],.int .i64 0,.int .i64 0,.int .i64 0,.str []]) 0 []) .create 0,nK 68 (.append 62 5 56 (.t 64) (.t 67)) .create 0,oRL 69 5 6,nK 70 (.buildSlice 62 5 (.agg [.str [],.int .i64 0,.int .i64 0,.int .i64 0,.str []]) 1 [(0,.t 69)]) .create 0,nK 71 (.append 62 5 56 (.t 68) (.t 70)) .create 0,oRM 72 4,oRM 73 7,oR 74 (.sliceSl 5 (.t 72) (some (.t 73)) none),nK 75 (.append 62 5 56 (.t 71) (.t 74)) .write 4,nK 4 (.move (.t 75)) .read 5]))
def t159k1:DCode :=
 (.region [oW 76 (.arith .add (.t 12) (oI 1)),oM 12 76])
def t159l1:DCode :=
 (oQ [oW 13 (.arith .lss (.t 12) (.t 11))]
 (.seq (.cond (.t 13) .skip (.exit 0))
 (.seq (.block 1 (oQ [oW 14 (.indexAddr 5 (.t 10) (.t 12)),oL 15 5 14,oW 6 (.alloc 62 5 (.agg [.str [],.int .i64 0,.int .i64 0,.int .i64 0,.str []])),oS 5 6 15]
 (oQ [oW 7 (.move (oI 0))]
 (.seq (.block 2 (.loop t159l0))
 t159k0))))
 t159k1)))
def t159k2:DCode :=
 (oQ [oM 77 4,oM 2 77,oW 3 (.move (oB true))]
 .ret)
def t159:DFunc:={ntmps:=78,results:=[.t 2,.t 3],mode:=.pure,body :=
 (oQ [oW 2 (.move (.c .nsl)),oW 3 (.move (oB false))]
 (oQ [oW 4 (.move (.c .nsl))]
 (.seq (oQ [oM 10 0,oW 11 (.len 1 (.t 10)),oW 12 (.move (oI 0))]
 (.block 0 (.loop t159l1)))
 t159k2)))}
theorem c159:compFunc Tryz.prog Tryz.f159 .pure=some t159:=by kernel_rfl
def t170l0:DCode :=
 (.seq (.seq (.draw [oRM 16 7,oRM 17 1,oR 18 (.arith .gtr (.t 16) (.t 17)),oRM 19 18,rM 20 0 19 true,rM 21 7 19 true,rW 22 (.indexAddr 1 (.t 20) (.t 21)) 19 true,rD 23 22 19 true,rM 24 0 19 true,rM 25 7 19 true,rW 26 (.arith .sub (.t 25) (oI 1)) 19 true,rW 27 (.indexAddr 1 (.t 24) (.t 26)) 19 true,rD 28 27 19 true,gW 29 (.call (oF 176) [.t 23,.t 28]) 19 true,nK 30 (.pick (.t 19) (.t 29) (oB false)) .read 1])
 (.cond (.t 30) .skip (.exit 2)))
 (.seq (.block 3 (.draw [oRM 38 0,oRM 39 7,oR 40 (.arith .sub (.t 39) (oI 1)),oR 41 (.indexAddr 1 (.t 38) (.t 40)),oRD 42 41,oRM 43 0,oRM 44 7,oR 45 (.indexAddr 1 (.t 43) (.t 44)),oRD 46 45,oRM 33 0,oRM 34 7,oR 47 (.indexAddr 1 (.t 33) (.t 34)),oS 1 47 42,oRM 35 0,oRM 36 7,oR 37 (.arith .sub (.t 36) (oI 1)),nK 48 (.indexAddr 1 (.t 35) (.t 37)) .read 1,⟨none,.store 1 (.t 48) (.t 46),none,.write,1,false⟩]))
 (.region [oM 31 7,oW 32 (.arith .sub (.t 31) (oI 1)),oM 7 32])))
def t170k0:DCode :=
 (.region [oM 13 6,oW 14 (.arith .add (.t 13) (oI 1)),oM 6 14])
def t170l1:DCode :=
 (.seq (oQ [oM 10 6,oM 11 2,oW 12 (.arith .lss (.t 10) (.t 11))]
 (.cond (.t 12) .skip (.exit 0)))
 (.seq (.block 1 (oQ [oM 15 6,oM 7 15]
 (.block 2 (.loop t170l0))))
 t170k0))
def t170:DFunc:={ntmps:=49,results:=[],mode:=.full,body :=
 (oQ [oM 8 1,oW 9 (.arith .add (.t 8) (oI 1)),oM 6 9]
 (.block 0 (.loop t170l1)))}
theorem c170:compFunc Tryz.prog Tryz.f170 .full=some t170:=by kernel_rfl
def t171l0:DCode :=
 (.seq (oQ [oM 18 9,oW 19 (.arith .geq (.t 18) (oI 0))]
 (.cond (.t 19) .skip (.exit 0)))
 (.seq (.block 1 (.region [oM 22 0,oM 23 9,oM 24 8,oM 25 6,oW 26 (.call (oF 199) [.t 22,.t 23,.t 24,.t 25])]))
 (.region [oM 20 9,oW 21 (.arith .sub (.t 20) (oI 1)),oM 9 21])))
def t171l1:DCode :=
 (.seq (oQ [oM 29 10,oW 30 (.arith .geq (.t 29) (oI 0))]
 (.cond (.t 30) .skip (.exit 2)))
 (.seq (.block 3 (.seq (.draw [oRM 39 0,oRM 40 6,oRM 41 10,oR 42 (.arith .add (.t 40) (.t 41)),oR 43 (.indexAddr 1 (.t 39) (.t 42)),oRD 44 43,oRM 45 0,oRM 46 6,oR 47 (.indexAddr 1 (.t 45) (.t 46)),oRD 48 47,oRM 33 0,oRM 34 6,oR 49 (.indexAddr 1 (.t 33) (.t 34)),oS 1 49 44,oRM 35 0,oRM 36 6,oRM 37 10,oR 38 (.arith .add (.t 36) (.t 37)),nK 50 (.indexAddr 1 (.t 35) (.t 38)) .read 1,⟨none,.store 1 (.t 50) (.t 48),none,.write,1,false⟩])
 (.region [oM 51 0,oM 52 7,oM 53 10,oM 54 6,oW 55 (.call (oF 199) [.t 51,.t 52,.t 53,.t 54])])))
 (.region [oM 31 10,oW 32 (.arith .sub (.t 31) (oI 1)),oM 10 32])))
def t171k0:DCode :=
 (oQ [oM 27 8,oW 28 (.arith .sub (.t 27) (oI 1)),oM 10 28]
 (.block 2 (.loop t171l1)))
def t171:DFunc:={ntmps:=56,results:=[],mode:=.full,body :=
 (oQ [oM 11 1,oM 6 11]
 (oQ [oW 7 (.move (oI 0))]
 (oQ [oM 12 2,oM 13 1,oW 14 (.arith .sub (.t 12) (.t 13)),oM 8 14]
 (.seq (oQ [oM 15 8,oW 16 (.arith .sub (.t 15) (oI 1)),oW 17 (.arith .quo (.t 16) (oI 2)),oM 9 17]
 (.block 0 (.loop t171l0)))
 t171k0))))}
theorem c171:compFunc Tryz.prog Tryz.f171 .full=some t171:=by kernel_rfl
def t172l0:DCode :=
 (.seq (oQ [oM 26 9,oM 27 1,oM 28 6,oW 29 (.arith .quo (.t 28) (oI 4)),oW 30 (.arith .mul (.t 29) (oI 2)),oW 31 (.arith .add (.t 27) (.t 30)),oW 32 (.arith .add (.t 31) (oI 1)),oW 33 (.arith .leq (.t 26) (.t 32))]
 (.cond (.t 33) .skip (.exit 0)))
 (.seq (.block 1 (oQ [oW 36 (.call (oF 201) [.t 7]),oM 37 8,oW 38 (.arith .sub (.t 37) (.c (.int .u64 1))),oW 39 (.arith .and (.t 36) (.t 38)),oW 40 (.conv .i64 (.t 39)),oM 10 40]
 (.seq (oQ [oM 41 10,oM 42 6,oW 43 (.arith .geq (.t 41) (.t 42))]
 (.cond (.t 43) (.region [oM 44 10,oM 45 6,oW 46 (.arith .sub (.t 44) (.t 45)),oM 10 46]) .skip))
 (.draw [oRM 53 0,oRM 54 1,oRM 55 10,oR 56 (.arith .add (.t 54) (.t 55)),oR 57 (.indexAddr 1 (.t 53) (.t 56)),oRD 58 57,oRM 59 0,oRM 60 9,oR 61 (.indexAddr 1 (.t 59) (.t 60)),oRD 62 61,oRM 47 0,oRM 48 9,oR 63 (.indexAddr 1 (.t 47) (.t 48)),oS 1 63 58,oRM 49 0,oRM 50 1,oRM 51 10,oR 52 (.arith .add (.t 50) (.t 51)),nK 64 (.indexAddr 1 (.t 49) (.t 52)) .read 1,⟨none,.store 1 (.t 64) (.t 62),none,.write,1,false⟩]))))
 (.region [oM 34 9,oW 35 (.arith .add (.t 34) (oI 1)),oM 9 35])))
def t172:DFunc:={ntmps:=65,results:=[],mode:=.full,body :=
 (oQ [oM 11 2,oM 12 1,oW 13 (.arith .sub (.t 11) (.t 12)),oM 6 13]
 (oQ [oM 14 6,oW 15 (.arith .geq (.t 14) (oI 8))]
 (.cond (.t 15) (oQ [oM 16 6,oW 17 (.conv .u64 (.t 16)),oW 7 (.alloc 231 1 (.int .u64 0)),oS 1 7 17]
 (oQ [oM 18 6,oW 19 (.call (oF 200) [.t 18]),oM 8 19]
 (oQ [oM 20 1,oM 21 6,oW 22 (.arith .quo (.t 21) (oI 4)),oW 23 (.arith .mul (.t 22) (oI 2)),oW 24 (.arith .add (.t 20) (.t 23)),oW 25 (.arith .sub (.t 24) (oI 1)),oM 9 25]
 (.block 0 (.loop t172l0))))) .skip)))}
theorem c172:compFunc Tryz.prog Tryz.f172 .full=some t172:=by kernel_rfl
def t173:DFunc:={ntmps:=57,results:=[.t 6,.t 7],mode:=.full,body :=
 (oQ [oW 6 (.move (oI 0)),oW 7 (.move (oI 0))]
 (oQ [oM 13 2,oM 14 1,oW 15 (.arith .sub (.t 13) (.t 14)),oM 8 15]
 (oQ [oW 9 (.alloc 3 1 (.int .i64 0))]
 (oQ [oM 16 1,oM 17 8,oW 18 (.arith .quo (.t 17) (oI 4)),oW 19 (.arith .mul (.t 18) (oI 1)),oW 20 (.arith .add (.t 16) (.t 19)),oM 10 20]
 (oQ [oM 21 1,oM 22 8,oW 23 (.arith .quo (.t 22) (oI 4)),oW 24 (.arith .mul (.t 23) (oI 2)),oW 25 (.arith .add (.t 21) (.t 24)),oM 11 25]
 (oQ [oM 26 1,oM 27 8,oW 28 (.arith .quo (.t 27) (oI 4)),oW 29 (.arith .mul (.t 28) (oI 3)),oW 30 (.arith .add (.t 26) (.t 29)),oM 12 30]
 (.seq (oQ [oM 31 8,oW 32 (.arith .geq (.t 31) (oI 8))]
 (.cond (.t 32) (.seq (oQ [oM 33 8,oW 34 (.arith .geq (.t 33) (oI 50))]
 (.cond (.t 34) (oQ [oM 35 0,oM 36 10,oW 37 (.call (oF 202) [.t 35,.t 36,.t 9]),oM 10 37]
 (oQ [oM 38 0,oM 39 11,oW 40 (.call (oF 202) [.t 38,.t 39,.t 9]),oM 11 40]
 (.region [oM 41 0,oM 42 12,oW 43 (.call (oF 202) [.t 41,.t 42,.t 9]),oM 12 43]))) .skip))
 (.region [oM 44 0,oM 45 10,oM 46 11,oM 47 12,oW 48 (.call (oF 203) [.t 44,.t 45,.t 46,.t 47,.t 9]),oM 11 48])) .skip))
 (oQ [oD 49 9]
 (.block 0 (oQ [oW 52 (.arith .eql (.t 49) (oI 0)),oM 51 52]
 (.cond (.t 51) (oQ [oM 53 11,oM 6 53,oW 7 (.move (oI 1))]
 .ret) (oQ [oW 55 (.arith .eql (.t 49) (oI 12)),oM 54 55]
 (.cond (.t 54) (oQ [oM 56 11,oM 6 56,oW 7 (.move (oI 2))]
 .ret) (oQ [oM 50 11,oM 6 50,oW 7 (.move (oI 0))]
 .ret))))))))))))))}
theorem c173:compFunc Tryz.prog Tryz.f173 .full=some t173:=by kernel_rfl
def t174l0:DCode :=
 (.seq (oQ [oM 11 6,oM 12 7,oW 13 (.arith .lss (.t 11) (.t 12))]
 (.cond (.t 13) .skip (.exit 0)))
 (.block 1 (.seq (.draw [oRM 18 0,oRM 19 7,oR 20 (.indexAddr 1 (.t 18) (.t 19)),oRD 21 20,oRM 22 0,oRM 23 6,oR 24 (.indexAddr 1 (.t 22) (.t 23)),oRD 25 24,oRM 14 0,oRM 15 6,oR 26 (.indexAddr 1 (.t 14) (.t 15)),oS 1 26 21,oRM 16 0,oRM 17 7,nK 27 (.indexAddr 1 (.t 16) (.t 17)) .read 1,⟨none,.store 1 (.t 27) (.t 25),none,.write,1,false⟩])
 (oQ [oM 28 6,oW 29 (.arith .add (.t 28) (oI 1)),oM 6 29]
 (.region [oM 30 7,oW 31 (.arith .sub (.t 30) (oI 1)),oM 7 31])))))
def t174:DFunc:={ntmps:=32,results:=[],mode:=.full,body :=
 (oQ [oM 8 1,oM 6 8]
 (oQ [oM 9 2,oW 10 (.arith .sub (.t 9) (oI 1)),oM 7 10]
 (.block 0 (.loop t174l0))))}
theorem c174:compFunc Tryz.prog Tryz.f174 .full=some t174:=by kernel_rfl
def t175l0:DCode :=
 (.seq (.seq (.draw [oRM 17 7,oRM 18 2,oR 19 (.arith .lss (.t 17) (.t 18)),oRM 20 19,rM 21 0 20 true,rM 22 7 20 true,rW 23 (.indexAddr 1 (.t 21) (.t 22)) 20 true,rD 24 23 20 true,rM 25 0 20 true,rM 26 7 20 true,rW 27 (.arith .sub (.t 26) (oI 1)) 20 true,rW 28 (.indexAddr 1 (.t 25) (.t 27)) 20 true,rD 29 28 20 true,gW 30 (.call (oF 176) [.t 24,.t 29]) 20 true,⟨(some 31),.un .not (.t 30),(some (20,true)),.read,1,false⟩,nK 32 (.pick (.t 20) (.t 31) (oB false)) .read 1])
 (.cond (.t 32) .skip (.exit 2)))
 (.block 3 (.region [oM 33 7,oW 34 (.arith .add (.t 33) (oI 1)),oM 7 34])))
def t175l1:DCode :=
 (.seq (oQ [oM 64 9,oW 65 (.arith .geq (.t 64) (oI 1))]
 (.cond (.t 65) .skip (.exit 4)))
 (.seq (.block 5 (.seq (.seq (.draw [oRM 68 0,oRM 69 9,oR 70 (.indexAddr 1 (.t 68) (.t 69)),oRD 71 70,oRM 72 0,oRM 73 9,oR 74 (.arith .sub (.t 73) (oI 1)),oR 75 (.indexAddr 1 (.t 72) (.t 74)),oRD 76 75,oW 77 (.call (oF 176) [.t 71,.t 76]),nK 78 (.un .not (.t 77)) .read 1])
 (.cond (.t 78) (.exit 4) .skip))
 (.draw [oRM 84 0,oRM 85 9,oR 86 (.arith .sub (.t 85) (oI 1)),oR 87 (.indexAddr 1 (.t 84) (.t 86)),oRD 88 87,oRM 89 0,oRM 90 9,oR 91 (.indexAddr 1 (.t 89) (.t 90)),oRD 92 91,oRM 79 0,oRM 80 9,oR 93 (.indexAddr 1 (.t 79) (.t 80)),oS 1 93 88,oRM 81 0,oRM 82 9,oR 83 (.arith .sub (.t 82) (oI 1)),nK 94 (.indexAddr 1 (.t 81) (.t 83)) .read 1,⟨none,.store 1 (.t 94) (.t 92),none,.write,1,false⟩])))
 (.region [oM 66 9,oW 67 (.arith .sub (.t 66) (oI 1)),oM 9 67])))
def t175l2:DCode :=
 (.seq (oQ [oM 101 10,oM 102 2,oW 103 (.arith .lss (.t 101) (.t 102))]
 (.cond (.t 103) .skip (.exit 6)))
 (.seq (.block 7 (.seq (.seq (.draw [oRM 106 0,oRM 107 10,oR 108 (.indexAddr 1 (.t 106) (.t 107)),oRD 109 108,oRM 110 0,oRM 111 10,oR 112 (.arith .sub (.t 111) (oI 1)),oR 113 (.indexAddr 1 (.t 110) (.t 112)),oRD 114 113,oW 115 (.call (oF 176) [.t 109,.t 114]),nK 116 (.un .not (.t 115)) .read 1])
 (.cond (.t 116) (.exit 6) .skip))
 (.draw [oRM 122 0,oRM 123 10,oR 124 (.arith .sub (.t 123) (oI 1)),oR 125 (.indexAddr 1 (.t 122) (.t 124)),oRD 126 125,oRM 127 0,oRM 128 10,oR 129 (.indexAddr 1 (.t 127) (.t 128)),oRD 130 129,oRM 117 0,oRM 118 10,oR 131 (.indexAddr 1 (.t 117) (.t 118)),oS 1 131 126,oRM 119 0,oRM 120 10,oR 121 (.arith .sub (.t 120) (oI 1)),nK 132 (.indexAddr 1 (.t 119) (.t 121)) .read 1,⟨none,.store 1 (.t 132) (.t 130),none,.write,1,false⟩])))
 (.region [oM 104 10,oW 105 (.arith .add (.t 104) (oI 1)),oM 10 105])))
def t175k0:DCode :=
 (oQ [oM 95 2,oM 96 7,oW 97 (.arith .sub (.t 95) (.t 96)),oW 98 (.arith .geq (.t 97) (oI 2))]
 (.cond (.t 98) (oQ [oM 99 7,oW 100 (.arith .add (.t 99) (oI 1)),oM 10 100]
 (.block 6 (.loop t175l2))) .skip))
def t175k1:DCode :=
 (.seq (oQ [oM 35 7,oM 36 2,oW 37 (.arith .eql (.t 35) (.t 36))]
 (.cond (.t 37) (oQ [oW 6 (.move (oB true))]
 .ret) .skip))
 (.seq (oQ [oM 38 2,oM 39 1,oW 40 (.arith .sub (.t 38) (.t 39)),oW 41 (.arith .lss (.t 40) (oI 50))]
 (.cond (.t 41) (oQ [oW 6 (.move (oB false))]
 .ret) .skip))
 (.seq (.draw [oRM 47 0,oRM 48 7,oR 49 (.arith .sub (.t 48) (oI 1)),oR 50 (.indexAddr 1 (.t 47) (.t 49)),oRD 51 50,oRM 52 0,oRM 53 7,oR 54 (.indexAddr 1 (.t 52) (.t 53)),oRD 55 54,oRM 42 0,oRM 43 7,oR 56 (.indexAddr 1 (.t 42) (.t 43)),oS 1 56 51,oRM 44 0,oRM 45 7,oR 46 (.arith .sub (.t 45) (oI 1)),nK 57 (.indexAddr 1 (.t 44) (.t 46)) .read 1,⟨none,.store 1 (.t 57) (.t 55),none,.write,1,false⟩])
 (.seq (oQ [oM 58 7,oM 59 1,oW 60 (.arith .sub (.t 58) (.t 59)),oW 61 (.arith .geq (.t 60) (oI 2))]
 (.cond (.t 61) (oQ [oM 62 7,oW 63 (.arith .sub (.t 62) (oI 1)),oM 9 63]
 (.block 4 (.loop t175l1))) .skip))
 t175k0))))
def t175k2:DCode :=
 (.region [oM 15 8,oW 16 (.arith .add (.t 15) (oI 1)),oM 8 16])
def t175l3:DCode :=
 (.seq (oQ [oM 13 8,oW 14 (.arith .lss (.t 13) (oI 5))]
 (.cond (.t 14) .skip (.exit 0)))
 (.seq (.block 1 (.seq (.block 2 (.loop t175l0))
 t175k1))
 t175k2))
def t175k3:DCode :=
 (oQ [oW 6 (.move (oB false))]
 .ret)
def t175:DFunc:={ntmps:=133,results:=[.t 6],mode:=.full,body :=
 (oQ [oW 6 (.move (oB false))]
 (oQ [oM 11 1,oW 12 (.arith .add (.t 11) (oI 1)),oM 7 12]
 (.seq (oQ [oW 8 (.move (oI 0))]
 (.block 0 (.loop t175l3)))
 t175k3)))}
theorem c175:compFunc Tryz.prog Tryz.f175 .full=some t175:=by kernel_rfl
def t176:DFunc:={ntmps:=17,results:=[.t 4],mode:=.pure,body :=
 (oQ [oW 4 (.move (oB false))]
 (oQ [oM 5 0,oW 6 (.call (oF 183) [.t 5]),oM 7 6,gM 8 1 7 true,gW 9 (.call (oF 183) [.t 8]) 7 true,gW 10 (.un .not (.t 9)) 7 true,oW 11 (.pick (.t 7) (.t 10) (oB false)),oM 12 11,gM 13 0 12 false,gM 14 1 12 false,gW 15 (.arith .lss (.t 13) (.t 14)) 12 false,oW 16 (.pick (.t 12) (oB true) (.t 15)),oM 4 16]
 .ret))}
theorem c176:compFunc Tryz.prog Tryz.f176 .pure=some t176:=by kernel_rfl
def t177l0:DCode :=
 (.seq (.seq (.draw [oRM 29 9,oRM 30 10,oR 31 (.arith .leq (.t 29) (.t 30)),oRM 32 31,rM 33 0 32 true,rM 34 1 32 true,rW 35 (.indexAddr 1 (.t 33) (.t 34)) 32 true,rD 36 35 32 true,rM 37 0 32 true,rM 38 9 32 true,rW 39 (.indexAddr 1 (.t 37) (.t 38)) 32 true,rD 40 39 32 true,gW 41 (.call (oF 176) [.t 36,.t 40]) 32 true,⟨(some 42),.un .not (.t 41),(some (32,true)),.read,1,false⟩,nK 43 (.pick (.t 32) (.t 42) (oB false)) .read 1])
 (.cond (.t 43) .skip (.exit 2)))
 (.block 3 (.region [oM 44 9,oW 45 (.arith .add (.t 44) (oI 1)),oM 9 45])))
def t177l1:DCode :=
 (.seq (.seq (.draw [oRM 46 9,oRM 47 10,oR 48 (.arith .leq (.t 46) (.t 47)),oRM 49 48,rM 50 0 49 true,rM 51 1 49 true,rW 52 (.indexAddr 1 (.t 50) (.t 51)) 49 true,rD 53 52 49 true,rM 54 0 49 true,rM 55 10 49 true,rW 56 (.indexAddr 1 (.t 54) (.t 55)) 49 true,rD 57 56 49 true,gW 58 (.call (oF 176) [.t 53,.t 57]) 49 true,nK 59 (.pick (.t 49) (.t 58) (oB false)) .read 1])
 (.cond (.t 59) .skip (.exit 4)))
 (.block 5 (.region [oM 60 10,oW 61 (.arith .sub (.t 60) (oI 1)),oM 10 61])))
def t177k0:DCode :=
 (.seq (oQ [oM 62 9,oM 63 10,oW 64 (.arith .gtr (.t 62) (.t 63))]
 (.cond (.t 64) (.exit 0) .skip))
 (.seq (.draw [oRM 69 0,oRM 70 10,oR 71 (.indexAddr 1 (.t 69) (.t 70)),oRD 72 71,oRM 73 0,oRM 74 9,oR 75 (.indexAddr 1 (.t 73) (.t 74)),oRD 76 75,oRM 65 0,oRM 66 9,oR 77 (.indexAddr 1 (.t 65) (.t 66)),oS 1 77 72,oRM 67 0,oRM 68 10,nK 78 (.indexAddr 1 (.t 67) (.t 68)) .read 1,⟨none,.store 1 (.t 78) (.t 76),none,.write,1,false⟩])
 (oQ [oM 79 9,oW 80 (.arith .add (.t 79) (oI 1)),oM 9 80]
 (.region [oM 81 10,oW 82 (.arith .sub (.t 81) (oI 1)),oM 10 82]))))
def t177k1:DCode :=
 (.seq (.block 4 (.loop t177l1))
 t177k0)
def t177l2:DCode :=
 (.block 1 (.seq (.block 2 (.loop t177l0))
 t177k1))
def t177k2:DCode :=
 (oQ [oM 83 9,oM 8 83]
 .ret)
def t177:DFunc:={ntmps:=84,results:=[.t 8],mode:=.full,body :=
 (oQ [oW 8 (.move (oI 0))]
 (.seq (.draw [oRM 15 0,oRM 16 3,oR 17 (.indexAddr 1 (.t 15) (.t 16)),oRD 18 17,oRM 19 0,oRM 20 1,oR 21 (.indexAddr 1 (.t 19) (.t 20)),oRD 22 21,oRM 11 0,oRM 12 1,oR 23 (.indexAddr 1 (.t 11) (.t 12)),oS 1 23 18,oRM 13 0,oRM 14 3,nK 24 (.indexAddr 1 (.t 13) (.t 14)) .read 1,⟨none,.store 1 (.t 24) (.t 22),none,.write,1,false⟩])
 (oQ [oM 25 1,oW 26 (.arith .add (.t 25) (oI 1)),oM 27 2,oW 28 (.arith .sub (.t 27) (oI 1)),oM 9 26,oM 10 28]
 (.seq (.block 0 (.loop t177l2))
 t177k2))))}
theorem c177:compFunc Tryz.prog Tryz.f177 .full=some t177:=by kernel_rfl
def t178l0:DCode :=
 (.seq (.seq (.draw [oRM 30 10,oRM 31 11,oR 32 (.arith .leq (.t 30) (.t 31)),oRM 33 32,rM 34 0 33 true,rM 35 10 33 true,rW 36 (.indexAddr 1 (.t 34) (.t 35)) 33 true,rD 37 36 33 true,rM 38 0 33 true,rM 39 1 33 true,rW 40 (.indexAddr 1 (.t 38) (.t 39)) 33 true,rD 41 40 33 true,gW 42 (.call (oF 176) [.t 37,.t 41]) 33 true,nK 43 (.pick (.t 33) (.t 42) (oB false)) .read 1])
 (.cond (.t 43) .skip (.exit 0)))
 (.block 1 (.region [oM 44 10,oW 45 (.arith .add (.t 44) (oI 1)),oM 10 45])))
def t178l1:DCode :=
 (.seq (.seq (.draw [oRM 46 10,oRM 47 11,oR 48 (.arith .leq (.t 46) (.t 47)),oRM 49 48,rM 50 0 49 true,rM 51 11 49 true,rW 52 (.indexAddr 1 (.t 50) (.t 51)) 49 true,rD 53 52 49 true,rM 54 0 49 true,rM 55 1 49 true,rW 56 (.indexAddr 1 (.t 54) (.t 55)) 49 true,rD 57 56 49 true,gW 58 (.call (oF 176) [.t 53,.t 57]) 49 true,⟨(some 59),.un .not (.t 58),(some (49,true)),.read,1,false⟩,nK 60 (.pick (.t 49) (.t 59) (oB false)) .read 1])
 (.cond (.t 60) .skip (.exit 2)))
 (.block 3 (.region [oM 61 11,oW 62 (.arith .sub (.t 61) (oI 1)),oM 11 62])))
def t178l2:DCode :=
 (.seq (.seq (.draw [oRM 99 10,oRM 100 11,oR 101 (.arith .leq (.t 99) (.t 100)),oRM 102 101,rM 103 0 102 true,rM 104 10 102 true,rW 105 (.indexAddr 1 (.t 103) (.t 104)) 102 true,rD 106 105 102 true,rM 107 0 102 true,rM 108 1 102 true,rW 109 (.indexAddr 1 (.t 107) (.t 108)) 102 true,rD 110 109 102 true,gW 111 (.call (oF 176) [.t 106,.t 110]) 102 true,nK 112 (.pick (.t 102) (.t 111) (oB false)) .read 1])
 (.cond (.t 112) .skip (.exit 6)))
 (.block 7 (.region [oM 113 10,oW 114 (.arith .add (.t 113) (oI 1)),oM 10 114])))
def t178l3:DCode :=
 (.seq (.seq (.draw [oRM 115 10,oRM 116 11,oR 117 (.arith .leq (.t 115) (.t 116)),oRM 118 117,rM 119 0 118 true,rM 120 11 118 true,rW 121 (.indexAddr 1 (.t 119) (.t 120)) 118 true,rD 122 121 118 true,rM 123 0 118 true,rM 124 1 118 true,rW 125 (.indexAddr 1 (.t 123) (.t 124)) 118 true,rD 126 125 118 true,gW 127 (.call (oF 176) [.t 122,.t 126]) 118 true,⟨(some 128),.un .not (.t 127),(some (118,true)),.read,1,false⟩,nK 129 (.pick (.t 118) (.t 128) (oB false)) .read 1])
 (.cond (.t 129) .skip (.exit 8)))
 (.block 9 (.region [oM 130 11,oW 131 (.arith .sub (.t 130) (oI 1)),oM 11 131])))
def t178k0:DCode :=
 (.seq (oQ [oM 132 10,oM 133 11,oW 134 (.arith .gtr (.t 132) (.t 133))]
 (.cond (.t 134) (.exit 4) .skip))
 (.seq (.draw [oRM 139 0,oRM 140 11,oR 141 (.indexAddr 1 (.t 139) (.t 140)),oRD 142 141,oRM 143 0,oRM 144 10,oR 145 (.indexAddr 1 (.t 143) (.t 144)),oRD 146 145,oRM 135 0,oRM 136 10,oR 147 (.indexAddr 1 (.t 135) (.t 136)),oS 1 147 142,oRM 137 0,oRM 138 11,nK 148 (.indexAddr 1 (.t 137) (.t 138)) .read 1,⟨none,.store 1 (.t 148) (.t 146),none,.write,1,false⟩])
 (oQ [oM 149 10,oW 150 (.arith .add (.t 149) (oI 1)),oM 10 150]
 (.region [oM 151 11,oW 152 (.arith .sub (.t 151) (oI 1)),oM 11 152]))))
def t178k1:DCode :=
 (.seq (.block 8 (.loop t178l3))
 t178k0)
def t178l4:DCode :=
 (.block 5 (.seq (.block 6 (.loop t178l2))
 t178k1))
def t178k2:DCode :=
 (.seq (.draw [oRM 157 0,oRM 158 1,oR 159 (.indexAddr 1 (.t 157) (.t 158)),oRD 160 159,oRM 161 0,oRM 162 11,oR 163 (.indexAddr 1 (.t 161) (.t 162)),oRD 164 163,oRM 153 0,oRM 154 11,oR 165 (.indexAddr 1 (.t 153) (.t 154)),oS 1 165 160,oRM 155 0,oRM 156 1,nK 166 (.indexAddr 1 (.t 155) (.t 156)) .read 1,⟨none,.store 1 (.t 166) (.t 164),none,.write,1,false⟩])
 (oQ [oM 167 11,oM 8 167,oW 9 (.move (oB false))]
 .ret))
def t178k3:DCode :=
 (.seq (oQ [oM 63 10,oM 64 11,oW 65 (.arith .gtr (.t 63) (.t 64))]
 (.cond (.t 65) (.seq (.draw [oRM 70 0,oRM 71 1,oR 72 (.indexAddr 1 (.t 70) (.t 71)),oRD 73 72,oRM 74 0,oRM 75 11,oR 76 (.indexAddr 1 (.t 74) (.t 75)),oRD 77 76,oRM 66 0,oRM 67 11,oR 78 (.indexAddr 1 (.t 66) (.t 67)),oS 1 78 73,oRM 68 0,oRM 69 1,nK 79 (.indexAddr 1 (.t 68) (.t 69)) .read 1,⟨none,.store 1 (.t 79) (.t 77),none,.write,1,false⟩])
 (oQ [oM 80 11,oM 8 80,oW 9 (.move (oB true))]
 .ret)) .skip))
 (.seq (.draw [oRM 85 0,oRM 86 11,oR 87 (.indexAddr 1 (.t 85) (.t 86)),oRD 88 87,oRM 89 0,oRM 90 10,oR 91 (.indexAddr 1 (.t 89) (.t 90)),oRD 92 91,oRM 81 0,oRM 82 10,oR 93 (.indexAddr 1 (.t 81) (.t 82)),oS 1 93 88,oRM 83 0,oRM 84 11,nK 94 (.indexAddr 1 (.t 83) (.t 84)) .read 1,⟨none,.store 1 (.t 94) (.t 92),none,.write,1,false⟩])
 (oQ [oM 95 10,oW 96 (.arith .add (.t 95) (oI 1)),oM 10 96]
 (oQ [oM 97 11,oW 98 (.arith .sub (.t 97) (oI 1)),oM 11 98]
 (.seq (.block 4 (.loop t178l4))
 t178k2)))))
def t178k4:DCode :=
 (.seq (.block 2 (.loop t178l1))
 t178k3)
def t178:DFunc:={ntmps:=168,results:=[.t 8,.t 9],mode:=.full,body :=
 (oQ [oW 8 (.move (oI 0)),oW 9 (.move (oB false))]
 (.seq (.draw [oRM 16 0,oRM 17 3,oR 18 (.indexAddr 1 (.t 16) (.t 17)),oRD 19 18,oRM 20 0,oRM 21 1,oR 22 (.indexAddr 1 (.t 20) (.t 21)),oRD 23 22,oRM 12 0,oRM 13 1,oR 24 (.indexAddr 1 (.t 12) (.t 13)),oS 1 24 19,oRM 14 0,oRM 15 3,nK 25 (.indexAddr 1 (.t 14) (.t 15)) .read 1,⟨none,.store 1 (.t 25) (.t 23),none,.write,1,false⟩])
 (oQ [oM 26 1,oW 27 (.arith .add (.t 26) (oI 1)),oM 28 2,oW 29 (.arith .sub (.t 28) (oI 1)),oM 10 27,oM 11 29]
 (.seq (.block 0 (.loop t178l0))
 t178k4))))}
theorem c178:compFunc Tryz.prog Tryz.f178 .full=some t178:=by kernel_rfl
def t179:DFunc:={ntmps:=19,results:=[.t 2],mode:=.pure,body :=
 (oQ [oW 2 (.move (oI 0))]
 (.seq (oQ [oM 3 0,oW 4 (.arith .geq (.t 3) (.c (.int .u32 65536)))]
 (.cond (.t 4) (oQ [oM 5 0,oW 6 (.arith .shr (.t 5) (.c (.int .u64 16))),oM 0 6]
 (.region [oW 2 (.move (oI 16))])) .skip))
 (.seq (oQ [oM 7 0,oW 8 (.arith .geq (.t 7) (.c (.int .u32 256)))]
 (.cond (.t 8) (oQ [oM 9 0,oW 10 (.arith .shr (.t 9) (.c (.int .u64 8))),oM 0 10]
 (.region [oM 11 2,oW 12 (.arith .add (.t 11) (oI 8)),oM 2 12])) .skip))
 (oQ [oM 13 2,oM 14 0,oW 15 (.conv .u8 (.t 14)),oW 16 (.indexStr (.c (.str [0,1,2,2,3,3,3,3,4,4,4,4,4,4,4,4,5,5,5,5,5,5,5,5,5,5,5,5,5,5,5,5,6,6,6,6,6,6,6,6,6,6,6,6,6,6,6,6,6,6,6,6,6,6,6,6,6,6,6,6,6,6,6,6,7,7,7,7,7,7,7,7,7,7,7,7,7,7,7,7,7,7,7,7,7,7,7,7,7,7,7,7,7,7,7,7,7,7,7,7,7,7,7,7,7,7,7,7,7,7,7,7,7,7,7,7,7,7,7,7,7,7,7,7,7,7,7,7,8,8,8,8,8,8,8,8,8,8,8,8,8,8,8,8,8,8,8,8,8,8,8,8,8,8,8,8,8,8,8,8,8,8,8,8,8,8,8,8,8,8,8,8,8,8,8,8,8,8,8,8,8,8,8,8,8,8,8,8,8,8,8,8,8,8,8,8,8,8,8,8,8,8,8,8,8,8,8,8,8,8,8,8,8,8,8,8,8,8,8,8,8,8,8,8,8,8,8,8,8,8,8,8,8,8,8,8,8,8,8,8,8,8,8,8,8,8,8,8,8,8,8,8,8,8,8,8])) (.t 15)),oW 17 (.conv .i64 (.t 16)),oW 18 (.arith .add (.t 13) (.t 17)),oM 2 18]
 .ret))))}
theorem c179:compFunc Tryz.prog Tryz.f179 .pure=some t179:=by kernel_rfl
def t180:DFunc:={ntmps:=25,results:=[.t 2],mode:=.pure,body :=
 (oQ [oW 2 (.move (oI 0))]
 (.seq (oQ [oM 3 0,oW 4 (.arith .geq (.t 3) (.c (.int .u64 4294967296)))]
 (.cond (.t 4) (oQ [oM 5 0,oW 6 (.arith .shr (.t 5) (.c (.int .u64 32))),oM 0 6]
 (.region [oW 2 (.move (oI 32))])) .skip))
 (.seq (oQ [oM 7 0,oW 8 (.arith .geq (.t 7) (.c (.int .u64 65536)))]
 (.cond (.t 8) (oQ [oM 9 0,oW 10 (.arith .shr (.t 9) (.c (.int .u64 16))),oM 0 10]
 (.region [oM 11 2,oW 12 (.arith .add (.t 11) (oI 16)),oM 2 12])) .skip))
 (.seq (oQ [oM 13 0,oW 14 (.arith .geq (.t 13) (.c (.int .u64 256)))]
 (.cond (.t 14) (oQ [oM 15 0,oW 16 (.arith .shr (.t 15) (.c (.int .u64 8))),oM 0 16]
 (.region [oM 17 2,oW 18 (.arith .add (.t 17) (oI 8)),oM 2 18])) .skip))
 (oQ [oM 19 2,oM 20 0,oW 21 (.conv .u8 (.t 20)),oW 22 (.indexStr (.c (.str [0,1,2,2,3,3,3,3,4,4,4,4,4,4,4,4,5,5,5,5,5,5,5,5,5,5,5,5,5,5,5,5,6,6,6,6,6,6,6,6,6,6,6,6,6,6,6,6,6,6,6,6,6,6,6,6,6,6,6,6,6,6,6,6,7,7,7,7,7,7,7,7,7,7,7,7,7,7,7,7,7,7,7,7,7,7,7,7,7,7,7,7,7,7,7,7,7,7,7,7,7,7,7,7,7,7,7,7,7,7,7,7,7,7,7,7,7,7,7,7,7,7,7,7,7,7,7,7,8,8,8,8,8,8,8,8,8,8,8,8,8,8,8,8,8,8,8,8,8,8,8,8,8,8,8,8,8,8,8,8,8,8,8,8,8,8,8,8,8,8,8,8,8,8,8,8,8,8,8,8,8,8,8,8,8,8,8,8,8,8,8,8,8,8,8,8,8,8,8,8,8,8,8,8,8,8,8,8,8,8,8,8,8,8,8,8,8,8,8,8,8,8,8,8,8,8,8,8,8,8,8,8,8,8,8,8,8,8,8,8,8,8,8,8,8,8,8,8,8,8,8,8,8,8,8,8])) (.t 21)),oW 23 (.conv .i64 (.t 22)),oW 24 (.arith .add (.t 19) (.t 23)),oM 2 24]
 .ret)))))}
theorem c180:compFunc Tryz.prog Tryz.f180 .pure=some t180:=by kernel_rfl
end Go.Dm.Tc
