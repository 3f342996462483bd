/-
The table of functions, brought into the machine's form (Tc, part 2). Written by program (wip/tools/table.lean.txt).
-/
import Derived.Test.YtfnhanajiibciaaGreatTc0
import Derived.Test.YtfnhanajiibciaaGreatMm3
import Derived.Test.YtfnhanajiibciaaGreatRows
import Derived.KernelRfl
namespace Go.Dm.Tc
open Go.Proofs
def t176:DFunc:={ntmps:=17,results:=[.t 4],mode:=.pure,body :=
 (oQ [oW 4 (.move (oB false))]
 (oQ [oM 5 0,oW 6 (.call (oF 183) [.t 5]),oM 7 6,gM 8 1 7 true,gW 9 (.call (oF 183) [.t 8]) 7 true,gW 10 (.un .not (.t 9)) 7 true,oW 11 (.pick (.t 7) (.t 10) (oB false)),oM 12 11,gM 13 0 12 false,gM 14 1 12 false,gW 15 (.arith .lss (.t 13) (.t 14)) 12 false,oW 16 (.pick (.t 12) (oB true) (.t 15)),oM 4 16]
 .ret))}
theorem c176:compFunc Tryz.prog Tryz.f176 .pure=some t176:=by kernel_rfl
def t177l0:DCode :=
 (.seq (.seq (.draw [oRM 29 9,oRM 30 10,oR 31 (.arith .leq (.t 29) (.t 30)),oRM 32 31,rM 33 0 32 true,rM 34 1 32 true,rW 35 (.indexAddr 1 (.t 33) (.t 34)) 32 true,rD 36 35 32 true,rM 37 0 32 true,rM 38 9 32 true,rW 39 (.indexAddr 1 (.t 37) (.t 38)) 32 true,rD 40 39 32 true,gW 41 (.call (oF 176) [.t 36,.t 40]) 32 true,⟨(some 42),.un .not (.t 41),(some (32,true)),.read,1,false⟩,nK 43 (.pick (.t 32) (.t 42) (oB false)) .read 1])
 (.cond (.t 43) .skip (.exit 2)))
 (.block 3 (.region [oM 44 9,oW 45 (.arith .add (.t 44) (oI 1)),oM 9 45])))
def t177l1:DCode :=
 (.seq (.seq (.draw [oRM 46 9,oRM 47 10,oR 48 (.arith .leq (.t 46) (.t 47)),oRM 49 48,rM 50 0 49 true,rM 51 1 49 true,rW 52 (.indexAddr 1 (.t 50) (.t 51)) 49 true,rD 53 52 49 true,rM 54 0 49 true,rM 55 10 49 true,rW 56 (.indexAddr 1 (.t 54) (.t 55)) 49 true,rD 57 56 49 true,gW 58 (.call (oF 176) [.t 53,.t 57]) 49 true,nK 59 (.pick (.t 49) (.t 58) (oB false)) .read 1])
 (.cond (.t 59) .skip (.exit 4)))
 (.block 5 (.region [oM 60 10,oW 61 (.arith .sub (.t 60) (oI 1)),oM 10 61])))
def t177k0:DCode :=
 (.seq (oQ [oM 62 9,oM 63 10,oW 64 (.arith .gtr (.t 62) (.t 63))]
 (.cond (.t 64) (.exit 0) .skip))
 (.seq (.draw [oRM 69 0,oRM 70 10,oR 71 (.indexAddr 1 (.t 69) (.t 70)),oRD 72 71,oRM 73 0,oRM 74 9,oR 75 (.indexAddr 1 (.t 73) (.t 74)),oRD 76 75,oRM 65 0,oRM 66 9,oR 77 (.indexAddr 1 (.t 65) (.t 66)),oS 1 77 72,oRM 67 0,oRM 68 10,nK 78 (.indexAddr 1 (.t 67) (.t 68)) .read 1,⟨none,.store 1 (.t 78) (.t 76),none,.write,1,false⟩])
 (oQ [oM 79 9,oW 80 (.arith .add (.t 79) (oI 1)),oM 9 80]
 (.region [oM 81 10,oW 82 (.arith .sub (.t 81) (oI 1)),oM 10 82]))))
def t177k1:DCode :=
 (.seq (.block 4 (.loop t177l1))
 t177k0)
def t177l2:DCode :=
 (.block 1 (.seq (.block 2 (.loop t177l0))
 t177k1))
def t177k2:DCode :=
 (oQ [oM 83 9,oM 8 83]
 .ret)
def t177:DFunc:={ntmps:=84,results:=[.t 8],mode:=.full,body :=
 (oQ [oW 8 (.move (oI 0))]
 (.seq (.draw [oRM 15 0,oRM 16 3,oR 17 (.indexAddr 1 (.t 15) (.t 16)),oRD 18 17,oRM 19 0,oRM 20 1,oR 21 (.indexAddr 1 (.t 19) (.t 20)),oRD 22 21,oRM 11 0,oRM 12 1,oR 23 (.indexAddr 1 (.t 11) (.t 12)),oS 1 23 18,oRM 13 0,oRM 14 3,nK 24 (.indexAddr 1 (.t 13) (.t 14)) .read 1,⟨none,.store 1 (.t 24) (.t 22),none,.write,1,false⟩])
 (oQ [oM 25 1,oW 26 (.arith .add (.t 25) (oI 1)),oM 27 2,oW 28 (.arith .sub (.t 27) (oI 1)),oM 9 26,oM 10 28]
 (.seq (.block 0 (.loop t177l2))
 t177k2))))}
theorem c177:compFunc Tryz.prog Tryz.f177 .full=some t177:=by kernel_rfl
def t178l0:DCode :=
 (.seq (.seq (.draw [oRM 30 10,oRM 31 11,oR 32 (.arith .leq (.t 30) (.t 31)),oRM 33 32,rM 34 0 33 true,rM 35 10 33 true,rW 36 (.indexAddr 1 (.t 34) (.t 35)) 33 true,rD 37 36 33 true,rM 38 0 33 true,rM 39 1 33 true,rW 40 (.indexAddr 1 (.t 38) (.t 39)) 33 true,rD 41 40 33 true,gW 42 (.call (oF 176) [.t 37,.t 41]) 33 true,nK 43 (.pick (.t 33) (.t 42) (oB false)) .read 1])
 (.cond (.t 43) .skip (.exit 0)))
 (.block 1 (.region [oM 44 10,oW 45 (.arith .add (.t 44) (oI 1)),oM 10 45])))
def t178l1:DCode :=
 (.seq (.seq (.draw [oRM 46 10,oRM 47 11,oR 48 (.arith .leq (.t 46) (.t 47)),oRM 49 48,rM 50 0 49 true,rM 51 11 49 true,rW 52 (.indexAddr 1 (.t 50) (.t 51)) 49 true,rD 53 52 49 true,rM 54 0 49 true,rM 55 1 49 true,rW 56 (.indexAddr 1 (.t 54) (.t 55)) 49 true,rD 57 56 49 true,gW 58 (.call (oF 176) [.t 53,.t 57]) 49 true,⟨(some 59),.un .not (.t 58),(some (49,true)),.read,1,false⟩,nK 60 (.pick (.t 49) (.t 59) (oB false)) .read 1])
 (.cond (.t 60) .skip (.exit 2)))
 (.block 3 (.region [oM 61 11,oW 62 (.arith .sub (.t 61) (oI 1)),oM 11 62])))
def t178l2:DCode :=
 (.seq (.seq (.draw [oRM 99 10,oRM 100 11,oR 101 (.arith .leq (.t 99) (.t 100)),oRM 102 101,rM 103 0 102 true,rM 104 10 102 true,rW 105 (.indexAddr 1 (.t 103) (.t 104)) 102 true,rD 106 105 102 true,rM 107 0 102 true,rM 108 1 102 true,rW 109 (.indexAddr 1 (.t 107) (.t 108)) 102 true,rD 110 109 102 true,gW 111 (.call (oF 176) [.t 106,.t 110]) 102 true,nK 112 (.pick (.t 102) (.t 111) (oB false)) .read 1])
 (.cond (.t 112) .skip (.exit 6)))
 (.block 7 (.region [oM 113 10,oW 114 (.arith .add (.t 113) (oI 1)),oM 10 114])))
def t178l3:DCode :=
 (.seq (.seq (.draw [oRM 115 10,oRM 116 11,oR 117 (.arith .leq (.t 115) (.t 116)),oRM 118 117,rM 119 0 118 true,rM 120 11 118 true,rW 121 (.indexAddr 1 (.t 119) (.t 120)) 118 true,rD 122 121 118 true,rM 123 0 118 true,rM 124 1 118 true,rW 125 (.indexAddr 1 (.t 123) (.t 124)) 118 true,rD 126 125 118 true,gW 127 (.call (oF 176) [.t 122,.t 126]) 118 true,⟨(some 128),.un .not (.t 127),(some (118,true)),.read,1,false⟩,nK 129 (.pick (.t 118) (.t 128) (oB false)) .read 1])
 (.cond (.t 129) .skip (.exit 8)))
 (.block 9 (.region [oM 130 11,oW 131 (.arith .sub (.t 130) (oI 1)),oM 11 131])))
def t178k0:DCode :=
 (.seq (oQ [oM 132 10,oM 133 11,oW 134 (.arith .gtr (.t 132) (.t 133))]
 (.cond (.t 134) (.exit 4) .skip))
 (.seq (.draw [oRM 139 0,oRM 140 11,oR 141 (.indexAddr 1 (.t 139) (.t 140)),oRD 142 141,oRM 143 0,oRM 144 10,oR 145 (.indexAddr 1 (.t 143) (.t 144)),oRD 146 145,oRM 135 0,oRM 136 10,oR 147 (.indexAddr 1 (.t 135) (.t 136)),oS 1 147 142,oRM 137 0,oRM 138 11,nK 148 (.indexAddr 1 (.t 137) (.t 138)) .read 1,⟨none,.store 1 (.t 148) (.t 146),none,.write,1,false⟩])
 (oQ [oM 149 10,oW 150 (.arith .add (.t 149) (oI 1)),oM 10 150]
 (.region [oM 151 11,oW 152 (.arith .sub (.t 151) (oI 1)),oM 11 152]))))
def t178k1:DCode :=
 (.seq (.block 8 (.loop t178l3))
 t178k0)
def t178l4:DCode :=
 (.block 5 (.seq (.block 6 (.loop t178l2))
 t178k1))
def t178k2:DCode :=
 (.seq (.draw [oRM 157 0,oRM 158 1,oR 159 (.indexAddr 1 (.t 157) (.t 158)),oRD 160 159,oRM 161 0,oRM 162 11,oR 163 (.indexAddr 1 (.t 161) (.t 162)),oRD 164 163,oRM 153 0,oRM 154 11,oR 165 (.indexAddr 1 (.t 153) (.t 154)),oS 1 165 160,oRM 155 0,oRM 156 1,nK 166 (.indexAddr 1 (.t 155) (.t 156)) .read 1,⟨none,.store 1 (.t 166) (.t 164),none,.write,1,false⟩])
 (oQ [oM 167 11,oM 8 167,oW 9 (.move (oB false))]
 .ret))
def t178k3:DCode :=
 (.seq (oQ [oM 63 10,oM 64 11,oW 65 (.arith .gtr (.t 63) (.t 64))]
 (.cond (.t 65) (.seq (.draw [oRM 70 0,oRM 71 1,oR 72 (.indexAddr 1 (.t 70) (.t 71)),oRD 73 72,oRM 74 0,oRM 75 11,oR 76 (.indexAddr 1 (.t 74) (.t 75)),oRD 77 76,oRM 66 0,oRM 67 11,oR 78 (.indexAddr 1 (.t 66) (.t 67)),oS 1 78 73,oRM 68 0,oRM 69 1,nK 79 (.indexAddr 1 (.t 68) (.t 69)) .read 1,⟨none,.store 1 (.t 79) (.t 77),none,.write,1,false⟩])
 (oQ [oM 80 11,oM 8 80,oW 9 (.move (oB true))]
 .ret)) .skip))
 (.seq (.draw [oRM 85 0,oRM 86 11,oR 87 (.indexAddr 1 (.t 85) (.t 86)),oRD 88 87,oRM 89 0,oRM 90 10,oR 91 (.indexAddr 1 (.t 89) (.t 90)),oRD 92 91,oRM 81 0,oRM 82 10,oR 93 (.indexAddr 1 (.t 81) (.t 82)),oS 1 93 88,oRM 83 0,oRM 84 11,nK 94 (.indexAddr 1 (.t 83) (.t 84)) .read 1,⟨none,.store 1 (.t 94) (.t 92),none,.write,1,false⟩])
 (oQ [oM 95 10,oW 96 (.arith .add (.t 95) (oI 1)),oM 10 96]
 (oQ [oM 97 11,oW 98 (.arith .sub (.t 97) (oI 1)),oM 11 98]
 (.seq (.block 4 (.loop t178l4))
 t178k2)))))
def t178k4:DCode :=
 (.seq (.block 2 (.loop t178l1))
 t178k3)
def t178:DFunc:={ntmps:=168,results:=[.t 8,.t 9],mode:=.full,body :=
 (oQ [oW 8 (.move (oI 0)),oW 9 (.move (oB false))]
 (.seq (.draw [oRM 16 0,oRM 17 3,oR 18 (.indexAddr 1 (.t 16) (.t 17)),oRD 19 18,oRM 20 0,oRM 21 1,oR 22 (.indexAddr 1 (.t 20) (.t 21)),oRD 23 22,oRM 12 0,oRM 13 1,oR 24 (.indexAddr 1 (.t 12) (.t 13)),oS 1 24 19,oRM 14 0,oRM 15 3,nK 25 (.indexAddr 1 (.t 14) (.t 15)) .read 1,⟨none,.store 1 (.t 25) (.t 23),none,.write,1,false⟩])
 (oQ [oM 26 1,oW 27 (.arith .add (.t 26) (oI 1)),oM 28 2,oW 29 (.arith .sub (.t 28) (oI 1)),oM 10 27,oM 11 29]
 (.seq (.block 0 (.loop t178l0))
 t178k4))))}
theorem c178:compFunc Tryz.prog Tryz.f178 .full=some t178:=by kernel_rfl
def t179:DFunc:={ntmps:=19,results:=[.t 2],mode:=.pure,body :=
 (oQ [oW 2 (.move (oI 0))]
 (.seq (oQ [oM 3 0,oW 4 (.arith .geq (.t 3) (.c (.int .u32 65536)))]
 (.cond (.t 4) (oQ [oM 5 0,oW 6 (.arith .shr (.t 5) (.c (.int .u64 16))),oM 0 6]
 (.region [oW 2 (.move (oI 16))])) .skip))
 (.seq (oQ [oM 7 0,oW 8 (.arith .geq (.t 7) (.c (.int .u32 256)))]
 (.cond (.t 8) (oQ [oM 9 0,oW 10 (.arith .shr (.t 9) (.c (.int .u64 8))),oM 0 10]
 (.region [oM 11 2,oW 12 (.arith .add (.t 11) (oI 8)),oM 2 12])) .skip))
 (oQ [oM 13 2,oM 14 0,oW 15 (.conv .u8 (.t 14)),oW 16 (.indexStr (.c (.str [0,1,2,2,3,3,3,3,4,4,4,4,4,4,4,4,5,5,5,5,5,5,5,5,5,5,5,5,5,5,5,5,6,6,6,6,6,6,6,6,6,6,6,6,6,6,6,6,6,6,6,6,6,6,6,6,6,6,6,6,6,6,6,6,7,7,7,7,7,7,7,7,7,7,7,7,7,7,7,7,7,7,7,7,7,7,7,7,7,7,7,7,7,7,7,7,7,7,7,7,7,7,7,7,7,7,7,7,7,7,7,7,7,7,7,7,7,7,7,7,7,7,7,7,7,7,7,7,8,8,8,8,8,8,8,8,8,8,8,8,8,8,8,8,8,8,8,8,8,8,8,8,8,8,8,8,8,8,8,8,8,8,8,8,8,8,8,8,8,8,8,8,8,8,8,8,8,8,8,8,8,8,8,8,8,8,8,8,8,8,8,8,8,8,8,8,8,8,8,8,8,8,8,8,8,8,8,8,8,8,8,8,8,8,8,8,8,8,8,8,8,8,8,8,8,8,8,8,8,8,8,8,8,8,8,8,8,8,8,8,8,8,8,8,8,8,8,8,8,8,8,8,8,8,8,8])) (.t 15)),oW 17 (.conv .i64 (.t 16)),oW 18 (.arith .add (.t 13) (.t 17)),oM 2 18]
 .ret))))}
theorem c179:compFunc Tryz.prog Tryz.f179 .pure=some t179:=by kernel_rfl
def t180:DFunc:={ntmps:=25,results:=[.t 2],mode:=.pure,body :=
 (oQ [oW 2 (.move (oI 0))]
 (.seq (oQ [oM 3 0,oW 4 (.arith .geq (.t 3) (.c (.int .u64 4294967296)))]
 (.cond (.t 4) (oQ [oM 5 0,oW 6 (.arith .shr (.t 5) (.c (.int .u64 32))),oM 0 6]
 (.region [oW 2 (.move (oI 32))])) .skip))
 (.seq (oQ [oM 7 0,oW 8 (.arith .geq (.t 7) (.c (.int .u64 65536)))]
 (.cond (.t 8) (oQ [oM 9 0,oW 10 (.arith .shr (.t 9) (.c (.int .u64 16))),oM 0 10]
 (.region [oM 11 2,oW 12 (.arith .add (.t 11) (oI 16)),oM 2 12])) .skip))
 (.seq (oQ [oM 13 0,oW 14 (.arith .geq (.t 13) (.c (.int .u64 256)))]
 (.cond (.t 14) (oQ [oM 15 0,oW 16 (.arith .shr (.t 15) (.c (.int .u64 8))),oM 0 16]
 (.region [oM 17 2,oW 18 (.arith .add (.t 17) (oI 8)),oM 2 18])) .skip))
 (oQ [oM 19 2,oM 20 0,oW 21 (.conv .u8 (.t 20)),oW 22 (.indexStr (.c (.str [0,1,2,2,3,3,3,3,4,4,4,4,4,4,4,4,5,5,5,5,5,5,5,5,5,5,5,5,5,5,5,5,6,6,6,6,6,6,6,6,6,6,6,6,6,6,6,6,6,6,6,6,6,6,6,6,6,6,6,6,6,6,6,6,7,7,7,7,7,7,7,7,7,7,7,7,7,7,7,7,7,7,7,7,7,7,7,7,7,7,7,7,7,7,7,7,7,7,7,7,7,7,7,7,7,7,7,7,7,7,7,7,7,7,7,7,7,7,7,7,7,7,7,7,7,7,7,7,8,8,8,8,8,8,8,8,8,8,8,8,8,8,8,8,8,8,8,8,8,8,8,8,8,8,8,8,8,8,8,8,8,8,8,8,8,8,8,8,8,8,8,8,8,8,8,8,8,8,8,8,8,8,8,8,8,8,8,8,8,8,8,8,8,8,8,8,8,8,8,8,8,8,8,8,8,8,8,8,8,8,8,8,8,8,8,8,8,8,8,8,8,8,8,8,8,8,8,8,8,8,8,8,8,8,8,8,8,8,8,8,8,8,8,8,8,8,8,8,8,8,8,8,8,8,8,8])) (.t 21)),oW 23 (.conv .i64 (.t 22)),oW 24 (.arith .add (.t 19) (.t 23)),oM 2 24]
 .ret)))))}
theorem c180:compFunc Tryz.prog Tryz.f180 .pure=some t180:=by kernel_rfl
def t181:DFunc:={ntmps:=14,results:=[],mode:=.full,body :=
 (oQ [oM 4 0,oM 5 1,oW 6 (.sliceSl 4 (.t 4) none (some (.t 5))),oW 7 (.call (oF 204) [.t 6])]
 (oQ [oM 8 0,oM 9 1,oW 10 (.sliceSl 4 (.t 8) (some (.t 9)) none),oW 11 (.call (oF 204) [.t 10])]
 (.region [oM 12 0,oW 13 (.call (oF 204) [.t 12])])))}
theorem c181:compFunc Tryz.prog Tryz.f181 .full=some t181:=by kernel_rfl
def t182:DFunc:={ntmps:=14,results:=[],mode:=.full,body :=
 (oQ [oM 4 0,oM 5 1,oW 6 (.sliceSl 2 (.t 4) none (some (.t 5))),oW 7 (.call (oF 205) [.t 6])]
 (oQ [oM 8 0,oM 9 1,oW 10 (.sliceSl 2 (.t 8) (some (.t 9)) none),oW 11 (.call (oF 205) [.t 10])]
 (.region [oM 12 0,oW 13 (.call (oF 205) [.t 12])])))}
theorem c182:compFunc Tryz.prog Tryz.f182 .full=some t182:=by kernel_rfl
def t183:DFunc:={ntmps:=6,results:=[.t 2],mode:=.pure,body :=
 (oQ [oW 2 (.move (oB false))]
 (oQ [oM 3 0,oM 4 0,oW 5 (.arith .neq (.t 3) (.t 4)),oM 2 5]
 .ret))}
theorem c183:compFunc Tryz.prog Tryz.f183 .pure=some t183:=by kernel_rfl
def t185l0:DCode :=
 (oQ [oW 7 (.arith .lss (.t 6) (.t 5))]
 (.seq (.cond (.t 7) .skip (.exit 0))
 (.seq (.block 1 (oQ [oM 8 6,oM 3 8]
 (oQ [oM 9 0,oM 10 3,oW 11 (.indexStr (.t 9) (.t 10)),oW 12 (.arith .lss (.t 11) (.c (.int .u8 97))),oM 13 12,gM 14 0 13 false,gM 15 3 13 false,gW 16 (.indexStr (.t 14) (.t 15)) 13 false,gW 17 (.arith .gtr (.t 16) (.c (.int .u8 122))) 13 false,oW 18 (.pick (.t 13) (oB true) (.t 17))]
 (.cond (.t 18) (oQ [oW 2 (.move (oB false))]
 .ret) .skip))))
 (.region [oW 19 (.arith .add (.t 6) (oI 1)),oM 6 19]))))
def t185k0:DCode :=
 (oQ [oM 20 0,oW 21 (.arith .neq (.t 20) (.c (.str []))),oM 22 21,gM 23 0 22 true,gW 24 (.len 0 (.t 23)) 22 true,gW 25 (.arith .leq (.t 24) (oI 12)) 22 true,oW 26 (.pick (.t 22) (.t 25) (oB false)),oM 2 26]
 .ret)
def t185:DFunc:={ntmps:=27,results:=[.t 2],mode:=.pure,body :=
 (oQ [oW 2 (.move (oB false))]
 (.seq (oQ [oM 4 0,oW 5 (.len 0 (.t 4)),oW 6 (.move (oI 0))]
 (.block 0 (.loop t185l0)))
 t185k0))}
theorem c185:compFunc Tryz.prog Tryz.f185 .pure=some t185:=by kernel_rfl
def t187:DFunc:={ntmps:=14,results:=[],mode:=.full,body :=
 (oQ [oM 4 0,oM 5 1,oW 6 (.sliceSl 7 (.t 4) none (some (.t 5))),oW 7 (.call (oF 207) [.t 6])]
 (oQ [oM 8 0,oM 9 1,oW 10 (.sliceSl 7 (.t 8) (some (.t 9)) none),oW 11 (.call (oF 207) [.t 10])]
 (.region [oM 12 0,oW 13 (.call (oF 207) [.t 12])])))}
theorem c187:compFunc Tryz.prog Tryz.f187 .full=some t187:=by kernel_rfl
def t190:DFunc:={ntmps:=15,results:=[.t 6],mode:=.pure,body :=
 (oQ [oW 6 (.move (.c .nili))]
 (.seq (oQ [oM 7 2,oW 8 (.eqn 4 false (.t 7) (.c .nili))]
 (.cond (.t 8) (oQ [oW 6 (.move (.c .nili))]
 .ret) .skip))
 (oQ [oM 9 0,oM 10 1,oM 11 2,oW 12 (.build [.str [],.int .i64 0,.nili] [(0,1,.t 9),(1,1,.t 10),(2,1,.t 11)]),oW 13 (.box 242 3 (.t 12)),oW 14 (.makeIface 240 (.t 13)),oM 6 14]
 .ret)))}
theorem c190:compFunc Tryz.prog Tryz.f190 .pure=some t190:=by kernel_rfl
def t191l0:DCode :=
 (.seq (oQ [oM 15 9,oM 16 10,oW 17 (.arith .lss (.t 15) (.t 16))]
 (.cond (.t 17) .skip (.exit 0)))
 (.block 1 (oQ [oM 18 9,oM 19 10,oW 20 (.arith .add (.t 18) (.t 19)),oW 21 (.conv .u64 (.t 20)),oW 22 (.arith .shr (.t 21) (.c (.int .u64 1))),oW 23 (.conv .i64 (.t 22)),oM 11 23]
 (oQ [oM 24 2,oM 25 0,oM 26 11,oW 27 (.indexAddr 5 (.t 25) (.t 26)),oL 28 5 27,oM 29 1,oW 30 (.call (.t 24) [.t 28,.t 29]),oW 31 (.arith .lss (.t 30) (oI 0))]
 (.cond (.t 31) (.region [oM 32 11,oW 33 (.arith .add (.t 32) (oI 1)),oM 9 33]) (.region [oM 34 11,oM 10 34]))))))
def t191k0:DCode :=
 (oQ [oM 35 9,oM 36 9,oM 37 8,oW 38 (.arith .lss (.t 36) (.t 37)),oM 39 38,gM 40 2 39 true,gM 41 0 39 true,gM 42 9 39 true,gW 43 (.indexAddr 5 (.t 41) (.t 42)) 39 true,gL 44 5 43 39 true,gM 45 1 39 true,gW 46 (.call (.t 40) [.t 44,.t 45]) 39 true,gW 47 (.arith .eql (.t 46) (oI 0)) 39 true,oW 48 (.pick (.t 39) (.t 47) (oB false)),oM 6 35,oM 7 48]
 .ret)
def t191:DFunc:={ntmps:=49,results:=[.t 6,.t 7],mode:=.pure,body :=
 (oQ [oW 6 (.move (oI 0)),oW 7 (.move (oB false))]
 (oQ [oM 12 0,oW 13 (.len 1 (.t 12)),oM 8 13]
 (oQ [oM 14 8,oW 9 (.move (oI 0)),oM 10 14]
 (.seq (.block 0 (.loop t191l0))
 t191k0))))}
theorem c191:compFunc Tryz.prog Tryz.f191 .pure=some t191:=by kernel_rfl
def t192:DFunc:={ntmps:=9,results:=[.t 4],mode:=.pure,body :=
 (oQ [oW 2 (.box 62 5 (.t 0)),oW 4 (.move (oI 0))]
 (oQ [oA 5 0 2,oD 6 5,oM 7 1,oW 8 (.call (oF 193) [.t 6,.t 7]),oM 4 8]
 .ret))}
theorem c192:compFunc Tryz.prog Tryz.f192 .pure=some t192:=by kernel_rfl
def t193:DFunc:={ntmps:=8,results:=[.t 4],mode:=.pure,body :=
 (oQ [oW 4 (.move (oI 0))]
 (oQ [oM 5 0,oM 6 1,oW 7 (.call (oF 208) [.t 5,.t 6]),oM 4 7]
 .ret))}
theorem c193:compFunc Tryz.prog Tryz.f193 .pure=some t193:=by kernel_rfl
def t194:DFunc:={ntmps:=69,results:=[(.cell 4 (some 5)),.t 5],mode:=.pure,body :=
 (oQ [oW 2 (.box 62 5 (.t 0)),oW 3 (.box 62 5 (.t 1)),oW 4 (.alloc 62 5 (.agg [.str [],.int .i64 0,.int .i64 0,.int .i64 0,.str []])),oW 5 (.move (oB false))]
 (oQ [oW 7 (.build [.str [],.int .i64 0,.int .i64 0,.int .i64 0,.str []] []),oW 6 (.alloc 62 5 (.agg [.str [],.int .i64 0,.int .i64 0,.int .i64 0,.str []])),oS 5 6 7]
 (.seq (oQ [oA 8 1 2,oD 9 8,oA 10 1 3,oD 11 10,oW 12 (.arith .gtr (.t 9) (.t 11))]
 (.cond (.t 12) (.region [oL 13 5 3,oL 14 5 2,oS 5 2 13,oS 5 3 14]) .skip))
 (.seq (oQ [oA 15 1 2,oD 16 15]
 (.block 0 (.seq (.block 3 (.seq (.block 2 (.seq (.block 1 (.seq (.seq (oQ [oW 18 (.arith .eql (.t 16) (oI 1)),oM 17 18]
 (.cond (.t 17) (.exit 1) .skip))
 (.seq (oQ [oW 20 (.arith .eql (.t 16) (oI 3)),oM 19 20]
 (.cond (.t 19) (.exit 2) .skip))
 (oQ [oW 22 (.arith .eql (.t 16) (oI 2)),oM 21 22]
 (.cond (.t 21) (.exit 3) .skip))))
 (.exit 0)))
 (.seq (.seq (oQ [oA 23 1 3,oD 24 23,oW 25 (.arith .neq (.t 24) (oI 1)),oM 26 25,gA 27 2 2 26 false,gD 28 27 26 false,gA 29 2 3 26 false,gD 30 29 26 false,gW 31 (.minmax true (.t 28) (.t 30)) 26 false,gA 32 3 2 26 false,gD 33 32 26 false,gA 34 3 3 26 false,gD 35 34 26 false,gW 36 (.minmax false (.t 33) (.t 35)) 26 false,gW 37 (.arith .gtr (.t 31) (.t 36)) 26 false,oW 38 (.pick (.t 26) (oB true) (.t 37))]
 (.cond (.t 38) (oQ [oL 39 5 6,oS 5 4 39,oW 5 (.move (oB false))]
 .ret) .skip))
 (.seq (.draw [oRA 40 2 2,⟨(some 41),.load none (.t 40),none,.read,0,true⟩,oRA 42 2 3,⟨(some 43),.load none (.t 42),none,.read,0,true⟩,oRA 45 3 2,⟨(some 46),.load none (.t 45),none,.read,0,true⟩,oRA 47 3 3,oRD 48 47,oR 44 (.minmax true (.t 41) (.t 43)),oRA 50 2 2,⟨none,.store 1 (.t 50) (.t 44),none,.create,0,false⟩,oR 49 (.minmax false (.t 46) (.t 48)),nK 51 (.fieldAddr 3 (.t 2)) .read 1,⟨none,.store 1 (.t 51) (.t 49),none,.write,1,false⟩])
 (oQ [oL 52 5 2,oS 5 4 52,oW 5 (.move (oB true))]
 .ret)))
 (.exit 0))))
 (oQ [oA 53 4 2,oD 54 53,oW 55 (.len 0 (.t 54)),oA 56 4 3,oD 57 56,oW 58 (.len 0 (.t 57)),oW 59 (.arith .lss (.t 55) (.t 58))]
 (.cond (.t 59) (.region [oL 60 5 3,oL 61 5 2,oS 5 2 60,oS 5 3 61]) .skip))))
 (.seq (.seq (.draw [oRL 62 5 3,oRA 63 4 2,oRD 64 63,nK 65 (.call (oF 168) [.t 64]) .create 0,nK 66 (.call (oF 167) [.t 62,.t 65]) .write 1])
 (.cond (.t 66) (oQ [oL 67 5 2,oS 5 4 67,oW 5 (.move (oB true))]
 .ret) .skip))
 (.exit 0)))))
 (oQ [oL 68 5 6,oS 5 4 68,oW 5 (.move (oB false))]
 .ret)))))}
theorem c194:compFunc Tryz.prog Tryz.f194 .pure=some t194:=by kernel_rfl
def t195:DFunc:={ntmps:=95,results:=[.t 6],mode:=.split,body :=
 (oQ [oW 6 (.move (.c .nsl))]
 (oQ [oM 10 0,oM 11 1,oW 12 (.sliceSl 5 (.t 10) (some (.t 11)) none)]
 (oQ [oM 13 2,oW 14 (.len 1 (.t 13)),oM 7 14]
 (.seq (oQ [oM 15 7,oW 16 (.arith .eql (.t 15) (oI 0))]
 (.cond (.t 16) (oQ [oM 17 0,oM 6 17]
 .ret) .skip))
 (oQ [oM 18 0,oW 19 (.len 1 (.t 18)),oM 8 19]
 (.seq (oQ [oM 20 1,oM 21 8,oW 22 (.arith .eql (.t 20) (.t 21))]
 (.cond (.t 22) (oQ [oM 23 0,oM 24 2,oW 25 (.append 62 5 56 (.t 23) (.t 24)),oM 6 25]
 .ret) .skip))
 (.seq (oQ [oM 26 8,oM 27 7,oW 28 (.arith .add (.t 26) (.t 27)),oM 29 0,oW 30 (.cap (.t 29)),oW 31 (.arith .gtr (.t 28) (.t 30))]
 (.cond (.t 31) (oQ [oM 32 0,oM 33 1,oW 34 (.sliceSl 5 (.t 32) none (some (.t 33))),oM 35 8,oM 36 7,oW 37 (.arith .add (.t 35) (.t 36)),oM 38 1,oW 39 (.arith .sub (.t 37) (.t 38)),oW 40 (.appendZ 62 5 56 (.agg [.str [],.int .i64 0,.int .i64 0,.int .i64 0,.str []]) (.t 34) (.t 39)),oM 9 40]
 (oQ [oM 41 9,oM 42 1,oW 43 (.sliceSl 5 (.t 41) (some (.t 42)) none),oM 44 2,oW 45 (.copy 5 (.t 43) (.t 44))]
 (.seq (.draw [oRM 46 9,oRM 47 1,oRM 48 7,oR 49 (.arith .add (.t 47) (.t 48)),oR 50 (.sliceSl 5 (.t 46) (some (.t 49)) none),oRM 51 0,oRM 52 1,oR 53 (.sliceSl 5 (.t 51) (some (.t 52)) none),oW 54 (.copy 5 (.t 50) (.t 53))])
 (oQ [oM 55 9,oM 6 55]
 .ret)))) .skip))
 (oQ [oM 56 0,oM 57 8,oM 58 7,oW 59 (.arith .add (.t 57) (.t 58)),oW 60 (.sliceSl 5 (.t 56) none (some (.t 59))),oM 0 60]
 (.seq (oQ [oM 61 2,oM 62 0,oM 63 1,oM 64 7,oW 65 (.arith .add (.t 63) (.t 64)),oW 66 (.sliceSl 5 (.t 62) (some (.t 65)) none),oW 67 (.call (oF 209) [.t 61,.t 66]),oW 68 (.un .not (.t 67))]
 (.cond (.t 68) (.seq (.draw [oRM 69 0,oRM 70 1,oRM 71 7,oR 72 (.arith .add (.t 70) (.t 71)),oR 73 (.sliceSl 5 (.t 69) (some (.t 72)) none),oRM 74 0,oRM 75 1,oR 76 (.sliceSl 5 (.t 74) (some (.t 75)) none),oW 77 (.copy 5 (.t 73) (.t 76))])
 (oQ [oM 78 0,oM 79 1,oW 80 (.sliceSl 5 (.t 78) (some (.t 79)) none),oM 81 2,oW 82 (.copy 5 (.t 80) (.t 81))]
 (oQ [oM 83 0,oM 6 83]
 .ret))) .skip))
 (oQ [oM 84 0,oM 85 8,oW 86 (.sliceSl 5 (.t 84) (some (.t 85)) none),oM 87 2,oW 88 (.copy 5 (.t 86) (.t 87))]
 (oQ [oM 89 0,oM 90 1,oW 91 (.sliceSl 5 (.t 89) (some (.t 90)) none),oM 92 7,oW 93 (.call (oF 210) [.t 91,.t 92])]
 (oQ [oM 94 0,oM 6 94]
 .ret))))))))))))}
theorem c195:compFunc Tryz.prog Tryz.f195 .split=some t195:=by kernel_rfl
def t196:DFunc:={ntmps:=5,results:=[(.cell 2 (some 3))],mode:=.pure,body :=
 (oQ [oW 2 (.alloc 202 3 (.agg [.bool false,.int .i64 0,.str []]))]
 (oQ [oM 3 0,oW 4 (.build [.bool false,.int .i64 0,.str []] [(1,1,.t 3)]),oS 3 2 4]
 .ret))}
theorem c196:compFunc Tryz.prog Tryz.f196 .pure=some t196:=by kernel_rfl
def t197:DFunc:={ntmps:=14,results:=[],mode:=.full,body :=
 (oQ [oM 4 0,oM 5 1,oW 6 (.sliceSl 3 (.t 4) none (some (.t 5))),oW 7 (.call (oF 211) [.t 6])]
 (oQ [oM 8 0,oM 9 1,oW 10 (.sliceSl 3 (.t 8) (some (.t 9)) none),oW 11 (.call (oF 211) [.t 10])]
 (.region [oM 12 0,oW 13 (.call (oF 211) [.t 12])])))}
theorem c197:compFunc Tryz.prog Tryz.f197 .full=some t197:=by kernel_rfl
def t198:DFunc:={ntmps:=18,results:=[.t 4],mode:=.pure,body :=
 (oQ [oW 4 (.move (oB false))]
 (oQ [oM 5 0,oW 6 (.len 0 (.t 5)),oM 7 1,oW 8 (.len 0 (.t 7)),oW 9 (.arith .geq (.t 6) (.t 8)),oM 10 9,gM 11 0 10 true,gM 12 1 10 true,gW 13 (.len 0 (.t 12)) 10 true,gW 14 (.sliceStr (.t 11) none (some (.t 13))) 10 true,gM 15 1 10 true,gW 16 (.arith .eql (.t 14) (.t 15)) 10 true,oW 17 (.pick (.t 10) (.t 16) (oB false)),oM 4 17]
 .ret))}
theorem c198:compFunc Tryz.prog Tryz.f198 .pure=some t198:=by kernel_rfl
def t199l0:DCode :=
 (.block 1 (oQ [oM 11 8,oW 12 (.arith .mul (oI 2) (.t 11)),oW 13 (.arith .add (.t 12) (oI 1)),oM 9 13]
 (.seq (oQ [oM 14 9,oM 15 2,oW 16 (.arith .geq (.t 14) (.t 15))]
 (.cond (.t 16) (.exit 0) .skip))
 (.seq (.seq (.draw [oRM 17 9,oR 18 (.arith .add (.t 17) (oI 1)),oRM 19 2,oR 20 (.arith .lss (.t 18) (.t 19)),oRM 21 20,rM 22 0 21 true,rM 23 3 21 true,rM 24 9 21 true,rW 25 (.arith .add (.t 23) (.t 24)) 21 true,rW 26 (.indexAddr 1 (.t 22) (.t 25)) 21 true,rD 27 26 21 true,rM 28 0 21 true,rM 29 3 21 true,rM 30 9 21 true,rW 31 (.arith .add (.t 29) (.t 30)) 21 true,rW 32 (.arith .add (.t 31) (oI 1)) 21 true,rW 33 (.indexAddr 1 (.t 28) (.t 32)) 21 true,rD 34 33 21 true,gW 35 (.call (oF 176) [.t 27,.t 34]) 21 true,nK 36 (.pick (.t 21) (.t 35) (oB false)) .read 1])
 (.cond (.t 36) (.region [oM 37 9,oW 38 (.arith .add (.t 37) (oI 1)),oM 9 38]) .skip))
 (.seq (.seq (.draw [oRM 39 0,oRM 40 3,oRM 41 8,oR 42 (.arith .add (.t 40) (.t 41)),oR 43 (.indexAddr 1 (.t 39) (.t 42)),oRD 44 43,oRM 45 0,oRM 46 3,oRM 47 9,oR 48 (.arith .add (.t 46) (.t 47)),oR 49 (.indexAddr 1 (.t 45) (.t 48)),oRD 50 49,oW 51 (.call (oF 176) [.t 44,.t 50]),nK 52 (.un .not (.t 51)) .read 1])
 (.cond (.t 52) .ret .skip))
 (.seq (.draw [oRM 61 0,oRM 62 3,oRM 63 9,oR 64 (.arith .add (.t 62) (.t 63)),oR 65 (.indexAddr 1 (.t 61) (.t 64)),oRD 66 65,oRM 67 0,oRM 68 3,oRM 69 8,oR 70 (.arith .add (.t 68) (.t 69)),oR 71 (.indexAddr 1 (.t 67) (.t 70)),oRD 72 71,oRM 53 0,oRM 54 3,oRM 55 8,oR 56 (.arith .add (.t 54) (.t 55)),oR 73 (.indexAddr 1 (.t 53) (.t 56)),oS 1 73 66,oRM 57 0,oRM 58 3,oRM 59 9,oR 60 (.arith .add (.t 58) (.t 59)),nK 74 (.indexAddr 1 (.t 57) (.t 60)) .read 1,⟨none,.store 1 (.t 74) (.t 72),none,.write,1,false⟩])
 (.region [oM 75 9,oM 8 75])))))))
def t199:DFunc:={ntmps:=76,results:=[],mode:=.full,body :=
 (oQ [oM 10 1,oM 8 10]
 (.block 0 (.loop t199l0)))}
theorem c199:compFunc Tryz.prog Tryz.f199 .full=some t199:=by kernel_rfl
def t200:DFunc:={ntmps:=7,results:=[.t 2],mode:=.pure,body :=
 (oQ [oW 2 (.move (.c (.int .u64 0)))]
 (oQ [oM 3 0,oW 4 (.conv .u64 (.t 3)),oW 5 (.call (oF 135) [.t 4]),oW 6 (.arith .shl (.c (.int .u64 1)) (.t 5)),oM 2 6]
 .ret))}
theorem c200:compFunc Tryz.prog Tryz.f200 .pure=some t200:=by kernel_rfl
def t201:DFunc:={ntmps:=33,results:=[.t 2],mode:=.full,body :=
 (oQ [oW 2 (.move (.c (.int .u64 0)))]
 (.seq (.draw [oRM 3 0,oR 4 (.nilCheck (.t 3)),oRD 5 4,oRM 6 0,oR 7 (.nilCheck (.t 6)),oRD 8 7,oR 9 (.arith .shl (.t 8) (.c (.int .u64 13))),oR 10 (.arith .xor (.t 5) (.t 9)),oR 11 (.nilCheck (.t 3)),oS 1 11 10])
 (.seq (.draw [oRM 12 0,oR 13 (.nilCheck (.t 12)),oRD 14 13,oRM 15 0,oR 16 (.nilCheck (.t 15)),oRD 17 16,oR 18 (.arith .shr (.t 17) (.c (.int .u64 7))),oR 19 (.arith .xor (.t 14) (.t 18)),oR 20 (.nilCheck (.t 12)),oS 1 20 19])
 (.seq (.draw [oRM 21 0,oR 22 (.nilCheck (.t 21)),oRD 23 22,oRM 24 0,oR 25 (.nilCheck (.t 24)),oRD 26 25,oR 27 (.arith .shl (.t 26) (.c (.int .u64 17))),oR 28 (.arith .xor (.t 23) (.t 27)),oR 29 (.nilCheck (.t 21)),oS 1 29 28])
 (oQ [oM 30 0,oW 31 (.nilCheck (.t 30)),oD 32 31,oM 2 32]
 .ret)))))}
theorem c201:compFunc Tryz.prog Tryz.f201 .full=some t201:=by kernel_rfl
def t202:DFunc:={ntmps:=15,results:=[.t 6],mode:=.full,body :=
 (oQ [oW 6 (.move (oI 0))]
 (oQ [oM 7 0,oM 8 1,oW 9 (.arith .sub (.t 8) (oI 1)),oM 10 1,oM 11 1,oW 12 (.arith .add (.t 11) (oI 1)),oM 13 2,oW 14 (.call (oF 203) [.t 7,.t 9,.t 10,.t 12,.t 13]),oM 6 14]
 .ret))}
theorem c202:compFunc Tryz.prog Tryz.f202 .full=some t202:=by kernel_rfl
def t203:DFunc:={ntmps:=36,results:=[.t 10],mode:=.full,body :=
 (oQ [oW 10 (.move (oI 0))]
 (oQ [oM 12 0,oM 13 1,oM 14 2,oM 15 4,oW 16 (.call (oF 212) [.t 12,.t 13,.t 14,.t 15]),oM 11 16,oX 17 11 0,oX 18 11 1,oM 1 17,oM 2 18]
 (oQ [oM 20 0,oM 21 2,oM 22 3,oM 23 4,oW 24 (.call (oF 212) [.t 20,.t 21,.t 22,.t 23]),oM 19 24,oX 25 19 0,oX 26 19 1,oM 2 25,oM 3 26]
 (oQ [oM 28 0,oM 29 1,oM 30 2,oM 31 4,oW 32 (.call (oF 212) [.t 28,.t 29,.t 30,.t 31]),oM 27 32,oX 33 27 0,oX 34 27 1,oM 1 33,oM 2 34]
 (oQ [oM 35 2,oM 10 35]
 .ret)))))}
theorem c203:compFunc Tryz.prog Tryz.f203 .full=some t203:=by kernel_rfl
def t204l0:DCode :=
 (.seq (oQ [oM 7 2,oM 8 3,oW 9 (.arith .lss (.t 7) (.t 8))]
 (.cond (.t 9) .skip (.exit 0)))
 (.seq (.block 1 (.draw [oRM 18 0,oRM 19 3,oR 20 (.indexAddr 4 (.t 18) (.t 19)),oRL 21 4 20,oRM 22 0,oRM 23 2,oR 24 (.indexAddr 4 (.t 22) (.t 23)),oRL 25 4 24,oRM 14 0,oRM 15 2,oR 26 (.indexAddr 4 (.t 14) (.t 15)),oS 4 26 21,oRM 16 0,oRM 17 3,nK 27 (.indexAddr 4 (.t 16) (.t 17)) .read 1,⟨none,.store 4 (.t 27) (.t 25),none,.write,1,false⟩]))
 (.region [oM 10 2,oW 11 (.arith .add (.t 10) (oI 1)),oM 12 3,oW 13 (.arith .sub (.t 12) (oI 1)),oM 2 11,oM 3 13])))
def t204:DFunc:={ntmps:=28,results:=[],mode:=.full,body :=
 (oQ [oM 4 0,oW 5 (.len 1 (.t 4)),oW 6 (.arith .sub (.t 5) (oI 1)),oW 2 (.move (oI 0)),oM 3 6]
 (.block 0 (.loop t204l0)))}
theorem c204:compFunc Tryz.prog Tryz.f204 .full=some t204:=by kernel_rfl
def t205l0:DCode :=
 (.seq (oQ [oM 7 2,oM 8 3,oW 9 (.arith .lss (.t 7) (.t 8))]
 (.cond (.t 9) .skip (.exit 0)))
 (.seq (.block 1 (.draw [oRM 18 0,oRM 19 3,oR 20 (.indexAddr 2 (.t 18) (.t 19)),oRL 21 2 20,oRM 22 0,oRM 23 2,oR 24 (.indexAddr 2 (.t 22) (.t 23)),oRL 25 2 24,oRM 14 0,oRM 15 2,oR 26 (.indexAddr 2 (.t 14) (.t 15)),oS 2 26 21,oRM 16 0,oRM 17 3,nK 27 (.indexAddr 2 (.t 16) (.t 17)) .read 1,⟨none,.store 2 (.t 27) (.t 25),none,.write,1,false⟩]))
 (.region [oM 10 2,oW 11 (.arith .add (.t 10) (oI 1)),oM 12 3,oW 13 (.arith .sub (.t 12) (oI 1)),oM 2 11,oM 3 13])))
def t205:DFunc:={ntmps:=28,results:=[],mode:=.full,body :=
 (oQ [oM 4 0,oW 5 (.len 1 (.t 4)),oW 6 (.arith .sub (.t 5) (oI 1)),oW 2 (.move (oI 0)),oM 3 6]
 (.block 0 (.loop t205l0)))}
theorem c205:compFunc Tryz.prog Tryz.f205 .full=some t205:=by kernel_rfl
def t207l0:DCode :=
 (.seq (oQ [oM 7 2,oM 8 3,oW 9 (.arith .lss (.t 7) (.t 8))]
 (.cond (.t 9) .skip (.exit 0)))
 (.seq (.block 1 (.draw [oRM 18 0,oRM 19 3,oR 20 (.indexAddr 7 (.t 18) (.t 19)),oRL 21 7 20,oRM 22 0,oRM 23 2,oR 24 (.indexAddr 7 (.t 22) (.t 23)),oRL 25 7 24,oRM 14 0,oRM 15 2,oR 26 (.indexAddr 7 (.t 14) (.t 15)),oS 7 26 21,oRM 16 0,oRM 17 3,nK 27 (.indexAddr 7 (.t 16) (.t 17)) .read 1,⟨none,.store 7 (.t 27) (.t 25),none,.write,1,false⟩]))
 (.region [oM 10 2,oW 11 (.arith .add (.t 10) (oI 1)),oM 12 3,oW 13 (.arith .sub (.t 12) (oI 1)),oM 2 11,oM 3 13])))
def t207:DFunc:={ntmps:=28,results:=[],mode:=.full,body :=
 (oQ [oM 4 0,oW 5 (.len 1 (.t 4)),oW 6 (.arith .sub (.t 5) (oI 1)),oW 2 (.move (oI 0)),oM 3 6]
 (.block 0 (.loop t207l0)))}
theorem c207:compFunc Tryz.prog Tryz.f207 .full=some t207:=by kernel_rfl
def t208:DFunc:={ntmps:=8,results:=[.t 4],mode:=.pure,body :=
 (oQ [oW 4 (.move (oI 0))]
 (oQ [oM 5 0,oM 6 1,oW 7 (.call (oF 213) [.t 5,.t 6]),oM 4 7]
 .ret))}
theorem c208:compFunc Tryz.prog Tryz.f208 .pure=some t208:=by kernel_rfl
def t210:DFunc:={ntmps:=10,results:=[],mode:=.full,body :=
 (.region [oM 4 0,oM 5 0,oW 6 (.len 1 (.t 5)),oM 7 1,oW 8 (.arith .sub (.t 6) (.t 7)),oW 9 (.call (oF 214) [.t 4,.t 8])])}
theorem c210:compFunc Tryz.prog Tryz.f210 .full=some t210:=by kernel_rfl
def t211l0:DCode :=
 (.seq (oQ [oM 7 2,oM 8 3,oW 9 (.arith .lss (.t 7) (.t 8))]
 (.cond (.t 9) .skip (.exit 0)))
 (.seq (.block 1 (.draw [oRM 18 0,oRM 19 3,oR 20 (.indexAddr 3 (.t 18) (.t 19)),oRL 21 3 20,oRM 22 0,oRM 23 2,oR 24 (.indexAddr 3 (.t 22) (.t 23)),oRL 25 3 24,oRM 14 0,oRM 15 2,oR 26 (.indexAddr 3 (.t 14) (.t 15)),oS 3 26 21,oRM 16 0,oRM 17 3,nK 27 (.indexAddr 3 (.t 16) (.t 17)) .read 1,⟨none,.store 3 (.t 27) (.t 25),none,.write,1,false⟩]))
 (.region [oM 10 2,oW 11 (.arith .add (.t 10) (oI 1)),oM 12 3,oW 13 (.arith .sub (.t 12) (oI 1)),oM 2 11,oM 3 13])))
def t211:DFunc:={ntmps:=28,results:=[],mode:=.full,body :=
 (oQ [oM 4 0,oW 5 (.len 1 (.t 4)),oW 6 (.arith .sub (.t 5) (oI 1)),oW 2 (.move (oI 0)),oM 3 6]
 (.block 0 (.loop t211l0)))}
theorem c211:compFunc Tryz.prog Tryz.f211 .full=some t211:=by kernel_rfl
def t212:DFunc:={ntmps:=28,results:=[.t 8,.t 9],mode:=.pure,body :=
 (oQ [oW 8 (.move (oI 0)),oW 9 (.move (oI 0))]
 (.seq (.seq (.draw [oRM 10 0,oRM 11 2,oR 12 (.indexAddr 1 (.t 10) (.t 11)),oRD 13 12,oRM 14 0,oRM 15 1,oR 16 (.indexAddr 1 (.t 14) (.t 15)),oRD 17 16,oW 18 (.call (oF 176) [.t 13,.t 17])])
 (.cond (.t 18) (oQ [oM 19 3,oW 20 (.nilCheck (.t 19)),oD 21 20,oW 22 (.arith .add (.t 21) (oI 1)),oW 23 (.nilCheck (.t 19)),oS 1 23 22]
 (oQ [oM 24 2,oM 25 1,oM 8 24,oM 9 25]
 .ret)) .skip))
 (oQ [oM 26 1,oM 27 2,oM 8 26,oM 9 27]
 .ret)))}
theorem c212:compFunc Tryz.prog Tryz.f212 .pure=some t212:=by kernel_rfl
def t214:DFunc:={ntmps:=14,results:=[],mode:=.full,body :=
 (oQ [oM 4 0,oM 5 1,oW 6 (.sliceSl 5 (.t 4) none (some (.t 5))),oW 7 (.call (oF 215) [.t 6])]
 (oQ [oM 8 0,oM 9 1,oW 10 (.sliceSl 5 (.t 8) (some (.t 9)) none),oW 11 (.call (oF 215) [.t 10])]
 (.region [oM 12 0,oW 13 (.call (oF 215) [.t 12])])))}
theorem c214:compFunc Tryz.prog Tryz.f214 .full=some t214:=by kernel_rfl
def t215l0:DCode :=
 (.seq (oQ [oM 7 2,oM 8 3,oW 9 (.arith .lss (.t 7) (.t 8))]
 (.cond (.t 9) .skip (.exit 0)))
 (.seq (.block 1 (.draw [oRM 18 0,oRM 19 3,oR 20 (.indexAddr 5 (.t 18) (.t 19)),oRL 21 5 20,oRM 22 0,oRM 23 2,oR 24 (.indexAddr 5 (.t 22) (.t 23)),oRL 25 5 24,oRM 14 0,oRM 15 2,oR 26 (.indexAddr 5 (.t 14) (.t 15)),oS 5 26 21,oRM 16 0,oRM 17 3,nK 27 (.indexAddr 5 (.t 16) (.t 17)) .read 1,⟨none,.store 5 (.t 27) (.t 25),none,.write,1,false⟩]))
 (.region [oM 10 2,oW 11 (.arith .add (.t 10) (oI 1)),oM 12 3,oW 13 (.arith .sub (.t 12) (oI 1)),oM 2 11,oM 3 13])))
def t215:DFunc:={ntmps:=28,results:=[],mode:=.full,body :=
 (oQ [oM 4 0,oW 5 (.len 1 (.t 4)),oW 6 (.arith .sub (.t 5) (oI 1)),oW 2 (.move (oI 0)),oM 3 6]
 (.block 0 (.loop t215l0)))}
theorem c215:compFunc Tryz.prog Tryz.f215 .full=some t215:=by kernel_rfl
end Go.Dm.Tc
