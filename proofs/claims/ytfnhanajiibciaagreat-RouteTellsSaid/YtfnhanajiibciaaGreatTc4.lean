/-
The table of functions, brought into the machine's form (Tc, part 4). Written by program (wip/tools/table.lean.txt).
-/
import Derived.Test.YtfnhanajiibciaaGreatTc0
import Derived.Test.YtfnhanajiibciaaGreatMm3
import Derived.Test.YtfnhanajiibciaaGreatRows
import Derived.KernelRfl
namespace Go.Dm.Tc
open Go.Proofs
def t191l0:DCode :=
 (.seq (oQ [oM 15 9,oM 16 10,oW 17 (.arith .lss (.t 15) (.t 16))]
 (.cond (.t 17) .skip (.exit 0)))
 (.block 1 (oQ [oM 18 9,oM 19 10,oW 20 (.arith .add (.t 18) (.t 19)),oW 21 (.conv .u64 (.t 20)),oW 22 (.arith .shr (.t 21) (.c (.int .u64 1))),oW 23 (.conv .i64 (.t 22)),oM 11 23]
 (oQ [oM 24 2,oM 25 0,oM 26 11,oW 27 (.indexAddr 5 (.t 25) (.t 26)),oL 28 5 27,oM 29 1,oW 30 (.call (.t 24) [.t 28,.t 29]),oW 31 (.arith .lss (.t 30) (oI 0))]
 (.cond (.t 31) (.region [oM 32 11,oW 33 (.arith .add (.t 32) (oI 1)),oM 9 33]) (.region [oM 34 11,oM 10 34]))))))
def t191k0:DCode :=
 (oQ [oM 35 9,oM 36 9,oM 37 8,oW 38 (.arith .lss (.t 36) (.t 37)),oM 39 38,gM 40 2 39 true,gM 41 0 39 true,gM 42 9 39 true,gW 43 (.indexAddr 5 (.t 41) (.t 42)) 39 true,gL 44 5 43 39 true,gM 45 1 39 true,gW 46 (.call (.t 40) [.t 44,.t 45]) 39 true,gW 47 (.arith .eql (.t 46) (oI 0)) 39 true,oW 48 (.pick (.t 39) (.t 47) (oB false)),oM 6 35,oM 7 48]
 .ret)
def t191:DFunc:={ntmps:=49,results:=[.t 6,.t 7],mode:=.pure,body :=
 (oQ [oW 6 (.move (oI 0)),oW 7 (.move (oB false))]
 (oQ [oM 12 0,oW 13 (.len 1 (.t 12)),oM 8 13]
 (oQ [oM 14 8,oW 9 (.move (oI 0)),oM 10 14]
 (.seq (.block 0 (.loop t191l0))
 t191k0))))}
theorem c191:compFunc Tryz.prog Tryz.f191 .pure=some t191:=by kernel_rfl
def t192:DFunc:={ntmps:=9,results:=[.t 4],mode:=.pure,body :=
 (oQ [oW 2 (.box 62 5 (.t 0)),oW 4 (.move (oI 0))]
 (oQ [oA 5 0 2,oD 6 5,oM 7 1,oW 8 (.call (oF 193) [.t 6,.t 7]),oM 4 8]
 .ret))}
theorem c192:compFunc Tryz.prog Tryz.f192 .pure=some t192:=by kernel_rfl
def t193:DFunc:={ntmps:=8,results:=[.t 4],mode:=.pure,body :=
 (oQ [oW 4 (.move (oI 0))]
 (oQ [oM 5 0,oM 6 1,oW 7 (.call (oF 208) [.t 5,.t 6]),oM 4 7]
 .ret))}
theorem c193:compFunc Tryz.prog Tryz.f193 .pure=some t193:=by kernel_rfl
def t194:DFunc:={ntmps:=69,results:=[(.cell 4 (some 5)),.t 5],mode:=.pure,body :=
 (oQ [oW 2 (.box 62 5 (.t 0)),oW 3 (.box 62 5 (.t 1)),oW 4 (.alloc 62 5 (.agg [.str [],.int .i64 0,.int .i64 0,.int .i64 0,.str []])),oW 5 (.move (oB false))]
 (oQ [oW 7 (.build [.str [],.int .i64 0,.int .i64 0,.int .i64 0,.str []] []),oW 6 (.alloc 62 5 (.agg [.str [],.int .i64 0,.int .i64 0,.int .i64 0,.str []])),oS 5 6 7]
 (.seq (oQ [oA 8 1 2,oD 9 8,oA 10 1 3,oD 11 10,oW 12 (.arith .gtr (.t 9) (.t 11))]
 (.cond (.t 12) (.region [oL 13 5 3,oL 14 5 2,oS 5 2 13,oS 5 3 14]) .skip))
 (.seq (oQ [oA 15 1 2,oD 16 15]
 (.block 0 (.seq (.block 3 (.seq (.block 2 (.seq (.block 1 (.seq (.seq (oQ [oW 18 (.arith .eql (.t 16) (oI 1)),oM 17 18]
 (.cond (.t 17) (.exit 1) .skip))
 (.seq (oQ [oW 20 (.arith .eql (.t 16) (oI 3)),oM 19 20]
 (.cond (.t 19) (.exit 2) .skip))
 (oQ [oW 22 (.arith .eql (.t 16) (oI 2)),oM 21 22]
 (.cond (.t 21) (.exit 3) .skip))))
 (.exit 0)))
 (.seq (.seq (oQ [oA 23 1 3,oD 24 23,oW 25 (.arith .neq (.t 24) (oI 1)),oM 26 25,gA 27 2 2 26 false,gD 28 27 26 false,gA 29 2 3 26 false,gD 30 29 26 false,gW 31 (.minmax true (.t 28) (.t 30)) 26 false,gA 32 3 2 26 false,gD 33 32 26 false,gA 34 3 3 26 false,gD 35 34 26 false,gW 36 (.minmax false (.t 33) (.t 35)) 26 false,gW 37 (.arith .gtr (.t 31) (.t 36)) 26 false,oW 38 (.pick (.t 26) (oB true) (.t 37))]
 (.cond (.t 38) (oQ [oL 39 5 6,oS 5 4 39,oW 5 (.move (oB false))]
 .ret) .skip))
 (.seq (.draw [oRA 40 2 2,⟨(some 41),.load none (.t 40),none,.read,0,true⟩,oRA 42 2 3,⟨(some 43),.load none (.t 42),none,.read,0,true⟩,oRA 45 3 2,⟨(some 46),.load none (.t 45),none,.read,0,true⟩,oRA 47 3 3,oRD 48 47,oR 44 (.minmax true (.t 41) (.t 43)),oRA 50 2 2,⟨none,.store 1 (.t 50) (.t 44),none,.create,0,false⟩,oR 49 (.minmax false (.t 46) (.t 48)),nK 51 (.fieldAddr 3 (.t 2)) .read 1,⟨none,.store 1 (.t 51) (.t 49),none,.write,1,false⟩])
 (oQ [oL 52 5 2,oS 5 4 52,oW 5 (.move (oB true))]
 .ret)))
 (.exit 0))))
 (oQ [oA 53 4 2,oD 54 53,oW 55 (.len 0 (.t 54)),oA 56 4 3,oD 57 56,oW 58 (.len 0 (.t 57)),oW 59 (.arith .lss (.t 55) (.t 58))]
 (.cond (.t 59) (.region [oL 60 5 3,oL 61 5 2,oS 5 2 60,oS 5 3 61]) .skip))))
 (.seq (.seq (.draw [oRL 62 5 3,oRA 63 4 2,oRD 64 63,nK 65 (.call (oF 168) [.t 64]) .create 0,nK 66 (.call (oF 167) [.t 62,.t 65]) .write 1])
 (.cond (.t 66) (oQ [oL 67 5 2,oS 5 4 67,oW 5 (.move (oB true))]
 .ret) .skip))
 (.exit 0)))))
 (oQ [oL 68 5 6,oS 5 4 68,oW 5 (.move (oB false))]
 .ret)))))}
theorem c194:compFunc Tryz.prog Tryz.f194 .pure=some t194:=by kernel_rfl
def t195:DFunc:={ntmps:=95,results:=[.t 6],mode:=.split,body :=
 (oQ [oW 6 (.move (.c .nsl))]
 (oQ [oM 10 0,oM 11 1,oW 12 (.sliceSl 5 (.t 10) (some (.t 11)) none)]
 (oQ [oM 13 2,oW 14 (.len 1 (.t 13)),oM 7 14]
 (.seq (oQ [oM 15 7,oW 16 (.arith .eql (.t 15) (oI 0))]
 (.cond (.t 16) (oQ [oM 17 0,oM 6 17]
 .ret) .skip))
 (oQ [oM 18 0,oW 19 (.len 1 (.t 18)),oM 8 19]
 (.seq (oQ [oM 20 1,oM 21 8,oW 22 (.arith .eql (.t 20) (.t 21))]
 (.cond (.t 22) (oQ [oM 23 0,oM 24 2,oW 25 (.append 62 5 56 (.t 23) (.t 24)),oM 6 25]
 .ret) .skip))
 (.seq (oQ [oM 26 8,oM 27 7,oW 28 (.arith .add (.t 26) (.t 27)),oM 29 0,oW 30 (.cap (.t 29)),oW 31 (.arith .gtr (.t 28) (.t 30))]
 (.cond (.t 31) (oQ [oM 32 0,oM 33 1,oW 34 (.sliceSl 5 (.t 32) none (some (.t 33))),oM 35 8,oM 36 7,oW 37 (.arith .add (.t 35) (.t 36)),oM 38 1,oW 39 (.arith .sub (.t 37) (.t 38)),oW 40 (.appendZ 62 5 56 (.agg [.str [],.int .i64 0,.int .i64 0,.int .i64 0,.str []]) (.t 34) (.t 39)),oM 9 40]
 (oQ [oM 41 9,oM 42 1,oW 43 (.sliceSl 5 (.t 41) (some (.t 42)) none),oM 44 2,oW 45 (.copy 5 (.t 43) (.t 44))]
 (.seq (.draw [oRM 46 9,oRM 47 1,oRM 48 7,oR 49 (.arith .add (.t 47) (.t 48)),oR 50 (.sliceSl 5 (.t 46) (some (.t 49)) none),oRM 51 0,oRM 52 1,oR 53 (.sliceSl 5 (.t 51) (some (.t 52)) none),oW 54 (.copy 5 (.t 50) (.t 53))])
 (oQ [oM 55 9,oM 6 55]
 .ret)))) .skip))
 (oQ [oM 56 0,oM 57 8,oM 58 7,oW 59 (.arith .add (.t 57) (.t 58)),oW 60 (.sliceSl 5 (.t 56) none (some (.t 59))),oM 0 60]
 (.seq (oQ [oM 61 2,oM 62 0,oM 63 1,oM 64 7,oW 65 (.arith .add (.t 63) (.t 64)),oW 66 (.sliceSl 5 (.t 62) (some (.t 65)) none),oW 67 (.call (oF 209) [.t 61,.t 66]),oW 68 (.un .not (.t 67))]
 (.cond (.t 68) (.seq (.draw [oRM 69 0,oRM 70 1,oRM 71 7,oR 72 (.arith .add (.t 70) (.t 71)),oR 73 (.sliceSl 5 (.t 69) (some (.t 72)) none),oRM 74 0,oRM 75 1,oR 76 (.sliceSl 5 (.t 74) (some (.t 75)) none),oW 77 (.copy 5 (.t 73) (.t 76))])
 (oQ [oM 78 0,oM 79 1,oW 80 (.sliceSl 5 (.t 78) (some (.t 79)) none),oM 81 2,oW 82 (.copy 5 (.t 80) (.t 81))]
 (oQ [oM 83 0,oM 6 83]
 .ret))) .skip))
 (oQ [oM 84 0,oM 85 8,oW 86 (.sliceSl 5 (.t 84) (some (.t 85)) none),oM 87 2,oW 88 (.copy 5 (.t 86) (.t 87))]
 (oQ [oM 89 0,oM 90 1,oW 91 (.sliceSl 5 (.t 89) (some (.t 90)) none),oM 92 7,oW 93 (.call (oF 210) [.t 91,.t 92])]
 (oQ [oM 94 0,oM 6 94]
 .ret))))))))))))}
theorem c195:compFunc Tryz.prog Tryz.f195 .split=some t195:=by kernel_rfl
def t196:DFunc:={ntmps:=5,results:=[(.cell 2 (some 3))],mode:=.pure,body :=
 (oQ [oW 2 (.alloc 202 3 (.agg [.bool false,.int .i64 0,.str []]))]
 (oQ [oM 3 0,oW 4 (.build [.bool false,.int .i64 0,.str []] [(1,1,.t 3)]),oS 3 2 4]
 .ret))}
theorem c196:compFunc Tryz.prog Tryz.f196 .pure=some t196:=by kernel_rfl
def t197:DFunc:={ntmps:=14,results:=[],mode:=.full,body :=
 (oQ [oM 4 0,oM 5 1,oW 6 (.sliceSl 3 (.t 4) none (some (.t 5))),oW 7 (.call (oF 211) [.t 6])]
 (oQ [oM 8 0,oM 9 1,oW 10 (.sliceSl 3 (.t 8) (some (.t 9)) none),oW 11 (.call (oF 211) [.t 10])]
 (.region [oM 12 0,oW 13 (.call (oF 211) [.t 12])])))}
theorem c197:compFunc Tryz.prog Tryz.f197 .full=some t197:=by kernel_rfl
def t198:DFunc:={ntmps:=18,results:=[.t 4],mode:=.pure,body :=
 (oQ [oW 4 (.move (oB false))]
 (oQ [oM 5 0,oW 6 (.len 0 (.t 5)),oM 7 1,oW 8 (.len 0 (.t 7)),oW 9 (.arith .geq (.t 6) (.t 8)),oM 10 9,gM 11 0 10 true,gM 12 1 10 true,gW 13 (.len 0 (.t 12)) 10 true,gW 14 (.sliceStr (.t 11) none (some (.t 13))) 10 true,gM 15 1 10 true,gW 16 (.arith .eql (.t 14) (.t 15)) 10 true,oW 17 (.pick (.t 10) (.t 16) (oB false)),oM 4 17]
 .ret))}
theorem c198:compFunc Tryz.prog Tryz.f198 .pure=some t198:=by kernel_rfl
def t199l0:DCode :=
 (.block 1 (oQ [oM 11 8,oW 12 (.arith .mul (oI 2) (.t 11)),oW 13 (.arith .add (.t 12) (oI 1)),oM 9 13]
 (.seq (oQ [oM 14 9,oM 15 2,oW 16 (.arith .geq (.t 14) (.t 15))]
 (.cond (.t 16) (.exit 0) .skip))
 (.seq (.seq (.draw [oRM 17 9,oR 18 (.arith .add (.t 17) (oI 1)),oRM 19 2,oR 20 (.arith .lss (.t 18) (.t 19)),oRM 21 20,rM 22 0 21 true,rM 23 3 21 true,rM 24 9 21 true,rW 25 (.arith .add (.t 23) (.t 24)) 21 true,rW 26 (.indexAddr 1 (.t 22) (.t 25)) 21 true,rD 27 26 21 true,rM 28 0 21 true,rM 29 3 21 true,rM 30 9 21 true,rW 31 (.arith .add (.t 29) (.t 30)) 21 true,rW 32 (.arith .add (.t 31) (oI 1)) 21 true,rW 33 (.indexAddr 1 (.t 28) (.t 32)) 21 true,rD 34 33 21 true,gW 35 (.call (oF 176) [.t 27,.t 34]) 21 true,nK 36 (.pick (.t 21) (.t 35) (oB false)) .read 1])
 (.cond (.t 36) (.region [oM 37 9,oW 38 (.arith .add (.t 37) (oI 1)),oM 9 38]) .skip))
 (.seq (.seq (.draw [oRM 39 0,oRM 40 3,oRM 41 8,oR 42 (.arith .add (.t 40) (.t 41)),oR 43 (.indexAddr 1 (.t 39) (.t 42)),oRD 44 43,oRM 45 0,oRM 46 3,oRM 47 9,oR 48 (.arith .add (.t 46) (.t 47)),oR 49 (.indexAddr 1 (.t 45) (.t 48)),oRD 50 49,oW 51 (.call (oF 176) [.t 44,.t 50]),nK 52 (.un .not (.t 51)) .read 1])
 (.cond (.t 52) .ret .skip))
 (.seq (.draw [oRM 61 0,oRM 62 3,oRM 63 9,oR 64 (.arith .add (.t 62) (.t 63)),oR 65 (.indexAddr 1 (.t 61) (.t 64)),oRD 66 65,oRM 67 0,oRM 68 3,oRM 69 8,oR 70 (.arith .add (.t 68) (.t 69)),oR 71 (.indexAddr 1 (.t 67) (.t 70)),oRD 72 71,oRM 53 0,oRM 54 3,oRM 55 8,oR 56 (.arith .add (.t 54) (.t 55)),oR 73 (.indexAddr 1 (.t 53) (.t 56)),oS 1 73 66,oRM 57 0,oRM 58 3,oRM 59 9,oR 60 (.arith .add (.t 58) (.t 59)),nK 74 (.indexAddr 1 (.t 57) (.t 60)) .read 1,⟨none,.store 1 (.t 74) (.t 72),none,.write,1,false⟩])
 (.region [oM 75 9,oM 8 75])))))))
def t199:DFunc:={ntmps:=76,results:=[],mode:=.full,body :=
 (oQ [oM 10 1,oM 8 10]
 (.block 0 (.loop t199l0)))}
theorem c199:compFunc Tryz.prog Tryz.f199 .full=some t199:=by kernel_rfl
def t200:DFunc:={ntmps:=7,results:=[.t 2],mode:=.pure,body :=
 (oQ [oW 2 (.move (.c (.int .u64 0)))]
 (oQ [oM 3 0,oW 4 (.conv .u64 (.t 3)),oW 5 (.call (oF 135) [.t 4]),oW 6 (.arith .shl (.c (.int .u64 1)) (.t 5)),oM 2 6]
 .ret))}
theorem c200:compFunc Tryz.prog Tryz.f200 .pure=some t200:=by kernel_rfl
def t201:DFunc:={ntmps:=33,results:=[.t 2],mode:=.full,body :=
 (oQ [oW 2 (.move (.c (.int .u64 0)))]
 (.seq (.draw [oRM 3 0,oR 4 (.nilCheck (.t 3)),oRD 5 4,oRM 6 0,oR 7 (.nilCheck (.t 6)),oRD 8 7,oR 9 (.arith .shl (.t 8) (.c (.int .u64 13))),oR 10 (.arith .xor (.t 5) (.t 9)),oR 11 (.nilCheck (.t 3)),oS 1 11 10])
 (.seq (.draw [oRM 12 0,oR 13 (.nilCheck (.t 12)),oRD 14 13,oRM 15 0,oR 16 (.nilCheck (.t 15)),oRD 17 16,oR 18 (.arith .shr (.t 17) (.c (.int .u64 7))),oR 19 (.arith .xor (.t 14) (.t 18)),oR 20 (.nilCheck (.t 12)),oS 1 20 19])
 (.seq (.draw [oRM 21 0,oR 22 (.nilCheck (.t 21)),oRD 23 22,oRM 24 0,oR 25 (.nilCheck (.t 24)),oRD 26 25,oR 27 (.arith .shl (.t 26) (.c (.int .u64 17))),oR 28 (.arith .xor (.t 23) (.t 27)),oR 29 (.nilCheck (.t 21)),oS 1 29 28])
 (oQ [oM 30 0,oW 31 (.nilCheck (.t 30)),oD 32 31,oM 2 32]
 .ret)))))}
theorem c201:compFunc Tryz.prog Tryz.f201 .full=some t201:=by kernel_rfl
def t202:DFunc:={ntmps:=15,results:=[.t 6],mode:=.full,body :=
 (oQ [oW 6 (.move (oI 0))]
 (oQ [oM 7 0,oM 8 1,oW 9 (.arith .sub (.t 8) (oI 1)),oM 10 1,oM 11 1,oW 12 (.arith .add (.t 11) (oI 1)),oM 13 2,oW 14 (.call (oF 203) [.t 7,.t 9,.t 10,.t 12,.t 13]),oM 6 14]
 .ret))}
theorem c202:compFunc Tryz.prog Tryz.f202 .full=some t202:=by kernel_rfl
def t203:DFunc:={ntmps:=36,results:=[.t 10],mode:=.full,body :=
 (oQ [oW 10 (.move (oI 0))]
 (oQ [oM 12 0,oM 13 1,oM 14 2,oM 15 4,oW 16 (.call (oF 212) [.t 12,.t 13,.t 14,.t 15]),oM 11 16,oX 17 11 0,oX 18 11 1,oM 1 17,oM 2 18]
 (oQ [oM 20 0,oM 21 2,oM 22 3,oM 23 4,oW 24 (.call (oF 212) [.t 20,.t 21,.t 22,.t 23]),oM 19 24,oX 25 19 0,oX 26 19 1,oM 2 25,oM 3 26]
 (oQ [oM 28 0,oM 29 1,oM 30 2,oM 31 4,oW 32 (.call (oF 212) [.t 28,.t 29,.t 30,.t 31]),oM 27 32,oX 33 27 0,oX 34 27 1,oM 1 33,oM 2 34]
 (oQ [oM 35 2,oM 10 35]
 .ret)))))}
theorem c203:compFunc Tryz.prog Tryz.f203 .full=some t203:=by kernel_rfl
def t204l0:DCode :=
 (.seq (oQ [oM 7 2,oM 8 3,oW 9 (.arith .lss (.t 7) (.t 8))]
 (.cond (.t 9) .skip (.exit 0)))
 (.seq (.block 1 (.draw [oRM 18 0,oRM 19 3,oR 20 (.indexAddr 4 (.t 18) (.t 19)),oRL 21 4 20,oRM 22 0,oRM 23 2,oR 24 (.indexAddr 4 (.t 22) (.t 23)),oRL 25 4 24,oRM 14 0,oRM 15 2,oR 26 (.indexAddr 4 (.t 14) (.t 15)),oS 4 26 21,oRM 16 0,oRM 17 3,nK 27 (.indexAddr 4 (.t 16) (.t 17)) .read 1,⟨none,.store 4 (.t 27) (.t 25),none,.write,1,false⟩]))
 (.region [oM 10 2,oW 11 (.arith .add (.t 10) (oI 1)),oM 12 3,oW 13 (.arith .sub (.t 12) (oI 1)),oM 2 11,oM 3 13])))
def t204:DFunc:={ntmps:=28,results:=[],mode:=.full,body :=
 (oQ [oM 4 0,oW 5 (.len 1 (.t 4)),oW 6 (.arith .sub (.t 5) (oI 1)),oW 2 (.move (oI 0)),oM 3 6]
 (.block 0 (.loop t204l0)))}
theorem c204:compFunc Tryz.prog Tryz.f204 .full=some t204:=by kernel_rfl
def t205l0:DCode :=
 (.seq (oQ [oM 7 2,oM 8 3,oW 9 (.arith .lss (.t 7) (.t 8))]
 (.cond (.t 9) .skip (.exit 0)))
 (.seq (.block 1 (.draw [oRM 18 0,oRM 19 3,oR 20 (.indexAddr 2 (.t 18) (.t 19)),oRL 21 2 20,oRM 22 0,oRM 23 2,oR 24 (.indexAddr 2 (.t 22) (.t 23)),oRL 25 2 24,oRM 14 0,oRM 15 2,oR 26 (.indexAddr 2 (.t 14) (.t 15)),oS 2 26 21,oRM 16 0,oRM 17 3,nK 27 (.indexAddr 2 (.t 16) (.t 17)) .read 1,⟨none,.store 2 (.t 27) (.t 25),none,.write,1,false⟩]))
 (.region [oM 10 2,oW 11 (.arith .add (.t 10) (oI 1)),oM 12 3,oW 13 (.arith .sub (.t 12) (oI 1)),oM 2 11,oM 3 13])))
def t205:DFunc:={ntmps:=28,results:=[],mode:=.full,body :=
 (oQ [oM 4 0,oW 5 (.len 1 (.t 4)),oW 6 (.arith .sub (.t 5) (oI 1)),oW 2 (.move (oI 0)),oM 3 6]
 (.block 0 (.loop t205l0)))}
theorem c205:compFunc Tryz.prog Tryz.f205 .full=some t205:=by kernel_rfl
def t206:DFunc:={ntmps:=48,results:=[.t 4],mode:=.pure,body :=
 (oQ [oW 2 (.box 62 5 (.t 0)),oW 3 (.box 202 3 (.t 1)),oW 4 (.move (oB false))]
 (.seq (oQ [oA 5 1 2,oD 6 5]
 (.block 0 (oQ [oW 8 (.arith .eql (.t 6) (oI 1)),oM 7 8]
 (.cond (.t 7) (oQ [oA 9 0 3,oD 10 9,oW 11 (.un .not (.t 10)),oM 12 11,gA 13 1 3 12 true,gD 14 13 12 true,gA 15 2 2 12 true,gD 16 15 12 true,gW 17 (.arith .geq (.t 14) (.t 16)) 12 true,oW 18 (.pick (.t 12) (.t 17) (oB false)),oM 19 18,gA 20 1 3 19 true,gD 21 20 19 true,gA 22 3 2 19 true,gD 23 22 19 true,gW 24 (.arith .leq (.t 21) (.t 23)) 19 true,oW 25 (.pick (.t 19) (.t 24) (oB false)),oM 4 25]
 .ret) (oQ [oW 27 (.arith .eql (.t 6) (oI 2)),oM 26 27]
 (.cond (.t 26) (oQ [oA 28 0 3,oD 29 28,oM 30 29,gA 31 2 3 30 true,gD 32 31 30 true,gA 33 4 2 30 true,gD 34 33 30 true,gW 35 (.arith .eql (.t 32) (.t 34)) 30 true,oW 36 (.pick (.t 30) (.t 35) (oB false)),oM 4 36]
 .ret) (oQ [oW 38 (.arith .eql (.t 6) (oI 3)),oM 37 38]
 (.cond (.t 37) (oQ [oA 39 0 3,oD 40 39,oM 41 40,gA 42 2 3 41 true,gD 43 42 41 true,gA 44 4 2 41 true,gD 45 44 41 true,gW 46 (.call (oF 188) [.t 43,.t 45]) 41 true,oW 47 (.pick (.t 41) (.t 46) (oB false)),oM 4 47]
 .ret) .skip))))))))
 (oQ [oW 4 (.move (oB false))]
 .ret)))}
theorem c206:compFunc Tryz.prog Tryz.f206 .pure=some t206:=by kernel_rfl
def t207l0:DCode :=
 (.seq (oQ [oM 7 2,oM 8 3,oW 9 (.arith .lss (.t 7) (.t 8))]
 (.cond (.t 9) .skip (.exit 0)))
 (.seq (.block 1 (.draw [oRM 18 0,oRM 19 3,oR 20 (.indexAddr 7 (.t 18) (.t 19)),oRL 21 7 20,oRM 22 0,oRM 23 2,oR 24 (.indexAddr 7 (.t 22) (.t 23)),oRL 25 7 24,oRM 14 0,oRM 15 2,oR 26 (.indexAddr 7 (.t 14) (.t 15)),oS 7 26 21,oRM 16 0,oRM 17 3,nK 27 (.indexAddr 7 (.t 16) (.t 17)) .read 1,⟨none,.store 7 (.t 27) (.t 25),none,.write,1,false⟩]))
 (.region [oM 10 2,oW 11 (.arith .add (.t 10) (oI 1)),oM 12 3,oW 13 (.arith .sub (.t 12) (oI 1)),oM 2 11,oM 3 13])))
def t207:DFunc:={ntmps:=28,results:=[],mode:=.full,body :=
 (oQ [oM 4 0,oW 5 (.len 1 (.t 4)),oW 6 (.arith .sub (.t 5) (oI 1)),oW 2 (.move (oI 0)),oM 3 6]
 (.block 0 (.loop t207l0)))}
theorem c207:compFunc Tryz.prog Tryz.f207 .full=some t207:=by kernel_rfl
def t208:DFunc:={ntmps:=8,results:=[.t 4],mode:=.pure,body :=
 (oQ [oW 4 (.move (oI 0))]
 (oQ [oM 5 0,oM 6 1,oW 7 (.call (oF 213) [.t 5,.t 6]),oM 4 7]
 .ret))}
theorem c208:compFunc Tryz.prog Tryz.f208 .pure=some t208:=by kernel_rfl
def t210:DFunc:={ntmps:=10,results:=[],mode:=.full,body :=
 (.region [oM 4 0,oM 5 0,oW 6 (.len 1 (.t 5)),oM 7 1,oW 8 (.arith .sub (.t 6) (.t 7)),oW 9 (.call (oF 214) [.t 4,.t 8])])}
theorem c210:compFunc Tryz.prog Tryz.f210 .full=some t210:=by kernel_rfl
def t211l0:DCode :=
 (.seq (oQ [oM 7 2,oM 8 3,oW 9 (.arith .lss (.t 7) (.t 8))]
 (.cond (.t 9) .skip (.exit 0)))
 (.seq (.block 1 (.draw [oRM 18 0,oRM 19 3,oR 20 (.indexAddr 3 (.t 18) (.t 19)),oRL 21 3 20,oRM 22 0,oRM 23 2,oR 24 (.indexAddr 3 (.t 22) (.t 23)),oRL 25 3 24,oRM 14 0,oRM 15 2,oR 26 (.indexAddr 3 (.t 14) (.t 15)),oS 3 26 21,oRM 16 0,oRM 17 3,nK 27 (.indexAddr 3 (.t 16) (.t 17)) .read 1,⟨none,.store 3 (.t 27) (.t 25),none,.write,1,false⟩]))
 (.region [oM 10 2,oW 11 (.arith .add (.t 10) (oI 1)),oM 12 3,oW 13 (.arith .sub (.t 12) (oI 1)),oM 2 11,oM 3 13])))
def t211:DFunc:={ntmps:=28,results:=[],mode:=.full,body :=
 (oQ [oM 4 0,oW 5 (.len 1 (.t 4)),oW 6 (.arith .sub (.t 5) (oI 1)),oW 2 (.move (oI 0)),oM 3 6]
 (.block 0 (.loop t211l0)))}
theorem c211:compFunc Tryz.prog Tryz.f211 .full=some t211:=by kernel_rfl
def t212:DFunc:={ntmps:=28,results:=[.t 8,.t 9],mode:=.pure,body :=
 (oQ [oW 8 (.move (oI 0)),oW 9 (.move (oI 0))]
 (.seq (.seq (.draw [oRM 10 0,oRM 11 2,oR 12 (.indexAddr 1 (.t 10) (.t 11)),oRD 13 12,oRM 14 0,oRM 15 1,oR 16 (.indexAddr 1 (.t 14) (.t 15)),oRD 17 16,oW 18 (.call (oF 176) [.t 13,.t 17])])
 (.cond (.t 18) (oQ [oM 19 3,oW 20 (.nilCheck (.t 19)),oD 21 20,oW 22 (.arith .add (.t 21) (oI 1)),oW 23 (.nilCheck (.t 19)),oS 1 23 22]
 (oQ [oM 24 2,oM 25 1,oM 8 24,oM 9 25]
 .ret)) .skip))
 (oQ [oM 26 1,oM 27 2,oM 8 26,oM 9 27]
 .ret)))}
theorem c212:compFunc Tryz.prog Tryz.f212 .pure=some t212:=by kernel_rfl
def t214:DFunc:={ntmps:=14,results:=[],mode:=.full,body :=
 (oQ [oM 4 0,oM 5 1,oW 6 (.sliceSl 5 (.t 4) none (some (.t 5))),oW 7 (.call (oF 215) [.t 6])]
 (oQ [oM 8 0,oM 9 1,oW 10 (.sliceSl 5 (.t 8) (some (.t 9)) none),oW 11 (.call (oF 215) [.t 10])]
 (.region [oM 12 0,oW 13 (.call (oF 215) [.t 12])])))}
theorem c214:compFunc Tryz.prog Tryz.f214 .full=some t214:=by kernel_rfl
def t215l0:DCode :=
 (.seq (oQ [oM 7 2,oM 8 3,oW 9 (.arith .lss (.t 7) (.t 8))]
 (.cond (.t 9) .skip (.exit 0)))
 (.seq (.block 1 (.draw [oRM 18 0,oRM 19 3,oR 20 (.indexAddr 5 (.t 18) (.t 19)),oRL 21 5 20,oRM 22 0,oRM 23 2,oR 24 (.indexAddr 5 (.t 22) (.t 23)),oRL 25 5 24,oRM 14 0,oRM 15 2,oR 26 (.indexAddr 5 (.t 14) (.t 15)),oS 5 26 21,oRM 16 0,oRM 17 3,nK 27 (.indexAddr 5 (.t 16) (.t 17)) .read 1,⟨none,.store 5 (.t 27) (.t 25),none,.write,1,false⟩]))
 (.region [oM 10 2,oW 11 (.arith .add (.t 10) (oI 1)),oM 12 3,oW 13 (.arith .sub (.t 12) (oI 1)),oM 2 11,oM 3 13])))
def t215:DFunc:={ntmps:=28,results:=[],mode:=.full,body :=
 (oQ [oM 4 0,oW 5 (.len 1 (.t 4)),oW 6 (.arith .sub (.t 5) (oI 1)),oW 2 (.move (oI 0)),oM 3 6]
 (.block 0 (.loop t215l0)))}
theorem c215:compFunc Tryz.prog Tryz.f215 .full=some t215:=by kernel_rfl
end Go.Dm.Tc
