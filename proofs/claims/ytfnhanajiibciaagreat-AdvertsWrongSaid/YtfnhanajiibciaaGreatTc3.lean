/-
The table of functions, brought into the machine's form (Tc, part 3). Written by program (wip/tools/table.lean.txt).
-/
import Derived.Test.YtfnhanajiibciaaGreatTc0
import Derived.Test.YtfnhanajiibciaaGreatMm3
import Derived.Test.YtfnhanajiibciaaGreatRows
import Derived.KernelRfl
namespace Go.Dm.Tc
open Go.Proofs
def t181:DFunc:={ntmps:=14,results:=[],mode:=.full,body :=
 (oQ [oM 4 0,oM 5 1,oW 6 (.sliceSl 4 (.t 4) none (some (.t 5))),oW 7 (.call (oF 204) [.t 6])]
 (oQ [oM 8 0,oM 9 1,oW 10 (.sliceSl 4 (.t 8) (some (.t 9)) none),oW 11 (.call (oF 204) [.t 10])]
 (.region [oM 12 0,oW 13 (.call (oF 204) [.t 12])])))}
theorem c181:compFunc Tryz.prog Tryz.f181 .full=some t181:=by kernel_rfl
def t182:DFunc:={ntmps:=14,results:=[],mode:=.full,body :=
 (oQ [oM 4 0,oM 5 1,oW 6 (.sliceSl 2 (.t 4) none (some (.t 5))),oW 7 (.call (oF 205) [.t 6])]
 (oQ [oM 8 0,oM 9 1,oW 10 (.sliceSl 2 (.t 8) (some (.t 9)) none),oW 11 (.call (oF 205) [.t 10])]
 (.region [oM 12 0,oW 13 (.call (oF 205) [.t 12])])))}
theorem c182:compFunc Tryz.prog Tryz.f182 .full=some t182:=by kernel_rfl
def t183:DFunc:={ntmps:=6,results:=[.t 2],mode:=.pure,body :=
 (oQ [oW 2 (.move (oB false))]
 (oQ [oM 3 0,oM 4 0,oW 5 (.arith .neq (.t 3) (.t 4)),oM 2 5]
 .ret))}
theorem c183:compFunc Tryz.prog Tryz.f183 .pure=some t183:=by kernel_rfl
def t184l0:DCode :=
 (oQ [oW 9 (.arith .lss (.t 8) (.t 7))]
 (.seq (.cond (.t 9) .skip (.exit 0))
 (.seq (.block 1 (oQ [oM 10 8,oM 5 10]
 (oQ [oM 11 1,oM 12 0,oM 13 5,oW 14 (.indexAddr 1 (.t 12) (.t 13)),oD 15 14,oW 16 (.arith .eql (.t 11) (.t 15))]
 (.cond (.t 16) (oQ [oM 17 5,oM 4 17]
 .ret) .skip))))
 (.region [oW 18 (.arith .add (.t 8) (oI 1)),oM 8 18]))))
def t184k0:DCode :=
 (oQ [oW 4 (.move (oI (-1)))]
 .ret)
def t184:DFunc:={ntmps:=19,results:=[.t 4],mode:=.pure,body :=
 (oQ [oW 4 (.move (oI 0))]
 (.seq (oQ [oM 6 0,oW 7 (.len 1 (.t 6)),oW 8 (.move (oI 0))]
 (.block 0 (.loop t184l0)))
 t184k0))}
theorem c184:compFunc Tryz.prog Tryz.f184 .pure=some t184:=by kernel_rfl
def t185l0:DCode :=
 (oQ [oW 7 (.arith .lss (.t 6) (.t 5))]
 (.seq (.cond (.t 7) .skip (.exit 0))
 (.seq (.block 1 (oQ [oM 8 6,oM 3 8]
 (oQ [oM 9 0,oM 10 3,oW 11 (.indexStr (.t 9) (.t 10)),oW 12 (.arith .lss (.t 11) (.c (.int .u8 97))),oM 13 12,gM 14 0 13 false,gM 15 3 13 false,gW 16 (.indexStr (.t 14) (.t 15)) 13 false,gW 17 (.arith .gtr (.t 16) (.c (.int .u8 122))) 13 false,oW 18 (.pick (.t 13) (oB true) (.t 17))]
 (.cond (.t 18) (oQ [oW 2 (.move (oB false))]
 .ret) .skip))))
 (.region [oW 19 (.arith .add (.t 6) (oI 1)),oM 6 19]))))
def t185k0:DCode :=
 (oQ [oM 20 0,oW 21 (.arith .neq (.t 20) (.c (.str []))),oM 22 21,gM 23 0 22 true,gW 24 (.len 0 (.t 23)) 22 true,gW 25 (.arith .leq (.t 24) (oI 12)) 22 true,oW 26 (.pick (.t 22) (.t 25) (oB false)),oM 2 26]
 .ret)
def t185:DFunc:={ntmps:=27,results:=[.t 2],mode:=.pure,body :=
 (oQ [oW 2 (.move (oB false))]
 (.seq (oQ [oM 4 0,oW 5 (.len 0 (.t 4)),oW 6 (.move (oI 0))]
 (.block 0 (.loop t185l0)))
 t185k0))}
theorem c185:compFunc Tryz.prog Tryz.f185 .pure=some t185:=by kernel_rfl
def t186l0:DCode :=
 (oQ [oW 19 (.arith .lss (.t 18) (.t 17))]
 (.seq (.cond (.t 19) .skip (.exit 2))
 (.seq (.block 3 (oQ [oW 20 (.indexAddr 4 (.t 16) (.t 18)),oL 21 4 20,oW 9 (.alloc 206 4 (.agg [.str [],.bool false,.int .i64 0,.str []])),oS 4 9 21]
 (.region [oM 22 7,oM 23 22,gA 24 0 9 23 false,gD 25 24 23 false,gA 26 0 6 23 false,gD 27 26 23 false,gW 28 (.arith .eql (.t 25) (.t 27)) 23 false,gM 29 28 23 false,gL 30 5 6 29 true,gA 31 1 9 29 true,gL 32 3 31 29 true,gW 33 (.call (oF 206) [.t 30,.t 32]) 29 true,gW 34 (.pick (.t 29) (.t 33) (oB false)) 23 false,oW 35 (.pick (.t 23) (oB true) (.t 34)),oM 7 35])))
 (.region [oW 36 (.arith .add (.t 18) (oI 1)),oM 18 36]))))
def t186k0:DCode :=
 (oQ [oM 37 7,oW 38 (.un .not (.t 37))]
 (.cond (.t 38) (oQ [oW 4 (.move (oB false))]
 .ret) .skip))
def t186k1:DCode :=
 (.region [oW 39 (.arith .add (.t 12) (oI 1)),oM 12 39])
def t186l1:DCode :=
 (oQ [oW 13 (.arith .lss (.t 12) (.t 11))]
 (.seq (.cond (.t 13) .skip (.exit 0))
 (.seq (.block 1 (oQ [oW 14 (.indexAddr 5 (.t 10) (.t 12)),oL 15 5 14,oW 6 (.alloc 62 5 (.agg [.str [],.int .i64 0,.int .i64 0,.int .i64 0,.str []])),oS 5 6 15]
 (oQ [oW 7 (.move (oB false))]
 (.seq (oQ [oM 16 1,oW 17 (.len 1 (.t 16)),oW 18 (.move (oI 0))]
 (.block 2 (.loop t186l0)))
 t186k0))))
 t186k1)))
def t186k2:DCode :=
 (oQ [oW 4 (.move (oB true))]
 .ret)
def t186:DFunc:={ntmps:=40,results:=[.t 4],mode:=.pure,body :=
 (oQ [oW 4 (.move (oB false))]
 (.seq (oQ [oM 10 0,oW 11 (.len 1 (.t 10)),oW 12 (.move (oI 0))]
 (.block 0 (.loop t186l1)))
 t186k2))}
theorem c186:compFunc Tryz.prog Tryz.f186 .pure=some t186:=by kernel_rfl
def t188:DFunc:={ntmps:=18,results:=[.t 4],mode:=.pure,body :=
 (oQ [oW 4 (.move (oB false))]
 (oQ [oM 5 0,oW 6 (.len 0 (.t 5)),oM 7 1,oW 8 (.len 0 (.t 7)),oW 9 (.arith .geq (.t 6) (.t 8)),oM 10 9,gM 11 0 10 true,gM 12 1 10 true,gW 13 (.len 0 (.t 12)) 10 true,gW 14 (.sliceStr (.t 11) none (some (.t 13))) 10 true,gM 15 1 10 true,gW 16 (.arith .eql (.t 14) (.t 15)) 10 true,oW 17 (.pick (.t 10) (.t 16) (oB false)),oM 4 17]
 .ret))}
theorem c188:compFunc Tryz.prog Tryz.f188 .pure=some t188:=by kernel_rfl
def t189:DFunc:={ntmps:=83,results:=[(.cell 4 (some 5)),.t 5],mode:=.pure,body :=
 (oQ [oW 2 (.box 62 5 (.t 0)),oW 3 (.box 62 5 (.t 1)),oW 4 (.alloc 62 5 (.agg [.str [],.int .i64 0,.int .i64 0,.int .i64 0,.str []])),oW 5 (.move (oB false))]
 (.seq (.block 0 (oQ [oA 7 1 2,oD 8 7,oW 9 (.arith .eql (.t 8) (oI 1)),oM 10 9,gA 11 1 3 10 true,gD 12 11 10 true,gW 13 (.arith .eql (.t 12) (oI 1)) 10 true,oW 14 (.pick (.t 10) (.t 13) (oB false)),oM 6 14]
 (.cond (.t 6) (.seq (.draw [oRA 15 2 2,⟨(some 16),.load none (.t 15),none,.read,0,true⟩,oRA 17 2 3,⟨(some 18),.load none (.t 17),none,.read,0,true⟩,oRA 20 3 2,⟨(some 21),.load none (.t 20),none,.read,0,true⟩,oRA 22 3 3,oRD 23 22,oR 19 (.minmax true (.t 16) (.t 18)),oRA 25 2 2,⟨none,.store 1 (.t 25) (.t 19),none,.create,0,false⟩,oR 24 (.minmax false (.t 21) (.t 23)),nK 26 (.fieldAddr 3 (.t 2)) .read 1,⟨none,.store 1 (.t 26) (.t 24),none,.write,1,false⟩])
 (.seq (.draw [⟨(some 27),.load (some 5) (.t 2),none,.read,0,true⟩,oRA 28 2 2,oRD 29 28,oRA 30 3 2,oRD 31 30,⟨none,.store 5 (.t 4) (.t 27),none,.create,0,false⟩,oR 32 (.arith .leq (.t 29) (.t 31)),nK 5 (.move (.t 32)) .read 1])
 .ret)) (oQ [oA 34 1 2,oD 35 34,oW 36 (.arith .eql (.t 35) (oI 1)),oM 37 36,gA 38 1 3 37 false,gD 39 38 37 false,gW 40 (.arith .eql (.t 39) (oI 1)) 37 false,oW 41 (.pick (.t 37) (oB true) (.t 40)),oM 33 41]
 (.cond (.t 33) (oQ [oL 42 5 2,oS 5 4 42,oW 5 (.move (oB false))]
 .ret) (oQ [oA 44 1 2,oD 45 44,oW 46 (.arith .eql (.t 45) (oI 2)),oM 43 46]
 (.cond (.t 43) (.seq (.draw [oRL 47 5 2,oRL 48 5 3,oRA 49 4 2,oRD 50 49,oR 51 (.build [.bool false,.int .i64 0,.str []] [(0,1,oB true),(2,1,.t 50)]),nK 52 (.call (oF 206) [.t 48,.t 51]) .create 0,⟨none,.store 5 (.t 4) (.t 47),none,.write,1,false⟩,nK 5 (.move (.t 52)) .read 2])
 .ret) (oQ [oA 54 1 3,oD 55 54,oW 56 (.arith .eql (.t 55) (oI 2)),oM 53 56]
 (.cond (.t 53) (.seq (.draw [oRL 57 5 3,oRL 58 5 2,oRA 59 4 3,oRD 60 59,oR 61 (.build [.bool false,.int .i64 0,.str []] [(0,1,oB true),(2,1,.t 60)]),nK 62 (.call (oF 206) [.t 58,.t 61]) .create 0,⟨none,.store 5 (.t 4) (.t 57),none,.write,1,false⟩,nK 5 (.move (.t 62)) .read 2])
 .ret) (oQ [oA 64 4 2,oD 65 64,oW 66 (.len 0 (.t 65)),oA 67 4 3,oD 68 67,oW 69 (.len 0 (.t 68)),oW 70 (.arith .geq (.t 66) (.t 69)),oM 63 70]
 (.cond (.t 63) (.seq (.draw [oRL 71 5 2,oRA 72 4 2,oRD 73 72,oRA 74 4 3,oRD 75 74,nK 76 (.call (oF 188) [.t 73,.t 75]) .create 0,⟨none,.store 5 (.t 4) (.t 71),none,.write,1,false⟩,nK 5 (.move (.t 76)) .read 2])
 .ret) .skip)))))))))))
 (.seq (.draw [oRL 77 5 3,oRA 78 4 3,oRD 79 78,oRA 80 4 2,oRD 81 80,nK 82 (.call (oF 188) [.t 79,.t 81]) .create 0,⟨none,.store 5 (.t 4) (.t 77),none,.write,1,false⟩,nK 5 (.move (.t 82)) .read 2])
 .ret)))}
theorem c189:compFunc Tryz.prog Tryz.f189 .pure=some t189:=by kernel_rfl
def t199l0:DCode :=
 (.block 1 (oQ [oM 11 8,oW 12 (.arith .mul (oI 2) (.t 11)),oW 13 (.arith .add (.t 12) (oI 1)),oM 9 13]
 (.seq (oQ [oM 14 9,oM 15 2,oW 16 (.arith .geq (.t 14) (.t 15))]
 (.cond (.t 16) (.exit 0) .skip))
 (.seq (.seq (.draw [oRM 17 9,oR 18 (.arith .add (.t 17) (oI 1)),oRM 19 2,oR 20 (.arith .lss (.t 18) (.t 19)),oRM 21 20,rM 22 0 21 true,rM 23 3 21 true,rM 24 9 21 true,rW 25 (.arith .add (.t 23) (.t 24)) 21 true,rW 26 (.indexAddr 1 (.t 22) (.t 25)) 21 true,rD 27 26 21 true,rM 28 0 21 true,rM 29 3 21 true,rM 30 9 21 true,rW 31 (.arith .add (.t 29) (.t 30)) 21 true,rW 32 (.arith .add (.t 31) (oI 1)) 21 true,rW 33 (.indexAddr 1 (.t 28) (.t 32)) 21 true,rD 34 33 21 true,gW 35 (.call (oF 176) [.t 27,.t 34]) 21 true,nK 36 (.pick (.t 21) (.t 35) (oB false)) .read 1])
 (.cond (.t 36) (.region [oM 37 9,oW 38 (.arith .add (.t 37) (oI 1)),oM 9 38]) .skip))
 (.seq (.seq (.draw [oRM 39 0,oRM 40 3,oRM 41 8,oR 42 (.arith .add (.t 40) (.t 41)),oR 43 (.indexAddr 1 (.t 39) (.t 42)),oRD 44 43,oRM 45 0,oRM 46 3,oRM 47 9,oR 48 (.arith .add (.t 46) (.t 47)),oR 49 (.indexAddr 1 (.t 45) (.t 48)),oRD 50 49,oW 51 (.call (oF 176) [.t 44,.t 50]),nK 52 (.un .not (.t 51)) .read 1])
 (.cond (.t 52) .ret .skip))
 (.seq (.draw [oRM 61 0,oRM 62 3,oRM 63 9,oR 64 (.arith .add (.t 62) (.t 63)),oR 65 (.indexAddr 1 (.t 61) (.t 64)),oRD 66 65,oRM 67 0,oRM 68 3,oRM 69 8,oR 70 (.arith .add (.t 68) (.t 69)),oR 71 (.indexAddr 1 (.t 67) (.t 70)),oRD 72 71,oRM 53 0,oRM 54 3,oRM 55 8,oR 56 (.arith .add (.t 54) (.t 55)),oR 73 (.indexAddr 1 (.t 53) (.t 56)),oS 1 73 66,oRM 57 0,oRM 58 3,oRM 59 9,oR 60 (.arith .add (.t 58) (.t 59)),nK 74 (.indexAddr 1 (.t 57) (.t 60)) .read 1,⟨none,.store 1 (.t 74) (.t 72),none,.write,1,false⟩])
 (.region [oM 75 9,oM 8 75])))))))
def t199:DFunc:={ntmps:=76,results:=[],mode:=.full,body :=
 (oQ [oM 10 1,oM 8 10]
 (.block 0 (.loop t199l0)))}
theorem c199:compFunc Tryz.prog Tryz.f199 .full=some t199:=by kernel_rfl
def t200:DFunc:={ntmps:=7,results:=[.t 2],mode:=.pure,body :=
 (oQ [oW 2 (.move (.c (.int .u64 0)))]
 (oQ [oM 3 0,oW 4 (.conv .u64 (.t 3)),oW 5 (.call (oF 135) [.t 4]),oW 6 (.arith .shl (.c (.int .u64 1)) (.t 5)),oM 2 6]
 .ret))}
theorem c200:compFunc Tryz.prog Tryz.f200 .pure=some t200:=by kernel_rfl
def t201:DFunc:={ntmps:=33,results:=[.t 2],mode:=.full,body :=
 (oQ [oW 2 (.move (.c (.int .u64 0)))]
 (.seq (.draw [oRM 3 0,oR 4 (.nilCheck (.t 3)),oRD 5 4,oRM 6 0,oR 7 (.nilCheck (.t 6)),oRD 8 7,oR 9 (.arith .shl (.t 8) (.c (.int .u64 13))),oR 10 (.arith .xor (.t 5) (.t 9)),oR 11 (.nilCheck (.t 3)),oS 1 11 10])
 (.seq (.draw [oRM 12 0,oR 13 (.nilCheck (.t 12)),oRD 14 13,oRM 15 0,oR 16 (.nilCheck (.t 15)),oRD 17 16,oR 18 (.arith .shr (.t 17) (.c (.int .u64 7))),oR 19 (.arith .xor (.t 14) (.t 18)),oR 20 (.nilCheck (.t 12)),oS 1 20 19])
 (.seq (.draw [oRM 21 0,oR 22 (.nilCheck (.t 21)),oRD 23 22,oRM 24 0,oR 25 (.nilCheck (.t 24)),oRD 26 25,oR 27 (.arith .shl (.t 26) (.c (.int .u64 17))),oR 28 (.arith .xor (.t 23) (.t 27)),oR 29 (.nilCheck (.t 21)),oS 1 29 28])
 (oQ [oM 30 0,oW 31 (.nilCheck (.t 30)),oD 32 31,oM 2 32]
 .ret)))))}
theorem c201:compFunc Tryz.prog Tryz.f201 .full=some t201:=by kernel_rfl
def t202:DFunc:={ntmps:=15,results:=[.t 6],mode:=.full,body :=
 (oQ [oW 6 (.move (oI 0))]
 (oQ [oM 7 0,oM 8 1,oW 9 (.arith .sub (.t 8) (oI 1)),oM 10 1,oM 11 1,oW 12 (.arith .add (.t 11) (oI 1)),oM 13 2,oW 14 (.call (oF 203) [.t 7,.t 9,.t 10,.t 12,.t 13]),oM 6 14]
 .ret))}
theorem c202:compFunc Tryz.prog Tryz.f202 .full=some t202:=by kernel_rfl
def t203:DFunc:={ntmps:=36,results:=[.t 10],mode:=.full,body :=
 (oQ [oW 10 (.move (oI 0))]
 (oQ [oM 12 0,oM 13 1,oM 14 2,oM 15 4,oW 16 (.call (oF 212) [.t 12,.t 13,.t 14,.t 15]),oM 11 16,oX 17 11 0,oX 18 11 1,oM 1 17,oM 2 18]
 (oQ [oM 20 0,oM 21 2,oM 22 3,oM 23 4,oW 24 (.call (oF 212) [.t 20,.t 21,.t 22,.t 23]),oM 19 24,oX 25 19 0,oX 26 19 1,oM 2 25,oM 3 26]
 (oQ [oM 28 0,oM 29 1,oM 30 2,oM 31 4,oW 32 (.call (oF 212) [.t 28,.t 29,.t 30,.t 31]),oM 27 32,oX 33 27 0,oX 34 27 1,oM 1 33,oM 2 34]
 (oQ [oM 35 2,oM 10 35]
 .ret)))))}
theorem c203:compFunc Tryz.prog Tryz.f203 .full=some t203:=by kernel_rfl
def t204l0:DCode :=
 (.seq (oQ [oM 7 2,oM 8 3,oW 9 (.arith .lss (.t 7) (.t 8))]
 (.cond (.t 9) .skip (.exit 0)))
 (.seq (.block 1 (.draw [oRM 18 0,oRM 19 3,oR 20 (.indexAddr 4 (.t 18) (.t 19)),oRL 21 4 20,oRM 22 0,oRM 23 2,oR 24 (.indexAddr 4 (.t 22) (.t 23)),oRL 25 4 24,oRM 14 0,oRM 15 2,oR 26 (.indexAddr 4 (.t 14) (.t 15)),oS 4 26 21,oRM 16 0,oRM 17 3,nK 27 (.indexAddr 4 (.t 16) (.t 17)) .read 1,⟨none,.store 4 (.t 27) (.t 25),none,.write,1,false⟩]))
 (.region [oM 10 2,oW 11 (.arith .add (.t 10) (oI 1)),oM 12 3,oW 13 (.arith .sub (.t 12) (oI 1)),oM 2 11,oM 3 13])))
def t204:DFunc:={ntmps:=28,results:=[],mode:=.full,body :=
 (oQ [oM 4 0,oW 5 (.len 1 (.t 4)),oW 6 (.arith .sub (.t 5) (oI 1)),oW 2 (.move (oI 0)),oM 3 6]
 (.block 0 (.loop t204l0)))}
theorem c204:compFunc Tryz.prog Tryz.f204 .full=some t204:=by kernel_rfl
def t205l0:DCode :=
 (.seq (oQ [oM 7 2,oM 8 3,oW 9 (.arith .lss (.t 7) (.t 8))]
 (.cond (.t 9) .skip (.exit 0)))
 (.seq (.block 1 (.draw [oRM 18 0,oRM 19 3,oR 20 (.indexAddr 2 (.t 18) (.t 19)),oRL 21 2 20,oRM 22 0,oRM 23 2,oR 24 (.indexAddr 2 (.t 22) (.t 23)),oRL 25 2 24,oRM 14 0,oRM 15 2,oR 26 (.indexAddr 2 (.t 14) (.t 15)),oS 2 26 21,oRM 16 0,oRM 17 3,nK 27 (.indexAddr 2 (.t 16) (.t 17)) .read 1,⟨none,.store 2 (.t 27) (.t 25),none,.write,1,false⟩]))
 (.region [oM 10 2,oW 11 (.arith .add (.t 10) (oI 1)),oM 12 3,oW 13 (.arith .sub (.t 12) (oI 1)),oM 2 11,oM 3 13])))
def t205:DFunc:={ntmps:=28,results:=[],mode:=.full,body :=
 (oQ [oM 4 0,oW 5 (.len 1 (.t 4)),oW 6 (.arith .sub (.t 5) (oI 1)),oW 2 (.move (oI 0)),oM 3 6]
 (.block 0 (.loop t205l0)))}
theorem c205:compFunc Tryz.prog Tryz.f205 .full=some t205:=by kernel_rfl
def t206:DFunc:={ntmps:=48,results:=[.t 4],mode:=.pure,body :=
 (oQ [oW 2 (.box 62 5 (.t 0)),oW 3 (.box 202 3 (.t 1)),oW 4 (.move (oB false))]
 (.seq (oQ [oA 5 1 2,oD 6 5]
 (.block 0 (oQ [oW 8 (.arith .eql (.t 6) (oI 1)),oM 7 8]
 (.cond (.t 7) (oQ [oA 9 0 3,oD 10 9,oW 11 (.un .not (.t 10)),oM 12 11,gA 13 1 3 12 true,gD 14 13 12 true,gA 15 2 2 12 true,gD 16 15 12 true,gW 17 (.arith .geq (.t 14) (.t 16)) 12 true,oW 18 (.pick (.t 12) (.t 17) (oB false)),oM 19 18,gA 20 1 3 19 true,gD 21 20 19 true,gA 22 3 2 19 true,gD 23 22 19 true,gW 24 (.arith .leq (.t 21) (.t 23)) 19 true,oW 25 (.pick (.t 19) (.t 24) (oB false)),oM 4 25]
 .ret) (oQ [oW 27 (.arith .eql (.t 6) (oI 2)),oM 26 27]
 (.cond (.t 26) (oQ [oA 28 0 3,oD 29 28,oM 30 29,gA 31 2 3 30 true,gD 32 31 30 true,gA 33 4 2 30 true,gD 34 33 30 true,gW 35 (.arith .eql (.t 32) (.t 34)) 30 true,oW 36 (.pick (.t 30) (.t 35) (oB false)),oM 4 36]
 .ret) (oQ [oW 38 (.arith .eql (.t 6) (oI 3)),oM 37 38]
 (.cond (.t 37) (oQ [oA 39 0 3,oD 40 39,oM 41 40,gA 42 2 3 41 true,gD 43 42 41 true,gA 44 4 2 41 true,gD 45 44 41 true,gW 46 (.call (oF 188) [.t 43,.t 45]) 41 true,oW 47 (.pick (.t 41) (.t 46) (oB false)),oM 4 47]
 .ret) .skip))))))))
 (oQ [oW 4 (.move (oB false))]
 .ret)))}
theorem c206:compFunc Tryz.prog Tryz.f206 .pure=some t206:=by kernel_rfl
def t212:DFunc:={ntmps:=28,results:=[.t 8,.t 9],mode:=.pure,body :=
 (oQ [oW 8 (.move (oI 0)),oW 9 (.move (oI 0))]
 (.seq (.seq (.draw [oRM 10 0,oRM 11 2,oR 12 (.indexAddr 1 (.t 10) (.t 11)),oRD 13 12,oRM 14 0,oRM 15 1,oR 16 (.indexAddr 1 (.t 14) (.t 15)),oRD 17 16,oW 18 (.call (oF 176) [.t 13,.t 17])])
 (.cond (.t 18) (oQ [oM 19 3,oW 20 (.nilCheck (.t 19)),oD 21 20,oW 22 (.arith .add (.t 21) (oI 1)),oW 23 (.nilCheck (.t 19)),oS 1 23 22]
 (oQ [oM 24 2,oM 25 1,oM 8 24,oM 9 25]
 .ret)) .skip))
 (oQ [oM 26 1,oM 27 2,oM 8 26,oM 9 27]
 .ret)))}
theorem c212:compFunc Tryz.prog Tryz.f212 .pure=some t212:=by kernel_rfl
end Go.Dm.Tc
