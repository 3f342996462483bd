/-
The table of functions, brought into the machine's form (Tc, part 1). Written by program (wip/tools/table.lean.txt).
-/
import Derived.Test.YtfnhanajiibciaaGreatTc0
import Derived.Test.YtfnhanajiibciaaGreatMm3
import Derived.Test.YtfnhanajiibciaaGreatRows
import Derived.KernelRfl
namespace Go.Dm.Tc
open Go.Proofs
def t60l0:DCode :=
 (oQ [oW 14 (.arith .lss (.t 13) (.t 12))]
 (.seq (.cond (.t 14) .skip (.exit 0))
 (.seq (.block 1 (oQ [oM 15 13,oM 5 15]
 (.seq (.draw [oRM 16 0,oRM 17 5,oR 18 (.indexAddr 8 (.t 16) (.t 17)),oRA 19 0 18,oRD 20 19,oRM 21 1,oRM 22 5,oR 23 (.indexAddr 8 (.t 21) (.t 22)),oRA 24 0 23,oRD 25 24,oR 26 (.arith .neq (.t 20) (.t 25)),oRM 27 26,rM 28 0 27 false,rM 29 5 27 false,rW 30 (.indexAddr 8 (.t 28) (.t 29)) 27 false,rA 31 1 30 27 false,rL 32 7 31 27 false,rM 33 1 27 false,rM 34 5 27 false,rW 35 (.indexAddr 8 (.t 33) (.t 34)) 27 false,rA 36 1 35 27 false,rL 37 7 36 27 false,gW 38 (.call (oF 132) [.t 32,.t 37]) 27 false,⟨(some 39),.un .not (.t 38),(some (27,false)),.read,1,false⟩,nK 40 (.pick (.t 27) (oB true) (.t 39)) .read 1])
 (.cond (.t 40) (oQ [oW 4 (.move (oB false))]
 .ret) .skip))))
 (.region [oW 41 (.arith .add (.t 13) (oI 1)),oM 13 41]))))
def t60k0:DCode :=
 (oQ [oW 4 (.move (oB true))]
 .ret)
def t60:DFunc:={ntmps:=42,results:=[.t 4],mode:=.pure,body :=
 (oQ [oW 4 (.move (oB false))]
 (.seq (oQ [oM 6 0,oW 7 (.len 1 (.t 6)),oM 8 1,oW 9 (.len 1 (.t 8)),oW 10 (.arith .neq (.t 7) (.t 9))]
 (.cond (.t 10) (oQ [oW 4 (.move (oB false))]
 .ret) .skip))
 (.seq (oQ [oM 11 0,oW 12 (.len 1 (.t 11)),oW 13 (.move (oI 0))]
 (.block 0 (.loop t60l0)))
 t60k0)))}
theorem c60:compFunc Tryz.prog Tryz.f60 .pure=some t60:=by kernel_rfl
def t61l0:DCode :=
 (oQ [oW 18 (.arith .lss (.t 17) (.t 16))]
 (.seq (.cond (.t 18) .skip (.exit 0))
 (.seq (.block 1 (oQ [oW 19 (.indexAddr 3 (.t 15) (.t 17)),oL 20 3 19,oW 8 (.alloc 60 3 (.agg [.int .i64 0,.int .i64 0,.nsl])),oS 3 8 20]
 (oQ [oA 21 0 8,oL 22 2 21,oL 23 2 3,oW 24 (.eqa true [1,1] (.t 22) (.t 23))]
 (.cond (.t 24) (.region [oM 25 6,oL 26 3 8,oW 27 (.buildSlice 60 3 (.agg [.int .i64 0,.int .i64 0,.nsl]) 1 [(0,.t 26)]),oW 28 (.append 60 3 40 (.t 25) (.t 27)),oM 6 28]) .skip))))
 (.region [oW 29 (.arith .add (.t 17) (oI 1)),oM 17 29]))))
def t61l1:DCode :=
 (oQ [oW 43 (.arith .lss (.t 42) (.t 41))]
 (.seq (.cond (.t 43) .skip (.exit 2))
 (.seq (.block 3 (oQ [oW 44 (.indexAddr 4 (.t 40) (.t 42)),oL 45 4 44,oW 11 (.alloc 42 4 (.agg [.int .i64 0,.int .i64 0,.nsl,.int .i64 0])),oS 4 11 45]
 (oQ [oL 47 6 2,oA 48 0 11,oL 49 2 48,oL 50 2 3,oW 51 (.call (oF 133) [.t 47,.t 49,.t 50,(oI (-1))]),oM 46 51,oX 52 46 0,oX 53 46 1,oW 12 (.alloc 29 6 (.agg [.int .i64 0,.nsl,.nsl,.nsl,.nsl,.nsl])),oS 6 12 52,oM 13 53]
 (.draw [oRL 54 6 12,nK 55 (.buildSlice 86 8 (.agg [.int .i64 0,.int .i64 0,.int .i64 0,.int .i64 0,.int .i64 0,.int .i64 0,.nsl,.nsl]) 0 []) .create 0,oRM 56 9,nK 57 (.append 86 8 96 (.t 55) (.t 56)) .create 0,oRM 58 13,nK 59 (.append 86 8 96 (.t 57) (.t 58)) .create 0,⟨none,.store 6 (.t 2) (.t 54),none,.write,3,false⟩,nK 9 (.move (.t 59)) .read 4]))))
 (.region [oW 60 (.arith .add (.t 42) (oI 1)),oM 42 60]))))
def t61k0:DCode :=
 (oQ [oL 61 6 2,oM 62 9,oS 6 4 61,oM 5 62]
 .ret)
def t61k1:DCode :=
 (.seq (oQ [oM 30 6,oW 31 (.len 1 (.t 30)),oA 32 5 2,oD 33 32,oW 34 (.len 1 (.t 33)),oW 35 (.arith .eql (.t 31) (.t 34))]
 (.cond (.t 35) (oQ [oL 36 6 2,oS 6 4 36,oW 5 (.move (.c .nsl))]
 .ret) .skip))
 (oQ [oM 37 6,oA 38 5 2,oS 1 38 37]
 (oQ [oW 9 (.move (.c .nsl))]
 (.seq (oQ [oA 39 2 2,oD 40 39,oW 41 (.len 1 (.t 40)),oW 42 (.move (oI 0))]
 (.block 2 (.loop t61l1)))
 t61k0))))
def t61:DFunc:={ntmps:=63,results:=[(.cell 4 (some 6)),.t 5],mode:=.frz,body :=
 (oQ [oW 2 (.box 29 6 (.t 0)),oW 3 (.box 37 2 (.t 1)),oW 4 (.alloc 29 6 (.agg [.int .i64 0,.nsl,.nsl,.nsl,.nsl,.nsl])),oW 5 (.move (.c .nsl))]
 (oQ [oW 6 (.move (.c .nsl))]
 (.seq (oQ [oA 14 5 2,oD 15 14,oW 16 (.len 1 (.t 15)),oW 17 (.move (oI 0))]
 (.block 0 (.loop t61l0)))
 t61k1)))}
theorem c61:compFunc Tryz.prog Tryz.f61 .frz=some t61:=by kernel_rfl
def t62:DFunc:={ntmps:=41,results:=[(.cell 6 (some 6)),.t 7],mode:=.frz,body :=
 (oQ [oW 3 (.box 29 6 (.t 0)),oW 5 (.box 84 7 (.t 2)),oW 6 (.alloc 29 6 (.agg [.int .i64 0,.nsl,.nsl,.nsl,.nsl,.nsl])),oW 7 (.move (.c .nsl))]
 (oQ [oA 10 1 5,oL 11 2 10,oA 12 3 5,oL 13 2 12,oA 14 5 5,oD 15 14,oM 16 1,oW 17 (.build [.int .i64 0,.int .i64 0,.int .i64 0,.int .i64 0,.nsl,.int .i64 0,.bool false] [(0,2,.t 11),(2,2,.t 13),(4,1,.t 15),(5,1,.t 16)]),oW 8 (.alloc 58 7 (.agg [.int .i64 0,.int .i64 0,.int .i64 0,.int .i64 0,.nsl,.int .i64 0,.bool false])),oS 7 8 17]
 (oQ [oL 19 6 3,oL 20 7 8,oW 21 (.call (oF 37) [.t 19,.t 20]),oM 18 21,oX 22 18 0,oX 23 18 1,oS 6 3 22,oM 9 23]
 (.seq (oQ [oM 24 9,oW 25 (.un .not (.t 24))]
 (.cond (.t 25) (oQ [oL 26 6 3,oS 6 6 26,oW 7 (.move (.c .nsl))]
 .ret) .skip))
 (.seq (.draw [oRL 27 6 3,oRA 28 2 3,oRD 29 28,⟨(some 30),.load (some 6) (.t 3),none,.read,0,true⟩,oRA 31 1 5,⟨(some 32),.load (some 2) (.t 31),none,.read,0,true⟩,nK 33 (.call (oF 24) [.t 30,.t 32]) .create 0,nK 34 (.indexAddr 4 (.t 29) (.t 33)) .read 1,nK 35 (.fieldAddr 3 (.t 34)) .read 1,nK 36 (.load none (.t 35)) .read 1,oRL 37 7 8,nK 38 (.call (oF 122) [.t 37]) .create 1,⟨none,.store 6 (.t 6) (.t 27),none,.create,1,false⟩,nK 39 (.build [.int .i64 0,.int .i64 0,.int .i64 0,.int .i64 0,.int .i64 0,.int .i64 0,.nsl,.nsl] [(0,1,.t 36),(1,7,.t 38)]) .read 2,nK 40 (.buildSlice 86 8 (.agg [.int .i64 0,.int .i64 0,.int .i64 0,.int .i64 0,.int .i64 0,.int .i64 0,.nsl,.nsl]) 1 [(0,.t 39)]) .create 0,nK 7 (.move (.t 40)) .read 4])
 .ret)))))}
theorem c62:compFunc Tryz.prog Tryz.f62 .frz=some t62:=by kernel_rfl
def t63:DFunc:={ntmps:=17,results:=[(.cell 6 (some 6)),.t 7],mode:=.frz,body :=
 (oQ [oW 3 (.box 29 6 (.t 0)),oW 5 (.box 84 7 (.t 2)),oW 6 (.alloc 29 6 (.agg [.int .i64 0,.nsl,.nsl,.nsl,.nsl,.nsl])),oW 7 (.move (.c .nsl))]
 (oQ [oL 8 6 3,oA 9 1 5,oL 10 2 9,oA 11 3 5,oL 12 2 11,oM 13 1,oW 14 (.call (oF 133) [.t 8,.t 10,.t 12,.t 13]),oX 15 14 0,oX 16 14 1,oS 6 6 15,oM 7 16]
 .ret))}
theorem c63:compFunc Tryz.prog Tryz.f63 .frz=some t63:=by kernel_rfl
def t65:DFunc:={ntmps:=11,results:=[],mode:=.full,body :=
 (oQ [oM 3 0,oW 4 (.len 1 (.t 3)),oM 2 4]
 (.region [oM 5 0,oM 6 2,oM 7 2,oW 8 (.conv .u64 (.t 7)),oW 9 (.call (oF 135) [.t 8]),oW 10 (.call (oF 134) [.t 5,oI 0,.t 6,.t 9])]))}
theorem c65:compFunc Tryz.prog Tryz.f65 .full=some t65:=by kernel_rfl
def t66l0:DCode :=
 (.seq (oQ [oM 29 5,oM 30 4,oW 31 (.len 1 (.t 30)),oW 32 (.arith .lss (.t 29) (.t 31))]
 (.cond (.t 32) .skip (.exit 2)))
 (.seq (.block 3 (.seq (.draw [oRM 35 4,oRM 36 5,oR 37 (.indexAddr 1 (.t 35) (.t 36)),oRD 38 37,oRM 39 4,oRM 40 5,oR 41 (.arith .sub (.t 40) (oI 1)),oR 42 (.indexAddr 1 (.t 39) (.t 41)),oRD 43 42,oR 44 (.arith .neq (.t 38) (.t 43))])
 (.cond (.t 44) (oQ [oM 45 0,oM 46 3,oM 47 4,oM 48 5,oW 49 (.indexAddr 1 (.t 47) (.t 48)),oD 50 49,oW 51 (.indexAddr 1 (.t 45) (.t 46)),oS 1 51 50]
 (.region [oM 52 3,oW 53 (.arith .add (.t 52) (oI 1)),oM 3 53])) .skip)))
 (.region [oM 33 5,oW 34 (.arith .add (.t 33) (oI 1)),oM 5 34])))
def t66k0:DCode :=
 (oQ [oM 54 0,oM 55 3,oW 56 (.sliceSl 1 (.t 54) (some (.t 55)) none),oZ (.clear 1 (.int .i64 0) (.t 56))]
 (oQ [oM 57 0,oM 58 3,oW 59 (.sliceSl 1 (.t 57) none (some (.t 58))),oM 2 59]
 .ret))
def t66k1:DCode :=
 (.region [oM 14 3,oW 15 (.arith .add (.t 14) (oI 1)),oM 3 15])
def t66l1:DCode :=
 (.seq (oQ [oM 10 3,oM 11 0,oW 12 (.len 1 (.t 11)),oW 13 (.arith .lss (.t 10) (.t 12))]
 (.cond (.t 13) .skip (.exit 0)))
 (.seq (.block 1 (.seq (.draw [oRM 16 0,oRM 17 3,oR 18 (.indexAddr 1 (.t 16) (.t 17)),oRD 19 18,oRM 20 0,oRM 21 3,oR 22 (.arith .sub (.t 21) (oI 1)),oR 23 (.indexAddr 1 (.t 20) (.t 22)),oRD 24 23,oR 25 (.arith .eql (.t 19) (.t 24))])
 (.cond (.t 25) (oQ [oM 26 0,oM 27 3,oW 28 (.sliceSl 1 (.t 26) (some (.t 27)) none),oM 4 28]
 (.seq (oQ [oW 5 (.move (oI 1))]
 (.block 2 (.loop t66l0)))
 t66k0)) .skip)))
 t66k1))
def t66k2:DCode :=
 (oQ [oM 60 0,oM 2 60]
 .ret)
def t66:DFunc:={ntmps:=61,results:=[.t 2],mode:=.full,body :=
 (oQ [oW 2 (.move (.c .nsl))]
 (.seq (oQ [oM 6 0,oW 7 (.len 1 (.t 6)),oW 8 (.arith .lss (.t 7) (oI 2))]
 (.cond (.t 8) (oQ [oM 9 0,oM 2 9]
 .ret) .skip))
 (.seq (oQ [oW 3 (.move (oI 1))]
 (.block 0 (.loop t66l1)))
 t66k2)))}
theorem c66:compFunc Tryz.prog Tryz.f66 .full=some t66:=by kernel_rfl
def t67:DFunc:={ntmps:=2,results:=[.t 0],mode:=.pure,body :=
 (oQ [oW 0 (.move (.c .nsl))]
 (oQ [oW 1 (.buildSlice 9 1 (.str []) 7 [(0,(.c (.str [97]))),(1,(.c (.str [98]))),(2,(.c (.str [99]))),(3,(.c (.str [100]))),(4,(.c (.str [101]))),(5,(.c (.str [102]))),(6,(.c (.str [103])))]),oM 0 1]
 .ret))}
theorem c67:compFunc Tryz.prog Tryz.f67 .pure=some t67:=by kernel_rfl
def t68:DFunc:={ntmps:=44,results:=[(.cell 4 (some 5))],mode:=.pure,body :=
 (oQ [oW 4 (.alloc 62 5 (.agg [.str [],.int .i64 0,.int .i64 0,.int .i64 0,.str []]))]
 (oQ [oM 6 0,oW 7 (.build [.str [],.int .i64 0,.int .i64 0,.int .i64 0,.str []] [(0,1,.t 6)]),oW 5 (.alloc 62 5 (.agg [.str [],.int .i64 0,.int .i64 0,.int .i64 0,.str []])),oS 5 5 7]
 (.seq (oQ [oM 8 1,oW 9 (.call (oF 16) [.t 8,oI 0,oI 3])]
 (.block 0 (.seq (oQ [oW 19 (.arith .eql (.t 9) (oI 0)),oM 18 19]
 (.cond (.t 18) .skip (.region [oW 20 (.arith .eql (.t 9) (oI 1)),oM 18 20])))
 (.cond (.t 18) (oQ [oM 21 1,oW 22 (.arith .quo (.t 21) (oI 4)),oW 23 (.call (oF 16) [.t 22,oI 0,oI 9]),oA 24 1 5,oZ (.store 1 (.t 24) (oI 1)),oA 25 2 5,oS 1 25 23]
 (.draw [oRA 26 2 5,oRD 27 26,oRM 28 1,oR 29 (.arith .quo (.t 28) (oI 40)),nK 30 (.call (oF 16) [.t 29,oI 0,oI 9]) .create 0,nK 31 (.arith .add (.t 27) (.t 30)) .read 1,nK 32 (.fieldAddr 3 (.t 5)) .read 1,⟨none,.store 1 (.t 32) (.t 31),none,.write,1,false⟩])) (oQ [oW 34 (.arith .eql (.t 9) (oI 2)),oM 33 34]
 (.cond (.t 33) (.draw [oW 35 (.call (oF 136) []),oRM 36 1,oR 37 (.arith .quo (.t 36) (oI 4)),nK 38 (.call (oF 16) [.t 37,oI 0,oI 6]) .write 1,nK 39 (.indexAddr 1 (.t 35) (.t 38)) .read 2,nK 40 (.load none (.t 39)) .read 2,oRA 41 1 5,⟨none,.store 1 (.t 41) (oI 2),none,.create,2,false⟩,nK 42 (.fieldAddr 4 (.t 5)) .read 3,⟨none,.store 1 (.t 42) (.t 40),none,.write,3,false⟩]) (.draw [oW 10 (.call (oF 136) []),oRM 11 1,oR 12 (.arith .quo (.t 11) (oI 4)),nK 13 (.call (oF 16) [.t 12,oI 0,oI 6]) .write 1,nK 14 (.indexAddr 1 (.t 10) (.t 13)) .read 2,nK 15 (.load none (.t 14)) .read 2,oRA 16 1 5,⟨none,.store 1 (.t 16) (oI 3),none,.create,2,false⟩,nK 17 (.fieldAddr 4 (.t 5)) .read 3,⟨none,.store 1 (.t 17) (.t 15),none,.write,3,false⟩])))))))
 (oQ [oL 43 5 5,oS 5 4 43]
 .ret))))}
theorem c68:compFunc Tryz.prog Tryz.f68 .pure=some t68:=by kernel_rfl
def t69:DFunc:={ntmps:=15,results:=[.t 4],mode:=.pure,body :=
 (oQ [oW 4 (.move (oI 0))]
 (.seq (oQ [oM 5 0,oW 6 (.len 1 (.t 5)),oW 7 (.arith .eql (.t 6) (oI 0))]
 (.cond (.t 7) (oQ [oW 4 (.move (oI 0))]
 .ret) .skip))
 (oQ [oM 8 0,oM 9 1,oM 10 0,oW 11 (.len 1 (.t 10)),oW 12 (.arith .rem (.t 9) (.t 11)),oW 13 (.indexAddr 1 (.t 8) (.t 12)),oD 14 13,oM 4 14]
 .ret)))}
theorem c69:compFunc Tryz.prog Tryz.f69 .pure=some t69:=by kernel_rfl
def t70:DFunc:={ntmps:=24,results:=[(.cell 2 (some 6))],mode:=.full,body :=
 (oQ [oW 1 (.box 29 6 (.t 0)),oW 2 (.alloc 29 6 (.agg [.int .i64 0,.nsl,.nsl,.nsl,.nsl,.nsl]))]
 (.seq (.draw [oRA 3 1 1,oRD 4 3,nK 5 (.call (oF 64) [.t 4]) .create 0,oRA 6 2 1,oRD 7 6,nK 8 (.call (oF 137) [.t 7]) .create 0,oRA 9 3 1,oRD 10 9,nK 11 (.call (oF 138) [.t 10]) .create 0,oRA 12 4 1,oRD 13 12,nK 14 (.call (oF 112) [.t 13]) .create 0,oRA 15 5 1,oRD 16 15,nK 17 (.call (oF 126) [.t 16]) .write 4,nK 18 (.fieldAddr 1 (.t 1)) .read 1,⟨none,.store 1 (.t 18) (.t 5),none,.write,5,false⟩,nK 19 (.fieldAddr 2 (.t 1)) .read 6,⟨none,.store 1 (.t 19) (.t 8),none,.write,6,false⟩,nK 20 (.fieldAddr 3 (.t 1)) .read 7,⟨none,.store 1 (.t 20) (.t 11),none,.write,7,false⟩,nK 21 (.fieldAddr 4 (.t 1)) .read 8,⟨none,.store 1 (.t 21) (.t 14),none,.write,8,false⟩,nK 22 (.fieldAddr 5 (.t 1)) .read 9,⟨none,.store 1 (.t 22) (.t 17),none,.write,9,false⟩])
 (oQ [oL 23 6 1,oS 6 2 23]
 .ret)))}
theorem c70:compFunc Tryz.prog Tryz.f70 .full=some t70:=by kernel_rfl
def t71:DFunc:={ntmps:=12,results:=[.t 4,.t 5],mode:=.pure,body :=
 (oQ [oW 2 (.box 29 6 (.t 0)),oW 3 (.box 37 2 (.t 1)),oW 4 (.move (oI 0)),oW 5 (.move (oB false))]
 (oQ [oA 6 3 2,oD 7 6,oL 8 2 3,oW 9 (.call (oF 139) [.t 7,.t 8,oF 101]),oX 10 9 0,oX 11 9 1,oM 4 10,oM 5 11]
 .ret))}
theorem c71:compFunc Tryz.prog Tryz.f71 .pure=some t71:=by kernel_rfl
def t72:DFunc:={ntmps:=12,results:=[.t 4,.t 5],mode:=.pure,body :=
 (oQ [oW 2 (.box 29 6 (.t 0)),oW 3 (.box 37 2 (.t 1)),oW 4 (.move (oI 0)),oW 5 (.move (oB false))]
 (oQ [oA 6 2 2,oD 7 6,oL 8 2 3,oW 9 (.call (oF 140) [.t 7,.t 8,oF 141]),oX 10 9 0,oX 11 9 1,oM 4 10,oM 5 11]
 .ret))}
theorem c72:compFunc Tryz.prog Tryz.f72 .pure=some t72:=by kernel_rfl
def t73:DFunc:={ntmps:=95,results:=[.t 6],mode:=.split,body :=
 (oQ [oW 6 (.move (.c .nsl))]
 (oQ [oM 10 0,oM 11 1,oW 12 (.sliceSl 4 (.t 10) (some (.t 11)) none)]
 (oQ [oM 13 2,oW 14 (.len 1 (.t 13)),oM 7 14]
 (.seq (oQ [oM 15 7,oW 16 (.arith .eql (.t 15) (oI 0))]
 (.cond (.t 16) (oQ [oM 17 0,oM 6 17]
 .ret) .skip))
 (oQ [oM 18 0,oW 19 (.len 1 (.t 18)),oM 8 19]
 (.seq (oQ [oM 20 1,oM 21 8,oW 22 (.arith .eql (.t 20) (.t 21))]
 (.cond (.t 22) (oQ [oM 23 0,oM 24 2,oW 25 (.append 42 4 48 (.t 23) (.t 24)),oM 6 25]
 .ret) .skip))
 (.seq (oQ [oM 26 8,oM 27 7,oW 28 (.arith .add (.t 26) (.t 27)),oM 29 0,oW 30 (.cap (.t 29)),oW 31 (.arith .gtr (.t 28) (.t 30))]
 (.cond (.t 31) (oQ [oM 32 0,oM 33 1,oW 34 (.sliceSl 4 (.t 32) none (some (.t 33))),oM 35 8,oM 36 7,oW 37 (.arith .add (.t 35) (.t 36)),oM 38 1,oW 39 (.arith .sub (.t 37) (.t 38)),oW 40 (.appendZ 42 4 48 (.agg [.int .i64 0,.int .i64 0,.nsl,.int .i64 0]) (.t 34) (.t 39)),oM 9 40]
 (oQ [oM 41 9,oM 42 1,oW 43 (.sliceSl 4 (.t 41) (some (.t 42)) none),oM 44 2,oW 45 (.copy 4 (.t 43) (.t 44))]
 (.seq (.draw [oRM 46 9,oRM 47 1,oRM 48 7,oR 49 (.arith .add (.t 47) (.t 48)),oR 50 (.sliceSl 4 (.t 46) (some (.t 49)) none),oRM 51 0,oRM 52 1,oR 53 (.sliceSl 4 (.t 51) (some (.t 52)) none),oW 54 (.copy 4 (.t 50) (.t 53))])
 (oQ [oM 55 9,oM 6 55]
 .ret)))) .skip))
 (oQ [oM 56 0,oM 57 8,oM 58 7,oW 59 (.arith .add (.t 57) (.t 58)),oW 60 (.sliceSl 4 (.t 56) none (some (.t 59))),oM 0 60]
 (.seq (oQ [oM 61 2,oM 62 0,oM 63 1,oM 64 7,oW 65 (.arith .add (.t 63) (.t 64)),oW 66 (.sliceSl 4 (.t 62) (some (.t 65)) none),oW 67 (.call (oF 142) [.t 61,.t 66]),oW 68 (.un .not (.t 67))]
 (.cond (.t 68) (.seq (.draw [oRM 69 0,oRM 70 1,oRM 71 7,oR 72 (.arith .add (.t 70) (.t 71)),oR 73 (.sliceSl 4 (.t 69) (some (.t 72)) none),oRM 74 0,oRM 75 1,oR 76 (.sliceSl 4 (.t 74) (some (.t 75)) none),oW 77 (.copy 4 (.t 73) (.t 76))])
 (oQ [oM 78 0,oM 79 1,oW 80 (.sliceSl 4 (.t 78) (some (.t 79)) none),oM 81 2,oW 82 (.copy 4 (.t 80) (.t 81))]
 (oQ [oM 83 0,oM 6 83]
 .ret))) .skip))
 (oQ [oM 84 0,oM 85 8,oW 86 (.sliceSl 4 (.t 84) (some (.t 85)) none),oM 87 2,oW 88 (.copy 4 (.t 86) (.t 87))]
 (oQ [oM 89 0,oM 90 1,oW 91 (.sliceSl 4 (.t 89) (some (.t 90)) none),oM 92 7,oW 93 (.call (oF 143) [.t 91,.t 92])]
 (oQ [oM 94 0,oM 6 94]
 .ret))))))))))))}
theorem c73:compFunc Tryz.prog Tryz.f73 .split=some t73:=by kernel_rfl
def t74:DFunc:={ntmps:=95,results:=[.t 6],mode:=.split,body :=
 (oQ [oW 6 (.move (.c .nsl))]
 (oQ [oM 10 0,oM 11 1,oW 12 (.sliceSl 2 (.t 10) (some (.t 11)) none)]
 (oQ [oM 13 2,oW 14 (.len 1 (.t 13)),oM 7 14]
 (.seq (oQ [oM 15 7,oW 16 (.arith .eql (.t 15) (oI 0))]
 (.cond (.t 16) (oQ [oM 17 0,oM 6 17]
 .ret) .skip))
 (oQ [oM 18 0,oW 19 (.len 1 (.t 18)),oM 8 19]
 (.seq (oQ [oM 20 1,oM 21 8,oW 22 (.arith .eql (.t 20) (.t 21))]
 (.cond (.t 22) (oQ [oM 23 0,oM 24 2,oW 25 (.append 37 2 16 (.t 23) (.t 24)),oM 6 25]
 .ret) .skip))
 (.seq (oQ [oM 26 8,oM 27 7,oW 28 (.arith .add (.t 26) (.t 27)),oM 29 0,oW 30 (.cap (.t 29)),oW 31 (.arith .gtr (.t 28) (.t 30))]
 (.cond (.t 31) (oQ [oM 32 0,oM 33 1,oW 34 (.sliceSl 2 (.t 32) none (some (.t 33))),oM 35 8,oM 36 7,oW 37 (.arith .add (.t 35) (.t 36)),oM 38 1,oW 39 (.arith .sub (.t 37) (.t 38)),oW 40 (.appendZ 37 2 16 (.agg [.int .i64 0,.int .i64 0]) (.t 34) (.t 39)),oM 9 40]
 (oQ [oM 41 9,oM 42 1,oW 43 (.sliceSl 2 (.t 41) (some (.t 42)) none),oM 44 2,oW 45 (.copy 2 (.t 43) (.t 44))]
 (.seq (.draw [oRM 46 9,oRM 47 1,oRM 48 7,oR 49 (.arith .add (.t 47) (.t 48)),oR 50 (.sliceSl 2 (.t 46) (some (.t 49)) none),oRM 51 0,oRM 52 1,oR 53 (.sliceSl 2 (.t 51) (some (.t 52)) none),oW 54 (.copy 2 (.t 50) (.t 53))])
 (oQ [oM 55 9,oM 6 55]
 .ret)))) .skip))
 (oQ [oM 56 0,oM 57 8,oM 58 7,oW 59 (.arith .add (.t 57) (.t 58)),oW 60 (.sliceSl 2 (.t 56) none (some (.t 59))),oM 0 60]
 (.seq (oQ [oM 61 2,oM 62 0,oM 63 1,oM 64 7,oW 65 (.arith .add (.t 63) (.t 64)),oW 66 (.sliceSl 2 (.t 62) (some (.t 65)) none),oW 67 (.call (oF 144) [.t 61,.t 66]),oW 68 (.un .not (.t 67))]
 (.cond (.t 68) (.seq (.draw [oRM 69 0,oRM 70 1,oRM 71 7,oR 72 (.arith .add (.t 70) (.t 71)),oR 73 (.sliceSl 2 (.t 69) (some (.t 72)) none),oRM 74 0,oRM 75 1,oR 76 (.sliceSl 2 (.t 74) (some (.t 75)) none),oW 77 (.copy 2 (.t 73) (.t 76))])
 (oQ [oM 78 0,oM 79 1,oW 80 (.sliceSl 2 (.t 78) (some (.t 79)) none),oM 81 2,oW 82 (.copy 2 (.t 80) (.t 81))]
 (oQ [oM 83 0,oM 6 83]
 .ret))) .skip))
 (oQ [oM 84 0,oM 85 8,oW 86 (.sliceSl 2 (.t 84) (some (.t 85)) none),oM 87 2,oW 88 (.copy 2 (.t 86) (.t 87))]
 (oQ [oM 89 0,oM 90 1,oW 91 (.sliceSl 2 (.t 89) (some (.t 90)) none),oM 92 7,oW 93 (.call (oF 145) [.t 91,.t 92])]
 (oQ [oM 94 0,oM 6 94]
 .ret))))))))))))}
theorem c74:compFunc Tryz.prog Tryz.f74 .split=some t74:=by kernel_rfl
def t75l0:DCode :=
 (oQ [oW 11 (.arith .lss (.t 10) (.t 9))]
 (.seq (.cond (.t 11) .skip (.exit 0))
 (.seq (.block 1 (oQ [oW 12 (.indexAddr 2 (.t 8) (.t 10)),oL 13 2 12,oW 6 (.alloc 37 2 (.agg [.int .i64 0,.int .i64 0])),oS 2 6 13]
 (oQ [oL 14 2 6,oL 15 2 3,oW 16 (.eqa false [1,1] (.t 14) (.t 15))]
 (.cond (.t 16) (oQ [oW 4 (.move (oB true))]
 .ret) .skip))))
 (.region [oW 17 (.arith .add (.t 10) (oI 1)),oM 10 17]))))
def t75k0:DCode :=
 (oQ [oW 4 (.move (oB false))]
 .ret)
def t75:DFunc:={ntmps:=18,results:=[.t 4],mode:=.pure,body :=
 (oQ [oW 2 (.box 29 6 (.t 0)),oW 3 (.box 37 2 (.t 1)),oW 4 (.move (oB false))]
 (.seq (oQ [oA 7 3 2,oD 8 7,oW 9 (.len 1 (.t 8)),oW 10 (.move (oI 0))]
 (.block 0 (.loop t75l0)))
 t75k0))}
theorem c75:compFunc Tryz.prog Tryz.f75 .pure=some t75:=by kernel_rfl
def t76:DFunc:={ntmps:=24,results:=[.t 4],mode:=.pure,body :=
 (oQ [oW 2 (.box 37 2 (.t 0)),oW 3 (.box 37 2 (.t 1)),oW 4 (.move (oB false))]
 (oQ [oA 5 0 2,oD 6 5,oA 7 0 3,oD 8 7,oW 9 (.arith .lss (.t 6) (.t 8)),oM 10 9,gA 11 0 2 10 false,gD 12 11 10 false,gA 13 0 3 10 false,gD 14 13 10 false,gW 15 (.arith .eql (.t 12) (.t 14)) 10 false,gM 16 15 10 false,gA 17 1 2 16 true,gD 18 17 16 true,gA 19 1 3 16 true,gD 20 19 16 true,gW 21 (.arith .lss (.t 18) (.t 20)) 16 true,gW 22 (.pick (.t 16) (.t 21) (oB false)) 10 false,oW 23 (.pick (.t 10) (oB true) (.t 22)),oM 4 23]
 .ret))}
theorem c76:compFunc Tryz.prog Tryz.f76 .pure=some t76:=by kernel_rfl
def t80l0:DCode :=
 (.seq (oQ [oM 11 5,oM 12 0,oW 13 (.len 1 (.t 12)),oW 14 (.arith .lss (.t 11) (.t 13))]
 (.cond (.t 14) .skip (.exit 0)))
 (.seq (.block 1 (.seq (.draw [oRM 17 0,oRM 18 5,oR 19 (.indexAddr 1 (.t 17) (.t 18)),oRD 20 19,oRM 21 1,oRM 22 5,oR 23 (.indexAddr 1 (.t 21) (.t 22)),oRD 24 23,oR 25 (.arith .neq (.t 20) (.t 24))])
 (.cond (.t 25) (oQ [oW 4 (.move (oB false))]
 .ret) .skip)))
 (.region [oM 15 5,oW 16 (.arith .add (.t 15) (oI 1)),oM 5 16])))
def t80k0:DCode :=
 (oQ [oW 4 (.move (oB true))]
 .ret)
def t80:DFunc:={ntmps:=26,results:=[.t 4],mode:=.pure,body :=
 (oQ [oW 4 (.move (oB false))]
 (.seq (oQ [oM 6 0,oW 7 (.len 1 (.t 6)),oM 8 1,oW 9 (.len 1 (.t 8)),oW 10 (.arith .neq (.t 7) (.t 9))]
 (.cond (.t 10) (oQ [oW 4 (.move (oB false))]
 .ret) .skip))
 (.seq (oQ [oW 5 (.move (oI 0))]
 (.block 0 (.loop t80l0)))
 t80k0)))}
theorem c80:compFunc Tryz.prog Tryz.f80 .pure=some t80:=by kernel_rfl
def t81l0:DCode :=
 (.seq (oQ [oM 11 5,oM 12 0,oW 13 (.len 1 (.t 12)),oW 14 (.arith .lss (.t 11) (.t 13))]
 (.cond (.t 14) .skip (.exit 0)))
 (.seq (.block 1 (.seq (.draw [oRM 17 0,oRM 18 5,oR 19 (.indexAddr 2 (.t 17) (.t 18)),oRL 20 2 19,oRM 21 1,oRM 22 5,oR 23 (.indexAddr 2 (.t 21) (.t 22)),oRL 24 2 23,oR 25 (.eqa true [1,1] (.t 20) (.t 24))])
 (.cond (.t 25) (oQ [oW 4 (.move (oB false))]
 .ret) .skip)))
 (.region [oM 15 5,oW 16 (.arith .add (.t 15) (oI 1)),oM 5 16])))
def t81k0:DCode :=
 (oQ [oW 4 (.move (oB true))]
 .ret)
def t81:DFunc:={ntmps:=26,results:=[.t 4],mode:=.pure,body :=
 (oQ [oW 4 (.move (oB false))]
 (.seq (oQ [oM 6 0,oW 7 (.len 1 (.t 6)),oM 8 1,oW 9 (.len 1 (.t 8)),oW 10 (.arith .neq (.t 7) (.t 9))]
 (.cond (.t 10) (oQ [oW 4 (.move (oB false))]
 .ret) .skip))
 (.seq (oQ [oW 5 (.move (oI 0))]
 (.block 0 (.loop t81l0)))
 t81k0)))}
theorem c81:compFunc Tryz.prog Tryz.f81 .pure=some t81:=by kernel_rfl
def t91l0:DCode :=
 (.seq (oQ [oM 6 5,oM 7 0,oW 8 (.len 1 (.t 7)),oW 9 (.arith .lss (.t 6) (.t 8))]
 (.cond (.t 9) .skip (.exit 0)))
 (.seq (.block 1 (.seq (.draw [oRM 13 0,oRM 14 5,oR 15 (.arith .sub (.t 14) (oI 1)),oR 16 (.indexAddr 1 (.t 13) (.t 15)),oRD 17 16,oRM 18 0,oRM 19 5,oR 20 (.indexAddr 1 (.t 18) (.t 19)),oRD 21 20,oRM 12 1,oW 22 (.call (.t 12) [.t 17,.t 21]),nK 23 (.un .not (.t 22)) .read 1])
 (.cond (.t 23) (oQ [oW 4 (.move (oB false))]
 .ret) .skip)))
 (.region [oM 10 5,oW 11 (.arith .add (.t 10) (oI 1)),oM 5 11])))
def t91k0:DCode :=
 (oQ [oW 4 (.move (oB true))]
 .ret)
def t91:DFunc:={ntmps:=24,results:=[.t 4],mode:=.pure,body :=
 (oQ [oW 4 (.move (oB false))]
 (.seq (oQ [oW 5 (.move (oI 1))]
 (.block 0 (.loop t91l0)))
 t91k0))}
theorem c91:compFunc Tryz.prog Tryz.f91 .pure=some t91:=by kernel_rfl
def t92:DFunc:={ntmps:=8,results:=[.t 4],mode:=.pure,body :=
 (oQ [oW 4 (.move (oB false))]
 (oQ [oM 5 0,oM 6 1,oW 7 (.arith .lss (.t 5) (.t 6)),oM 4 7]
 .ret))}
theorem c92:compFunc Tryz.prog Tryz.f92 .pure=some t92:=by kernel_rfl
def t93l0:DCode :=
 (.seq (oQ [oM 6 5,oM 7 0,oW 8 (.len 1 (.t 7)),oW 9 (.arith .lss (.t 6) (.t 8))]
 (.cond (.t 9) .skip (.exit 0)))
 (.seq (.block 1 (.seq (.draw [oRM 13 0,oRM 14 5,oR 15 (.arith .sub (.t 14) (oI 1)),oR 16 (.indexAddr 2 (.t 13) (.t 15)),oRL 17 2 16,oRM 18 0,oRM 19 5,oR 20 (.indexAddr 2 (.t 18) (.t 19)),oRL 21 2 20,oRM 12 1,oW 22 (.call (.t 12) [.t 17,.t 21]),nK 23 (.un .not (.t 22)) .read 1])
 (.cond (.t 23) (oQ [oW 4 (.move (oB false))]
 .ret) .skip)))
 (.region [oM 10 5,oW 11 (.arith .add (.t 10) (oI 1)),oM 5 11])))
def t93k0:DCode :=
 (oQ [oW 4 (.move (oB true))]
 .ret)
def t93:DFunc:={ntmps:=24,results:=[.t 4],mode:=.pure,body :=
 (oQ [oW 4 (.move (oB false))]
 (.seq (oQ [oW 5 (.move (oI 1))]
 (.block 0 (.loop t93l0)))
 t93k0))}
theorem c93:compFunc Tryz.prog Tryz.f93 .pure=some t93:=by kernel_rfl
def t94l0:DCode :=
 (.seq (oQ [oM 6 5,oM 7 0,oW 8 (.len 1 (.t 7)),oW 9 (.arith .lss (.t 6) (.t 8))]
 (.cond (.t 9) .skip (.exit 0)))
 (.seq (.block 1 (.seq (.draw [oRM 13 0,oRM 14 5,oR 15 (.arith .sub (.t 14) (oI 1)),oR 16 (.indexAddr 4 (.t 13) (.t 15)),oRL 17 4 16,oRM 18 0,oRM 19 5,oR 20 (.indexAddr 4 (.t 18) (.t 19)),oRL 21 4 20,oRM 12 1,oW 22 (.call (.t 12) [.t 17,.t 21]),nK 23 (.un .not (.t 22)) .read 1])
 (.cond (.t 23) (oQ [oW 4 (.move (oB false))]
 .ret) .skip)))
 (.region [oM 10 5,oW 11 (.arith .add (.t 10) (oI 1)),oM 5 11])))
def t94k0:DCode :=
 (oQ [oW 4 (.move (oB true))]
 .ret)
def t94:DFunc:={ntmps:=24,results:=[.t 4],mode:=.pure,body :=
 (oQ [oW 4 (.move (oB false))]
 (.seq (oQ [oW 5 (.move (oI 1))]
 (.block 0 (.loop t94l0)))
 t94k0))}
theorem c94:compFunc Tryz.prog Tryz.f94 .pure=some t94:=by kernel_rfl
def t95:DFunc:={ntmps:=10,results:=[.t 4],mode:=.pure,body :=
 (oQ [oW 2 (.box 42 4 (.t 0)),oW 3 (.box 42 4 (.t 1)),oW 4 (.move (oB false))]
 (oQ [oA 5 0 2,oL 6 2 5,oA 7 0 3,oL 8 2 7,oW 9 (.call (oF 56) [.t 6,.t 8]),oM 4 9]
 .ret))}
theorem c95:compFunc Tryz.prog Tryz.f95 .pure=some t95:=by kernel_rfl
def t96l0:DCode :=
 (.seq (oQ [oM 6 5,oM 7 0,oW 8 (.len 1 (.t 7)),oW 9 (.arith .lss (.t 6) (.t 8))]
 (.cond (.t 9) .skip (.exit 0)))
 (.seq (.block 1 (.seq (.draw [oRM 13 0,oRM 14 5,oR 15 (.arith .sub (.t 14) (oI 1)),oR 16 (.indexAddr 3 (.t 13) (.t 15)),oRL 17 3 16,oRM 18 0,oRM 19 5,oR 20 (.indexAddr 3 (.t 18) (.t 19)),oRL 21 3 20,oRM 12 1,oW 22 (.call (.t 12) [.t 17,.t 21]),nK 23 (.un .not (.t 22)) .read 1])
 (.cond (.t 23) (oQ [oW 4 (.move (oB false))]
 .ret) .skip)))
 (.region [oM 10 5,oW 11 (.arith .add (.t 10) (oI 1)),oM 5 11])))
def t96k0:DCode :=
 (oQ [oW 4 (.move (oB true))]
 .ret)
def t96:DFunc:={ntmps:=24,results:=[.t 4],mode:=.pure,body :=
 (oQ [oW 4 (.move (oB false))]
 (.seq (oQ [oW 5 (.move (oI 1))]
 (.block 0 (.loop t96l0)))
 t96k0))}
theorem c96:compFunc Tryz.prog Tryz.f96 .pure=some t96:=by kernel_rfl
def t97:DFunc:={ntmps:=10,results:=[.t 4],mode:=.pure,body :=
 (oQ [oW 2 (.box 60 3 (.t 0)),oW 3 (.box 60 3 (.t 1)),oW 4 (.move (oB false))]
 (oQ [oA 5 0 2,oL 6 2 5,oA 7 0 3,oL 8 2 7,oW 9 (.call (oF 56) [.t 6,.t 8]),oM 4 9]
 .ret))}
theorem c97:compFunc Tryz.prog Tryz.f97 .pure=some t97:=by kernel_rfl
def t98l0:DCode :=
 (.seq (oQ [oM 6 5,oM 7 0,oW 8 (.len 1 (.t 7)),oW 9 (.arith .lss (.t 6) (.t 8))]
 (.cond (.t 9) .skip (.exit 0)))
 (.seq (.block 1 (.seq (.draw [oRM 13 0,oRM 14 5,oR 15 (.arith .sub (.t 14) (oI 1)),oR 16 (.indexAddr 7 (.t 13) (.t 15)),oRL 17 7 16,oRM 18 0,oRM 19 5,oR 20 (.indexAddr 7 (.t 18) (.t 19)),oRL 21 7 20,oRM 12 1,oW 22 (.call (.t 12) [.t 17,.t 21]),nK 23 (.un .not (.t 22)) .read 1])
 (.cond (.t 23) (oQ [oW 4 (.move (oB false))]
 .ret) .skip)))
 (.region [oM 10 5,oW 11 (.arith .add (.t 10) (oI 1)),oM 5 11])))
def t98k0:DCode :=
 (oQ [oW 4 (.move (oB true))]
 .ret)
def t98:DFunc:={ntmps:=24,results:=[.t 4],mode:=.pure,body :=
 (oQ [oW 4 (.move (oB false))]
 (.seq (oQ [oW 5 (.move (oI 1))]
 (.block 0 (.loop t98l0)))
 t98k0))}
theorem c98:compFunc Tryz.prog Tryz.f98 .pure=some t98:=by kernel_rfl
def t99:DFunc:={ntmps:=18,results:=[.t 4],mode:=.pure,body :=
 (oQ [oW 2 (.box 58 7 (.t 0)),oW 3 (.box 58 7 (.t 1)),oW 4 (.move (oB false))]
 (.seq (.draw [oRA 5 0 2,oRL 6 2 5,oRA 7 0 3,oRL 8 2 7,nK 9 (.call (oF 101) [.t 6,.t 8]) .create 0,oRA 10 2 2,oRL 11 2 10,oRA 12 2 3,oRL 13 2 12,nK 14 (.call (oF 101) [.t 11,.t 13]) .write 1,nK 15 (.buildSlice 3 1 (.int .i64 0) 2 [(0,.t 9),(1,.t 14)]) .create 0,nK 16 (.call (oF 100) [.t 15]) .write 3,nK 17 (.arith .lss (.t 16) (oI 0)) .read 4,nK 4 (.move (.t 17)) .read 4])
 .ret))}
theorem c99:compFunc Tryz.prog Tryz.f99 .pure=some t99:=by kernel_rfl
def t100l0:DCode :=
 (oQ [oW 9 (.arith .lss (.t 8) (.t 7))]
 (.seq (.cond (.t 9) .skip (.exit 0))
 (.seq (.block 1 (oQ [oW 10 (.indexAddr 1 (.t 6) (.t 8)),oD 11 10,oM 5 11]
 (oQ [oM 12 5,oM 13 3,oW 14 (.arith .neq (.t 12) (.t 13))]
 (.cond (.t 14) (oQ [oM 15 5,oM 2 15]
 .ret) .skip))))
 (.region [oW 16 (.arith .add (.t 8) (oI 1)),oM 8 16]))))
def t100k0:DCode :=
 (oQ [oM 17 3,oM 2 17]
 .ret)
def t100:DFunc:={ntmps:=18,results:=[.t 2],mode:=.pure,body :=
 (oQ [oW 2 (.move (oI 0))]
 (oQ [oW 3 (.move (oI 0))]
 (.seq (oQ [oM 6 0,oW 7 (.len 1 (.t 6)),oW 8 (.move (oI 0))]
 (.block 0 (.loop t100l0)))
 t100k0)))}
theorem c100:compFunc Tryz.prog Tryz.f100 .pure=some t100:=by kernel_rfl
def t101:DFunc:={ntmps:=17,results:=[.t 4],mode:=.pure,body :=
 (oQ [oW 2 (.box 37 2 (.t 0)),oW 3 (.box 37 2 (.t 1)),oW 4 (.move (oI 0))]
 (.seq (.draw [oRA 5 0 2,oRD 6 5,oRA 7 0 3,oRD 8 7,nK 9 (.call (oF 148) [.t 6,.t 8]) .create 0,oRA 10 1 2,oRD 11 10,oRA 12 1 3,oRD 13 12,nK 14 (.call (oF 148) [.t 11,.t 13]) .write 1,nK 15 (.buildSlice 3 1 (.int .i64 0) 2 [(0,.t 9),(1,.t 14)]) .create 0,nK 16 (.call (oF 100) [.t 15]) .write 3,nK 4 (.move (.t 16)) .read 4])
 .ret))}
theorem c101:compFunc Tryz.prog Tryz.f101 .pure=some t101:=by kernel_rfl
def t102:DFunc:={ntmps:=9,results:=[.t 4],mode:=.pure,body :=
 (oQ [oW 4 (.move (oB false))]
 (oQ [oM 5 0,oM 6 1,oW 7 (.call (oF 149) [.t 5,.t 6]),oW 8 (.arith .geq (.t 7) (oI 0)),oM 4 8]
 .ret))}
theorem c102:compFunc Tryz.prog Tryz.f102 .pure=some t102:=by kernel_rfl
def t103:DFunc:={ntmps:=22,results:=[.t 3],mode:=.pure,body :=
 (oQ [oW 2 (.box 42 4 (.t 0)),oW 3 (.move (oB false))]
 (oQ [oL 4 6 1,oA 5 0 2,oL 6 2 5,oW 7 (.call (oF 57) [.t 4,.t 6]),oW 8 (.un .not (.t 7)),oM 9 8,gL 10 6 1 9 false,gA 11 3 2 9 false,gD 12 11 9 false,gW 13 (.call (oF 104) [.t 10,.t 12]) 9 false,gW 14 (.un .not (.t 13)) 9 false,oW 15 (.pick (.t 9) (oB true) (.t 14)),oM 16 15,gA 17 2 2 16 false,gD 18 17 16 false,gW 19 (.call (oF 105) [.t 18]) 16 false,gW 20 (.un .not (.t 19)) 16 false,oW 21 (.pick (.t 16) (oB true) (.t 20)),oM 3 21]
 .ret))}
theorem c103:compFunc Tryz.prog Tryz.f103 .pure=some t103:=by kernel_rfl
def t104:DFunc:={ntmps:=13,results:=[.t 4],mode:=.pure,body :=
 (oQ [oW 2 (.box 29 6 (.t 0)),oW 4 (.move (oB false))]
 (oQ [oM 5 1,oW 6 (.arith .eql (.t 5) (oI (-1))),oM 7 6,gA 8 1 2 7 false,gD 9 8 7 false,gM 10 1 7 false,gW 11 (.call (oF 150) [.t 9,.t 10]) 7 false,oW 12 (.pick (.t 7) (oB true) (.t 11)),oM 4 12]
 .ret))}
theorem c104:compFunc Tryz.prog Tryz.f104 .pure=some t104:=by kernel_rfl
def t105l0:DCode :=
 (oQ [oW 8 (.arith .lss (.t 7) (.t 6))]
 (.seq (.cond (.t 8) .skip (.exit 0))
 (.seq (.block 1 (oQ [oM 9 7,oW 10 (.indexAddr 5 (.t 5) (.t 7)),oL 11 5 10,oW 4 (.alloc 62 5 (.agg [.str [],.int .i64 0,.int .i64 0,.int .i64 0,.str []])),oM 3 9,oS 5 4 11]
 (.seq (.draw [oRL 12 5 4,oW 13 (.call (oF 151) [.t 12]),nK 14 (.un .not (.t 13)) .read 1,nK 15 (.move (.t 14)) .read 1,⟨(some 16),.move (.t 3),(some (15,false)),.read,1,false⟩,⟨(some 17),.arith .gtr (.t 16) (oI 0),(some (15,false)),.read,1,false⟩,⟨(some 18),.move (.t 17),(some (15,false)),.read,1,false⟩,⟨(some 19),.move (.t 0),(some (18,true)),.read,1,false⟩,⟨(some 20),.move (.t 3),(some (18,true)),.read,1,false⟩,⟨(some 21),.arith .sub (.t 20) (oI 1),(some (18,true)),.read,1,false⟩,⟨(some 22),.indexAddr 5 (.t 19) (.t 21),(some (18,true)),.read,1,false⟩,⟨(some 23),.fieldAddr 0 (.t 22),(some (18,true)),.read,1,false⟩,⟨(some 24),.load none (.t 23),(some (18,true)),.read,1,false⟩,⟨(some 25),.fieldAddr 0 (.t 4),(some (18,true)),.read,1,false⟩,⟨(some 26),.load none (.t 25),(some (18,true)),.read,1,false⟩,⟨(some 27),.arith .geq (.t 24) (.t 26),(some (18,true)),.read,1,false⟩,⟨(some 28),.pick (.t 18) (.t 27) (oB false),(some (15,false)),.read,1,false⟩,nK 29 (.pick (.t 15) (oB true) (.t 28)) .read 1])
 (.cond (.t 29) (oQ [oW 2 (.move (oB false))]
 .ret) .skip))))
 (.region [oW 30 (.arith .add (.t 7) (oI 1)),oM 7 30]))))
def t105k0:DCode :=
 (oQ [oM 31 0,oW 32 (.len 1 (.t 31)),oW 33 (.arith .leq (.t 32) (oI 5)),oM 2 33]
 .ret)
def t105:DFunc:={ntmps:=34,results:=[.t 2],mode:=.pure,body :=
 (oQ [oW 2 (.move (oB false))]
 (.seq (oQ [oM 5 0,oW 6 (.len 1 (.t 5)),oW 7 (.move (oI 0))]
 (.block 0 (.loop t105l0)))
 t105k0))}
theorem c105:compFunc Tryz.prog Tryz.f105 .pure=some t105:=by kernel_rfl
def t106:DFunc:={ntmps:=9,results:=[.t 4],mode:=.pure,body :=
 (oQ [oW 4 (.move (oB false))]
 (oQ [oM 5 0,oM 6 1,oW 7 (.call (oF 146) [.t 5,.t 6]),oW 8 (.arith .geq (.t 7) (oI 0)),oM 4 8]
 .ret))}
theorem c106:compFunc Tryz.prog Tryz.f106 .pure=some t106:=by kernel_rfl
def t107:DFunc:={ntmps:=8,results:=[.t 3],mode:=.pure,body :=
 (oQ [oW 2 (.box 58 7 (.t 0)),oW 3 (.move (oB false))]
 (oQ [oL 4 6 1,oL 5 7 2,oW 6 (.call (oF 108) [.t 4,.t 5]),oW 7 (.un .not (.t 6)),oM 3 7]
 .ret))}
theorem c107:compFunc Tryz.prog Tryz.f107 .pure=some t107:=by kernel_rfl
def t108:DFunc:={ntmps:=48,results:=[.t 4],mode:=.pure,body :=
 (oQ [oW 2 (.box 29 6 (.t 0)),oW 3 (.box 58 7 (.t 1)),oW 4 (.move (oB false))]
 (oQ [oL 9 6 2,oA 10 0 3,oL 11 2 10,oW 12 (.call (oF 23) [.t 9,.t 11]),oM 8 12,oX 13 8 0,oX 14 8 1,oW 5 (.alloc 42 4 (.agg [.int .i64 0,.int .i64 0,.nsl,.int .i64 0])),oS 4 5 13,oM 6 14]
 (oQ [oA 15 3 5,oD 16 15,oW 17 (.arith .eql (.t 16) (oI (-1))),oM 7 17]
 (oQ [oM 18 6,oM 19 18,gL 20 6 2 19 true,gA 21 5 3 19 true,gD 22 21 19 true,gW 23 (.call (oF 104) [.t 20,.t 22]) 19 true,oW 24 (.pick (.t 19) (.t 23) (oB false)),oM 25 24,gA 26 5 3 25 true,gD 27 26 25 true,gA 28 3 5 25 true,gD 29 28 25 true,gW 30 (.arith .neq (.t 27) (.t 29)) 25 true,gM 31 30 25 true,gM 32 7 31 false,gW 33 (.pick (.t 31) (oB true) (.t 32)) 25 true,oW 34 (.pick (.t 25) (.t 33) (oB false)),oM 35 34,gA 36 6 3 35 true,gD 37 36 35 true,gM 38 37 35 true,gM 39 7 38 true,gW 40 (.pick (.t 38) (.t 39) (oB false)) 35 true,gW 41 (.un .not (.t 40)) 35 true,oW 42 (.pick (.t 35) (.t 41) (oB false)),oM 43 42,gA 44 4 3 43 true,gD 45 44 43 true,gW 46 (.call (oF 105) [.t 45]) 43 true,oW 47 (.pick (.t 43) (.t 46) (oB false)),oM 4 47]
 .ret))))}
theorem c108:compFunc Tryz.prog Tryz.f108 .pure=some t108:=by kernel_rfl
end Go.Dm.Tc
