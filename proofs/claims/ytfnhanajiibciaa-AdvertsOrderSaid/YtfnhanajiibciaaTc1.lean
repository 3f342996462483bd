/-
The table of functions, brought into the machine's form (Tc, part 1). Written by program (wip/tools/table.lean.txt).
-/
import Derived.Test.YtfnhanajiibciaaTc0
import Derived.Test.YtfnhanajiibciaaMm3
import Derived.Test.YtfnhanajiibciaaRows
import Derived.KernelRfl
namespace Go.Dm.Tc
open Go.Proofs
def t52:DFunc:={ntmps:=9,results:=[.t 4],mode:=.pure,body :=
 (oQ [oW 4 (.move (oB false))]
 (oQ [oM 5 0,oM 6 1,oW 7 (.call (oF 93) [.t 5,.t 6]),oW 8 (.arith .geq (.t 7) (oI 0)),oM 4 8]
 .ret))}
theorem c52:compFunc Try.prog Try.f52 .pure=some t52:=by kernel_rfl
def t53:DFunc:={ntmps:=22,results:=[.t 3],mode:=.pure,body :=
 (oQ [oW 2 (.box 41 4 (.t 0)),oW 3 (.move (oB false))]
 (oQ [oL 4 6 1,oA 5 0 2,oL 6 2 5,oW 7 (.call (oF 11) [.t 4,.t 6]),oW 8 (.un .not (.t 7)),oM 9 8,gL 10 6 1 9 false,gA 11 3 2 9 false,gD 12 11 9 false,gW 13 (.call (oF 54) [.t 10,.t 12]) 9 false,gW 14 (.un .not (.t 13)) 9 false,oW 15 (.pick (.t 9) (oB true) (.t 14)),oM 16 15,gA 17 2 2 16 false,gD 18 17 16 false,gW 19 (.call (oF 55) [.t 18]) 16 false,gW 20 (.un .not (.t 19)) 16 false,oW 21 (.pick (.t 16) (oB true) (.t 20)),oM 3 21]
 .ret))}
theorem c53:compFunc Try.prog Try.f53 .pure=some t53:=by kernel_rfl
def t54:DFunc:={ntmps:=13,results:=[.t 4],mode:=.pure,body :=
 (oQ [oW 2 (.box 30 6 (.t 0)),oW 4 (.move (oB false))]
 (oQ [oM 5 1,oW 6 (.arith .eql (.t 5) (oI (-1))),oM 7 6,gA 8 1 2 7 false,gD 9 8 7 false,gM 10 1 7 false,gW 11 (.call (oF 94) [.t 9,.t 10]) 7 false,oW 12 (.pick (.t 7) (oB true) (.t 11)),oM 4 12]
 .ret))}
theorem c54:compFunc Try.prog Try.f54 .pure=some t54:=by kernel_rfl
def t55l0:DCode :=
 (oQ [oW 8 (.arith .lss (.t 7) (.t 6))]
 (.seq (.cond (.t 8) .skip (.exit 0))
 (.seq (.block 1 (oQ [oM 9 7,oW 10 (.indexAddr 5 (.t 5) (.t 7)),oL 11 5 10,oW 4 (.alloc 63 5 (.agg [.str [],.int .i64 0,.int .i64 0,.int .i64 0,.str []])),oM 3 9,oS 5 4 11]
 (.seq (.draw [oRL 12 5 4,oW 13 (.call (oF 95) [.t 12]),nK 14 (.un .not (.t 13)) .read 1,nK 15 (.move (.t 14)) .read 1,⟨(some 16),.move (.t 3),(some (15,false)),.read,1,false⟩,⟨(some 17),.arith .gtr (.t 16) (oI 0),(some (15,false)),.read,1,false⟩,⟨(some 18),.move (.t 17),(some (15,false)),.read,1,false⟩,⟨(some 19),.move (.t 0),(some (18,true)),.read,1,false⟩,⟨(some 20),.move (.t 3),(some (18,true)),.read,1,false⟩,⟨(some 21),.arith .sub (.t 20) (oI 1),(some (18,true)),.read,1,false⟩,⟨(some 22),.indexAddr 5 (.t 19) (.t 21),(some (18,true)),.read,1,false⟩,⟨(some 23),.fieldAddr 0 (.t 22),(some (18,true)),.read,1,false⟩,⟨(some 24),.load none (.t 23),(some (18,true)),.read,1,false⟩,⟨(some 25),.fieldAddr 0 (.t 4),(some (18,true)),.read,1,false⟩,⟨(some 26),.load none (.t 25),(some (18,true)),.read,1,false⟩,⟨(some 27),.arith .geq (.t 24) (.t 26),(some (18,true)),.read,1,false⟩,⟨(some 28),.pick (.t 18) (.t 27) (oB false),(some (15,false)),.read,1,false⟩,nK 29 (.pick (.t 15) (oB true) (.t 28)) .read 1])
 (.cond (.t 29) (oQ [oW 2 (.move (oB false))]
 .ret) .skip))))
 (.region [oW 30 (.arith .add (.t 7) (oI 1)),oM 7 30]))))
def t55k0:DCode :=
 (oQ [oM 31 0,oW 32 (.len 1 (.t 31)),oW 33 (.arith .leq (.t 32) (oI 5)),oM 2 33]
 .ret)
def t55:DFunc:={ntmps:=34,results:=[.t 2],mode:=.pure,body :=
 (oQ [oW 2 (.move (oB false))]
 (.seq (oQ [oM 5 0,oW 6 (.len 1 (.t 5)),oW 7 (.move (oI 0))]
 (.block 0 (.loop t55l0)))
 t55k0))}
theorem c55:compFunc Try.prog Try.f55 .pure=some t55:=by kernel_rfl
def t56:DFunc:={ntmps:=9,results:=[.t 4],mode:=.pure,body :=
 (oQ [oW 4 (.move (oB false))]
 (oQ [oM 5 0,oM 6 1,oW 7 (.call (oF 91) [.t 5,.t 6]),oW 8 (.arith .geq (.t 7) (oI 0)),oM 4 8]
 .ret))}
theorem c56:compFunc Try.prog Try.f56 .pure=some t56:=by kernel_rfl
def t57:DFunc:={ntmps:=8,results:=[.t 3],mode:=.pure,body :=
 (oQ [oW 2 (.box 53 7 (.t 0)),oW 3 (.move (oB false))]
 (oQ [oL 4 6 1,oL 5 7 2,oW 6 (.call (oF 58) [.t 4,.t 5]),oW 7 (.un .not (.t 6)),oM 3 7]
 .ret))}
theorem c57:compFunc Try.prog Try.f57 .pure=some t57:=by kernel_rfl
def t58:DFunc:={ntmps:=48,results:=[.t 4],mode:=.pure,body :=
 (oQ [oW 2 (.box 30 6 (.t 0)),oW 3 (.box 53 7 (.t 1)),oW 4 (.move (oB false))]
 (oQ [oL 9 6 2,oA 10 0 3,oL 11 2 10,oW 12 (.call (oF 12) [.t 9,.t 11]),oM 8 12,oX 13 8 0,oX 14 8 1,oW 5 (.alloc 41 4 (.agg [.int .i64 0,.int .i64 0,.nsl,.int .i64 0])),oS 4 5 13,oM 6 14]
 (oQ [oA 15 3 5,oD 16 15,oW 17 (.arith .eql (.t 16) (oI (-1))),oM 7 17]
 (oQ [oM 18 6,oM 19 18,gL 20 6 2 19 true,gA 21 5 3 19 true,gD 22 21 19 true,gW 23 (.call (oF 54) [.t 20,.t 22]) 19 true,oW 24 (.pick (.t 19) (.t 23) (oB false)),oM 25 24,gA 26 5 3 25 true,gD 27 26 25 true,gA 28 3 5 25 true,gD 29 28 25 true,gW 30 (.arith .neq (.t 27) (.t 29)) 25 true,gM 31 30 25 true,gM 32 7 31 false,gW 33 (.pick (.t 31) (oB true) (.t 32)) 25 true,oW 34 (.pick (.t 25) (.t 33) (oB false)),oM 35 34,gA 36 6 3 35 true,gD 37 36 35 true,gM 38 37 35 true,gM 39 7 38 true,gW 40 (.pick (.t 38) (.t 39) (oB false)) 35 true,gW 41 (.un .not (.t 40)) 35 true,oW 42 (.pick (.t 35) (.t 41) (oB false)),oM 43 42,gA 44 4 3 43 true,gD 45 44 43 true,gW 46 (.call (oF 55) [.t 45]) 43 true,oW 47 (.pick (.t 43) (.t 46) (oB false)),oM 4 47]
 .ret))))}
theorem c58:compFunc Try.prog Try.f58 .pure=some t58:=by kernel_rfl
def t59:DFunc:={ntmps:=9,results:=[.t 4],mode:=.pure,body :=
 (oQ [oW 4 (.move (oB false))]
 (oQ [oM 5 0,oM 6 1,oW 7 (.call (oF 96) [.t 5,.t 6]),oW 8 (.arith .geq (.t 7) (oI 0)),oM 4 8]
 .ret))}
theorem c59:compFunc Try.prog Try.f59 .pure=some t59:=by kernel_rfl
def t60:DFunc:={ntmps:=7,results:=[.t 2],mode:=.pure,body :=
 (oQ [oW 1 (.box 88 3 (.t 0)),oW 2 (.move (oB false))]
 (oQ [oA 3 2 1,oD 4 3,oW 5 (.call (oF 55) [.t 4]),oW 6 (.un .not (.t 5)),oM 2 6]
 .ret))}
theorem c60:compFunc Try.prog Try.f60 .pure=some t60:=by kernel_rfl
def t61l0:DCode :=
 (.seq (oQ [oM 11 5,oM 12 0,oW 13 (.len 1 (.t 12)),oW 14 (.arith .lss (.t 11) (.t 13))]
 (.cond (.t 14) .skip (.exit 0)))
 (.seq (.block 1 (.seq (.draw [oRM 17 0,oRM 18 5,oR 19 (.indexAddr 1 (.t 17) (.t 18)),oRD 20 19,oRM 21 1,oRM 22 5,oR 23 (.indexAddr 1 (.t 21) (.t 22)),oRD 24 23,oR 25 (.arith .neq (.t 20) (.t 24))])
 (.cond (.t 25) (oQ [oW 4 (.move (oB false))]
 .ret) .skip)))
 (.region [oM 15 5,oW 16 (.arith .add (.t 15) (oI 1)),oM 5 16])))
def t61k0:DCode :=
 (oQ [oW 4 (.move (oB true))]
 .ret)
def t61:DFunc:={ntmps:=26,results:=[.t 4],mode:=.pure,body :=
 (oQ [oW 4 (.move (oB false))]
 (.seq (oQ [oM 6 0,oW 7 (.len 1 (.t 6)),oM 8 1,oW 9 (.len 1 (.t 8)),oW 10 (.arith .neq (.t 7) (.t 9))]
 (.cond (.t 10) (oQ [oW 4 (.move (oB false))]
 .ret) .skip))
 (.seq (oQ [oW 5 (.move (oI 0))]
 (.block 0 (.loop t61l0)))
 t61k0)))}
theorem c61:compFunc Try.prog Try.f61 .pure=some t61:=by kernel_rfl
def t69l0:DCode :=
 (oQ [oW 14 (.arith .lss (.t 13) (.t 12))]
 (.seq (.cond (.t 14) .skip (.exit 0))
 (.seq (.block 1 (oQ [oM 15 13,oM 5 15]
 (.seq (.draw [oRM 16 0,oRM 17 5,oR 18 (.indexAddr 1 (.t 16) (.t 17)),oRD 19 18,oRM 20 1,oRM 21 5,oR 22 (.indexAddr 1 (.t 20) (.t 21)),oRD 23 22,oR 24 (.arith .neq (.t 19) (.t 23))])
 (.cond (.t 24) (oQ [oW 4 (.move (oB false))]
 .ret) .skip))))
 (.region [oW 25 (.arith .add (.t 13) (oI 1)),oM 13 25]))))
def t69k0:DCode :=
 (oQ [oW 4 (.move (oB true))]
 .ret)
def t69:DFunc:={ntmps:=26,results:=[.t 4],mode:=.pure,body :=
 (oQ [oW 4 (.move (oB false))]
 (.seq (oQ [oM 6 0,oW 7 (.len 1 (.t 6)),oM 8 1,oW 9 (.len 1 (.t 8)),oW 10 (.arith .neq (.t 7) (.t 9))]
 (.cond (.t 10) (oQ [oW 4 (.move (oB false))]
 .ret) .skip))
 (.seq (oQ [oM 11 0,oW 12 (.len 1 (.t 11)),oW 13 (.move (oI 0))]
 (.block 0 (.loop t69l0)))
 t69k0)))}
theorem c69:compFunc Try.prog Try.f69 .pure=some t69:=by kernel_rfl
def t70l0:DCode :=
 (oQ [oW 14 (.arith .lss (.t 13) (.t 12))]
 (.seq (.cond (.t 14) .skip (.exit 0))
 (.seq (.block 1 (oQ [oM 15 13,oM 5 15]
 (.seq (.draw [oRM 16 0,oRM 17 5,oR 18 (.indexAddr 2 (.t 16) (.t 17)),oRL 19 2 18,oRM 20 1,oRM 21 5,oR 22 (.indexAddr 2 (.t 20) (.t 21)),oRL 23 2 22,oR 24 (.eqa true [1,1] (.t 19) (.t 23))])
 (.cond (.t 24) (oQ [oW 4 (.move (oB false))]
 .ret) .skip))))
 (.region [oW 25 (.arith .add (.t 13) (oI 1)),oM 13 25]))))
def t70k0:DCode :=
 (oQ [oW 4 (.move (oB true))]
 .ret)
def t70:DFunc:={ntmps:=26,results:=[.t 4],mode:=.pure,body :=
 (oQ [oW 4 (.move (oB false))]
 (.seq (oQ [oM 6 0,oW 7 (.len 1 (.t 6)),oM 8 1,oW 9 (.len 1 (.t 8)),oW 10 (.arith .neq (.t 7) (.t 9))]
 (.cond (.t 10) (oQ [oW 4 (.move (oB false))]
 .ret) .skip))
 (.seq (oQ [oM 11 0,oW 12 (.len 1 (.t 11)),oW 13 (.move (oI 0))]
 (.block 0 (.loop t70l0)))
 t70k0)))}
theorem c70:compFunc Try.prog Try.f70 .pure=some t70:=by kernel_rfl
def t71l0:DCode :=
 (oQ [oW 18 (.arith .lss (.t 17) (.t 16))]
 (.seq (.cond (.t 18) .skip (.exit 0))
 (.seq (.block 1 (oQ [oM 19 17,oW 20 (.indexAddr 4 (.t 15) (.t 17)),oL 21 4 20,oW 8 (.alloc 41 4 (.agg [.int .i64 0,.int .i64 0,.nsl,.int .i64 0])),oM 7 19,oS 4 8 21]
 (oQ [oM 22 1,oM 23 7,oW 24 (.indexAddr 4 (.t 22) (.t 23)),oL 25 4 24,oW 9 (.alloc 41 4 (.agg [.int .i64 0,.int .i64 0,.nsl,.int .i64 0])),oS 4 9 25]
 (oQ [oM 26 2,oL 27 4 8,oL 28 4 9,oW 29 (.call (.t 26) [.t 27,.t 28]),oW 30 (.un .not (.t 29))]
 (.cond (.t 30) (oQ [oW 6 (.move (oB false))]
 .ret) .skip)))))
 (.region [oW 31 (.arith .add (.t 17) (oI 1)),oM 17 31]))))
def t71k0:DCode :=
 (oQ [oW 6 (.move (oB true))]
 .ret)
def t71:DFunc:={ntmps:=32,results:=[.t 6],mode:=.pure,body :=
 (oQ [oW 6 (.move (oB false))]
 (.seq (oQ [oM 10 0,oW 11 (.len 1 (.t 10)),oM 12 1,oW 13 (.len 1 (.t 12)),oW 14 (.arith .neq (.t 11) (.t 13))]
 (.cond (.t 14) (oQ [oW 6 (.move (oB false))]
 .ret) .skip))
 (.seq (oQ [oM 15 0,oW 16 (.len 1 (.t 15)),oW 17 (.move (oI 0))]
 (.block 0 (.loop t71l0)))
 t71k0)))}
theorem c71:compFunc Try.prog Try.f71 .pure=some t71:=by kernel_rfl
def t72:DFunc:={ntmps:=24,results:=[.t 4],mode:=.pure,body :=
 (oQ [oW 2 (.box 41 4 (.t 0)),oW 3 (.box 41 4 (.t 1)),oW 4 (.move (oB false))]
 (oQ [oA 5 0 2,oL 6 2 5,oA 7 0 3,oL 8 2 7,oW 9 (.eqa false [1,1] (.t 6) (.t 8)),oM 10 9,gA 11 3 2 10 true,gD 12 11 10 true,gA 13 3 3 10 true,gD 14 13 10 true,gW 15 (.arith .eql (.t 12) (.t 14)) 10 true,oW 16 (.pick (.t 10) (.t 15) (oB false)),oM 17 16,gA 18 2 2 17 true,gD 19 18 17 true,gA 20 2 3 17 true,gD 21 20 17 true,gW 22 (.call (oF 73) [.t 19,.t 21]) 17 true,oW 23 (.pick (.t 17) (.t 22) (oB false)),oM 4 23]
 .ret))}
theorem c72:compFunc Try.prog Try.f72 .pure=some t72:=by kernel_rfl
def t73:DFunc:={ntmps:=8,results:=[.t 4],mode:=.pure,body :=
 (oQ [oW 4 (.move (oB false))]
 (oQ [oM 5 0,oM 6 1,oW 7 (.call (oF 104) [.t 5,.t 6]),oM 4 7]
 .ret))}
theorem c73:compFunc Try.prog Try.f73 .pure=some t73:=by kernel_rfl
def t74l0:DCode :=
 (oQ [oW 18 (.arith .lss (.t 17) (.t 16))]
 (.seq (.cond (.t 18) .skip (.exit 0))
 (.seq (.block 1 (oQ [oM 19 17,oW 20 (.indexAddr 7 (.t 15) (.t 17)),oL 21 7 20,oW 8 (.alloc 53 7 (.agg [.int .i64 0,.int .i64 0,.int .i64 0,.int .i64 0,.nsl,.int .i64 0,.bool false])),oM 7 19,oS 7 8 21]
 (oQ [oM 22 1,oM 23 7,oW 24 (.indexAddr 7 (.t 22) (.t 23)),oL 25 7 24,oW 9 (.alloc 53 7 (.agg [.int .i64 0,.int .i64 0,.int .i64 0,.int .i64 0,.nsl,.int .i64 0,.bool false])),oS 7 9 25]
 (oQ [oM 26 2,oL 27 7 8,oL 28 7 9,oW 29 (.call (.t 26) [.t 27,.t 28]),oW 30 (.un .not (.t 29))]
 (.cond (.t 30) (oQ [oW 6 (.move (oB false))]
 .ret) .skip)))))
 (.region [oW 31 (.arith .add (.t 17) (oI 1)),oM 17 31]))))
def t74k0:DCode :=
 (oQ [oW 6 (.move (oB true))]
 .ret)
def t74:DFunc:={ntmps:=32,results:=[.t 6],mode:=.pure,body :=
 (oQ [oW 6 (.move (oB false))]
 (.seq (oQ [oM 10 0,oW 11 (.len 1 (.t 10)),oM 12 1,oW 13 (.len 1 (.t 12)),oW 14 (.arith .neq (.t 11) (.t 13))]
 (.cond (.t 14) (oQ [oW 6 (.move (oB false))]
 .ret) .skip))
 (.seq (oQ [oM 15 0,oW 16 (.len 1 (.t 15)),oW 17 (.move (oI 0))]
 (.block 0 (.loop t74l0)))
 t74k0)))}
theorem c74:compFunc Try.prog Try.f74 .pure=some t74:=by kernel_rfl
def t75:DFunc:={ntmps:=38,results:=[.t 4],mode:=.pure,body :=
 (oQ [oW 2 (.box 53 7 (.t 0)),oW 3 (.box 53 7 (.t 1)),oW 4 (.move (oB false))]
 (oQ [oA 5 0 2,oL 6 2 5,oA 7 0 3,oL 8 2 7,oW 9 (.eqa false [1,1] (.t 6) (.t 8)),oM 10 9,gA 11 2 2 10 true,gL 12 2 11 10 true,gA 13 2 3 10 true,gL 14 2 13 10 true,gW 15 (.eqa false [1,1] (.t 12) (.t 14)) 10 true,oW 16 (.pick (.t 10) (.t 15) (oB false)),oM 17 16,gA 18 5 2 17 true,gD 19 18 17 true,gA 20 5 3 17 true,gD 21 20 17 true,gW 22 (.arith .eql (.t 19) (.t 21)) 17 true,oW 23 (.pick (.t 17) (.t 22) (oB false)),oM 24 23,gA 25 6 2 24 true,gD 26 25 24 true,gA 27 6 3 24 true,gD 28 27 24 true,gW 29 (.eqb false (.t 26) (.t 28)) 24 true,oW 30 (.pick (.t 24) (.t 29) (oB false)),oM 31 30,gA 32 4 2 31 true,gD 33 32 31 true,gA 34 4 3 31 true,gD 35 34 31 true,gW 36 (.call (oF 73) [.t 33,.t 35]) 31 true,oW 37 (.pick (.t 31) (.t 36) (oB false)),oM 4 37]
 .ret))}
theorem c75:compFunc Try.prog Try.f75 .pure=some t75:=by kernel_rfl
def t76l0:DCode :=
 (oQ [oW 18 (.arith .lss (.t 17) (.t 16))]
 (.seq (.cond (.t 18) .skip (.exit 0))
 (.seq (.block 1 (oQ [oM 19 17,oW 20 (.indexAddr 3 (.t 15) (.t 17)),oL 21 3 20,oW 8 (.alloc 88 3 (.agg [.int .i64 0,.int .i64 0,.nsl])),oM 7 19,oS 3 8 21]
 (oQ [oM 22 1,oM 23 7,oW 24 (.indexAddr 3 (.t 22) (.t 23)),oL 25 3 24,oW 9 (.alloc 88 3 (.agg [.int .i64 0,.int .i64 0,.nsl])),oS 3 9 25]
 (oQ [oM 26 2,oL 27 3 8,oL 28 3 9,oW 29 (.call (.t 26) [.t 27,.t 28]),oW 30 (.un .not (.t 29))]
 (.cond (.t 30) (oQ [oW 6 (.move (oB false))]
 .ret) .skip)))))
 (.region [oW 31 (.arith .add (.t 17) (oI 1)),oM 17 31]))))
def t76k0:DCode :=
 (oQ [oW 6 (.move (oB true))]
 .ret)
def t76:DFunc:={ntmps:=32,results:=[.t 6],mode:=.pure,body :=
 (oQ [oW 6 (.move (oB false))]
 (.seq (oQ [oM 10 0,oW 11 (.len 1 (.t 10)),oM 12 1,oW 13 (.len 1 (.t 12)),oW 14 (.arith .neq (.t 11) (.t 13))]
 (.cond (.t 14) (oQ [oW 6 (.move (oB false))]
 .ret) .skip))
 (.seq (oQ [oM 15 0,oW 16 (.len 1 (.t 15)),oW 17 (.move (oI 0))]
 (.block 0 (.loop t76l0)))
 t76k0)))}
theorem c76:compFunc Try.prog Try.f76 .pure=some t76:=by kernel_rfl
def t77:DFunc:={ntmps:=17,results:=[.t 4],mode:=.pure,body :=
 (oQ [oW 2 (.box 88 3 (.t 0)),oW 3 (.box 88 3 (.t 1)),oW 4 (.move (oB false))]
 (oQ [oA 5 0 2,oL 6 2 5,oA 7 0 3,oL 8 2 7,oW 9 (.eqa false [1,1] (.t 6) (.t 8)),oM 10 9,gA 11 2 2 10 true,gD 12 11 10 true,gA 13 2 3 10 true,gD 14 13 10 true,gW 15 (.call (oF 73) [.t 12,.t 14]) 10 true,oW 16 (.pick (.t 10) (.t 15) (oB false)),oM 4 16]
 .ret))}
theorem c77:compFunc Try.prog Try.f77 .pure=some t77:=by kernel_rfl
def t78l0:DCode :=
 (.block 1 (oQ [oM 19 2,oM 20 1,oW 21 (.arith .sub (.t 19) (.t 20)),oM 10 21]
 (.seq (oQ [oM 22 10,oW 23 (.arith .leq (.t 22) (oI 12))]
 (.cond (.t 23) (oQ [oM 24 0,oM 25 1,oM 26 2,oW 27 (.call (oF 105) [.t 24,.t 25,.t 26])]
 .ret) .skip))
 (.seq (oQ [oM 28 3,oW 29 (.arith .eql (.t 28) (oI 0))]
 (.cond (.t 29) (oQ [oM 30 0,oM 31 1,oM 32 2,oW 33 (.call (oF 106) [.t 30,.t 31,.t 32])]
 .ret) .skip))
 (.seq (oQ [oM 34 8,oW 35 (.un .not (.t 34))]
 (.cond (.t 35) (oQ [oM 36 0,oM 37 1,oM 38 2,oW 39 (.call (oF 107) [.t 36,.t 37,.t 38])]
 (.region [oM 40 3,oW 41 (.arith .sub (.t 40) (oI 1)),oM 3 41])) .skip))
 (oQ [oM 43 0,oM 44 1,oM 45 2,oW 46 (.call (oF 108) [.t 43,.t 44,.t 45]),oM 42 46,oX 47 42 0,oX 48 42 1,oM 11 47,oM 12 48]
 (.seq (oQ [oM 49 12,oW 50 (.arith .eql (.t 49) (oI 2))]
 (.cond (.t 50) (oQ [oM 51 0,oM 52 1,oM 53 2,oW 54 (.call (oF 109) [.t 51,.t 52,.t 53])]
 (oQ [oM 55 2,oW 56 (.arith .sub (.t 55) (oI 1)),oM 57 11,oM 58 1,oW 59 (.arith .sub (.t 57) (.t 58)),oW 60 (.arith .sub (.t 56) (.t 59)),oM 11 60]
 (.region [oW 12 (.move (oI 1))]))) .skip))
 (.seq (oQ [oM 61 8,oM 62 61,gM 63 9 62 true,oW 64 (.pick (.t 62) (.t 63) (oB false)),oM 65 64,gM 66 12 65 true,gW 67 (.arith .eql (.t 66) (oI 1)) 65 true,oW 68 (.pick (.t 65) (.t 67) (oB false))]
 (.cond (.t 68) (oQ [oM 69 0,oM 70 1,oM 71 2,oW 72 (.call (oF 110) [.t 69,.t 70,.t 71])]
 (.cond (.t 72) .ret .skip)) .skip))
 (.seq (.seq (.draw [oRM 73 1,oR 74 (.arith .gtr (.t 73) (oI 0)),oRM 75 74,rM 76 0 75 true,rM 77 1 75 true,rW 78 (.arith .sub (.t 77) (oI 1)) 75 true,rW 79 (.indexAddr 1 (.t 76) (.t 78)) 75 true,rD 80 79 75 true,rM 81 0 75 true,rM 82 11 75 true,rW 83 (.indexAddr 1 (.t 81) (.t 82)) 75 true,rD 84 83 75 true,gW 85 (.call (oF 111) [.t 80,.t 84]) 75 true,⟨(some 86),.un .not (.t 85),(some (75,true)),.read,1,false⟩,nK 87 (.pick (.t 75) (.t 86) (oB false)) .read 1])
 (.cond (.t 87) (oQ [oM 88 0,oM 89 1,oM 90 2,oM 91 11,oW 92 (.call (oF 112) [.t 88,.t 89,.t 90,.t 91]),oM 13 92]
 (oQ [oM 93 13,oM 1 93]
 (.exit 1))) .skip))
 (oQ [oM 95 0,oM 96 1,oM 97 2,oM 98 11,oW 99 (.call (oF 113) [.t 95,.t 96,.t 97,.t 98]),oM 94 99,oX 100 94 0,oX 101 94 1,oM 14 100,oM 15 101]
 (oQ [oM 102 15,oM 9 102]
 (oQ [oM 103 14,oM 104 1,oW 105 (.arith .sub (.t 103) (.t 104)),oM 106 2,oM 107 14,oW 108 (.arith .sub (.t 106) (.t 107)),oM 16 105,oM 17 108]
 (oQ [oM 109 10,oW 110 (.arith .quo (.t 109) (oI 8)),oM 18 110]
 (oQ [oM 111 16,oM 112 17,oW 113 (.arith .lss (.t 111) (.t 112))]
 (.cond (.t 113) (oQ [oM 114 16,oM 115 18,oW 116 (.arith .geq (.t 114) (.t 115)),oM 8 116]
 (oQ [oM 117 0,oM 118 1,oM 119 14,oM 120 3,oW 121 (.call (oF 78) [.t 117,.t 118,.t 119,.t 120])]
 (.region [oM 122 14,oW 123 (.arith .add (.t 122) (oI 1)),oM 1 123]))) (oQ [oM 124 17,oM 125 18,oW 126 (.arith .geq (.t 124) (.t 125)),oM 8 126]
 (oQ [oM 127 0,oM 128 14,oW 129 (.arith .add (.t 128) (oI 1)),oM 130 2,oM 131 3,oW 132 (.call (oF 78) [.t 127,.t 129,.t 130,.t 131])]
 (.region [oM 133 14,oM 2 133]))))))))))))))))))
def t78:DFunc:={ntmps:=134,results:=[],mode:=.full,body :=
 (oQ [oW 8 (.move (oB true))]
 (oQ [oW 9 (.move (oB true))]
 (.block 0 (.loop t78l0))))}
theorem c78:compFunc Try.prog Try.f78 .full=some t78:=by kernel_rfl
def t79:DFunc:={ntmps:=8,results:=[.t 2],mode:=.pure,body :=
 (oQ [oW 2 (.move (oI 0))]
 (.seq (.cond (oB false) (oQ [oM 3 0,oW 4 (.conv .u32 (.t 3)),oW 5 (.call (oF 114) [.t 4]),oM 2 5]
 .ret) .skip)
 (oQ [oM 6 0,oW 7 (.call (oF 115) [.t 6]),oM 2 7]
 .ret)))}
theorem c79:compFunc Try.prog Try.f79 .pure=some t79:=by kernel_rfl
def t83l0:DCode :=
 (.seq (oQ [oM 15 9,oM 16 10,oW 17 (.arith .lss (.t 15) (.t 16))]
 (.cond (.t 17) .skip (.exit 0)))
 (.block 1 (oQ [oM 18 9,oM 19 10,oW 20 (.arith .add (.t 18) (.t 19)),oW 21 (.conv .u64 (.t 20)),oW 22 (.arith .shr (.t 21) (.c (.int .u64 1))),oW 23 (.conv .i64 (.t 22)),oM 11 23]
 (.seq (.draw [oRM 25 0,oRM 26 11,oR 27 (.indexAddr 2 (.t 25) (.t 26)),oRL 28 2 27,oRL 29 2 4,oRM 24 2,oW 30 (.call (.t 24) [.t 28,.t 29]),nK 31 (.arith .lss (.t 30) (oI 0)) .read 1])
 (.cond (.t 31) (.region [oM 32 11,oW 33 (.arith .add (.t 32) (oI 1)),oM 9 33]) (.region [oM 34 11,oM 10 34]))))))
def t83k0:DCode :=
 (.seq (.draw [oRM 36 9,oRM 37 8,oR 38 (.arith .lss (.t 36) (.t 37)),oRM 39 38,rM 41 0 39 true,rM 42 9 39 true,rW 43 (.indexAddr 2 (.t 41) (.t 42)) 39 true,rL 44 2 43 39 true,rL 45 2 4 39 true,rM 40 2 39 true,gW 46 (.call (.t 40) [.t 44,.t 45]) 39 true,oRM 35 9,⟨(some 47),.arith .eql (.t 46) (oI 0),(some (39,true)),.read,1,false⟩,nK 48 (.pick (.t 39) (.t 47) (oB false)) .read 1,nK 6 (.move (.t 35)) .read 1,nK 7 (.move (.t 48)) .read 1])
 .ret)
def t83:DFunc:={ntmps:=49,results:=[.t 6,.t 7],mode:=.pure,body :=
 (oQ [oW 4 (.box 35 2 (.t 1)),oW 6 (.move (oI 0)),oW 7 (.move (oB false))]
 (oQ [oM 12 0,oW 13 (.len 1 (.t 12)),oM 8 13]
 (oQ [oM 14 8,oW 9 (.move (oI 0)),oM 10 14]
 (.seq (.block 0 (.loop t83l0))
 t83k0))))}
theorem c83:compFunc Try.prog Try.f83 .pure=some t83:=by kernel_rfl
def t84l0:DCode :=
 (.seq (oQ [oM 15 9,oM 16 10,oW 17 (.arith .lss (.t 15) (.t 16))]
 (.cond (.t 17) .skip (.exit 0)))
 (.block 1 (oQ [oM 18 9,oM 19 10,oW 20 (.arith .add (.t 18) (.t 19)),oW 21 (.conv .u64 (.t 20)),oW 22 (.arith .shr (.t 21) (.c (.int .u64 1))),oW 23 (.conv .i64 (.t 22)),oM 11 23]
 (.seq (.draw [oRM 25 0,oRM 26 11,oR 27 (.indexAddr 4 (.t 25) (.t 26)),oRL 28 4 27,oRL 29 2 4,oRM 24 2,oW 30 (.call (.t 24) [.t 28,.t 29]),nK 31 (.arith .lss (.t 30) (oI 0)) .read 1])
 (.cond (.t 31) (.region [oM 32 11,oW 33 (.arith .add (.t 32) (oI 1)),oM 9 33]) (.region [oM 34 11,oM 10 34]))))))
def t84k0:DCode :=
 (.seq (.draw [oRM 36 9,oRM 37 8,oR 38 (.arith .lss (.t 36) (.t 37)),oRM 39 38,rM 41 0 39 true,rM 42 9 39 true,rW 43 (.indexAddr 4 (.t 41) (.t 42)) 39 true,rL 44 4 43 39 true,rL 45 2 4 39 true,rM 40 2 39 true,gW 46 (.call (.t 40) [.t 44,.t 45]) 39 true,oRM 35 9,⟨(some 47),.arith .eql (.t 46) (oI 0),(some (39,true)),.read,1,false⟩,nK 48 (.pick (.t 39) (.t 47) (oB false)) .read 1,nK 6 (.move (.t 35)) .read 1,nK 7 (.move (.t 48)) .read 1])
 .ret)
def t84:DFunc:={ntmps:=49,results:=[.t 6,.t 7],mode:=.pure,body :=
 (oQ [oW 4 (.box 35 2 (.t 1)),oW 6 (.move (oI 0)),oW 7 (.move (oB false))]
 (oQ [oM 12 0,oW 13 (.len 1 (.t 12)),oM 8 13]
 (oQ [oM 14 8,oW 9 (.move (oI 0)),oM 10 14]
 (.seq (.block 0 (.loop t84l0))
 t84k0))))}
theorem c84:compFunc Try.prog Try.f84 .pure=some t84:=by kernel_rfl
def t85:DFunc:={ntmps:=9,results:=[.t 4],mode:=.pure,body :=
 (oQ [oW 2 (.box 41 4 (.t 0)),oW 3 (.box 35 2 (.t 1)),oW 4 (.move (oI 0))]
 (oQ [oA 5 0 2,oL 6 2 5,oL 7 2 3,oW 8 (.call (oF 41) [.t 6,.t 7]),oM 4 8]
 .ret))}
theorem c85:compFunc Try.prog Try.f85 .pure=some t85:=by kernel_rfl
def t87:DFunc:={ntmps:=10,results:=[],mode:=.full,body :=
 (.region [oM 4 0,oM 5 0,oW 6 (.len 1 (.t 5)),oM 7 1,oW 8 (.arith .sub (.t 6) (.t 7)),oW 9 (.call (oF 116) [.t 4,.t 8])])}
theorem c87:compFunc Try.prog Try.f87 .full=some t87:=by kernel_rfl
def t89:DFunc:={ntmps:=10,results:=[],mode:=.full,body :=
 (.region [oM 4 0,oM 5 0,oW 6 (.len 1 (.t 5)),oM 7 1,oW 8 (.arith .sub (.t 6) (.t 7)),oW 9 (.call (oF 117) [.t 4,.t 8])])}
theorem c89:compFunc Try.prog Try.f89 .full=some t89:=by kernel_rfl
def t90:DFunc:={ntmps:=2,results:=[.t 0],mode:=.pure,body :=
 (oQ [oW 0 (.move (.c .nsl))]
 (oQ [oW 1 (.buildSlice 9 1 (.str []) 7 [(0,(.c (.str []))),(1,(.c (.str [120]))),(2,(.c (.str [120,121]))),(3,(.c (.str [120,121,122]))),(4,(.c (.str [120,122]))),(5,(.c (.str [121]))),(6,(.c (.str [121,121])))]),oM 0 1]
 .ret))}
theorem c90:compFunc Try.prog Try.f90 .pure=some t90:=by kernel_rfl
def t91l0:DCode :=
 (oQ [oW 9 (.arith .lss (.t 8) (.t 7))]
 (.seq (.cond (.t 9) .skip (.exit 0))
 (.seq (.block 1 (oQ [oM 10 8,oM 5 10]
 (oQ [oM 11 1,oM 12 0,oM 13 5,oW 14 (.indexAddr 7 (.t 12) (.t 13)),oL 15 7 14,oW 16 (.call (.t 11) [.t 15])]
 (.cond (.t 16) (oQ [oM 17 5,oM 4 17]
 .ret) .skip))))
 (.region [oW 18 (.arith .add (.t 8) (oI 1)),oM 8 18]))))
def t91k0:DCode :=
 (oQ [oW 4 (.move (oI (-1)))]
 .ret)
def t91:DFunc:={ntmps:=19,results:=[.t 4],mode:=.pure,body :=
 (oQ [oW 4 (.move (oI 0))]
 (.seq (oQ [oM 6 0,oW 7 (.len 1 (.t 6)),oW 8 (.move (oI 0))]
 (.block 0 (.loop t91l0)))
 t91k0))}
theorem c91:compFunc Try.prog Try.f91 .pure=some t91:=by kernel_rfl
def t92:DFunc:={ntmps:=20,results:=[.t 4],mode:=.pure,body :=
 (oQ [oW 4 (.move (oI 0))]
 (oQ [oM 7 0,oW 8 (.call (oF 118) [.t 7]),oM 5 8]
 (oQ [oM 9 1,oW 10 (.call (oF 118) [.t 9]),oM 6 10]
 (.seq (oQ [oM 11 5]
 (.cond (.t 11) (.seq (oQ [oM 12 6]
 (.cond (.t 12) (oQ [oW 4 (.move (oI 0))]
 .ret) .skip))
 (oQ [oW 4 (.move (oI (-1)))]
 .ret)) .skip))
 (.seq (oQ [oM 13 6]
 (.cond (.t 13) (oQ [oW 4 (.move (oI 1))]
 .ret) .skip))
 (.seq (oQ [oM 14 0,oM 15 1,oW 16 (.arith .lss (.t 14) (.t 15))]
 (.cond (.t 16) (oQ [oW 4 (.move (oI (-1)))]
 .ret) .skip))
 (.seq (oQ [oM 17 0,oM 18 1,oW 19 (.arith .gtr (.t 17) (.t 18))]
 (.cond (.t 19) (oQ [oW 4 (.move (oI 1))]
 .ret) .skip))
 (oQ [oW 4 (.move (oI 0))]
 .ret))))))))}
theorem c92:compFunc Try.prog Try.f92 .pure=some t92:=by kernel_rfl
def t93l0:DCode :=
 (oQ [oW 9 (.arith .lss (.t 8) (.t 7))]
 (.seq (.cond (.t 9) .skip (.exit 0))
 (.seq (.block 1 (oQ [oM 10 8,oM 5 10]
 (oQ [oM 11 1,oM 12 0,oM 13 5,oW 14 (.indexAddr 4 (.t 12) (.t 13)),oL 15 4 14,oW 16 (.call (.t 11) [.t 15])]
 (.cond (.t 16) (oQ [oM 17 5,oM 4 17]
 .ret) .skip))))
 (.region [oW 18 (.arith .add (.t 8) (oI 1)),oM 8 18]))))
def t93k0:DCode :=
 (oQ [oW 4 (.move (oI (-1)))]
 .ret)
def t93:DFunc:={ntmps:=19,results:=[.t 4],mode:=.pure,body :=
 (oQ [oW 4 (.move (oI 0))]
 (.seq (oQ [oM 6 0,oW 7 (.len 1 (.t 6)),oW 8 (.move (oI 0))]
 (.block 0 (.loop t93l0)))
 t93k0))}
theorem c93:compFunc Try.prog Try.f93 .pure=some t93:=by kernel_rfl
def t94:DFunc:={ntmps:=9,results:=[.t 4],mode:=.pure,body :=
 (oQ [oW 4 (.move (oB false))]
 (oQ [oM 5 0,oM 6 1,oW 7 (.call (oF 119) [.t 5,.t 6]),oW 8 (.arith .geq (.t 7) (oI 0)),oM 4 8]
 .ret))}
theorem c94:compFunc Try.prog Try.f94 .pure=some t94:=by kernel_rfl
def t95:DFunc:={ntmps:=43,results:=[.t 2],mode:=.pure,body :=
 (oQ [oW 1 (.box 63 5 (.t 0)),oW 2 (.move (oB false))]
 (.seq (oQ [oA 3 0 1,oD 4 3,oW 5 (.call (oF 120) [.t 4]),oW 6 (.un .not (.t 5))]
 (.cond (.t 6) (oQ [oW 2 (.move (oB false))]
 .ret) .skip))
 (.seq (oQ [oA 7 1 1,oD 8 7]
 (.block 0 (.seq (.block 3 (.seq (.block 2 (.seq (.block 1 (.seq (.seq (oQ [oW 10 (.arith .eql (.t 8) (oI 1)),oM 9 10]
 (.cond (.t 9) (.exit 1) .skip))
 (.seq (oQ [oW 12 (.arith .eql (.t 8) (oI 3)),oM 11 12]
 (.cond (.t 11) (.exit 2) .skip))
 (oQ [oW 14 (.arith .eql (.t 8) (oI 2)),oM 13 14]
 (.cond (.t 13) (.exit 3) .skip))))
 (.exit 0)))
 (.seq (oQ [oA 15 2 1,oD 16 15,oA 17 3 1,oD 18 17,oW 19 (.arith .leq (.t 16) (.t 18)),oM 20 19,gA 21 4 1 20 true,gD 22 21 20 true,gW 23 (.arith .eql (.t 22) (.c (.str []))) 20 true,oW 24 (.pick (.t 20) (.t 23) (oB false)),oM 2 24]
 .ret)
 (.exit 0))))
 (oQ [oA 25 4 1,oD 26 25,oW 27 (.len 0 (.t 26)),oW 28 (.arith .eql (.t 27) (oI 12))]
 (.cond (.t 28) (oQ [oW 2 (.move (oB false))]
 .ret) .skip))))
 (.seq (oQ [oA 29 2 1,oD 30 29,oW 31 (.arith .eql (.t 30) (oI 0)),oM 32 31,gA 33 3 1 32 true,gD 34 33 32 true,gW 35 (.arith .eql (.t 34) (oI 0)) 32 true,oW 36 (.pick (.t 32) (.t 35) (oB false)),oM 37 36,gA 38 4 1 37 true,gD 39 38 37 true,gW 40 (.len 0 (.t 39)) 37 true,gW 41 (.arith .leq (.t 40) (oI 12)) 37 true,oW 42 (.pick (.t 37) (.t 41) (oB false)),oM 2 42]
 .ret)
 (.exit 0)))))
 (oQ [oW 2 (.move (oB false))]
 .ret))))}
theorem c95:compFunc Try.prog Try.f95 .pure=some t95:=by kernel_rfl
def t96l0:DCode :=
 (oQ [oW 9 (.arith .lss (.t 8) (.t 7))]
 (.seq (.cond (.t 9) .skip (.exit 0))
 (.seq (.block 1 (oQ [oM 10 8,oM 5 10]
 (oQ [oM 11 1,oM 12 0,oM 13 5,oW 14 (.indexAddr 3 (.t 12) (.t 13)),oL 15 3 14,oW 16 (.call (.t 11) [.t 15])]
 (.cond (.t 16) (oQ [oM 17 5,oM 4 17]
 .ret) .skip))))
 (.region [oW 18 (.arith .add (.t 8) (oI 1)),oM 8 18]))))
def t96k0:DCode :=
 (oQ [oW 4 (.move (oI (-1)))]
 .ret)
def t96:DFunc:={ntmps:=19,results:=[.t 4],mode:=.pure,body :=
 (oQ [oW 4 (.move (oI 0))]
 (.seq (oQ [oM 6 0,oW 7 (.len 1 (.t 6)),oW 8 (.move (oI 0))]
 (.block 0 (.loop t96l0)))
 t96k0))}
theorem c96:compFunc Try.prog Try.f96 .pure=some t96:=by kernel_rfl
def t104l0:DCode :=
 (oQ [oW 14 (.arith .lss (.t 13) (.t 12))]
 (.seq (.cond (.t 14) .skip (.exit 0))
 (.seq (.block 1 (oQ [oM 15 13,oM 5 15]
 (.seq (.draw [oRM 16 0,oRM 17 5,oR 18 (.indexAddr 5 (.t 16) (.t 17)),oRL 19 5 18,oRM 20 1,oRM 21 5,oR 22 (.indexAddr 5 (.t 20) (.t 21)),oRL 23 5 22,oR 24 (.eqa true [2,1,1,1,2] (.t 19) (.t 23))])
 (.cond (.t 24) (oQ [oW 4 (.move (oB false))]
 .ret) .skip))))
 (.region [oW 25 (.arith .add (.t 13) (oI 1)),oM 13 25]))))
def t104k0:DCode :=
 (oQ [oW 4 (.move (oB true))]
 .ret)
def t104:DFunc:={ntmps:=26,results:=[.t 4],mode:=.pure,body :=
 (oQ [oW 4 (.move (oB false))]
 (.seq (oQ [oM 6 0,oW 7 (.len 1 (.t 6)),oM 8 1,oW 9 (.len 1 (.t 8)),oW 10 (.arith .neq (.t 7) (.t 9))]
 (.cond (.t 10) (oQ [oW 4 (.move (oB false))]
 .ret) .skip))
 (.seq (oQ [oM 11 0,oW 12 (.len 1 (.t 11)),oW 13 (.move (oI 0))]
 (.block 0 (.loop t104l0)))
 t104k0)))}
theorem c104:compFunc Try.prog Try.f104 .pure=some t104:=by kernel_rfl
def t105l0:DCode :=
 (.seq (.seq (.draw [oRM 16 7,oRM 17 1,oR 18 (.arith .gtr (.t 16) (.t 17)),oRM 19 18,rM 20 0 19 true,rM 21 7 19 true,rW 22 (.indexAddr 1 (.t 20) (.t 21)) 19 true,rD 23 22 19 true,rM 24 0 19 true,rM 25 7 19 true,rW 26 (.arith .sub (.t 25) (oI 1)) 19 true,rW 27 (.indexAddr 1 (.t 24) (.t 26)) 19 true,rD 28 27 19 true,gW 29 (.call (oF 111) [.t 23,.t 28]) 19 true,nK 30 (.pick (.t 19) (.t 29) (oB false)) .read 1])
 (.cond (.t 30) .skip (.exit 2)))
 (.seq (.block 3 (.draw [oRM 38 0,oRM 39 7,oR 40 (.arith .sub (.t 39) (oI 1)),oR 41 (.indexAddr 1 (.t 38) (.t 40)),oRD 42 41,oRM 43 0,oRM 44 7,oR 45 (.indexAddr 1 (.t 43) (.t 44)),oRD 46 45,oRM 33 0,oRM 34 7,oR 47 (.indexAddr 1 (.t 33) (.t 34)),oS 1 47 42,oRM 35 0,oRM 36 7,oR 37 (.arith .sub (.t 36) (oI 1)),nK 48 (.indexAddr 1 (.t 35) (.t 37)) .read 1,⟨none,.store 1 (.t 48) (.t 46),none,.write,1,false⟩]))
 (.region [oM 31 7,oW 32 (.arith .sub (.t 31) (oI 1)),oM 7 32])))
def t105k0:DCode :=
 (.region [oM 13 6,oW 14 (.arith .add (.t 13) (oI 1)),oM 6 14])
def t105l1:DCode :=
 (.seq (oQ [oM 10 6,oM 11 2,oW 12 (.arith .lss (.t 10) (.t 11))]
 (.cond (.t 12) .skip (.exit 0)))
 (.seq (.block 1 (oQ [oM 15 6,oM 7 15]
 (.block 2 (.loop t105l0))))
 t105k0))
def t105:DFunc:={ntmps:=49,results:=[],mode:=.full,body :=
 (oQ [oM 8 1,oW 9 (.arith .add (.t 8) (oI 1)),oM 6 9]
 (.block 0 (.loop t105l1)))}
theorem c105:compFunc Try.prog Try.f105 .full=some t105:=by kernel_rfl
def t106l0:DCode :=
 (.seq (oQ [oM 18 9,oW 19 (.arith .geq (.t 18) (oI 0))]
 (.cond (.t 19) .skip (.exit 0)))
 (.seq (.block 1 (.region [oM 22 0,oM 23 9,oM 24 8,oM 25 6,oW 26 (.call (oF 123) [.t 22,.t 23,.t 24,.t 25])]))
 (.region [oM 20 9,oW 21 (.arith .sub (.t 20) (oI 1)),oM 9 21])))
def t106l1:DCode :=
 (.seq (oQ [oM 29 10,oW 30 (.arith .geq (.t 29) (oI 0))]
 (.cond (.t 30) .skip (.exit 2)))
 (.seq (.block 3 (.seq (.draw [oRM 39 0,oRM 40 6,oRM 41 10,oR 42 (.arith .add (.t 40) (.t 41)),oR 43 (.indexAddr 1 (.t 39) (.t 42)),oRD 44 43,oRM 45 0,oRM 46 6,oR 47 (.indexAddr 1 (.t 45) (.t 46)),oRD 48 47,oRM 33 0,oRM 34 6,oR 49 (.indexAddr 1 (.t 33) (.t 34)),oS 1 49 44,oRM 35 0,oRM 36 6,oRM 37 10,oR 38 (.arith .add (.t 36) (.t 37)),nK 50 (.indexAddr 1 (.t 35) (.t 38)) .read 1,⟨none,.store 1 (.t 50) (.t 48),none,.write,1,false⟩])
 (.region [oM 51 0,oM 52 7,oM 53 10,oM 54 6,oW 55 (.call (oF 123) [.t 51,.t 52,.t 53,.t 54])])))
 (.region [oM 31 10,oW 32 (.arith .sub (.t 31) (oI 1)),oM 10 32])))
def t106k0:DCode :=
 (oQ [oM 27 8,oW 28 (.arith .sub (.t 27) (oI 1)),oM 10 28]
 (.block 2 (.loop t106l1)))
def t106:DFunc:={ntmps:=56,results:=[],mode:=.full,body :=
 (oQ [oM 11 1,oM 6 11]
 (oQ [oW 7 (.move (oI 0))]
 (oQ [oM 12 2,oM 13 1,oW 14 (.arith .sub (.t 12) (.t 13)),oM 8 14]
 (.seq (oQ [oM 15 8,oW 16 (.arith .sub (.t 15) (oI 1)),oW 17 (.arith .quo (.t 16) (oI 2)),oM 9 17]
 (.block 0 (.loop t106l0)))
 t106k0))))}
theorem c106:compFunc Try.prog Try.f106 .full=some t106:=by kernel_rfl
end Go.Dm.Tc
