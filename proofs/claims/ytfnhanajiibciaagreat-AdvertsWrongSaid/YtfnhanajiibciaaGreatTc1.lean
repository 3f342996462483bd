/-
The table of functions, brought into the machine's form (Tc, part 1). Written by program (wip/tools/table.lean.txt).
-/
import Derived.Test.YtfnhanajiibciaaGreatTc0
import Derived.Test.YtfnhanajiibciaaGreatMm3
import Derived.Test.YtfnhanajiibciaaGreatRows
import Derived.KernelRfl
namespace Go.Dm.Tc
open Go.Proofs
def t74:DFunc:={ntmps:=95,results:=[.t 6],mode:=.split,body :=
 (oQ [oW 6 (.move (.c .nsl))]
 (oQ [oM 10 0,oM 11 1,oW 12 (.sliceSl 2 (.t 10) (some (.t 11)) none)]
 (oQ [oM 13 2,oW 14 (.len 1 (.t 13)),oM 7 14]
 (.seq (oQ [oM 15 7,oW 16 (.arith .eql (.t 15) (oI 0))]
 (.cond (.t 16) (oQ [oM 17 0,oM 6 17]
 .ret) .skip))
 (oQ [oM 18 0,oW 19 (.len 1 (.t 18)),oM 8 19]
 (.seq (oQ [oM 20 1,oM 21 8,oW 22 (.arith .eql (.t 20) (.t 21))]
 (.cond (.t 22) (oQ [oM 23 0,oM 24 2,oW 25 (.append 37 2 16 (.t 23) (.t 24)),oM 6 25]
 .ret) .skip))
 (.seq (oQ [oM 26 8,oM 27 7,oW 28 (.arith .add (.t 26) (.t 27)),oM 29 0,oW 30 (.cap (.t 29)),oW 31 (.arith .gtr (.t 28) (.t 30))]
 (.cond (.t 31) (oQ [oM 32 0,oM 33 1,oW 34 (.sliceSl 2 (.t 32) none (some (.t 33))),oM 35 8,oM 36 7,oW 37 (.arith .add (.t 35) (.t 36)),oM 38 1,oW 39 (.arith .sub (.t 37) (.t 38)),oW 40 (.appendZ 37 2 16 (.agg [.int .i64 0,.int .i64 0]) (.t 34) (.t 39)),oM 9 40]
 (oQ [oM 41 9,oM 42 1,oW 43 (.sliceSl 2 (.t 41) (some (.t 42)) none),oM 44 2,oW 45 (.copy 2 (.t 43) (.t 44))]
 (.seq (.draw [oRM 46 9,oRM 47 1,oRM 48 7,oR 49 (.arith .add (.t 47) (.t 48)),oR 50 (.sliceSl 2 (.t 46) (some (.t 49)) none),oRM 51 0,oRM 52 1,oR 53 (.sliceSl 2 (.t 51) (some (.t 52)) none),oW 54 (.copy 2 (.t 50) (.t 53))])
 (oQ [oM 55 9,oM 6 55]
 .ret)))) .skip))
 (oQ [oM 56 0,oM 57 8,oM 58 7,oW 59 (.arith .add (.t 57) (.t 58)),oW 60 (.sliceSl 2 (.t 56) none (some (.t 59))),oM 0 60]
 (.seq (oQ [oM 61 2,oM 62 0,oM 63 1,oM 64 7,oW 65 (.arith .add (.t 63) (.t 64)),oW 66 (.sliceSl 2 (.t 62) (some (.t 65)) none),oW 67 (.call (oF 144) [.t 61,.t 66]),oW 68 (.un .not (.t 67))]
 (.cond (.t 68) (.seq (.draw [oRM 69 0,oRM 70 1,oRM 71 7,oR 72 (.arith .add (.t 70) (.t 71)),oR 73 (.sliceSl 2 (.t 69) (some (.t 72)) none),oRM 74 0,oRM 75 1,oR 76 (.sliceSl 2 (.t 74) (some (.t 75)) none),oW 77 (.copy 2 (.t 73) (.t 76))])
 (oQ [oM 78 0,oM 79 1,oW 80 (.sliceSl 2 (.t 78) (some (.t 79)) none),oM 81 2,oW 82 (.copy 2 (.t 80) (.t 81))]
 (oQ [oM 83 0,oM 6 83]
 .ret))) .skip))
 (oQ [oM 84 0,oM 85 8,oW 86 (.sliceSl 2 (.t 84) (some (.t 85)) none),oM 87 2,oW 88 (.copy 2 (.t 86) (.t 87))]
 (oQ [oM 89 0,oM 90 1,oW 91 (.sliceSl 2 (.t 89) (some (.t 90)) none),oM 92 7,oW 93 (.call (oF 145) [.t 91,.t 92])]
 (oQ [oM 94 0,oM 6 94]
 .ret))))))))))))}
theorem c74:compFunc Tryz.prog Tryz.f74 .split=some t74:=by kernel_rfl
def t75l0:DCode :=
 (oQ [oW 11 (.arith .lss (.t 10) (.t 9))]
 (.seq (.cond (.t 11) .skip (.exit 0))
 (.seq (.block 1 (oQ [oW 12 (.indexAddr 2 (.t 8) (.t 10)),oL 13 2 12,oW 6 (.alloc 37 2 (.agg [.int .i64 0,.int .i64 0])),oS 2 6 13]
 (oQ [oL 14 2 6,oL 15 2 3,oW 16 (.eqa false [1,1] (.t 14) (.t 15))]
 (.cond (.t 16) (oQ [oW 4 (.move (oB true))]
 .ret) .skip))))
 (.region [oW 17 (.arith .add (.t 10) (oI 1)),oM 10 17]))))
def t75k0:DCode :=
 (oQ [oW 4 (.move (oB false))]
 .ret)
def t75:DFunc:={ntmps:=18,results:=[.t 4],mode:=.pure,body :=
 (oQ [oW 2 (.box 29 6 (.t 0)),oW 3 (.box 37 2 (.t 1)),oW 4 (.move (oB false))]
 (.seq (oQ [oA 7 3 2,oD 8 7,oW 9 (.len 1 (.t 8)),oW 10 (.move (oI 0))]
 (.block 0 (.loop t75l0)))
 t75k0))}
theorem c75:compFunc Tryz.prog Tryz.f75 .pure=some t75:=by kernel_rfl
def t76:DFunc:={ntmps:=24,results:=[.t 4],mode:=.pure,body :=
 (oQ [oW 2 (.box 37 2 (.t 0)),oW 3 (.box 37 2 (.t 1)),oW 4 (.move (oB false))]
 (oQ [oA 5 0 2,oD 6 5,oA 7 0 3,oD 8 7,oW 9 (.arith .lss (.t 6) (.t 8)),oM 10 9,gA 11 0 2 10 false,gD 12 11 10 false,gA 13 0 3 10 false,gD 14 13 10 false,gW 15 (.arith .eql (.t 12) (.t 14)) 10 false,gM 16 15 10 false,gA 17 1 2 16 true,gD 18 17 16 true,gA 19 1 3 16 true,gD 20 19 16 true,gW 21 (.arith .lss (.t 18) (.t 20)) 16 true,gW 22 (.pick (.t 16) (.t 21) (oB false)) 10 false,oW 23 (.pick (.t 10) (oB true) (.t 22)),oM 4 23]
 .ret))}
theorem c76:compFunc Tryz.prog Tryz.f76 .pure=some t76:=by kernel_rfl
def t77:DFunc:={ntmps:=33,results:=[.t 6],mode:=.full,body :=
 (oQ [oW 6 (.move (.c .nsl))]
 (oQ [oM 8 0,oM 9 1,oM 10 2,oM 11 0,oW 12 (.len 1 (.t 11)),oW 13 (.slice3 (.t 8) (.t 9) (.t 10) (.t 12))]
 (.seq (oQ [oM 14 1,oM 15 2,oW 16 (.arith .eql (.t 14) (.t 15))]
 (.cond (.t 16) (oQ [oM 17 0,oM 6 17]
 .ret) .skip))
 (oQ [oM 18 0,oW 19 (.len 1 (.t 18)),oM 7 19]
 (.seq (.draw [oRM 20 0,oRM 21 1,oR 22 (.sliceSl 4 (.t 20) none (some (.t 21))),oRM 23 0,oRM 24 2,oR 25 (.sliceSl 4 (.t 23) (some (.t 24)) none),oW 26 (.append 42 4 48 (.t 22) (.t 25)),nK 0 (.move (.t 26)) .read 1])
 (oQ [oM 27 0,oM 28 0,oW 29 (.len 1 (.t 28)),oM 30 7,oW 31 (.sliceSl 4 (.t 27) (some (.t 29)) (some (.t 30))),oZ (.clear 4 (.agg [.int .i64 0,.int .i64 0,.nsl,.int .i64 0]) (.t 31))]
 (oQ [oM 32 0,oM 6 32]
 .ret)))))))}
theorem c77:compFunc Tryz.prog Tryz.f77 .full=some t77:=by kernel_rfl
def t78l0:DCode :=
 (.seq (oQ [oM 16 6,oM 17 0,oW 18 (.len 1 (.t 17)),oW 19 (.arith .lss (.t 16) (.t 18))]
 (.cond (.t 19) .skip (.exit 0)))
 (.seq (.block 1 (oQ [oM 22 0,oM 23 6,oW 24 (.indexAddr 7 (.t 22) (.t 23)),oL 25 7 24,oW 7 (.alloc 58 7 (.agg [.int .i64 0,.int .i64 0,.int .i64 0,.int .i64 0,.nsl,.int .i64 0,.bool false])),oS 7 7 25]
 (oQ [oM 26 1,oL 27 7 7,oW 28 (.call (.t 26) [.t 27]),oW 29 (.un .not (.t 28))]
 (.cond (.t 29) (oQ [oM 30 0,oM 31 5,oL 32 7 7,oW 33 (.indexAddr 7 (.t 30) (.t 31)),oS 7 33 32]
 (.region [oM 34 5,oW 35 (.arith .add (.t 34) (oI 1)),oM 5 35])) .skip))))
 (.region [oM 20 6,oW 21 (.arith .add (.t 20) (oI 1)),oM 6 21])))
def t78k0:DCode :=
 (oQ [oM 36 0,oM 37 5,oW 38 (.sliceSl 7 (.t 36) (some (.t 37)) none),oZ (.clear 7 (.agg [.int .i64 0,.int .i64 0,.int .i64 0,.int .i64 0,.nsl,.int .i64 0,.bool false]) (.t 38))]
 (oQ [oM 39 0,oM 40 5,oW 41 (.sliceSl 7 (.t 39) none (some (.t 40))),oM 4 41]
 .ret))
def t78:DFunc:={ntmps:=42,results:=[.t 4],mode:=.full,body :=
 (oQ [oW 4 (.move (.c .nsl))]
 (oQ [oM 8 0,oM 9 1,oW 10 (.call (oF 146) [.t 8,.t 9]),oM 5 10]
 (.seq (oQ [oM 11 5,oW 12 (.arith .eql (.t 11) (oI (-1)))]
 (.cond (.t 12) (oQ [oM 13 0,oM 4 13]
 .ret) .skip))
 (.seq (oQ [oM 14 5,oW 15 (.arith .add (.t 14) (oI 1)),oM 6 15]
 (.block 0 (.loop t78l0)))
 t78k0))))}
theorem c78:compFunc Tryz.prog Tryz.f78 .full=some t78:=by kernel_rfl
def t79:DFunc:={ntmps:=8,results:=[.t 3],mode:=.pure,body :=
 (oQ [oW 2 (.box 58 7 (.t 0)),oW 3 (.move (oB false))]
 (oQ [oA 4 0 2,oL 5 2 4,oL 6 2 1,oW 7 (.eqa false [1,1] (.t 5) (.t 6)),oM 3 7]
 .ret))}
theorem c79:compFunc Tryz.prog Tryz.f79 .pure=some t79:=by kernel_rfl
def t80l0:DCode :=
 (.seq (oQ [oM 11 5,oM 12 0,oW 13 (.len 1 (.t 12)),oW 14 (.arith .lss (.t 11) (.t 13))]
 (.cond (.t 14) .skip (.exit 0)))
 (.seq (.block 1 (.seq (.draw [oRM 17 0,oRM 18 5,oR 19 (.indexAddr 1 (.t 17) (.t 18)),oRD 20 19,oRM 21 1,oRM 22 5,oR 23 (.indexAddr 1 (.t 21) (.t 22)),oRD 24 23,oR 25 (.arith .neq (.t 20) (.t 24))])
 (.cond (.t 25) (oQ [oW 4 (.move (oB false))]
 .ret) .skip)))
 (.region [oM 15 5,oW 16 (.arith .add (.t 15) (oI 1)),oM 5 16])))
def t80k0:DCode :=
 (oQ [oW 4 (.move (oB true))]
 .ret)
def t80:DFunc:={ntmps:=26,results:=[.t 4],mode:=.pure,body :=
 (oQ [oW 4 (.move (oB false))]
 (.seq (oQ [oM 6 0,oW 7 (.len 1 (.t 6)),oM 8 1,oW 9 (.len 1 (.t 8)),oW 10 (.arith .neq (.t 7) (.t 9))]
 (.cond (.t 10) (oQ [oW 4 (.move (oB false))]
 .ret) .skip))
 (.seq (oQ [oW 5 (.move (oI 0))]
 (.block 0 (.loop t80l0)))
 t80k0)))}
theorem c80:compFunc Tryz.prog Tryz.f80 .pure=some t80:=by kernel_rfl
def t82l0:DCode :=
 (oQ [oW 14 (.arith .lss (.t 13) (.t 12))]
 (.seq (.cond (.t 14) .skip (.exit 0))
 (.seq (.block 1 (oQ [oM 15 13,oM 5 15]
 (.seq (.draw [oRM 16 0,oRM 17 5,oR 18 (.indexAddr 1 (.t 16) (.t 17)),oRD 19 18,oRM 20 1,oRM 21 5,oR 22 (.indexAddr 1 (.t 20) (.t 21)),oRD 23 22,oR 24 (.arith .neq (.t 19) (.t 23))])
 (.cond (.t 24) (oQ [oW 4 (.move (oB false))]
 .ret) .skip))))
 (.region [oW 25 (.arith .add (.t 13) (oI 1)),oM 13 25]))))
def t82k0:DCode :=
 (oQ [oW 4 (.move (oB true))]
 .ret)
def t82:DFunc:={ntmps:=26,results:=[.t 4],mode:=.pure,body :=
 (oQ [oW 4 (.move (oB false))]
 (.seq (oQ [oM 6 0,oW 7 (.len 1 (.t 6)),oM 8 1,oW 9 (.len 1 (.t 8)),oW 10 (.arith .neq (.t 7) (.t 9))]
 (.cond (.t 10) (oQ [oW 4 (.move (oB false))]
 .ret) .skip))
 (.seq (oQ [oM 11 0,oW 12 (.len 1 (.t 11)),oW 13 (.move (oI 0))]
 (.block 0 (.loop t82l0)))
 t82k0)))}
theorem c82:compFunc Tryz.prog Tryz.f82 .pure=some t82:=by kernel_rfl
def t83l0:DCode :=
 (oQ [oW 14 (.arith .lss (.t 13) (.t 12))]
 (.seq (.cond (.t 14) .skip (.exit 0))
 (.seq (.block 1 (oQ [oM 15 13,oM 5 15]
 (.seq (.draw [oRM 16 0,oRM 17 5,oR 18 (.indexAddr 2 (.t 16) (.t 17)),oRL 19 2 18,oRM 20 1,oRM 21 5,oR 22 (.indexAddr 2 (.t 20) (.t 21)),oRL 23 2 22,oR 24 (.eqa true [1,1] (.t 19) (.t 23))])
 (.cond (.t 24) (oQ [oW 4 (.move (oB false))]
 .ret) .skip))))
 (.region [oW 25 (.arith .add (.t 13) (oI 1)),oM 13 25]))))
def t83k0:DCode :=
 (oQ [oW 4 (.move (oB true))]
 .ret)
def t83:DFunc:={ntmps:=26,results:=[.t 4],mode:=.pure,body :=
 (oQ [oW 4 (.move (oB false))]
 (.seq (oQ [oM 6 0,oW 7 (.len 1 (.t 6)),oM 8 1,oW 9 (.len 1 (.t 8)),oW 10 (.arith .neq (.t 7) (.t 9))]
 (.cond (.t 10) (oQ [oW 4 (.move (oB false))]
 .ret) .skip))
 (.seq (oQ [oM 11 0,oW 12 (.len 1 (.t 11)),oW 13 (.move (oI 0))]
 (.block 0 (.loop t83l0)))
 t83k0)))}
theorem c83:compFunc Tryz.prog Tryz.f83 .pure=some t83:=by kernel_rfl
def t84l0:DCode :=
 (oQ [oW 18 (.arith .lss (.t 17) (.t 16))]
 (.seq (.cond (.t 18) .skip (.exit 0))
 (.seq (.block 1 (oQ [oM 19 17,oW 20 (.indexAddr 4 (.t 15) (.t 17)),oL 21 4 20,oW 8 (.alloc 42 4 (.agg [.int .i64 0,.int .i64 0,.nsl,.int .i64 0])),oM 7 19,oS 4 8 21]
 (oQ [oM 22 1,oM 23 7,oW 24 (.indexAddr 4 (.t 22) (.t 23)),oL 25 4 24,oW 9 (.alloc 42 4 (.agg [.int .i64 0,.int .i64 0,.nsl,.int .i64 0])),oS 4 9 25]
 (oQ [oM 26 2,oL 27 4 8,oL 28 4 9,oW 29 (.call (.t 26) [.t 27,.t 28]),oW 30 (.un .not (.t 29))]
 (.cond (.t 30) (oQ [oW 6 (.move (oB false))]
 .ret) .skip)))))
 (.region [oW 31 (.arith .add (.t 17) (oI 1)),oM 17 31]))))
def t84k0:DCode :=
 (oQ [oW 6 (.move (oB true))]
 .ret)
def t84:DFunc:={ntmps:=32,results:=[.t 6],mode:=.pure,body :=
 (oQ [oW 6 (.move (oB false))]
 (.seq (oQ [oM 10 0,oW 11 (.len 1 (.t 10)),oM 12 1,oW 13 (.len 1 (.t 12)),oW 14 (.arith .neq (.t 11) (.t 13))]
 (.cond (.t 14) (oQ [oW 6 (.move (oB false))]
 .ret) .skip))
 (.seq (oQ [oM 15 0,oW 16 (.len 1 (.t 15)),oW 17 (.move (oI 0))]
 (.block 0 (.loop t84l0)))
 t84k0)))}
theorem c84:compFunc Tryz.prog Tryz.f84 .pure=some t84:=by kernel_rfl
def t85:DFunc:={ntmps:=24,results:=[.t 4],mode:=.pure,body :=
 (oQ [oW 2 (.box 42 4 (.t 0)),oW 3 (.box 42 4 (.t 1)),oW 4 (.move (oB false))]
 (oQ [oA 5 0 2,oL 6 2 5,oA 7 0 3,oL 8 2 7,oW 9 (.eqa false [1,1] (.t 6) (.t 8)),oM 10 9,gA 11 3 2 10 true,gD 12 11 10 true,gA 13 3 3 10 true,gD 14 13 10 true,gW 15 (.arith .eql (.t 12) (.t 14)) 10 true,oW 16 (.pick (.t 10) (.t 15) (oB false)),oM 17 16,gA 18 2 2 17 true,gD 19 18 17 true,gA 20 2 3 17 true,gD 21 20 17 true,gW 22 (.call (oF 86) [.t 19,.t 21]) 17 true,oW 23 (.pick (.t 17) (.t 22) (oB false)),oM 4 23]
 .ret))}
theorem c85:compFunc Tryz.prog Tryz.f85 .pure=some t85:=by kernel_rfl
def t86:DFunc:={ntmps:=8,results:=[.t 4],mode:=.pure,body :=
 (oQ [oW 4 (.move (oB false))]
 (oQ [oM 5 0,oM 6 1,oW 7 (.call (oF 147) [.t 5,.t 6]),oM 4 7]
 .ret))}
theorem c86:compFunc Tryz.prog Tryz.f86 .pure=some t86:=by kernel_rfl
def t87l0:DCode :=
 (oQ [oW 18 (.arith .lss (.t 17) (.t 16))]
 (.seq (.cond (.t 18) .skip (.exit 0))
 (.seq (.block 1 (oQ [oM 19 17,oW 20 (.indexAddr 7 (.t 15) (.t 17)),oL 21 7 20,oW 8 (.alloc 58 7 (.agg [.int .i64 0,.int .i64 0,.int .i64 0,.int .i64 0,.nsl,.int .i64 0,.bool false])),oM 7 19,oS 7 8 21]
 (oQ [oM 22 1,oM 23 7,oW 24 (.indexAddr 7 (.t 22) (.t 23)),oL 25 7 24,oW 9 (.alloc 58 7 (.agg [.int .i64 0,.int .i64 0,.int .i64 0,.int .i64 0,.nsl,.int .i64 0,.bool false])),oS 7 9 25]
 (oQ [oM 26 2,oL 27 7 8,oL 28 7 9,oW 29 (.call (.t 26) [.t 27,.t 28]),oW 30 (.un .not (.t 29))]
 (.cond (.t 30) (oQ [oW 6 (.move (oB false))]
 .ret) .skip)))))
 (.region [oW 31 (.arith .add (.t 17) (oI 1)),oM 17 31]))))
def t87k0:DCode :=
 (oQ [oW 6 (.move (oB true))]
 .ret)
def t87:DFunc:={ntmps:=32,results:=[.t 6],mode:=.pure,body :=
 (oQ [oW 6 (.move (oB false))]
 (.seq (oQ [oM 10 0,oW 11 (.len 1 (.t 10)),oM 12 1,oW 13 (.len 1 (.t 12)),oW 14 (.arith .neq (.t 11) (.t 13))]
 (.cond (.t 14) (oQ [oW 6 (.move (oB false))]
 .ret) .skip))
 (.seq (oQ [oM 15 0,oW 16 (.len 1 (.t 15)),oW 17 (.move (oI 0))]
 (.block 0 (.loop t87l0)))
 t87k0)))}
theorem c87:compFunc Tryz.prog Tryz.f87 .pure=some t87:=by kernel_rfl
def t88:DFunc:={ntmps:=38,results:=[.t 4],mode:=.pure,body :=
 (oQ [oW 2 (.box 58 7 (.t 0)),oW 3 (.box 58 7 (.t 1)),oW 4 (.move (oB false))]
 (oQ [oA 5 0 2,oL 6 2 5,oA 7 0 3,oL 8 2 7,oW 9 (.eqa false [1,1] (.t 6) (.t 8)),oM 10 9,gA 11 2 2 10 true,gL 12 2 11 10 true,gA 13 2 3 10 true,gL 14 2 13 10 true,gW 15 (.eqa false [1,1] (.t 12) (.t 14)) 10 true,oW 16 (.pick (.t 10) (.t 15) (oB false)),oM 17 16,gA 18 5 2 17 true,gD 19 18 17 true,gA 20 5 3 17 true,gD 21 20 17 true,gW 22 (.arith .eql (.t 19) (.t 21)) 17 true,oW 23 (.pick (.t 17) (.t 22) (oB false)),oM 24 23,gA 25 6 2 24 true,gD 26 25 24 true,gA 27 6 3 24 true,gD 28 27 24 true,gW 29 (.eqb false (.t 26) (.t 28)) 24 true,oW 30 (.pick (.t 24) (.t 29) (oB false)),oM 31 30,gA 32 4 2 31 true,gD 33 32 31 true,gA 34 4 3 31 true,gD 35 34 31 true,gW 36 (.call (oF 86) [.t 33,.t 35]) 31 true,oW 37 (.pick (.t 31) (.t 36) (oB false)),oM 4 37]
 .ret))}
theorem c88:compFunc Tryz.prog Tryz.f88 .pure=some t88:=by kernel_rfl
def t89l0:DCode :=
 (oQ [oW 18 (.arith .lss (.t 17) (.t 16))]
 (.seq (.cond (.t 18) .skip (.exit 0))
 (.seq (.block 1 (oQ [oM 19 17,oW 20 (.indexAddr 3 (.t 15) (.t 17)),oL 21 3 20,oW 8 (.alloc 60 3 (.agg [.int .i64 0,.int .i64 0,.nsl])),oM 7 19,oS 3 8 21]
 (oQ [oM 22 1,oM 23 7,oW 24 (.indexAddr 3 (.t 22) (.t 23)),oL 25 3 24,oW 9 (.alloc 60 3 (.agg [.int .i64 0,.int .i64 0,.nsl])),oS 3 9 25]
 (oQ [oM 26 2,oL 27 3 8,oL 28 3 9,oW 29 (.call (.t 26) [.t 27,.t 28]),oW 30 (.un .not (.t 29))]
 (.cond (.t 30) (oQ [oW 6 (.move (oB false))]
 .ret) .skip)))))
 (.region [oW 31 (.arith .add (.t 17) (oI 1)),oM 17 31]))))
def t89k0:DCode :=
 (oQ [oW 6 (.move (oB true))]
 .ret)
def t89:DFunc:={ntmps:=32,results:=[.t 6],mode:=.pure,body :=
 (oQ [oW 6 (.move (oB false))]
 (.seq (oQ [oM 10 0,oW 11 (.len 1 (.t 10)),oM 12 1,oW 13 (.len 1 (.t 12)),oW 14 (.arith .neq (.t 11) (.t 13))]
 (.cond (.t 14) (oQ [oW 6 (.move (oB false))]
 .ret) .skip))
 (.seq (oQ [oM 15 0,oW 16 (.len 1 (.t 15)),oW 17 (.move (oI 0))]
 (.block 0 (.loop t89l0)))
 t89k0)))}
theorem c89:compFunc Tryz.prog Tryz.f89 .pure=some t89:=by kernel_rfl
def t90:DFunc:={ntmps:=17,results:=[.t 4],mode:=.pure,body :=
 (oQ [oW 2 (.box 60 3 (.t 0)),oW 3 (.box 60 3 (.t 1)),oW 4 (.move (oB false))]
 (oQ [oA 5 0 2,oL 6 2 5,oA 7 0 3,oL 8 2 7,oW 9 (.eqa false [1,1] (.t 6) (.t 8)),oM 10 9,gA 11 2 2 10 true,gD 12 11 10 true,gA 13 2 3 10 true,gD 14 13 10 true,gW 15 (.call (oF 86) [.t 12,.t 14]) 10 true,oW 16 (.pick (.t 10) (.t 15) (oB false)),oM 4 16]
 .ret))}
theorem c90:compFunc Tryz.prog Tryz.f90 .pure=some t90:=by kernel_rfl
def t91l0:DCode :=
 (.seq (oQ [oM 6 5,oM 7 0,oW 8 (.len 1 (.t 7)),oW 9 (.arith .lss (.t 6) (.t 8))]
 (.cond (.t 9) .skip (.exit 0)))
 (.seq (.block 1 (.seq (.draw [oRM 13 0,oRM 14 5,oR 15 (.arith .sub (.t 14) (oI 1)),oR 16 (.indexAddr 1 (.t 13) (.t 15)),oRD 17 16,oRM 18 0,oRM 19 5,oR 20 (.indexAddr 1 (.t 18) (.t 19)),oRD 21 20,oRM 12 1,oW 22 (.call (.t 12) [.t 17,.t 21]),nK 23 (.un .not (.t 22)) .read 1])
 (.cond (.t 23) (oQ [oW 4 (.move (oB false))]
 .ret) .skip)))
 (.region [oM 10 5,oW 11 (.arith .add (.t 10) (oI 1)),oM 5 11])))
def t91k0:DCode :=
 (oQ [oW 4 (.move (oB true))]
 .ret)
def t91:DFunc:={ntmps:=24,results:=[.t 4],mode:=.pure,body :=
 (oQ [oW 4 (.move (oB false))]
 (.seq (oQ [oW 5 (.move (oI 1))]
 (.block 0 (.loop t91l0)))
 t91k0))}
theorem c91:compFunc Tryz.prog Tryz.f91 .pure=some t91:=by kernel_rfl
def t92:DFunc:={ntmps:=8,results:=[.t 4],mode:=.pure,body :=
 (oQ [oW 4 (.move (oB false))]
 (oQ [oM 5 0,oM 6 1,oW 7 (.arith .lss (.t 5) (.t 6)),oM 4 7]
 .ret))}
theorem c92:compFunc Tryz.prog Tryz.f92 .pure=some t92:=by kernel_rfl
def t93l0:DCode :=
 (.seq (oQ [oM 6 5,oM 7 0,oW 8 (.len 1 (.t 7)),oW 9 (.arith .lss (.t 6) (.t 8))]
 (.cond (.t 9) .skip (.exit 0)))
 (.seq (.block 1 (.seq (.draw [oRM 13 0,oRM 14 5,oR 15 (.arith .sub (.t 14) (oI 1)),oR 16 (.indexAddr 2 (.t 13) (.t 15)),oRL 17 2 16,oRM 18 0,oRM 19 5,oR 20 (.indexAddr 2 (.t 18) (.t 19)),oRL 21 2 20,oRM 12 1,oW 22 (.call (.t 12) [.t 17,.t 21]),nK 23 (.un .not (.t 22)) .read 1])
 (.cond (.t 23) (oQ [oW 4 (.move (oB false))]
 .ret) .skip)))
 (.region [oM 10 5,oW 11 (.arith .add (.t 10) (oI 1)),oM 5 11])))
def t93k0:DCode :=
 (oQ [oW 4 (.move (oB true))]
 .ret)
def t93:DFunc:={ntmps:=24,results:=[.t 4],mode:=.pure,body :=
 (oQ [oW 4 (.move (oB false))]
 (.seq (oQ [oW 5 (.move (oI 1))]
 (.block 0 (.loop t93l0)))
 t93k0))}
theorem c93:compFunc Tryz.prog Tryz.f93 .pure=some t93:=by kernel_rfl
def t94l0:DCode :=
 (.seq (oQ [oM 6 5,oM 7 0,oW 8 (.len 1 (.t 7)),oW 9 (.arith .lss (.t 6) (.t 8))]
 (.cond (.t 9) .skip (.exit 0)))
 (.seq (.block 1 (.seq (.draw [oRM 13 0,oRM 14 5,oR 15 (.arith .sub (.t 14) (oI 1)),oR 16 (.indexAddr 4 (.t 13) (.t 15)),oRL 17 4 16,oRM 18 0,oRM 19 5,oR 20 (.indexAddr 4 (.t 18) (.t 19)),oRL 21 4 20,oRM 12 1,oW 22 (.call (.t 12) [.t 17,.t 21]),nK 23 (.un .not (.t 22)) .read 1])
 (.cond (.t 23) (oQ [oW 4 (.move (oB false))]
 .ret) .skip)))
 (.region [oM 10 5,oW 11 (.arith .add (.t 10) (oI 1)),oM 5 11])))
def t94k0:DCode :=
 (oQ [oW 4 (.move (oB true))]
 .ret)
def t94:DFunc:={ntmps:=24,results:=[.t 4],mode:=.pure,body :=
 (oQ [oW 4 (.move (oB false))]
 (.seq (oQ [oW 5 (.move (oI 1))]
 (.block 0 (.loop t94l0)))
 t94k0))}
theorem c94:compFunc Tryz.prog Tryz.f94 .pure=some t94:=by kernel_rfl
def t95:DFunc:={ntmps:=10,results:=[.t 4],mode:=.pure,body :=
 (oQ [oW 2 (.box 42 4 (.t 0)),oW 3 (.box 42 4 (.t 1)),oW 4 (.move (oB false))]
 (oQ [oA 5 0 2,oL 6 2 5,oA 7 0 3,oL 8 2 7,oW 9 (.call (oF 56) [.t 6,.t 8]),oM 4 9]
 .ret))}
theorem c95:compFunc Tryz.prog Tryz.f95 .pure=some t95:=by kernel_rfl
def t96l0:DCode :=
 (.seq (oQ [oM 6 5,oM 7 0,oW 8 (.len 1 (.t 7)),oW 9 (.arith .lss (.t 6) (.t 8))]
 (.cond (.t 9) .skip (.exit 0)))
 (.seq (.block 1 (.seq (.draw [oRM 13 0,oRM 14 5,oR 15 (.arith .sub (.t 14) (oI 1)),oR 16 (.indexAddr 3 (.t 13) (.t 15)),oRL 17 3 16,oRM 18 0,oRM 19 5,oR 20 (.indexAddr 3 (.t 18) (.t 19)),oRL 21 3 20,oRM 12 1,oW 22 (.call (.t 12) [.t 17,.t 21]),nK 23 (.un .not (.t 22)) .read 1])
 (.cond (.t 23) (oQ [oW 4 (.move (oB false))]
 .ret) .skip)))
 (.region [oM 10 5,oW 11 (.arith .add (.t 10) (oI 1)),oM 5 11])))
def t96k0:DCode :=
 (oQ [oW 4 (.move (oB true))]
 .ret)
def t96:DFunc:={ntmps:=24,results:=[.t 4],mode:=.pure,body :=
 (oQ [oW 4 (.move (oB false))]
 (.seq (oQ [oW 5 (.move (oI 1))]
 (.block 0 (.loop t96l0)))
 t96k0))}
theorem c96:compFunc Tryz.prog Tryz.f96 .pure=some t96:=by kernel_rfl
def t97:DFunc:={ntmps:=10,results:=[.t 4],mode:=.pure,body :=
 (oQ [oW 2 (.box 60 3 (.t 0)),oW 3 (.box 60 3 (.t 1)),oW 4 (.move (oB false))]
 (oQ [oA 5 0 2,oL 6 2 5,oA 7 0 3,oL 8 2 7,oW 9 (.call (oF 56) [.t 6,.t 8]),oM 4 9]
 .ret))}
theorem c97:compFunc Tryz.prog Tryz.f97 .pure=some t97:=by kernel_rfl
def t98l0:DCode :=
 (.seq (oQ [oM 6 5,oM 7 0,oW 8 (.len 1 (.t 7)),oW 9 (.arith .lss (.t 6) (.t 8))]
 (.cond (.t 9) .skip (.exit 0)))
 (.seq (.block 1 (.seq (.draw [oRM 13 0,oRM 14 5,oR 15 (.arith .sub (.t 14) (oI 1)),oR 16 (.indexAddr 7 (.t 13) (.t 15)),oRL 17 7 16,oRM 18 0,oRM 19 5,oR 20 (.indexAddr 7 (.t 18) (.t 19)),oRL 21 7 20,oRM 12 1,oW 22 (.call (.t 12) [.t 17,.t 21]),nK 23 (.un .not (.t 22)) .read 1])
 (.cond (.t 23) (oQ [oW 4 (.move (oB false))]
 .ret) .skip)))
 (.region [oM 10 5,oW 11 (.arith .add (.t 10) (oI 1)),oM 5 11])))
def t98k0:DCode :=
 (oQ [oW 4 (.move (oB true))]
 .ret)
def t98:DFunc:={ntmps:=24,results:=[.t 4],mode:=.pure,body :=
 (oQ [oW 4 (.move (oB false))]
 (.seq (oQ [oW 5 (.move (oI 1))]
 (.block 0 (.loop t98l0)))
 t98k0))}
theorem c98:compFunc Tryz.prog Tryz.f98 .pure=some t98:=by kernel_rfl
def t99:DFunc:={ntmps:=18,results:=[.t 4],mode:=.pure,body :=
 (oQ [oW 2 (.box 58 7 (.t 0)),oW 3 (.box 58 7 (.t 1)),oW 4 (.move (oB false))]
 (.seq (.draw [oRA 5 0 2,oRL 6 2 5,oRA 7 0 3,oRL 8 2 7,nK 9 (.call (oF 101) [.t 6,.t 8]) .create 0,oRA 10 2 2,oRL 11 2 10,oRA 12 2 3,oRL 13 2 12,nK 14 (.call (oF 101) [.t 11,.t 13]) .write 1,nK 15 (.buildSlice 3 1 (.int .i64 0) 2 [(0,.t 9),(1,.t 14)]) .create 0,nK 16 (.call (oF 100) [.t 15]) .write 3,nK 17 (.arith .lss (.t 16) (oI 0)) .read 4,nK 4 (.move (.t 17)) .read 4])
 .ret))}
theorem c99:compFunc Tryz.prog Tryz.f99 .pure=some t99:=by kernel_rfl
def t100l0:DCode :=
 (oQ [oW 9 (.arith .lss (.t 8) (.t 7))]
 (.seq (.cond (.t 9) .skip (.exit 0))
 (.seq (.block 1 (oQ [oW 10 (.indexAddr 1 (.t 6) (.t 8)),oD 11 10,oM 5 11]
 (oQ [oM 12 5,oM 13 3,oW 14 (.arith .neq (.t 12) (.t 13))]
 (.cond (.t 14) (oQ [oM 15 5,oM 2 15]
 .ret) .skip))))
 (.region [oW 16 (.arith .add (.t 8) (oI 1)),oM 8 16]))))
def t100k0:DCode :=
 (oQ [oM 17 3,oM 2 17]
 .ret)
def t100:DFunc:={ntmps:=18,results:=[.t 2],mode:=.pure,body :=
 (oQ [oW 2 (.move (oI 0))]
 (oQ [oW 3 (.move (oI 0))]
 (.seq (oQ [oM 6 0,oW 7 (.len 1 (.t 6)),oW 8 (.move (oI 0))]
 (.block 0 (.loop t100l0)))
 t100k0)))}
theorem c100:compFunc Tryz.prog Tryz.f100 .pure=some t100:=by kernel_rfl
def t101:DFunc:={ntmps:=17,results:=[.t 4],mode:=.pure,body :=
 (oQ [oW 2 (.box 37 2 (.t 0)),oW 3 (.box 37 2 (.t 1)),oW 4 (.move (oI 0))]
 (.seq (.draw [oRA 5 0 2,oRD 6 5,oRA 7 0 3,oRD 8 7,nK 9 (.call (oF 148) [.t 6,.t 8]) .create 0,oRA 10 1 2,oRD 11 10,oRA 12 1 3,oRD 13 12,nK 14 (.call (oF 148) [.t 11,.t 13]) .write 1,nK 15 (.buildSlice 3 1 (.int .i64 0) 2 [(0,.t 9),(1,.t 14)]) .create 0,nK 16 (.call (oF 100) [.t 15]) .write 3,nK 4 (.move (.t 16)) .read 4])
 .ret))}
theorem c101:compFunc Tryz.prog Tryz.f101 .pure=some t101:=by kernel_rfl
def t102:DFunc:={ntmps:=9,results:=[.t 4],mode:=.pure,body :=
 (oQ [oW 4 (.move (oB false))]
 (oQ [oM 5 0,oM 6 1,oW 7 (.call (oF 149) [.t 5,.t 6]),oW 8 (.arith .geq (.t 7) (oI 0)),oM 4 8]
 .ret))}
theorem c102:compFunc Tryz.prog Tryz.f102 .pure=some t102:=by kernel_rfl
def t103:DFunc:={ntmps:=22,results:=[.t 3],mode:=.pure,body :=
 (oQ [oW 2 (.box 42 4 (.t 0)),oW 3 (.move (oB false))]
 (oQ [oL 4 6 1,oA 5 0 2,oL 6 2 5,oW 7 (.call (oF 57) [.t 4,.t 6]),oW 8 (.un .not (.t 7)),oM 9 8,gL 10 6 1 9 false,gA 11 3 2 9 false,gD 12 11 9 false,gW 13 (.call (oF 104) [.t 10,.t 12]) 9 false,gW 14 (.un .not (.t 13)) 9 false,oW 15 (.pick (.t 9) (oB true) (.t 14)),oM 16 15,gA 17 2 2 16 false,gD 18 17 16 false,gW 19 (.call (oF 105) [.t 18]) 16 false,gW 20 (.un .not (.t 19)) 16 false,oW 21 (.pick (.t 16) (oB true) (.t 20)),oM 3 21]
 .ret))}
theorem c103:compFunc Tryz.prog Tryz.f103 .pure=some t103:=by kernel_rfl
def t104:DFunc:={ntmps:=13,results:=[.t 4],mode:=.pure,body :=
 (oQ [oW 2 (.box 29 6 (.t 0)),oW 4 (.move (oB false))]
 (oQ [oM 5 1,oW 6 (.arith .eql (.t 5) (oI (-1))),oM 7 6,gA 8 1 2 7 false,gD 9 8 7 false,gM 10 1 7 false,gW 11 (.call (oF 150) [.t 9,.t 10]) 7 false,oW 12 (.pick (.t 7) (oB true) (.t 11)),oM 4 12]
 .ret))}
theorem c104:compFunc Tryz.prog Tryz.f104 .pure=some t104:=by kernel_rfl
def t105l0:DCode :=
 (oQ [oW 8 (.arith .lss (.t 7) (.t 6))]
 (.seq (.cond (.t 8) .skip (.exit 0))
 (.seq (.block 1 (oQ [oM 9 7,oW 10 (.indexAddr 5 (.t 5) (.t 7)),oL 11 5 10,oW 4 (.alloc 62 5 (.agg [.str [],.int .i64 0,.int .i64 0,.int .i64 0,.str []])),oM 3 9,oS 5 4 11]
 (.seq (.draw [oRL 12 5 4,oW 13 (.call (oF 151) [.t 12]),nK 14 (.un .not (.t 13)) .read 1,nK 15 (.move (.t 14)) .read 1,⟨(some 16),.move (.t 3),(some (15,false)),.read,1,false⟩,⟨(some 17),.arith .gtr (.t 16) (oI 0),(some (15,false)),.read,1,false⟩,⟨(some 18),.move (.t 17),(some (15,false)),.read,1,false⟩,⟨(some 19),.move (.t 0),(some (18,true)),.read,1,false⟩,⟨(some 20),.move (.t 3),(some (18,true)),.read,1,false⟩,⟨(some 21),.arith .sub (.t 20) (oI 1),(some (18,true)),.read,1,false⟩,⟨(some 22),.indexAddr 5 (.t 19) (.t 21),(some (18,true)),.read,1,false⟩,⟨(some 23),.fieldAddr 0 (.t 22),(some (18,true)),.read,1,false⟩,⟨(some 24),.load none (.t 23),(some (18,true)),.read,1,false⟩,⟨(some 25),.fieldAddr 0 (.t 4),(some (18,true)),.read,1,false⟩,⟨(some 26),.load none (.t 25),(some (18,true)),.read,1,false⟩,⟨(some 27),.arith .geq (.t 24) (.t 26),(some (18,true)),.read,1,false⟩,⟨(some 28),.pick (.t 18) (.t 27) (oB false),(some (15,false)),.read,1,false⟩,nK 29 (.pick (.t 15) (oB true) (.t 28)) .read 1])
 (.cond (.t 29) (oQ [oW 2 (.move (oB false))]
 .ret) .skip))))
 (.region [oW 30 (.arith .add (.t 7) (oI 1)),oM 7 30]))))
def t105k0:DCode :=
 (oQ [oM 31 0,oW 32 (.len 1 (.t 31)),oW 33 (.arith .leq (.t 32) (oI 5)),oM 2 33]
 .ret)
def t105:DFunc:={ntmps:=34,results:=[.t 2],mode:=.pure,body :=
 (oQ [oW 2 (.move (oB false))]
 (.seq (oQ [oM 5 0,oW 6 (.len 1 (.t 5)),oW 7 (.move (oI 0))]
 (.block 0 (.loop t105l0)))
 t105k0))}
theorem c105:compFunc Tryz.prog Tryz.f105 .pure=some t105:=by kernel_rfl
def t106:DFunc:={ntmps:=9,results:=[.t 4],mode:=.pure,body :=
 (oQ [oW 4 (.move (oB false))]
 (oQ [oM 5 0,oM 6 1,oW 7 (.call (oF 146) [.t 5,.t 6]),oW 8 (.arith .geq (.t 7) (oI 0)),oM 4 8]
 .ret))}
theorem c106:compFunc Tryz.prog Tryz.f106 .pure=some t106:=by kernel_rfl
def t107:DFunc:={ntmps:=8,results:=[.t 3],mode:=.pure,body :=
 (oQ [oW 2 (.box 58 7 (.t 0)),oW 3 (.move (oB false))]
 (oQ [oL 4 6 1,oL 5 7 2,oW 6 (.call (oF 108) [.t 4,.t 5]),oW 7 (.un .not (.t 6)),oM 3 7]
 .ret))}
theorem c107:compFunc Tryz.prog Tryz.f107 .pure=some t107:=by kernel_rfl
def t108:DFunc:={ntmps:=48,results:=[.t 4],mode:=.pure,body :=
 (oQ [oW 2 (.box 29 6 (.t 0)),oW 3 (.box 58 7 (.t 1)),oW 4 (.move (oB false))]
 (oQ [oL 9 6 2,oA 10 0 3,oL 11 2 10,oW 12 (.call (oF 23) [.t 9,.t 11]),oM 8 12,oX 13 8 0,oX 14 8 1,oW 5 (.alloc 42 4 (.agg [.int .i64 0,.int .i64 0,.nsl,.int .i64 0])),oS 4 5 13,oM 6 14]
 (oQ [oA 15 3 5,oD 16 15,oW 17 (.arith .eql (.t 16) (oI (-1))),oM 7 17]
 (oQ [oM 18 6,oM 19 18,gL 20 6 2 19 true,gA 21 5 3 19 true,gD 22 21 19 true,gW 23 (.call (oF 104) [.t 20,.t 22]) 19 true,oW 24 (.pick (.t 19) (.t 23) (oB false)),oM 25 24,gA 26 5 3 25 true,gD 27 26 25 true,gA 28 3 5 25 true,gD 29 28 25 true,gW 30 (.arith .neq (.t 27) (.t 29)) 25 true,gM 31 30 25 true,gM 32 7 31 false,gW 33 (.pick (.t 31) (oB true) (.t 32)) 25 true,oW 34 (.pick (.t 25) (.t 33) (oB false)),oM 35 34,gA 36 6 3 35 true,gD 37 36 35 true,gM 38 37 35 true,gM 39 7 38 true,gW 40 (.pick (.t 38) (.t 39) (oB false)) 35 true,gW 41 (.un .not (.t 40)) 35 true,oW 42 (.pick (.t 35) (.t 41) (oB false)),oM 43 42,gA 44 4 3 43 true,gD 45 44 43 true,gW 46 (.call (oF 105) [.t 45]) 43 true,oW 47 (.pick (.t 43) (.t 46) (oB false)),oM 4 47]
 .ret))))}
theorem c108:compFunc Tryz.prog Tryz.f108 .pure=some t108:=by kernel_rfl
def t109:DFunc:={ntmps:=9,results:=[.t 4],mode:=.pure,body :=
 (oQ [oW 4 (.move (oB false))]
 (oQ [oM 5 0,oM 6 1,oW 7 (.call (oF 152) [.t 5,.t 6]),oW 8 (.arith .geq (.t 7) (oI 0)),oM 4 8]
 .ret))}
theorem c109:compFunc Tryz.prog Tryz.f109 .pure=some t109:=by kernel_rfl
def t110:DFunc:={ntmps:=7,results:=[.t 2],mode:=.pure,body :=
 (oQ [oW 1 (.box 60 3 (.t 0)),oW 2 (.move (oB false))]
 (oQ [oA 3 2 1,oD 4 3,oW 5 (.call (oF 105) [.t 4]),oW 6 (.un .not (.t 5)),oM 2 6]
 .ret))}
theorem c110:compFunc Tryz.prog Tryz.f110 .pure=some t110:=by kernel_rfl
end Go.Dm.Tc
