/- A part of the proof. -/
import Derived.Test.YtegofjiikhlokaaGreatDoorTc0
import Derived.Test.YtegofjiikhlokaaGreatDoorMm3
import Derived.Test.YtegofjiikhlokaaGreatDoorRows
import Derived.KernelRfl
namespace Go.Dm.Tc
open Go.Proofs
def XG:aN :=
 (.seq (oQ [oM 7 2,oM 8 3,oW 9 (.arith .lss (.t 7) (.t 8))]
 (.cond (.t 9) .skip (.exit 0)))
 (.seq (.block 1 (.draw [oRM 18 0,oRM 19 3,oR 20 (.indexAddr 4 (.t 18) (.t 19)),oRL 21 4 20,oRM 22 0,oRM 23 2,oR 24 (.indexAddr 4 (.t 22) (.t 23)),oRL 25 4 24,oRM 14 0,oRM 15 2,oR 26 (.indexAddr 4 (.t 14) (.t 15)),oS 4 26 21,oRM 16 0,oRM 17 3,nK 27 (.indexAddr 4 (.t 16) (.t 17)) .read 1,⟨none,.store 4 (.t 27) (.t 25),none,.write,1,false⟩]))
 (.region [oM 10 2,oW 11 (.arith .add (.t 10) (oI 1)),oM 12 3,oW 13 (.arith .sub (.t 12) (oI 1)),oM 2 11,oM 3 13])))
def t231:aQ:={ntmps:=28,results:=[],mode:=.full,body :=
 (oQ [oM 4 0,oW 5 (.len 1 (.t 4)),oW 6 (.arith .sub (.t 5) (oI 1)),oW 2 (.move (oI 0)),oM 3 6]
 (.block 0 (.loop XG)))}
theorem c231:aE Tryz.prog Tryz.f231 .full=some t231:=by kernel_rfl
def XF:aN :=
 (.seq (oQ [oM 7 2,oM 8 3,oW 9 (.arith .lss (.t 7) (.t 8))]
 (.cond (.t 9) .skip (.exit 0)))
 (.seq (.block 1 (.draw [oRM 18 0,oRM 19 3,oR 20 (.indexAddr 2 (.t 18) (.t 19)),oRL 21 2 20,oRM 22 0,oRM 23 2,oR 24 (.indexAddr 2 (.t 22) (.t 23)),oRL 25 2 24,oRM 14 0,oRM 15 2,oR 26 (.indexAddr 2 (.t 14) (.t 15)),oS 2 26 21,oRM 16 0,oRM 17 3,nK 27 (.indexAddr 2 (.t 16) (.t 17)) .read 1,⟨none,.store 2 (.t 27) (.t 25),none,.write,1,false⟩]))
 (.region [oM 10 2,oW 11 (.arith .add (.t 10) (oI 1)),oM 12 3,oW 13 (.arith .sub (.t 12) (oI 1)),oM 2 11,oM 3 13])))
def t232:aQ:={ntmps:=28,results:=[],mode:=.full,body :=
 (oQ [oM 4 0,oW 5 (.len 1 (.t 4)),oW 6 (.arith .sub (.t 5) (oI 1)),oW 2 (.move (oI 0)),oM 3 6]
 (.block 0 (.loop XF)))}
theorem c232:aE Tryz.prog Tryz.f232 .full=some t232:=by kernel_rfl
def CL:aQ:={ntmps:=8,results:=[.t 4],mode:=.pure,body :=
 (oQ [oW 4 (.move (oI 0))]
 (oQ [oM 5 0,oM 6 1,oW 7 (.call (oF 238) [.t 5,.t 6]),oM 4 7]
 .ret))}
theorem c233:aE Tryz.prog Tryz.f233 .pure=some CL:=by kernel_rfl
def t235:aQ:={ntmps:=10,results:=[],mode:=.full,body :=
 (.region [oM 4 0,oM 5 0,oW 6 (.len 1 (.t 5)),oM 7 1,oW 8 (.arith .sub (.t 6) (.t 7)),oW 9 (.call (oF 239) [.t 4,.t 8])])}
theorem c235:aE Tryz.prog Tryz.f235 .full=some t235:=by kernel_rfl
def XE:aN :=
 (.seq (oQ [oM 7 2,oM 8 3,oW 9 (.arith .lss (.t 7) (.t 8))]
 (.cond (.t 9) .skip (.exit 0)))
 (.seq (.block 1 (.draw [oRM 18 0,oRM 19 3,oR 20 (.indexAddr 7 (.t 18) (.t 19)),oRL 21 7 20,oRM 22 0,oRM 23 2,oR 24 (.indexAddr 7 (.t 22) (.t 23)),oRL 25 7 24,oRM 14 0,oRM 15 2,oR 26 (.indexAddr 7 (.t 14) (.t 15)),oS 7 26 21,oRM 16 0,oRM 17 3,nK 27 (.indexAddr 7 (.t 16) (.t 17)) .read 1,⟨none,.store 7 (.t 27) (.t 25),none,.write,1,false⟩]))
 (.region [oM 10 2,oW 11 (.arith .add (.t 10) (oI 1)),oM 12 3,oW 13 (.arith .sub (.t 12) (oI 1)),oM 2 11,oM 3 13])))
def t236:aQ:={ntmps:=28,results:=[],mode:=.full,body :=
 (oQ [oM 4 0,oW 5 (.len 1 (.t 4)),oW 6 (.arith .sub (.t 5) (oI 1)),oW 2 (.move (oI 0)),oM 3 6]
 (.block 0 (.loop XE)))}
theorem c236:aE Tryz.prog Tryz.f236 .full=some t236:=by kernel_rfl
def t237:aQ:={ntmps:=28,results:=[.t 8,.t 9],mode:=.pure,body :=
 (oQ [oW 8 (.move (oI 0)),oW 9 (.move (oI 0))]
 (.seq (.seq (.draw [oRM 10 0,oRM 11 2,oR 12 (.indexAddr 1 (.t 10) (.t 11)),oRD 13 12,oRM 14 0,oRM 15 1,oR 16 (.indexAddr 1 (.t 14) (.t 15)),oRD 17 16,oW 18 (.call (oF 207) [.t 13,.t 17])])
 (.cond (.t 18) (oQ [oM 19 3,oW 20 (.nilCheck (.t 19)),oD 21 20,oW 22 (.arith .add (.t 21) (oI 1)),oW 23 (.nilCheck (.t 19)),oS 1 23 22]
 (oQ [oM 24 2,oM 25 1,oM 8 24,oM 9 25]
 .ret)) .skip))
 (oQ [oM 26 1,oM 27 2,oM 8 26,oM 9 27]
 .ret)))}
theorem c237:aE Tryz.prog Tryz.f237 .pure=some t237:=by kernel_rfl
def t239:aQ:={ntmps:=14,results:=[],mode:=.full,body :=
 (oQ [oM 4 0,oM 5 1,oW 6 (.sliceSl 5 (.t 4) none (some (.t 5))),oW 7 (.call (oF 240) [.t 6])]
 (oQ [oM 8 0,oM 9 1,oW 10 (.sliceSl 5 (.t 8) (some (.t 9)) none),oW 11 (.call (oF 240) [.t 10])]
 (.region [oM 12 0,oW 13 (.call (oF 240) [.t 12])])))}
theorem c239:aE Tryz.prog Tryz.f239 .full=some t239:=by kernel_rfl
def XD:aN :=
 (.seq (oQ [oM 7 2,oM 8 3,oW 9 (.arith .lss (.t 7) (.t 8))]
 (.cond (.t 9) .skip (.exit 0)))
 (.seq (.block 1 (.draw [oRM 18 0,oRM 19 3,oR 20 (.indexAddr 5 (.t 18) (.t 19)),oRL 21 5 20,oRM 22 0,oRM 23 2,oR 24 (.indexAddr 5 (.t 22) (.t 23)),oRL 25 5 24,oRM 14 0,oRM 15 2,oR 26 (.indexAddr 5 (.t 14) (.t 15)),oS 5 26 21,oRM 16 0,oRM 17 3,nK 27 (.indexAddr 5 (.t 16) (.t 17)) .read 1,⟨none,.store 5 (.t 27) (.t 25),none,.write,1,false⟩]))
 (.region [oM 10 2,oW 11 (.arith .add (.t 10) (oI 1)),oM 12 3,oW 13 (.arith .sub (.t 12) (oI 1)),oM 2 11,oM 3 13])))
def t240:aQ:={ntmps:=28,results:=[],mode:=.full,body :=
 (oQ [oM 4 0,oW 5 (.len 1 (.t 4)),oW 6 (.arith .sub (.t 5) (oI 1)),oW 2 (.move (oI 0)),oM 3 6]
 (.block 0 (.loop XD)))}
theorem c240:aE Tryz.prog Tryz.f240 .full=some t240:=by kernel_rfl
end Go.Dm.Tc
