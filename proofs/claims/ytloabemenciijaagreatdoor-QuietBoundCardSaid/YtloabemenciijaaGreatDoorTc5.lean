/- A part of the proof. -/
import Derived.Test.YtloabemenciijaaGreatDoorTc0
import Derived.Test.YtloabemenciijaaGreatDoorMm4
import Derived.Test.YtloabemenciijaaGreatDoorRows
import Derived.KernelRfl
namespace Go.Dm.Tc
open Go.Proofs
def EG:aG :=
 (oQ [oW 34 (.arith .lss (.t 33) (.t 32))]
 (.seq (.cond (.t 34) .skip (.exit 0))
 (.seq (.block 1 (oQ [oW 35 (.indexAddr 4 (.t 31) (.t 33)),oL 36 4 35,oW 10 (.alloc 86 4 (.agg [.int .i64 0,.int .i64 0,.nsl,.int .i64 0])),oS 4 10 36]
 (oQ [oL 38 6 2,oA 39 0 10,oL 40 2 39,oL 41 2 3,oW 42 (.call (oF 187) [.t 38,.t 40,.t 41,(oI (-1))]),oM 37 42,oX 43 37 0,oX 44 37 1,oW 11 (.alloc 37 6 (.agg [.int .i64 0,.nsl,.nsl,.nsl,.nsl,.nsl])),oS 6 11 43,oM 12 44]
 (.draw [oRL 45 6 11,oRM 46 8,oRM 47 12,nK 48 (.append 168 8 96 (.t 46) (.t 47)) .create 0,⟨none,.store 6 (.t 2) (.t 45),none,.write,1,false⟩,nK 8 (.move (.t 48)) .read 2]))))
 (.region [oW 49 (.arith .add (.t 33) (oI 1)),oM 33 49]))))
def EH:aG :=
 (oQ [oL 50 6 2,oM 51 8,oS 6 4 50,oM 5 51]
 .ret)
def MG:aD:={ntmps:=52,results:=[(.cell 4 (some 6)),.t 5],mode:=.frz,body :=
 (oQ [oW 2 (.box 37 6 (.t 0)),oW 3 (.box 45 2 (.t 1)),oW 4 (.alloc 37 6 (.agg [.int .i64 0,.nsl,.nsl,.nsl,.nsl,.nsl])),oW 5 (.move (.c .nsl))]
 (oQ [oL 14 6 2,oL 15 2 3,oW 16 (.call (oF 230) [.t 14,.t 15]),oM 13 16,oX 17 13 0,oX 18 13 1,oM 6 17,oM 7 18]
 (.seq (oQ [oM 19 7,oW 20 (.un .not (.t 19))]
 (.cond (.t 20) (oQ [oL 21 6 2,oS 6 4 21,oW 5 (.move (.c .nsl))]
 .ret) .skip))
 (oQ [oA 22 5 2,oD 23 22,oW 24 (.call (oF 152) [.t 23]),oM 25 6,oM 26 6,oW 27 (.arith .add (.t 26) (oI 1)),oW 28 (.call (oF 373) [.t 24,.t 25,.t 27]),oA 29 5 2,oS 1 29 28]
 (oQ [oW 8 (.move (.c .nsl))]
 (.seq (oQ [oA 30 2 2,oD 31 30,oW 32 (.len 1 (.t 31)),oW 33 (.move (oI 0))]
 (.block 0 (.loop EG)))
 EH))))))}
theorem VA:aB Tryz.prog Tryz.f362 .frz=some MG:=by kernel_rfl
def EE:aG :=
 (oQ [oW 9 (.arith .lss (.t 8) (.t 7))]
 (.seq (.cond (.t 9) .skip (.exit 0))
 (.seq (.block 1 (oQ [oM 10 8,oM 5 10]
 (.seq (.draw [oRL 11 2 3,oRM 12 0,oRM 13 5,oR 14 (.indexAddr 2 (.t 12) (.t 13)),oRL 15 2 14,oR 16 (.eqa false [1,1] (.t 11) (.t 15))])
 (.cond (.t 16) (oQ [oM 17 5,oM 4 17]
 .ret) .skip))))
 (.region [oW 18 (.arith .add (.t 8) (oI 1)),oM 8 18]))))
def EF:aG :=
 (oQ [oW 4 (.move (oI (-1)))]
 .ret)
def MF:aD:={ntmps:=19,results:=[.t 4],mode:=.pure,body :=
 (oQ [oW 3 (.box 90 2 (.t 1)),oW 4 (.move (oI 0))]
 (.seq (oQ [oM 6 0,oW 7 (.len 1 (.t 6)),oW 8 (.move (oI 0))]
 (.block 0 (.loop EE)))
 EF))}
theorem UZ:aB Tryz.prog Tryz.f364 .pure=some MF:=by kernel_rfl
def ED:aG :=
 (.seq (oQ [oM 7 2,oM 8 3,oW 9 (.arith .lss (.t 7) (.t 8))]
 (.cond (.t 9) .skip (.exit 0)))
 (.seq (.block 1 (.draw [oRM 18 0,oRM 19 3,oR 20 (.indexAddr 3 (.t 18) (.t 19)),oRL 21 3 20,oRM 22 0,oRM 23 2,oR 24 (.indexAddr 3 (.t 22) (.t 23)),oRL 25 3 24,oRM 14 0,oRM 15 2,oR 26 (.indexAddr 3 (.t 14) (.t 15)),oS 3 26 21,oRM 16 0,oRM 17 3,nK 27 (.indexAddr 3 (.t 16) (.t 17)) .read 1,⟨none,.store 3 (.t 27) (.t 25),none,.write,1,false⟩]))
 (.region [oM 10 2,oW 11 (.arith .add (.t 10) (oI 1)),oM 12 3,oW 13 (.arith .sub (.t 12) (oI 1)),oM 2 11,oM 3 13])))
def ME:aD:={ntmps:=28,results:=[],mode:=.full,body :=
 (oQ [oM 4 0,oW 5 (.len 1 (.t 4)),oW 6 (.arith .sub (.t 5) (oI 1)),oW 2 (.move (oI 0)),oM 3 6]
 (.block 0 (.loop ED)))}
theorem UY:aB Tryz.prog Tryz.f365 .full=some ME:=by kernel_rfl
def EC:aG :=
 (.seq (oQ [oM 7 2,oM 8 3,oW 9 (.arith .lss (.t 7) (.t 8))]
 (.cond (.t 9) .skip (.exit 0)))
 (.seq (.block 1 (.draw [oRM 18 0,oRM 19 3,oR 20 (.indexAddr 4 (.t 18) (.t 19)),oRL 21 4 20,oRM 22 0,oRM 23 2,oR 24 (.indexAddr 4 (.t 22) (.t 23)),oRL 25 4 24,oRM 14 0,oRM 15 2,oR 26 (.indexAddr 4 (.t 14) (.t 15)),oS 4 26 21,oRM 16 0,oRM 17 3,nK 27 (.indexAddr 4 (.t 16) (.t 17)) .read 1,⟨none,.store 4 (.t 27) (.t 25),none,.write,1,false⟩]))
 (.region [oM 10 2,oW 11 (.arith .add (.t 10) (oI 1)),oM 12 3,oW 13 (.arith .sub (.t 12) (oI 1)),oM 2 11,oM 3 13])))
def MD:aD:={ntmps:=28,results:=[],mode:=.full,body :=
 (oQ [oM 4 0,oW 5 (.len 1 (.t 4)),oW 6 (.arith .sub (.t 5) (oI 1)),oW 2 (.move (oI 0)),oM 3 6]
 (.block 0 (.loop EC)))}
theorem UX:aB Tryz.prog Tryz.f367 .full=some MD:=by kernel_rfl
def EB:aG :=
 (.seq (oQ [oM 7 2,oM 8 3,oW 9 (.arith .lss (.t 7) (.t 8))]
 (.cond (.t 9) .skip (.exit 0)))
 (.seq (.block 1 (.draw [oRM 18 0,oRM 19 3,oR 20 (.indexAddr 2 (.t 18) (.t 19)),oRL 21 2 20,oRM 22 0,oRM 23 2,oR 24 (.indexAddr 2 (.t 22) (.t 23)),oRL 25 2 24,oRM 14 0,oRM 15 2,oR 26 (.indexAddr 2 (.t 14) (.t 15)),oS 2 26 21,oRM 16 0,oRM 17 3,nK 27 (.indexAddr 2 (.t 16) (.t 17)) .read 1,⟨none,.store 2 (.t 27) (.t 25),none,.write,1,false⟩]))
 (.region [oM 10 2,oW 11 (.arith .add (.t 10) (oI 1)),oM 12 3,oW 13 (.arith .sub (.t 12) (oI 1)),oM 2 11,oM 3 13])))
def MC:aD:={ntmps:=28,results:=[],mode:=.full,body :=
 (oQ [oM 4 0,oW 5 (.len 1 (.t 4)),oW 6 (.arith .sub (.t 5) (oI 1)),oW 2 (.move (oI 0)),oM 3 6]
 (.block 0 (.loop EB)))}
theorem UW:aB Tryz.prog Tryz.f368 .full=some MC:=by kernel_rfl
def MB:aD:={ntmps:=8,results:=[.t 4],mode:=.pure,body :=
 (oQ [oW 4 (.move (oI 0))]
 (oQ [oM 5 0,oM 6 1,oW 7 (.call (oF 374) [.t 5,.t 6]),oM 4 7]
 .ret))}
theorem UV:aB Tryz.prog Tryz.f369 .pure=some MB:=by kernel_rfl
def MA:aD:={ntmps:=10,results:=[],mode:=.full,body :=
 (.region [oM 4 0,oM 5 0,oW 6 (.len 1 (.t 5)),oM 7 1,oW 8 (.arith .sub (.t 6) (.t 7)),oW 9 (.call (oF 375) [.t 4,.t 8])])}
theorem UU:aB Tryz.prog Tryz.f371 .full=some MA:=by kernel_rfl
def EA:aG :=
 (.seq (oQ [oM 7 2,oM 8 3,oW 9 (.arith .lss (.t 7) (.t 8))]
 (.cond (.t 9) .skip (.exit 0)))
 (.seq (.block 1 (.draw [oRM 18 0,oRM 19 3,oR 20 (.indexAddr 7 (.t 18) (.t 19)),oRL 21 7 20,oRM 22 0,oRM 23 2,oR 24 (.indexAddr 7 (.t 22) (.t 23)),oRL 25 7 24,oRM 14 0,oRM 15 2,oR 26 (.indexAddr 7 (.t 14) (.t 15)),oS 7 26 21,oRM 16 0,oRM 17 3,nK 27 (.indexAddr 7 (.t 16) (.t 17)) .read 1,⟨none,.store 7 (.t 27) (.t 25),none,.write,1,false⟩]))
 (.region [oM 10 2,oW 11 (.arith .add (.t 10) (oI 1)),oM 12 3,oW 13 (.arith .sub (.t 12) (oI 1)),oM 2 11,oM 3 13])))
def LZ:aD:={ntmps:=28,results:=[],mode:=.full,body :=
 (oQ [oM 4 0,oW 5 (.len 1 (.t 4)),oW 6 (.arith .sub (.t 5) (oI 1)),oW 2 (.move (oI 0)),oM 3 6]
 (.block 0 (.loop EA)))}
theorem UT:aB Tryz.prog Tryz.f372 .full=some LZ:=by kernel_rfl
def LY:aD:={ntmps:=33,results:=[.t 6],mode:=.full,body :=
 (oQ [oW 6 (.move (.c .nsl))]
 (oQ [oM 8 0,oM 9 1,oM 10 2,oM 11 0,oW 12 (.len 1 (.t 11)),oW 13 (.slice3 (.t 8) (.t 9) (.t 10) (.t 12))]
 (.seq (oQ [oM 14 1,oM 15 2,oW 16 (.arith .eql (.t 14) (.t 15))]
 (.cond (.t 16) (oQ [oM 17 0,oM 6 17]
 .ret) .skip))
 (oQ [oM 18 0,oW 19 (.len 1 (.t 18)),oM 7 19]
 (.seq (.draw [oRM 20 0,oRM 21 1,oR 22 (.sliceSl 3 (.t 20) none (some (.t 21))),oRM 23 0,oRM 24 2,oR 25 (.sliceSl 3 (.t 23) (some (.t 24)) none),oW 26 (.append 151 3 40 (.t 22) (.t 25)),nK 0 (.move (.t 26)) .read 1])
 (oQ [oM 27 0,oM 28 0,oW 29 (.len 1 (.t 28)),oM 30 7,oW 31 (.sliceSl 3 (.t 27) (some (.t 29)) (some (.t 30))),oZ (.clear 3 (.agg [.int .i64 0,.int .i64 0,.nsl]) (.t 31))]
 (oQ [oM 32 0,oM 6 32]
 .ret)))))))}
theorem US:aB Tryz.prog Tryz.f373 .full=some LY:=by kernel_rfl
def LX:aD:={ntmps:=14,results:=[],mode:=.full,body :=
 (oQ [oM 4 0,oM 5 1,oW 6 (.sliceSl 5 (.t 4) none (some (.t 5))),oW 7 (.call (oF 376) [.t 6])]
 (oQ [oM 8 0,oM 9 1,oW 10 (.sliceSl 5 (.t 8) (some (.t 9)) none),oW 11 (.call (oF 376) [.t 10])]
 (.region [oM 12 0,oW 13 (.call (oF 376) [.t 12])])))}
theorem UR:aB Tryz.prog Tryz.f375 .full=some LX:=by kernel_rfl
def DZ:aG :=
 (.seq (oQ [oM 7 2,oM 8 3,oW 9 (.arith .lss (.t 7) (.t 8))]
 (.cond (.t 9) .skip (.exit 0)))
 (.seq (.block 1 (.draw [oRM 18 0,oRM 19 3,oR 20 (.indexAddr 5 (.t 18) (.t 19)),oRL 21 5 20,oRM 22 0,oRM 23 2,oR 24 (.indexAddr 5 (.t 22) (.t 23)),oRL 25 5 24,oRM 14 0,oRM 15 2,oR 26 (.indexAddr 5 (.t 14) (.t 15)),oS 5 26 21,oRM 16 0,oRM 17 3,nK 27 (.indexAddr 5 (.t 16) (.t 17)) .read 1,⟨none,.store 5 (.t 27) (.t 25),none,.write,1,false⟩]))
 (.region [oM 10 2,oW 11 (.arith .add (.t 10) (oI 1)),oM 12 3,oW 13 (.arith .sub (.t 12) (oI 1)),oM 2 11,oM 3 13])))
def LW:aD:={ntmps:=28,results:=[],mode:=.full,body :=
 (oQ [oM 4 0,oW 5 (.len 1 (.t 4)),oW 6 (.arith .sub (.t 5) (oI 1)),oW 2 (.move (oI 0)),oM 3 6]
 (.block 0 (.loop DZ)))}
theorem UQ:aB Tryz.prog Tryz.f376 .full=some LW:=by kernel_rfl
end Go.Dm.Tc
