/-
The table of functions, brought into the machine's form (Tr7, part 6). Written by program (wip/tools/table3.lean.txt).
-/
import Derived.Test.YtloabemenciijaaGreatDoorMm4
import Derived.Test.YtloabemenciijaaGreatDoorRows
import Derived.KernelRfl
namespace Go.Dm.Tr7
open Go.Proofs

def t372l0 : DCode :=
 (.seq (.seq (.region [oM 7 2, oM 8 3, oW 9 (.arith .lss (.t 7) (.t 8))])
 (.cond (.t 9) .skip (.exit 0)))
 (.seq (.block 1 (.draw [oRM 18 0, oRM 19 3, oR 20 (.indexAddr 7 (.t 18) (.t 19)), oRL 21 7 20, oRM 22 0, oRM 23 2, oR 24 (.indexAddr 7 (.t 22) (.t 23)), oRL 25 7 24, oRM 14 0, oRM 15 2, oR 26 (.indexAddr 7 (.t 14) (.t 15)), oS 7 26 21, oRM 16 0, oRM 17 3, ⟨(some 27), .indexAddr 7 (.t 16) (.t 17), none, .read, 1, false⟩, ⟨none, .store 7 (.t 27) (.t 25), none, .write, 1, false⟩]))
 (.region [oM 10 2, oW 11 (.arith .add (.t 10) (oI 1)), oM 12 3, oW 13 (.arith .sub (.t 12) (oI 1)), oM 2 11, oM 3 13])))

/-- slices.Reverse[[]broadside/api.Entry,broadside/api.Entry] -/
def t372 : DFunc := { ntmps := 28, results := [], mode := .full, body :=
 (.seq (.region [oM 4 0, oW 5 (.len 1 (.t 4)), oW 6 (.arith .sub (.t 5) (oI 1)), oW 2 (.move (oI 0)), oM 3 6])
 (.block 0 (.loop t372l0))) }

theorem c372 : compFunc Tryz.prog Tryz.f372 .full = some t372 := by kernel_rfl

/-- slices.Delete[[]broadside/api.Own,broadside/api.Own] -/
def t373 : DFunc := { ntmps := 33, results := [(.t 6)], mode := .full, body :=
 (.seq (.region [oW 6 (.move (.c .nsl))])
 (.seq (.region [oM 8 0, oM 9 1, oM 10 2, oM 11 0, oW 12 (.len 1 (.t 11)), oW 13 (.slice3 (.t 8) (.t 9) (.t 10) (.t 12))])
 (.seq (.seq (.region [oM 14 1, oM 15 2, oW 16 (.arith .eql (.t 14) (.t 15))])
 (.cond (.t 16) (.seq (.region [oM 17 0, oM 6 17])
 .ret) .skip))
 (.seq (.region [oM 18 0, oW 19 (.len 1 (.t 18)), oM 7 19])
 (.seq (.draw [oRM 20 0, oRM 21 1, oR 22 (.sliceSl 3 (.t 20) none (some (.t 21))), oRM 23 0, oRM 24 2, oR 25 (.sliceSl 3 (.t 23) (some (.t 24)) none), oW 26 (.append 151 3 40 (.t 22) (.t 25)), ⟨(some 0), .move (.t 26), none, .read, 1, false⟩])
 (.seq (.region [oM 27 0, oM 28 0, oW 29 (.len 1 (.t 28)), oM 30 7, oW 31 (.sliceSl 3 (.t 27) (some (.t 29)) (some (.t 30))), oZ (.clear 3 (.agg [(.int .i64 0), (.int .i64 0), .nsl]) (.t 31))])
 (.seq (.region [oM 32 0, oM 6 32])
 .ret))))))) }

theorem c373 : compFunc Tryz.prog Tryz.f373 .full = some t373 := by kernel_rfl

/-- slices.rotateLeft[broadside/api.Constraint] -/
def t375 : DFunc := { ntmps := 14, results := [], mode := .full, body :=
 (.seq (.region [oM 4 0, oM 5 1, oW 6 (.sliceSl 5 (.t 4) none (some (.t 5))), oW 7 (.call (oF 376) [(.t 6)])])
 (.seq (.region [oM 8 0, oM 9 1, oW 10 (.sliceSl 5 (.t 8) (some (.t 9)) none), oW 11 (.call (oF 376) [(.t 10)])])
 (.region [oM 12 0, oW 13 (.call (oF 376) [(.t 12)])]))) }

theorem c375 : compFunc Tryz.prog Tryz.f375 .full = some t375 := by kernel_rfl

def t376l0 : DCode :=
 (.seq (.seq (.region [oM 7 2, oM 8 3, oW 9 (.arith .lss (.t 7) (.t 8))])
 (.cond (.t 9) .skip (.exit 0)))
 (.seq (.block 1 (.draw [oRM 18 0, oRM 19 3, oR 20 (.indexAddr 5 (.t 18) (.t 19)), oRL 21 5 20, oRM 22 0, oRM 23 2, oR 24 (.indexAddr 5 (.t 22) (.t 23)), oRL 25 5 24, oRM 14 0, oRM 15 2, oR 26 (.indexAddr 5 (.t 14) (.t 15)), oS 5 26 21, oRM 16 0, oRM 17 3, ⟨(some 27), .indexAddr 5 (.t 16) (.t 17), none, .read, 1, false⟩, ⟨none, .store 5 (.t 27) (.t 25), none, .write, 1, false⟩]))
 (.region [oM 10 2, oW 11 (.arith .add (.t 10) (oI 1)), oM 12 3, oW 13 (.arith .sub (.t 12) (oI 1)), oM 2 11, oM 3 13])))

/-- slices.Reverse[[]broadside/api.Constraint,broadside/api.Constraint] -/
def t376 : DFunc := { ntmps := 28, results := [], mode := .full, body :=
 (.seq (.region [oM 4 0, oW 5 (.len 1 (.t 4)), oW 6 (.arith .sub (.t 5) (oI 1)), oW 2 (.move (oI 0)), oM 3 6])
 (.block 0 (.loop t376l0))) }

theorem c376 : compFunc Tryz.prog Tryz.f376 .full = some t376 := by kernel_rfl

end Go.Dm.Tr7
