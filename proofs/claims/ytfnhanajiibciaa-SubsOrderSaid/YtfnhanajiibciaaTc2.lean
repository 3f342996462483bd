/-
The table of functions, brought into the machine's form (Tc, part 2). Written by program (wip/tools/table.lean.txt).
-/
import Derived.Test.YtfnhanajiibciaaMm3
import Derived.Test.YtfnhanajiibciaaRows
import Derived.KernelRfl
namespace Go.Dm.Tc
open Go.Proofs

def t128l0 : DCode :=
 (.seq (.seq (.region [oM 7 2, oM 8 3, oW 9 (.arith .lss (.t 7) (.t 8))])
 (.cond (.t 9) .skip (.exit 0)))
 (.seq (.block 1 (.draw [oRM 18 0, oRM 19 3, oR 20 (.indexAddr 4 (.t 18) (.t 19)), oRL 21 4 20, oRM 22 0, oRM 23 2, oR 24 (.indexAddr 4 (.t 22) (.t 23)), oRL 25 4 24, oRM 14 0, oRM 15 2, oR 26 (.indexAddr 4 (.t 14) (.t 15)), oS 4 26 21, oRM 16 0, oRM 17 3, ⟨(some 27), .indexAddr 4 (.t 16) (.t 17), none, .read, 1⟩, ⟨none, .store 4 (.t 27) (.t 25), none, .write, 1⟩]))
 (.region [oM 10 2, oW 11 (.arith .add (.t 10) (oI 1)), oM 12 3, oW 13 (.arith .sub (.t 12) (oI 1)), oM 2 11, oM 3 13])))

/-- slices.Reverse[[]broadside/api.Advert,broadside/api.Advert] -/
def t128 : DFunc := { ntmps := 28, results := [], mode := .full, body :=
 (.seq (.region [oM 4 0, oW 5 (.len 1 (.t 4)), oW 6 (.arith .sub (.t 5) (oI 1)), oW 2 (.move (oI 0)), oM 3 6])
 (.block 0 (.loop t128l0))) }

theorem c128 : compFunc Try.prog Try.f128 .full = some t128 := by kernel_rfl

def t129l0 : DCode :=
 (.seq (.seq (.region [oM 7 2, oM 8 3, oW 9 (.arith .lss (.t 7) (.t 8))])
 (.cond (.t 9) .skip (.exit 0)))
 (.seq (.block 1 (.draw [oRM 18 0, oRM 19 3, oR 20 (.indexAddr 2 (.t 18) (.t 19)), oRL 21 2 20, oRM 22 0, oRM 23 2, oR 24 (.indexAddr 2 (.t 22) (.t 23)), oRL 25 2 24, oRM 14 0, oRM 15 2, oR 26 (.indexAddr 2 (.t 14) (.t 15)), oS 2 26 21, oRM 16 0, oRM 17 3, ⟨(some 27), .indexAddr 2 (.t 16) (.t 17), none, .read, 1⟩, ⟨none, .store 2 (.t 27) (.t 25), none, .write, 1⟩]))
 (.region [oM 10 2, oW 11 (.arith .add (.t 10) (oI 1)), oM 12 3, oW 13 (.arith .sub (.t 12) (oI 1)), oM 2 11, oM 3 13])))

/-- slices.Reverse[[]broadside/api.ID,broadside/api.ID] -/
def t129 : DFunc := { ntmps := 28, results := [], mode := .full, body :=
 (.seq (.region [oM 4 0, oW 5 (.len 1 (.t 4)), oW 6 (.arith .sub (.t 5) (oI 1)), oW 2 (.move (oI 0)), oM 3 6])
 (.block 0 (.loop t129l0))) }

theorem c129 : compFunc Try.prog Try.f129 .full = some t129 := by kernel_rfl

def t130l0 : DCode :=
 (.seq (.seq (.region [oM 7 2, oM 8 3, oW 9 (.arith .lss (.t 7) (.t 8))])
 (.cond (.t 9) .skip (.exit 0)))
 (.seq (.block 1 (.draw [oRM 18 0, oRM 19 3, oR 20 (.indexAddr 7 (.t 18) (.t 19)), oRL 21 7 20, oRM 22 0, oRM 23 2, oR 24 (.indexAddr 7 (.t 22) (.t 23)), oRL 25 7 24, oRM 14 0, oRM 15 2, oR 26 (.indexAddr 7 (.t 14) (.t 15)), oS 7 26 21, oRM 16 0, oRM 17 3, ⟨(some 27), .indexAddr 7 (.t 16) (.t 17), none, .read, 1⟩, ⟨none, .store 7 (.t 27) (.t 25), none, .write, 1⟩]))
 (.region [oM 10 2, oW 11 (.arith .add (.t 10) (oI 1)), oM 12 3, oW 13 (.arith .sub (.t 12) (oI 1)), oM 2 11, oM 3 13])))

/-- slices.Reverse[[]broadside/api.Entry,broadside/api.Entry] -/
def t130 : DFunc := { ntmps := 28, results := [], mode := .full, body :=
 (.seq (.region [oM 4 0, oW 5 (.len 1 (.t 4)), oW 6 (.arith .sub (.t 5) (oI 1)), oW 2 (.move (oI 0)), oM 3 6])
 (.block 0 (.loop t130l0))) }

theorem c130 : compFunc Try.prog Try.f130 .full = some t130 := by kernel_rfl

/-- slices.order2Ordered[int] -/
def t131 : DFunc := { ntmps := 28, results := [(.t 8), (.t 9)], mode := .pure, body :=
 (.seq (.region [oW 8 (.move (oI 0)), oW 9 (.move (oI 0))])
 (.seq (.seq (.draw [oRM 10 0, oRM 11 2, oR 12 (.indexAddr 1 (.t 10) (.t 11)), oRD 13 12, oRM 14 0, oRM 15 1, oR 16 (.indexAddr 1 (.t 14) (.t 15)), oRD 17 16, oW 18 (.call (oF 111) [(.t 13), (.t 17)])])
 (.cond (.t 18) (.seq (.region [oM 19 3, oW 20 (.nilCheck (.t 19)), oD 21 20, oW 22 (.arith .add (.t 21) (oI 1)), oW 23 (.nilCheck (.t 19)), oS 1 23 22])
 (.seq (.region [oM 24 2, oM 25 1, oM 8 24, oM 9 25])
 .ret)) .skip))
 (.seq (.region [oM 26 1, oM 27 2, oM 8 26, oM 9 27])
 .ret))) }

theorem c131 : compFunc Try.prog Try.f131 .pure = some t131 := by kernel_rfl

end Go.Dm.Tc
