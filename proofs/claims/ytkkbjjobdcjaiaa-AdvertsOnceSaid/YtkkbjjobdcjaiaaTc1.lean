/-
The table of functions, brought into the machine's form (Tc, part 1). Written by program (wip/tools/table.lean.txt).
-/
import Derived.Test.YtkkbjjobdcjaiaaMm3
import Derived.Test.YtkkbjjobdcjaiaaRows
import Derived.KernelRfl
namespace Go.Dm.Tc
open Go.Proofs

def t51l0 : DCode :=
 (.seq (.region [⟨(some 9), .arith .lss (.t 8) (.t 7), none, .write, 0⟩])
 (.seq (.cond (.t 9) .skip (.exit 0))
 (.seq (.block 1 (.seq (.region [⟨(some 10), .indexAddr 1 (.t 6) (.t 8), none, .write, 0⟩, ⟨(some 11), .load none (.t 10), none, .write, 0⟩, ⟨(some 5), .move (.t 11), none, .write, 0⟩])
 (.seq (.region [⟨(some 12), .move (.t 5), none, .write, 0⟩, ⟨(some 13), .move (.t 3), none, .write, 0⟩, ⟨(some 14), .arith .neq (.t 12) (.t 13), none, .write, 0⟩])
 (.cond (.t 14) (.seq (.region [⟨(some 15), .move (.t 5), none, .write, 0⟩, ⟨(some 2), .move (.t 15), none, .write, 0⟩])
 .ret) .skip))))
 (.region [⟨(some 16), .arith .add (.t 8) (.c (.int .i64 1)), none, .write, 0⟩, ⟨(some 8), .move (.t 16), none, .write, 0⟩]))))

def t51k0 : DCode :=
 (.seq (.region [⟨(some 17), .move (.t 3), none, .write, 0⟩, ⟨(some 2), .move (.t 17), none, .write, 0⟩])
 .ret)

/-- cmp.Or[int] -/
def t51 : DFunc := { ntmps := 18, results := [(.t 2)], mode := .pure, body :=
 (.seq (.region [⟨(some 2), .move (.c (.int .i64 0)), none, .write, 0⟩])
 (.seq (.region [⟨(some 3), .move (.c (.int .i64 0)), none, .write, 0⟩])
 (.seq (.seq (.region [⟨(some 6), .move (.t 0), none, .write, 0⟩, ⟨(some 7), .len 1 (.t 6), none, .write, 0⟩, ⟨(some 8), .move (.c (.int .i64 0)), none, .write, 0⟩])
 (.block 0 (.loop t51l0)))
 t51k0))) }

theorem c51 : compFunc Try.prog Try.f51 .pure = some t51 := by kernel_rfl

/-- slices.ContainsFunc[[]broadside/api.Advert,broadside/api.Advert] -/
def t52 : DFunc := { ntmps := 9, results := [(.t 4)], mode := .pure, body :=
 (.seq (.region [⟨(some 4), .move (.c (.bool false)), none, .write, 0⟩])
 (.seq (.region [⟨(some 5), .move (.t 0), none, .write, 0⟩, ⟨(some 6), .move (.t 1), none, .write, 0⟩, ⟨(some 7), .call (.c (.func 93 [])) [(.t 5), (.t 6)], none, .write, 0⟩, ⟨(some 8), .arith .geq (.t 7) (.c (.int .i64 0)), none, .write, 0⟩, ⟨(some 4), .move (.t 8), none, .write, 0⟩])
 .ret)) }

theorem c52 : compFunc Try.prog Try.f52 .pure = some t52 := by kernel_rfl

/-- broadside/adverts.Right$5 -/
def t53 : DFunc := { ntmps := 22, results := [(.t 3)], mode := .pure, body :=
 (.seq (.region [⟨(some 2), .box 41 4 (.t 0), none, .write, 0⟩, ⟨(some 3), .move (.c (.bool false)), none, .write, 0⟩])
 (.seq (.region [⟨(some 4), .load (some 6) (.t 1), none, .write, 0⟩, ⟨(some 5), .fieldAddr 0 (.t 2), none, .write, 0⟩, ⟨(some 6), .load (some 2) (.t 5), none, .write, 0⟩, ⟨(some 7), .call (.c (.func 11 [])) [(.t 4), (.t 6)], none, .write, 0⟩, ⟨(some 8), .un .not (.t 7), none, .write, 0⟩, ⟨(some 9), .move (.t 8), none, .write, 0⟩, ⟨(some 10), .load (some 6) (.t 1), (some (9, false)), .write, 0⟩, ⟨(some 11), .fieldAddr 3 (.t 2), (some (9, false)), .write, 0⟩, ⟨(some 12), .load none (.t 11), (some (9, false)), .write, 0⟩, ⟨(some 13), .call (.c (.func 54 [])) [(.t 10), (.t 12)], (some (9, false)), .write, 0⟩, ⟨(some 14), .un .not (.t 13), (some (9, false)), .write, 0⟩, ⟨(some 15), .pick (.t 9) (.c (.bool true)) (.t 14), none, .write, 0⟩, ⟨(some 16), .move (.t 15), none, .write, 0⟩, ⟨(some 17), .fieldAddr 2 (.t 2), (some (16, false)), .write, 0⟩, ⟨(some 18), .load none (.t 17), (some (16, false)), .write, 0⟩, ⟨(some 19), .call (.c (.func 55 [])) [(.t 18)], (some (16, false)), .write, 0⟩, ⟨(some 20), .un .not (.t 19), (some (16, false)), .write, 0⟩, ⟨(some 21), .pick (.t 16) (.c (.bool true)) (.t 20), none, .write, 0⟩, ⟨(some 3), .move (.t 21), none, .write, 0⟩])
 .ret)) }

theorem c53 : compFunc Try.prog Try.f53 .pure = some t53 := by kernel_rfl

/-- broadside/adverts.link -/
def t54 : DFunc := { ntmps := 13, results := [(.t 4)], mode := .pure, body :=
 (.seq (.region [⟨(some 2), .box 30 6 (.t 0), none, .write, 0⟩, ⟨(some 4), .move (.c (.bool false)), none, .write, 0⟩])
 (.seq (.region [⟨(some 5), .move (.t 1), none, .write, 0⟩, ⟨(some 6), .arith .eql (.t 5) (.c (.int .i64 (-1))), none, .write, 0⟩, ⟨(some 7), .move (.t 6), none, .write, 0⟩, ⟨(some 8), .fieldAddr 1 (.t 2), (some (7, false)), .write, 0⟩, ⟨(some 9), .load none (.t 8), (some (7, false)), .write, 0⟩, ⟨(some 10), .move (.t 1), (some (7, false)), .write, 0⟩, ⟨(some 11), .call (.c (.func 94 [])) [(.t 9), (.t 10)], (some (7, false)), .write, 0⟩, ⟨(some 12), .pick (.t 7) (.c (.bool true)) (.t 11), none, .write, 0⟩, ⟨(some 4), .move (.t 12), none, .write, 0⟩])
 .ret)) }

theorem c54 : compFunc Try.prog Try.f54 .pure = some t54 := by kernel_rfl

def t55l0 : DCode :=
 (.seq (.region [⟨(some 8), .arith .lss (.t 7) (.t 6), none, .write, 0⟩])
 (.seq (.cond (.t 8) .skip (.exit 0))
 (.seq (.block 1 (.seq (.region [⟨(some 9), .move (.t 7), none, .write, 0⟩, ⟨(some 10), .indexAddr 5 (.t 5) (.t 7), none, .write, 0⟩, ⟨(some 11), .load (some 5) (.t 10), none, .write, 0⟩, ⟨(some 4), .alloc 63 5 (.agg [(.str []), (.int .i64 0), (.int .i64 0), (.int .i64 0), (.str [])]), none, .write, 0⟩, ⟨(some 3), .move (.t 9), none, .write, 0⟩, ⟨none, .store 5 (.t 4) (.t 11), none, .write, 0⟩])
 (.seq (.draw [⟨(some 12), .load (some 5) (.t 4), none, .read, 0⟩, ⟨(some 13), .call (.c (.func 95 [])) [(.t 12)], none, .write, 0⟩, ⟨(some 14), .un .not (.t 13), none, .read, 1⟩, ⟨(some 15), .move (.t 14), none, .read, 1⟩, ⟨(some 16), .move (.t 3), (some (15, false)), .read, 1⟩, ⟨(some 17), .arith .gtr (.t 16) (.c (.int .i64 0)), (some (15, false)), .read, 1⟩, ⟨(some 18), .move (.t 17), (some (15, false)), .read, 1⟩, ⟨(some 19), .move (.t 0), (some (18, true)), .read, 1⟩, ⟨(some 20), .move (.t 3), (some (18, true)), .read, 1⟩, ⟨(some 21), .arith .sub (.t 20) (.c (.int .i64 1)), (some (18, true)), .read, 1⟩, ⟨(some 22), .indexAddr 5 (.t 19) (.t 21), (some (18, true)), .read, 1⟩, ⟨(some 23), .fieldAddr 0 (.t 22), (some (18, true)), .read, 1⟩, ⟨(some 24), .load none (.t 23), (some (18, true)), .read, 1⟩, ⟨(some 25), .fieldAddr 0 (.t 4), (some (18, true)), .read, 1⟩, ⟨(some 26), .load none (.t 25), (some (18, true)), .read, 1⟩, ⟨(some 27), .arith .geq (.t 24) (.t 26), (some (18, true)), .read, 1⟩, ⟨(some 28), .pick (.t 18) (.t 27) (.c (.bool false)), (some (15, false)), .read, 1⟩, ⟨(some 29), .pick (.t 15) (.c (.bool true)) (.t 28), none, .read, 1⟩])
 (.cond (.t 29) (.seq (.region [⟨(some 2), .move (.c (.bool false)), none, .write, 0⟩])
 .ret) .skip))))
 (.region [⟨(some 30), .arith .add (.t 7) (.c (.int .i64 1)), none, .write, 0⟩, ⟨(some 7), .move (.t 30), none, .write, 0⟩]))))

def t55k0 : DCode :=
 (.seq (.region [⟨(some 31), .move (.t 0), none, .write, 0⟩, ⟨(some 32), .len 1 (.t 31), none, .write, 0⟩, ⟨(some 33), .arith .leq (.t 32) (.c (.int .i64 5)), none, .write, 0⟩, ⟨(some 2), .move (.t 33), none, .write, 0⟩])
 .ret)

/-- broadside/pred.Right -/
def t55 : DFunc := { ntmps := 34, results := [(.t 2)], mode := .pure, body :=
 (.seq (.region [⟨(some 2), .move (.c (.bool false)), none, .write, 0⟩])
 (.seq (.seq (.region [⟨(some 5), .move (.t 0), none, .write, 0⟩, ⟨(some 6), .len 1 (.t 5), none, .write, 0⟩, ⟨(some 7), .move (.c (.int .i64 0)), none, .write, 0⟩])
 (.block 0 (.loop t55l0)))
 t55k0)) }

theorem c55 : compFunc Try.prog Try.f55 .pure = some t55 := by kernel_rfl

/-- slices.ContainsFunc[[]broadside/api.Entry,broadside/api.Entry] -/
def t56 : DFunc := { ntmps := 9, results := [(.t 4)], mode := .pure, body :=
 (.seq (.region [⟨(some 4), .move (.c (.bool false)), none, .write, 0⟩])
 (.seq (.region [⟨(some 5), .move (.t 0), none, .write, 0⟩, ⟨(some 6), .move (.t 1), none, .write, 0⟩, ⟨(some 7), .call (.c (.func 91 [])) [(.t 5), (.t 6)], none, .write, 0⟩, ⟨(some 8), .arith .geq (.t 7) (.c (.int .i64 0)), none, .write, 0⟩, ⟨(some 4), .move (.t 8), none, .write, 0⟩])
 .ret)) }

theorem c56 : compFunc Try.prog Try.f56 .pure = some t56 := by kernel_rfl

/-- broadside/adverts.Right$6 -/
def t57 : DFunc := { ntmps := 8, results := [(.t 3)], mode := .pure, body :=
 (.seq (.region [⟨(some 2), .box 53 7 (.t 0), none, .write, 0⟩, ⟨(some 3), .move (.c (.bool false)), none, .write, 0⟩])
 (.seq (.region [⟨(some 4), .load (some 6) (.t 1), none, .write, 0⟩, ⟨(some 5), .load (some 7) (.t 2), none, .write, 0⟩, ⟨(some 6), .call (.c (.func 58 [])) [(.t 4), (.t 5)], none, .write, 0⟩, ⟨(some 7), .un .not (.t 6), none, .write, 0⟩, ⟨(some 3), .move (.t 7), none, .write, 0⟩])
 .ret)) }

theorem c57 : compFunc Try.prog Try.f57 .pure = some t57 := by kernel_rfl

/-- broadside/adverts.rightEntry -/
def t58 : DFunc := { ntmps := 48, results := [(.t 4)], mode := .pure, body :=
 (.seq (.region [⟨(some 2), .box 30 6 (.t 0), none, .write, 0⟩, ⟨(some 3), .box 53 7 (.t 1), none, .write, 0⟩, ⟨(some 4), .move (.c (.bool false)), none, .write, 0⟩])
 (.seq (.region [⟨(some 9), .load (some 6) (.t 2), none, .write, 0⟩, ⟨(some 10), .fieldAddr 0 (.t 3), none, .write, 0⟩, ⟨(some 11), .load (some 2) (.t 10), none, .write, 0⟩, ⟨(some 12), .call (.c (.func 12 [])) [(.t 9), (.t 11)], none, .write, 0⟩, ⟨(some 8), .move (.t 12), none, .write, 0⟩, ⟨(some 13), .extract (.t 8) 0, none, .write, 0⟩, ⟨(some 14), .extract (.t 8) 1, none, .write, 0⟩, ⟨(some 5), .alloc 41 4 (.agg [(.int .i64 0), (.int .i64 0), .nsl, (.int .i64 0)]), none, .write, 0⟩, ⟨none, .store 4 (.t 5) (.t 13), none, .write, 0⟩, ⟨(some 6), .move (.t 14), none, .write, 0⟩])
 (.seq (.region [⟨(some 15), .fieldAddr 3 (.t 5), none, .write, 0⟩, ⟨(some 16), .load none (.t 15), none, .write, 0⟩, ⟨(some 17), .arith .eql (.t 16) (.c (.int .i64 (-1))), none, .write, 0⟩, ⟨(some 7), .move (.t 17), none, .write, 0⟩])
 (.seq (.region [⟨(some 18), .move (.t 6), none, .write, 0⟩, ⟨(some 19), .move (.t 18), none, .write, 0⟩, ⟨(some 20), .load (some 6) (.t 2), (some (19, true)), .write, 0⟩, ⟨(some 21), .fieldAddr 5 (.t 3), (some (19, true)), .write, 0⟩, ⟨(some 22), .load none (.t 21), (some (19, true)), .write, 0⟩, ⟨(some 23), .call (.c (.func 54 [])) [(.t 20), (.t 22)], (some (19, true)), .write, 0⟩, ⟨(some 24), .pick (.t 19) (.t 23) (.c (.bool false)), none, .write, 0⟩, ⟨(some 25), .move (.t 24), none, .write, 0⟩, ⟨(some 26), .fieldAddr 5 (.t 3), (some (25, true)), .write, 0⟩, ⟨(some 27), .load none (.t 26), (some (25, true)), .write, 0⟩, ⟨(some 28), .fieldAddr 3 (.t 5), (some (25, true)), .write, 0⟩, ⟨(some 29), .load none (.t 28), (some (25, true)), .write, 0⟩, ⟨(some 30), .arith .neq (.t 27) (.t 29), (some (25, true)), .write, 0⟩, ⟨(some 31), .move (.t 30), (some (25, true)), .write, 0⟩, ⟨(some 32), .move (.t 7), (some (31, false)), .write, 0⟩, ⟨(some 33), .pick (.t 31) (.c (.bool true)) (.t 32), (some (25, true)), .write, 0⟩, ⟨(some 34), .pick (.t 25) (.t 33) (.c (.bool false)), none, .write, 0⟩, ⟨(some 35), .move (.t 34), none, .write, 0⟩, ⟨(some 36), .fieldAddr 6 (.t 3), (some (35, true)), .write, 0⟩, ⟨(some 37), .load none (.t 36), (some (35, true)), .write, 0⟩, ⟨(some 38), .move (.t 37), (some (35, true)), .write, 0⟩, ⟨(some 39), .move (.t 7), (some (38, true)), .write, 0⟩, ⟨(some 40), .pick (.t 38) (.t 39) (.c (.bool false)), (some (35, true)), .write, 0⟩, ⟨(some 41), .un .not (.t 40), (some (35, true)), .write, 0⟩, ⟨(some 42), .pick (.t 35) (.t 41) (.c (.bool false)), none, .write, 0⟩, ⟨(some 43), .move (.t 42), none, .write, 0⟩, ⟨(some 44), .fieldAddr 4 (.t 3), (some (43, true)), .write, 0⟩, ⟨(some 45), .load none (.t 44), (some (43, true)), .write, 0⟩, ⟨(some 46), .call (.c (.func 55 [])) [(.t 45)], (some (43, true)), .write, 0⟩, ⟨(some 47), .pick (.t 43) (.t 46) (.c (.bool false)), none, .write, 0⟩, ⟨(some 4), .move (.t 47), none, .write, 0⟩])
 .ret)))) }

theorem c58 : compFunc Try.prog Try.f58 .pure = some t58 := by kernel_rfl

/-- slices.ContainsFunc[[]broadside/api.Own,broadside/api.Own] -/
def t59 : DFunc := { ntmps := 9, results := [(.t 4)], mode := .pure, body :=
 (.seq (.region [⟨(some 4), .move (.c (.bool false)), none, .write, 0⟩])
 (.seq (.region [⟨(some 5), .move (.t 0), none, .write, 0⟩, ⟨(some 6), .move (.t 1), none, .write, 0⟩, ⟨(some 7), .call (.c (.func 96 [])) [(.t 5), (.t 6)], none, .write, 0⟩, ⟨(some 8), .arith .geq (.t 7) (.c (.int .i64 0)), none, .write, 0⟩, ⟨(some 4), .move (.t 8), none, .write, 0⟩])
 .ret)) }

theorem c59 : compFunc Try.prog Try.f59 .pure = some t59 := by kernel_rfl

/-- broadside/adverts.Right$7 -/
def t60 : DFunc := { ntmps := 7, results := [(.t 2)], mode := .pure, body :=
 (.seq (.region [⟨(some 1), .box 88 3 (.t 0), none, .write, 0⟩, ⟨(some 2), .move (.c (.bool false)), none, .write, 0⟩])
 (.seq (.region [⟨(some 3), .fieldAddr 2 (.t 1), none, .write, 0⟩, ⟨(some 4), .load none (.t 3), none, .write, 0⟩, ⟨(some 5), .call (.c (.func 55 [])) [(.t 4)], none, .write, 0⟩, ⟨(some 6), .un .not (.t 5), none, .write, 0⟩, ⟨(some 2), .move (.t 6), none, .write, 0⟩])
 .ret)) }

theorem c60 : compFunc Try.prog Try.f60 .pure = some t60 := by kernel_rfl

def t61l0 : DCode :=
 (.seq (.seq (.region [⟨(some 11), .move (.t 5), none, .write, 0⟩, ⟨(some 12), .move (.t 0), none, .write, 0⟩, ⟨(some 13), .len 1 (.t 12), none, .write, 0⟩, ⟨(some 14), .arith .lss (.t 11) (.t 13), none, .write, 0⟩])
 (.cond (.t 14) .skip (.exit 0)))
 (.seq (.block 1 (.seq (.draw [⟨(some 17), .move (.t 0), none, .read, 0⟩, ⟨(some 18), .move (.t 5), none, .read, 0⟩, ⟨(some 19), .indexAddr 1 (.t 17) (.t 18), none, .read, 0⟩, ⟨(some 20), .load none (.t 19), none, .read, 0⟩, ⟨(some 21), .move (.t 1), none, .read, 0⟩, ⟨(some 22), .move (.t 5), none, .read, 0⟩, ⟨(some 23), .indexAddr 1 (.t 21) (.t 22), none, .read, 0⟩, ⟨(some 24), .load none (.t 23), none, .read, 0⟩, ⟨(some 25), .arith .neq (.t 20) (.t 24), none, .read, 0⟩])
 (.cond (.t 25) (.seq (.region [⟨(some 4), .move (.c (.bool false)), none, .write, 0⟩])
 .ret) .skip)))
 (.region [⟨(some 15), .move (.t 5), none, .write, 0⟩, ⟨(some 16), .arith .add (.t 15) (.c (.int .i64 1)), none, .write, 0⟩, ⟨(some 5), .move (.t 16), none, .write, 0⟩])))

def t61k0 : DCode :=
 (.seq (.region [⟨(some 4), .move (.c (.bool true)), none, .write, 0⟩])
 .ret)

/-- broadside/broadsidebook.Same[int] -/
def t61 : DFunc := { ntmps := 26, results := [(.t 4)], mode := .pure, body :=
 (.seq (.region [⟨(some 4), .move (.c (.bool false)), none, .write, 0⟩])
 (.seq (.seq (.region [⟨(some 6), .move (.t 0), none, .write, 0⟩, ⟨(some 7), .len 1 (.t 6), none, .write, 0⟩, ⟨(some 8), .move (.t 1), none, .write, 0⟩, ⟨(some 9), .len 1 (.t 8), none, .write, 0⟩, ⟨(some 10), .arith .neq (.t 7) (.t 9), none, .write, 0⟩])
 (.cond (.t 10) (.seq (.region [⟨(some 4), .move (.c (.bool false)), none, .write, 0⟩])
 .ret) .skip))
 (.seq (.seq (.region [⟨(some 5), .move (.c (.int .i64 0)), none, .write, 0⟩])
 (.block 0 (.loop t61l0)))
 t61k0))) }

theorem c61 : compFunc Try.prog Try.f61 .pure = some t61 := by kernel_rfl

/-- slices.Insert[[]broadside/api.Entry,broadside/api.Entry] -/
def t64 : DFunc := { ntmps := 95, results := [(.t 6)], mode := .split, body :=
 (.seq (.region [⟨(some 6), .move (.c .nsl), none, .write, 0⟩])
 (.seq (.region [⟨(some 10), .move (.t 0), none, .write, 0⟩, ⟨(some 11), .move (.t 1), none, .write, 0⟩, ⟨(some 12), .sliceSl 7 (.t 10) (some (.t 11)) none, none, .write, 0⟩])
 (.seq (.region [⟨(some 13), .move (.t 2), none, .write, 0⟩, ⟨(some 14), .len 1 (.t 13), none, .write, 0⟩, ⟨(some 7), .move (.t 14), none, .write, 0⟩])
 (.seq (.seq (.region [⟨(some 15), .move (.t 7), none, .write, 0⟩, ⟨(some 16), .arith .eql (.t 15) (.c (.int .i64 0)), none, .write, 0⟩])
 (.cond (.t 16) (.seq (.region [⟨(some 17), .move (.t 0), none, .write, 0⟩, ⟨(some 6), .move (.t 17), none, .write, 0⟩])
 .ret) .skip))
 (.seq (.region [⟨(some 18), .move (.t 0), none, .write, 0⟩, ⟨(some 19), .len 1 (.t 18), none, .write, 0⟩, ⟨(some 8), .move (.t 19), none, .write, 0⟩])
 (.seq (.seq (.region [⟨(some 20), .move (.t 1), none, .write, 0⟩, ⟨(some 21), .move (.t 8), none, .write, 0⟩, ⟨(some 22), .arith .eql (.t 20) (.t 21), none, .write, 0⟩])
 (.cond (.t 22) (.seq (.region [⟨(some 23), .move (.t 0), none, .write, 0⟩, ⟨(some 24), .move (.t 2), none, .write, 0⟩, ⟨(some 25), .append 53 7 72 (.t 23) (.t 24), none, .write, 0⟩, ⟨(some 6), .move (.t 25), none, .write, 0⟩])
 .ret) .skip))
 (.seq (.seq (.region [⟨(some 26), .move (.t 8), none, .write, 0⟩, ⟨(some 27), .move (.t 7), none, .write, 0⟩, ⟨(some 28), .arith .add (.t 26) (.t 27), none, .write, 0⟩, ⟨(some 29), .move (.t 0), none, .write, 0⟩, ⟨(some 30), .cap (.t 29), none, .write, 0⟩, ⟨(some 31), .arith .gtr (.t 28) (.t 30), none, .write, 0⟩])
 (.cond (.t 31) (.seq (.region [⟨(some 32), .move (.t 0), none, .write, 0⟩, ⟨(some 33), .move (.t 1), none, .write, 0⟩, ⟨(some 34), .sliceSl 7 (.t 32) none (some (.t 33)), none, .write, 0⟩, ⟨(some 35), .move (.t 8), none, .write, 0⟩, ⟨(some 36), .move (.t 7), none, .write, 0⟩, ⟨(some 37), .arith .add (.t 35) (.t 36), none, .write, 0⟩, ⟨(some 38), .move (.t 1), none, .write, 0⟩, ⟨(some 39), .arith .sub (.t 37) (.t 38), none, .write, 0⟩, ⟨(some 40), .appendZ 53 7 72 (.agg [(.int .i64 0), (.int .i64 0), (.int .i64 0), (.int .i64 0), .nsl, (.int .i64 0), (.bool false)]) (.t 34) (.t 39), none, .write, 0⟩, ⟨(some 9), .move (.t 40), none, .write, 0⟩])
 (.seq (.region [⟨(some 41), .move (.t 9), none, .write, 0⟩, ⟨(some 42), .move (.t 1), none, .write, 0⟩, ⟨(some 43), .sliceSl 7 (.t 41) (some (.t 42)) none, none, .write, 0⟩, ⟨(some 44), .move (.t 2), none, .write, 0⟩, ⟨(some 45), .copy 7 (.t 43) (.t 44), none, .write, 0⟩])
 (.seq (.draw [⟨(some 46), .move (.t 9), none, .read, 0⟩, ⟨(some 47), .move (.t 1), none, .read, 0⟩, ⟨(some 48), .move (.t 7), none, .read, 0⟩, ⟨(some 49), .arith .add (.t 47) (.t 48), none, .read, 0⟩, ⟨(some 50), .sliceSl 7 (.t 46) (some (.t 49)) none, none, .read, 0⟩, ⟨(some 51), .move (.t 0), none, .read, 0⟩, ⟨(some 52), .move (.t 1), none, .read, 0⟩, ⟨(some 53), .sliceSl 7 (.t 51) (some (.t 52)) none, none, .read, 0⟩, ⟨(some 54), .copy 7 (.t 50) (.t 53), none, .write, 0⟩])
 (.seq (.region [⟨(some 55), .move (.t 9), none, .write, 0⟩, ⟨(some 6), .move (.t 55), none, .write, 0⟩])
 .ret)))) .skip))
 (.seq (.region [⟨(some 56), .move (.t 0), none, .write, 0⟩, ⟨(some 57), .move (.t 8), none, .write, 0⟩, ⟨(some 58), .move (.t 7), none, .write, 0⟩, ⟨(some 59), .arith .add (.t 57) (.t 58), none, .write, 0⟩, ⟨(some 60), .sliceSl 7 (.t 56) none (some (.t 59)), none, .write, 0⟩, ⟨(some 0), .move (.t 60), none, .write, 0⟩])
 (.seq (.seq (.region [⟨(some 61), .move (.t 2), none, .write, 0⟩, ⟨(some 62), .move (.t 0), none, .write, 0⟩, ⟨(some 63), .move (.t 1), none, .write, 0⟩, ⟨(some 64), .move (.t 7), none, .write, 0⟩, ⟨(some 65), .arith .add (.t 63) (.t 64), none, .write, 0⟩, ⟨(some 66), .sliceSl 7 (.t 62) (some (.t 65)) none, none, .write, 0⟩, ⟨(some 67), .call (.c (.func 99 [])) [(.t 61), (.t 66)], none, .write, 0⟩, ⟨(some 68), .un .not (.t 67), none, .write, 0⟩])
 (.cond (.t 68) (.seq (.draw [⟨(some 69), .move (.t 0), none, .read, 0⟩, ⟨(some 70), .move (.t 1), none, .read, 0⟩, ⟨(some 71), .move (.t 7), none, .read, 0⟩, ⟨(some 72), .arith .add (.t 70) (.t 71), none, .read, 0⟩, ⟨(some 73), .sliceSl 7 (.t 69) (some (.t 72)) none, none, .read, 0⟩, ⟨(some 74), .move (.t 0), none, .read, 0⟩, ⟨(some 75), .move (.t 1), none, .read, 0⟩, ⟨(some 76), .sliceSl 7 (.t 74) (some (.t 75)) none, none, .read, 0⟩, ⟨(some 77), .copy 7 (.t 73) (.t 76), none, .write, 0⟩])
 (.seq (.region [⟨(some 78), .move (.t 0), none, .write, 0⟩, ⟨(some 79), .move (.t 1), none, .write, 0⟩, ⟨(some 80), .sliceSl 7 (.t 78) (some (.t 79)) none, none, .write, 0⟩, ⟨(some 81), .move (.t 2), none, .write, 0⟩, ⟨(some 82), .copy 7 (.t 80) (.t 81), none, .write, 0⟩])
 (.seq (.region [⟨(some 83), .move (.t 0), none, .write, 0⟩, ⟨(some 6), .move (.t 83), none, .write, 0⟩])
 .ret))) .skip))
 (.seq (.region [⟨(some 84), .move (.t 0), none, .write, 0⟩, ⟨(some 85), .move (.t 8), none, .write, 0⟩, ⟨(some 86), .sliceSl 7 (.t 84) (some (.t 85)) none, none, .write, 0⟩, ⟨(some 87), .move (.t 2), none, .write, 0⟩, ⟨(some 88), .copy 7 (.t 86) (.t 87), none, .write, 0⟩])
 (.seq (.region [⟨(some 89), .move (.t 0), none, .write, 0⟩, ⟨(some 90), .move (.t 1), none, .write, 0⟩, ⟨(some 91), .sliceSl 7 (.t 89) (some (.t 90)) none, none, .write, 0⟩, ⟨(some 92), .move (.t 7), none, .write, 0⟩, ⟨(some 93), .call (.c (.func 100 [])) [(.t 91), (.t 92)], none, .write, 0⟩])
 (.seq (.region [⟨(some 94), .move (.t 0), none, .write, 0⟩, ⟨(some 6), .move (.t 94), none, .write, 0⟩])
 .ret)))))))))))) }

theorem c64 : compFunc Try.prog Try.f64 .split = some t64 := by kernel_rfl

/-- slices.Delete[[]broadside/api.Entry,broadside/api.Entry] -/
def t66 : DFunc := { ntmps := 33, results := [(.t 6)], mode := .full, body :=
 (.seq (.region [⟨(some 6), .move (.c .nsl), none, .write, 0⟩])
 (.seq (.region [⟨(some 8), .move (.t 0), none, .write, 0⟩, ⟨(some 9), .move (.t 1), none, .write, 0⟩, ⟨(some 10), .move (.t 2), none, .write, 0⟩, ⟨(some 11), .move (.t 0), none, .write, 0⟩, ⟨(some 12), .len 1 (.t 11), none, .write, 0⟩, ⟨(some 13), .slice3 (.t 8) (.t 9) (.t 10) (.t 12), none, .write, 0⟩])
 (.seq (.seq (.region [⟨(some 14), .move (.t 1), none, .write, 0⟩, ⟨(some 15), .move (.t 2), none, .write, 0⟩, ⟨(some 16), .arith .eql (.t 14) (.t 15), none, .write, 0⟩])
 (.cond (.t 16) (.seq (.region [⟨(some 17), .move (.t 0), none, .write, 0⟩, ⟨(some 6), .move (.t 17), none, .write, 0⟩])
 .ret) .skip))
 (.seq (.region [⟨(some 18), .move (.t 0), none, .write, 0⟩, ⟨(some 19), .len 1 (.t 18), none, .write, 0⟩, ⟨(some 7), .move (.t 19), none, .write, 0⟩])
 (.seq (.draw [⟨(some 20), .move (.t 0), none, .read, 0⟩, ⟨(some 21), .move (.t 1), none, .read, 0⟩, ⟨(some 22), .sliceSl 7 (.t 20) none (some (.t 21)), none, .read, 0⟩, ⟨(some 23), .move (.t 0), none, .read, 0⟩, ⟨(some 24), .move (.t 2), none, .read, 0⟩, ⟨(some 25), .sliceSl 7 (.t 23) (some (.t 24)) none, none, .read, 0⟩, ⟨(some 26), .append 53 7 72 (.t 22) (.t 25), none, .write, 0⟩, ⟨(some 0), .move (.t 26), none, .read, 1⟩])
 (.seq (.region [⟨(some 27), .move (.t 0), none, .write, 0⟩, ⟨(some 28), .move (.t 0), none, .write, 0⟩, ⟨(some 29), .len 1 (.t 28), none, .write, 0⟩, ⟨(some 30), .move (.t 7), none, .write, 0⟩, ⟨(some 31), .sliceSl 7 (.t 27) (some (.t 29)) (some (.t 30)), none, .write, 0⟩, ⟨none, .clear 7 (.agg [(.int .i64 0), (.int .i64 0), (.int .i64 0), (.int .i64 0), .nsl, (.int .i64 0), (.bool false)]) (.t 31), none, .write, 0⟩])
 (.seq (.region [⟨(some 32), .move (.t 0), none, .write, 0⟩, ⟨(some 6), .move (.t 32), none, .write, 0⟩])
 .ret))))))) }

theorem c66 : compFunc Try.prog Try.f66 .full = some t66 := by kernel_rfl

def t69l0 : DCode :=
 (.seq (.region [⟨(some 14), .arith .lss (.t 13) (.t 12), none, .write, 0⟩])
 (.seq (.cond (.t 14) .skip (.exit 0))
 (.seq (.block 1 (.seq (.region [⟨(some 15), .move (.t 13), none, .write, 0⟩, ⟨(some 5), .move (.t 15), none, .write, 0⟩])
 (.seq (.draw [⟨(some 16), .move (.t 0), none, .read, 0⟩, ⟨(some 17), .move (.t 5), none, .read, 0⟩, ⟨(some 18), .indexAddr 1 (.t 16) (.t 17), none, .read, 0⟩, ⟨(some 19), .load none (.t 18), none, .read, 0⟩, ⟨(some 20), .move (.t 1), none, .read, 0⟩, ⟨(some 21), .move (.t 5), none, .read, 0⟩, ⟨(some 22), .indexAddr 1 (.t 20) (.t 21), none, .read, 0⟩, ⟨(some 23), .load none (.t 22), none, .read, 0⟩, ⟨(some 24), .arith .neq (.t 19) (.t 23), none, .read, 0⟩])
 (.cond (.t 24) (.seq (.region [⟨(some 4), .move (.c (.bool false)), none, .write, 0⟩])
 .ret) .skip))))
 (.region [⟨(some 25), .arith .add (.t 13) (.c (.int .i64 1)), none, .write, 0⟩, ⟨(some 13), .move (.t 25), none, .write, 0⟩]))))

def t69k0 : DCode :=
 (.seq (.region [⟨(some 4), .move (.c (.bool true)), none, .write, 0⟩])
 .ret)

/-- slices.Equal[[]int,int] -/
def t69 : DFunc := { ntmps := 26, results := [(.t 4)], mode := .pure, body :=
 (.seq (.region [⟨(some 4), .move (.c (.bool false)), none, .write, 0⟩])
 (.seq (.seq (.region [⟨(some 6), .move (.t 0), none, .write, 0⟩, ⟨(some 7), .len 1 (.t 6), none, .write, 0⟩, ⟨(some 8), .move (.t 1), none, .write, 0⟩, ⟨(some 9), .len 1 (.t 8), none, .write, 0⟩, ⟨(some 10), .arith .neq (.t 7) (.t 9), none, .write, 0⟩])
 (.cond (.t 10) (.seq (.region [⟨(some 4), .move (.c (.bool false)), none, .write, 0⟩])
 .ret) .skip))
 (.seq (.seq (.region [⟨(some 11), .move (.t 0), none, .write, 0⟩, ⟨(some 12), .len 1 (.t 11), none, .write, 0⟩, ⟨(some 13), .move (.c (.int .i64 0)), none, .write, 0⟩])
 (.block 0 (.loop t69l0)))
 t69k0))) }

theorem c69 : compFunc Try.prog Try.f69 .pure = some t69 := by kernel_rfl

def t70l0 : DCode :=
 (.seq (.region [⟨(some 14), .arith .lss (.t 13) (.t 12), none, .write, 0⟩])
 (.seq (.cond (.t 14) .skip (.exit 0))
 (.seq (.block 1 (.seq (.region [⟨(some 15), .move (.t 13), none, .write, 0⟩, ⟨(some 5), .move (.t 15), none, .write, 0⟩])
 (.seq (.draw [⟨(some 16), .move (.t 0), none, .read, 0⟩, ⟨(some 17), .move (.t 5), none, .read, 0⟩, ⟨(some 18), .indexAddr 2 (.t 16) (.t 17), none, .read, 0⟩, ⟨(some 19), .load (some 2) (.t 18), none, .read, 0⟩, ⟨(some 20), .move (.t 1), none, .read, 0⟩, ⟨(some 21), .move (.t 5), none, .read, 0⟩, ⟨(some 22), .indexAddr 2 (.t 20) (.t 21), none, .read, 0⟩, ⟨(some 23), .load (some 2) (.t 22), none, .read, 0⟩, ⟨(some 24), .eqa true [1, 1] (.t 19) (.t 23), none, .read, 0⟩])
 (.cond (.t 24) (.seq (.region [⟨(some 4), .move (.c (.bool false)), none, .write, 0⟩])
 .ret) .skip))))
 (.region [⟨(some 25), .arith .add (.t 13) (.c (.int .i64 1)), none, .write, 0⟩, ⟨(some 13), .move (.t 25), none, .write, 0⟩]))))

def t70k0 : DCode :=
 (.seq (.region [⟨(some 4), .move (.c (.bool true)), none, .write, 0⟩])
 .ret)

/-- slices.Equal[[]broadside/api.ID,broadside/api.ID] -/
def t70 : DFunc := { ntmps := 26, results := [(.t 4)], mode := .pure, body :=
 (.seq (.region [⟨(some 4), .move (.c (.bool false)), none, .write, 0⟩])
 (.seq (.seq (.region [⟨(some 6), .move (.t 0), none, .write, 0⟩, ⟨(some 7), .len 1 (.t 6), none, .write, 0⟩, ⟨(some 8), .move (.t 1), none, .write, 0⟩, ⟨(some 9), .len 1 (.t 8), none, .write, 0⟩, ⟨(some 10), .arith .neq (.t 7) (.t 9), none, .write, 0⟩])
 (.cond (.t 10) (.seq (.region [⟨(some 4), .move (.c (.bool false)), none, .write, 0⟩])
 .ret) .skip))
 (.seq (.seq (.region [⟨(some 11), .move (.t 0), none, .write, 0⟩, ⟨(some 12), .len 1 (.t 11), none, .write, 0⟩, ⟨(some 13), .move (.c (.int .i64 0)), none, .write, 0⟩])
 (.block 0 (.loop t70l0)))
 t70k0))) }

theorem c70 : compFunc Try.prog Try.f70 .pure = some t70 := by kernel_rfl

def t71l0 : DCode :=
 (.seq (.region [⟨(some 18), .arith .lss (.t 17) (.t 16), none, .write, 0⟩])
 (.seq (.cond (.t 18) .skip (.exit 0))
 (.seq (.block 1 (.seq (.region [⟨(some 19), .move (.t 17), none, .write, 0⟩, ⟨(some 20), .indexAddr 4 (.t 15) (.t 17), none, .write, 0⟩, ⟨(some 21), .load (some 4) (.t 20), none, .write, 0⟩, ⟨(some 8), .alloc 41 4 (.agg [(.int .i64 0), (.int .i64 0), .nsl, (.int .i64 0)]), none, .write, 0⟩, ⟨(some 7), .move (.t 19), none, .write, 0⟩, ⟨none, .store 4 (.t 8) (.t 21), none, .write, 0⟩])
 (.seq (.region [⟨(some 22), .move (.t 1), none, .write, 0⟩, ⟨(some 23), .move (.t 7), none, .write, 0⟩, ⟨(some 24), .indexAddr 4 (.t 22) (.t 23), none, .write, 0⟩, ⟨(some 25), .load (some 4) (.t 24), none, .write, 0⟩, ⟨(some 9), .alloc 41 4 (.agg [(.int .i64 0), (.int .i64 0), .nsl, (.int .i64 0)]), none, .write, 0⟩, ⟨none, .store 4 (.t 9) (.t 25), none, .write, 0⟩])
 (.seq (.region [⟨(some 26), .move (.t 2), none, .write, 0⟩, ⟨(some 27), .load (some 4) (.t 8), none, .write, 0⟩, ⟨(some 28), .load (some 4) (.t 9), none, .write, 0⟩, ⟨(some 29), .call (.t 26) [(.t 27), (.t 28)], none, .write, 0⟩, ⟨(some 30), .un .not (.t 29), none, .write, 0⟩])
 (.cond (.t 30) (.seq (.region [⟨(some 6), .move (.c (.bool false)), none, .write, 0⟩])
 .ret) .skip)))))
 (.region [⟨(some 31), .arith .add (.t 17) (.c (.int .i64 1)), none, .write, 0⟩, ⟨(some 17), .move (.t 31), none, .write, 0⟩]))))

def t71k0 : DCode :=
 (.seq (.region [⟨(some 6), .move (.c (.bool true)), none, .write, 0⟩])
 .ret)

/-- slices.EqualFunc[[]broadside/api.Advert,[]broadside/api.Advert,broadside/api.Advert,broadside/api.Advert] -/
def t71 : DFunc := { ntmps := 32, results := [(.t 6)], mode := .pure, body :=
 (.seq (.region [⟨(some 6), .move (.c (.bool false)), none, .write, 0⟩])
 (.seq (.seq (.region [⟨(some 10), .move (.t 0), none, .write, 0⟩, ⟨(some 11), .len 1 (.t 10), none, .write, 0⟩, ⟨(some 12), .move (.t 1), none, .write, 0⟩, ⟨(some 13), .len 1 (.t 12), none, .write, 0⟩, ⟨(some 14), .arith .neq (.t 11) (.t 13), none, .write, 0⟩])
 (.cond (.t 14) (.seq (.region [⟨(some 6), .move (.c (.bool false)), none, .write, 0⟩])
 .ret) .skip))
 (.seq (.seq (.region [⟨(some 15), .move (.t 0), none, .write, 0⟩, ⟨(some 16), .len 1 (.t 15), none, .write, 0⟩, ⟨(some 17), .move (.c (.int .i64 0)), none, .write, 0⟩])
 (.block 0 (.loop t71l0)))
 t71k0))) }

theorem c71 : compFunc Try.prog Try.f71 .pure = some t71 := by kernel_rfl

/-- broadside/adverts.Same$1 -/
def t72 : DFunc := { ntmps := 24, results := [(.t 4)], mode := .pure, body :=
 (.seq (.region [⟨(some 2), .box 41 4 (.t 0), none, .write, 0⟩, ⟨(some 3), .box 41 4 (.t 1), none, .write, 0⟩, ⟨(some 4), .move (.c (.bool false)), none, .write, 0⟩])
 (.seq (.region [⟨(some 5), .fieldAddr 0 (.t 2), none, .write, 0⟩, ⟨(some 6), .load (some 2) (.t 5), none, .write, 0⟩, ⟨(some 7), .fieldAddr 0 (.t 3), none, .write, 0⟩, ⟨(some 8), .load (some 2) (.t 7), none, .write, 0⟩, ⟨(some 9), .eqa false [1, 1] (.t 6) (.t 8), none, .write, 0⟩, ⟨(some 10), .move (.t 9), none, .write, 0⟩, ⟨(some 11), .fieldAddr 3 (.t 2), (some (10, true)), .write, 0⟩, ⟨(some 12), .load none (.t 11), (some (10, true)), .write, 0⟩, ⟨(some 13), .fieldAddr 3 (.t 3), (some (10, true)), .write, 0⟩, ⟨(some 14), .load none (.t 13), (some (10, true)), .write, 0⟩, ⟨(some 15), .arith .eql (.t 12) (.t 14), (some (10, true)), .write, 0⟩, ⟨(some 16), .pick (.t 10) (.t 15) (.c (.bool false)), none, .write, 0⟩, ⟨(some 17), .move (.t 16), none, .write, 0⟩, ⟨(some 18), .fieldAddr 2 (.t 2), (some (17, true)), .write, 0⟩, ⟨(some 19), .load none (.t 18), (some (17, true)), .write, 0⟩, ⟨(some 20), .fieldAddr 2 (.t 3), (some (17, true)), .write, 0⟩, ⟨(some 21), .load none (.t 20), (some (17, true)), .write, 0⟩, ⟨(some 22), .call (.c (.func 73 [])) [(.t 19), (.t 21)], (some (17, true)), .write, 0⟩, ⟨(some 23), .pick (.t 17) (.t 22) (.c (.bool false)), none, .write, 0⟩, ⟨(some 4), .move (.t 23), none, .write, 0⟩])
 .ret)) }

theorem c72 : compFunc Try.prog Try.f72 .pure = some t72 := by kernel_rfl

/-- broadside/pred.Same -/
def t73 : DFunc := { ntmps := 8, results := [(.t 4)], mode := .pure, body :=
 (.seq (.region [⟨(some 4), .move (.c (.bool false)), none, .write, 0⟩])
 (.seq (.region [⟨(some 5), .move (.t 0), none, .write, 0⟩, ⟨(some 6), .move (.t 1), none, .write, 0⟩, ⟨(some 7), .call (.c (.func 104 [])) [(.t 5), (.t 6)], none, .write, 0⟩, ⟨(some 4), .move (.t 7), none, .write, 0⟩])
 .ret)) }

theorem c73 : compFunc Try.prog Try.f73 .pure = some t73 := by kernel_rfl

def t74l0 : DCode :=
 (.seq (.region [⟨(some 18), .arith .lss (.t 17) (.t 16), none, .write, 0⟩])
 (.seq (.cond (.t 18) .skip (.exit 0))
 (.seq (.block 1 (.seq (.region [⟨(some 19), .move (.t 17), none, .write, 0⟩, ⟨(some 20), .indexAddr 7 (.t 15) (.t 17), none, .write, 0⟩, ⟨(some 21), .load (some 7) (.t 20), none, .write, 0⟩, ⟨(some 8), .alloc 53 7 (.agg [(.int .i64 0), (.int .i64 0), (.int .i64 0), (.int .i64 0), .nsl, (.int .i64 0), (.bool false)]), none, .write, 0⟩, ⟨(some 7), .move (.t 19), none, .write, 0⟩, ⟨none, .store 7 (.t 8) (.t 21), none, .write, 0⟩])
 (.seq (.region [⟨(some 22), .move (.t 1), none, .write, 0⟩, ⟨(some 23), .move (.t 7), none, .write, 0⟩, ⟨(some 24), .indexAddr 7 (.t 22) (.t 23), none, .write, 0⟩, ⟨(some 25), .load (some 7) (.t 24), none, .write, 0⟩, ⟨(some 9), .alloc 53 7 (.agg [(.int .i64 0), (.int .i64 0), (.int .i64 0), (.int .i64 0), .nsl, (.int .i64 0), (.bool false)]), none, .write, 0⟩, ⟨none, .store 7 (.t 9) (.t 25), none, .write, 0⟩])
 (.seq (.region [⟨(some 26), .move (.t 2), none, .write, 0⟩, ⟨(some 27), .load (some 7) (.t 8), none, .write, 0⟩, ⟨(some 28), .load (some 7) (.t 9), none, .write, 0⟩, ⟨(some 29), .call (.t 26) [(.t 27), (.t 28)], none, .write, 0⟩, ⟨(some 30), .un .not (.t 29), none, .write, 0⟩])
 (.cond (.t 30) (.seq (.region [⟨(some 6), .move (.c (.bool false)), none, .write, 0⟩])
 .ret) .skip)))))
 (.region [⟨(some 31), .arith .add (.t 17) (.c (.int .i64 1)), none, .write, 0⟩, ⟨(some 17), .move (.t 31), none, .write, 0⟩]))))

def t74k0 : DCode :=
 (.seq (.region [⟨(some 6), .move (.c (.bool true)), none, .write, 0⟩])
 .ret)

/-- slices.EqualFunc[[]broadside/api.Entry,[]broadside/api.Entry,broadside/api.Entry,broadside/api.Entry] -/
def t74 : DFunc := { ntmps := 32, results := [(.t 6)], mode := .pure, body :=
 (.seq (.region [⟨(some 6), .move (.c (.bool false)), none, .write, 0⟩])
 (.seq (.seq (.region [⟨(some 10), .move (.t 0), none, .write, 0⟩, ⟨(some 11), .len 1 (.t 10), none, .write, 0⟩, ⟨(some 12), .move (.t 1), none, .write, 0⟩, ⟨(some 13), .len 1 (.t 12), none, .write, 0⟩, ⟨(some 14), .arith .neq (.t 11) (.t 13), none, .write, 0⟩])
 (.cond (.t 14) (.seq (.region [⟨(some 6), .move (.c (.bool false)), none, .write, 0⟩])
 .ret) .skip))
 (.seq (.seq (.region [⟨(some 15), .move (.t 0), none, .write, 0⟩, ⟨(some 16), .len 1 (.t 15), none, .write, 0⟩, ⟨(some 17), .move (.c (.int .i64 0)), none, .write, 0⟩])
 (.block 0 (.loop t74l0)))
 t74k0))) }

theorem c74 : compFunc Try.prog Try.f74 .pure = some t74 := by kernel_rfl

/-- broadside/adverts.Same$2 -/
def t75 : DFunc := { ntmps := 38, results := [(.t 4)], mode := .pure, body :=
 (.seq (.region [⟨(some 2), .box 53 7 (.t 0), none, .write, 0⟩, ⟨(some 3), .box 53 7 (.t 1), none, .write, 0⟩, ⟨(some 4), .move (.c (.bool false)), none, .write, 0⟩])
 (.seq (.region [⟨(some 5), .fieldAddr 0 (.t 2), none, .write, 0⟩, ⟨(some 6), .load (some 2) (.t 5), none, .write, 0⟩, ⟨(some 7), .fieldAddr 0 (.t 3), none, .write, 0⟩, ⟨(some 8), .load (some 2) (.t 7), none, .write, 0⟩, ⟨(some 9), .eqa false [1, 1] (.t 6) (.t 8), none, .write, 0⟩, ⟨(some 10), .move (.t 9), none, .write, 0⟩, ⟨(some 11), .fieldAddr 2 (.t 2), (some (10, true)), .write, 0⟩, ⟨(some 12), .load (some 2) (.t 11), (some (10, true)), .write, 0⟩, ⟨(some 13), .fieldAddr 2 (.t 3), (some (10, true)), .write, 0⟩, ⟨(some 14), .load (some 2) (.t 13), (some (10, true)), .write, 0⟩, ⟨(some 15), .eqa false [1, 1] (.t 12) (.t 14), (some (10, true)), .write, 0⟩, ⟨(some 16), .pick (.t 10) (.t 15) (.c (.bool false)), none, .write, 0⟩, ⟨(some 17), .move (.t 16), none, .write, 0⟩, ⟨(some 18), .fieldAddr 5 (.t 2), (some (17, true)), .write, 0⟩, ⟨(some 19), .load none (.t 18), (some (17, true)), .write, 0⟩, ⟨(some 20), .fieldAddr 5 (.t 3), (some (17, true)), .write, 0⟩, ⟨(some 21), .load none (.t 20), (some (17, true)), .write, 0⟩, ⟨(some 22), .arith .eql (.t 19) (.t 21), (some (17, true)), .write, 0⟩, ⟨(some 23), .pick (.t 17) (.t 22) (.c (.bool false)), none, .write, 0⟩, ⟨(some 24), .move (.t 23), none, .write, 0⟩, ⟨(some 25), .fieldAddr 6 (.t 2), (some (24, true)), .write, 0⟩, ⟨(some 26), .load none (.t 25), (some (24, true)), .write, 0⟩, ⟨(some 27), .fieldAddr 6 (.t 3), (some (24, true)), .write, 0⟩, ⟨(some 28), .load none (.t 27), (some (24, true)), .write, 0⟩, ⟨(some 29), .eqb false (.t 26) (.t 28), (some (24, true)), .write, 0⟩, ⟨(some 30), .pick (.t 24) (.t 29) (.c (.bool false)), none, .write, 0⟩, ⟨(some 31), .move (.t 30), none, .write, 0⟩, ⟨(some 32), .fieldAddr 4 (.t 2), (some (31, true)), .write, 0⟩, ⟨(some 33), .load none (.t 32), (some (31, true)), .write, 0⟩, ⟨(some 34), .fieldAddr 4 (.t 3), (some (31, true)), .write, 0⟩, ⟨(some 35), .load none (.t 34), (some (31, true)), .write, 0⟩, ⟨(some 36), .call (.c (.func 73 [])) [(.t 33), (.t 35)], (some (31, true)), .write, 0⟩, ⟨(some 37), .pick (.t 31) (.t 36) (.c (.bool false)), none, .write, 0⟩, ⟨(some 4), .move (.t 37), none, .write, 0⟩])
 .ret)) }

theorem c75 : compFunc Try.prog Try.f75 .pure = some t75 := by kernel_rfl

def t76l0 : DCode :=
 (.seq (.region [⟨(some 18), .arith .lss (.t 17) (.t 16), none, .write, 0⟩])
 (.seq (.cond (.t 18) .skip (.exit 0))
 (.seq (.block 1 (.seq (.region [⟨(some 19), .move (.t 17), none, .write, 0⟩, ⟨(some 20), .indexAddr 3 (.t 15) (.t 17), none, .write, 0⟩, ⟨(some 21), .load (some 3) (.t 20), none, .write, 0⟩, ⟨(some 8), .alloc 88 3 (.agg [(.int .i64 0), (.int .i64 0), .nsl]), none, .write, 0⟩, ⟨(some 7), .move (.t 19), none, .write, 0⟩, ⟨none, .store 3 (.t 8) (.t 21), none, .write, 0⟩])
 (.seq (.region [⟨(some 22), .move (.t 1), none, .write, 0⟩, ⟨(some 23), .move (.t 7), none, .write, 0⟩, ⟨(some 24), .indexAddr 3 (.t 22) (.t 23), none, .write, 0⟩, ⟨(some 25), .load (some 3) (.t 24), none, .write, 0⟩, ⟨(some 9), .alloc 88 3 (.agg [(.int .i64 0), (.int .i64 0), .nsl]), none, .write, 0⟩, ⟨none, .store 3 (.t 9) (.t 25), none, .write, 0⟩])
 (.seq (.region [⟨(some 26), .move (.t 2), none, .write, 0⟩, ⟨(some 27), .load (some 3) (.t 8), none, .write, 0⟩, ⟨(some 28), .load (some 3) (.t 9), none, .write, 0⟩, ⟨(some 29), .call (.t 26) [(.t 27), (.t 28)], none, .write, 0⟩, ⟨(some 30), .un .not (.t 29), none, .write, 0⟩])
 (.cond (.t 30) (.seq (.region [⟨(some 6), .move (.c (.bool false)), none, .write, 0⟩])
 .ret) .skip)))))
 (.region [⟨(some 31), .arith .add (.t 17) (.c (.int .i64 1)), none, .write, 0⟩, ⟨(some 17), .move (.t 31), none, .write, 0⟩]))))

def t76k0 : DCode :=
 (.seq (.region [⟨(some 6), .move (.c (.bool true)), none, .write, 0⟩])
 .ret)

/-- slices.EqualFunc[[]broadside/api.Own,[]broadside/api.Own,broadside/api.Own,broadside/api.Own] -/
def t76 : DFunc := { ntmps := 32, results := [(.t 6)], mode := .pure, body :=
 (.seq (.region [⟨(some 6), .move (.c (.bool false)), none, .write, 0⟩])
 (.seq (.seq (.region [⟨(some 10), .move (.t 0), none, .write, 0⟩, ⟨(some 11), .len 1 (.t 10), none, .write, 0⟩, ⟨(some 12), .move (.t 1), none, .write, 0⟩, ⟨(some 13), .len 1 (.t 12), none, .write, 0⟩, ⟨(some 14), .arith .neq (.t 11) (.t 13), none, .write, 0⟩])
 (.cond (.t 14) (.seq (.region [⟨(some 6), .move (.c (.bool false)), none, .write, 0⟩])
 .ret) .skip))
 (.seq (.seq (.region [⟨(some 15), .move (.t 0), none, .write, 0⟩, ⟨(some 16), .len 1 (.t 15), none, .write, 0⟩, ⟨(some 17), .move (.c (.int .i64 0)), none, .write, 0⟩])
 (.block 0 (.loop t76l0)))
 t76k0))) }

theorem c76 : compFunc Try.prog Try.f76 .pure = some t76 := by kernel_rfl

/-- broadside/adverts.Same$3 -/
def t77 : DFunc := { ntmps := 17, results := [(.t 4)], mode := .pure, body :=
 (.seq (.region [⟨(some 2), .box 88 3 (.t 0), none, .write, 0⟩, ⟨(some 3), .box 88 3 (.t 1), none, .write, 0⟩, ⟨(some 4), .move (.c (.bool false)), none, .write, 0⟩])
 (.seq (.region [⟨(some 5), .fieldAddr 0 (.t 2), none, .write, 0⟩, ⟨(some 6), .load (some 2) (.t 5), none, .write, 0⟩, ⟨(some 7), .fieldAddr 0 (.t 3), none, .write, 0⟩, ⟨(some 8), .load (some 2) (.t 7), none, .write, 0⟩, ⟨(some 9), .eqa false [1, 1] (.t 6) (.t 8), none, .write, 0⟩, ⟨(some 10), .move (.t 9), none, .write, 0⟩, ⟨(some 11), .fieldAddr 2 (.t 2), (some (10, true)), .write, 0⟩, ⟨(some 12), .load none (.t 11), (some (10, true)), .write, 0⟩, ⟨(some 13), .fieldAddr 2 (.t 3), (some (10, true)), .write, 0⟩, ⟨(some 14), .load none (.t 13), (some (10, true)), .write, 0⟩, ⟨(some 15), .call (.c (.func 73 [])) [(.t 12), (.t 14)], (some (10, true)), .write, 0⟩, ⟨(some 16), .pick (.t 10) (.t 15) (.c (.bool false)), none, .write, 0⟩, ⟨(some 4), .move (.t 16), none, .write, 0⟩])
 .ret)) }

theorem c77 : compFunc Try.prog Try.f77 .pure = some t77 := by kernel_rfl

def t78l0 : DCode :=
 (.block 1 (.seq (.region [⟨(some 19), .move (.t 2), none, .write, 0⟩, ⟨(some 20), .move (.t 1), none, .write, 0⟩, ⟨(some 21), .arith .sub (.t 19) (.t 20), none, .write, 0⟩, ⟨(some 10), .move (.t 21), none, .write, 0⟩])
 (.seq (.seq (.region [⟨(some 22), .move (.t 10), none, .write, 0⟩, ⟨(some 23), .arith .leq (.t 22) (.c (.int .i64 12)), none, .write, 0⟩])
 (.cond (.t 23) (.seq (.region [⟨(some 24), .move (.t 0), none, .write, 0⟩, ⟨(some 25), .move (.t 1), none, .write, 0⟩, ⟨(some 26), .move (.t 2), none, .write, 0⟩, ⟨(some 27), .call (.c (.func 105 [])) [(.t 24), (.t 25), (.t 26)], none, .write, 0⟩])
 .ret) .skip))
 (.seq (.seq (.region [⟨(some 28), .move (.t 3), none, .write, 0⟩, ⟨(some 29), .arith .eql (.t 28) (.c (.int .i64 0)), none, .write, 0⟩])
 (.cond (.t 29) (.seq (.region [⟨(some 30), .move (.t 0), none, .write, 0⟩, ⟨(some 31), .move (.t 1), none, .write, 0⟩, ⟨(some 32), .move (.t 2), none, .write, 0⟩, ⟨(some 33), .call (.c (.func 106 [])) [(.t 30), (.t 31), (.t 32)], none, .write, 0⟩])
 .ret) .skip))
 (.seq (.seq (.region [⟨(some 34), .move (.t 8), none, .write, 0⟩, ⟨(some 35), .un .not (.t 34), none, .write, 0⟩])
 (.cond (.t 35) (.seq (.region [⟨(some 36), .move (.t 0), none, .write, 0⟩, ⟨(some 37), .move (.t 1), none, .write, 0⟩, ⟨(some 38), .move (.t 2), none, .write, 0⟩, ⟨(some 39), .call (.c (.func 107 [])) [(.t 36), (.t 37), (.t 38)], none, .write, 0⟩])
 (.region [⟨(some 40), .move (.t 3), none, .write, 0⟩, ⟨(some 41), .arith .sub (.t 40) (.c (.int .i64 1)), none, .write, 0⟩, ⟨(some 3), .move (.t 41), none, .write, 0⟩])) .skip))
 (.seq (.region [⟨(some 43), .move (.t 0), none, .write, 0⟩, ⟨(some 44), .move (.t 1), none, .write, 0⟩, ⟨(some 45), .move (.t 2), none, .write, 0⟩, ⟨(some 46), .call (.c (.func 108 [])) [(.t 43), (.t 44), (.t 45)], none, .write, 0⟩, ⟨(some 42), .move (.t 46), none, .write, 0⟩, ⟨(some 47), .extract (.t 42) 0, none, .write, 0⟩, ⟨(some 48), .extract (.t 42) 1, none, .write, 0⟩, ⟨(some 11), .move (.t 47), none, .write, 0⟩, ⟨(some 12), .move (.t 48), none, .write, 0⟩])
 (.seq (.seq (.region [⟨(some 49), .move (.t 12), none, .write, 0⟩, ⟨(some 50), .arith .eql (.t 49) (.c (.int .i64 2)), none, .write, 0⟩])
 (.cond (.t 50) (.seq (.region [⟨(some 51), .move (.t 0), none, .write, 0⟩, ⟨(some 52), .move (.t 1), none, .write, 0⟩, ⟨(some 53), .move (.t 2), none, .write, 0⟩, ⟨(some 54), .call (.c (.func 109 [])) [(.t 51), (.t 52), (.t 53)], none, .write, 0⟩])
 (.seq (.region [⟨(some 55), .move (.t 2), none, .write, 0⟩, ⟨(some 56), .arith .sub (.t 55) (.c (.int .i64 1)), none, .write, 0⟩, ⟨(some 57), .move (.t 11), none, .write, 0⟩, ⟨(some 58), .move (.t 1), none, .write, 0⟩, ⟨(some 59), .arith .sub (.t 57) (.t 58), none, .write, 0⟩, ⟨(some 60), .arith .sub (.t 56) (.t 59), none, .write, 0⟩, ⟨(some 11), .move (.t 60), none, .write, 0⟩])
 (.region [⟨(some 12), .move (.c (.int .i64 1)), none, .write, 0⟩]))) .skip))
 (.seq (.seq (.region [⟨(some 61), .move (.t 8), none, .write, 0⟩, ⟨(some 62), .move (.t 61), none, .write, 0⟩, ⟨(some 63), .move (.t 9), (some (62, true)), .write, 0⟩, ⟨(some 64), .pick (.t 62) (.t 63) (.c (.bool false)), none, .write, 0⟩, ⟨(some 65), .move (.t 64), none, .write, 0⟩, ⟨(some 66), .move (.t 12), (some (65, true)), .write, 0⟩, ⟨(some 67), .arith .eql (.t 66) (.c (.int .i64 1)), (some (65, true)), .write, 0⟩, ⟨(some 68), .pick (.t 65) (.t 67) (.c (.bool false)), none, .write, 0⟩])
 (.cond (.t 68) (.seq (.region [⟨(some 69), .move (.t 0), none, .write, 0⟩, ⟨(some 70), .move (.t 1), none, .write, 0⟩, ⟨(some 71), .move (.t 2), none, .write, 0⟩, ⟨(some 72), .call (.c (.func 110 [])) [(.t 69), (.t 70), (.t 71)], none, .write, 0⟩])
 (.cond (.t 72) .ret .skip)) .skip))
 (.seq (.seq (.draw [⟨(some 73), .move (.t 1), none, .read, 0⟩, ⟨(some 74), .arith .gtr (.t 73) (.c (.int .i64 0)), none, .read, 0⟩, ⟨(some 75), .move (.t 74), none, .read, 0⟩, ⟨(some 76), .move (.t 0), (some (75, true)), .read, 0⟩, ⟨(some 77), .move (.t 1), (some (75, true)), .read, 0⟩, ⟨(some 78), .arith .sub (.t 77) (.c (.int .i64 1)), (some (75, true)), .read, 0⟩, ⟨(some 79), .indexAddr 1 (.t 76) (.t 78), (some (75, true)), .read, 0⟩, ⟨(some 80), .load none (.t 79), (some (75, true)), .read, 0⟩, ⟨(some 81), .move (.t 0), (some (75, true)), .read, 0⟩, ⟨(some 82), .move (.t 11), (some (75, true)), .read, 0⟩, ⟨(some 83), .indexAddr 1 (.t 81) (.t 82), (some (75, true)), .read, 0⟩, ⟨(some 84), .load none (.t 83), (some (75, true)), .read, 0⟩, ⟨(some 85), .call (.c (.func 111 [])) [(.t 80), (.t 84)], (some (75, true)), .write, 0⟩, ⟨(some 86), .un .not (.t 85), (some (75, true)), .read, 1⟩, ⟨(some 87), .pick (.t 75) (.t 86) (.c (.bool false)), none, .read, 1⟩])
 (.cond (.t 87) (.seq (.region [⟨(some 88), .move (.t 0), none, .write, 0⟩, ⟨(some 89), .move (.t 1), none, .write, 0⟩, ⟨(some 90), .move (.t 2), none, .write, 0⟩, ⟨(some 91), .move (.t 11), none, .write, 0⟩, ⟨(some 92), .call (.c (.func 112 [])) [(.t 88), (.t 89), (.t 90), (.t 91)], none, .write, 0⟩, ⟨(some 13), .move (.t 92), none, .write, 0⟩])
 (.seq (.region [⟨(some 93), .move (.t 13), none, .write, 0⟩, ⟨(some 1), .move (.t 93), none, .write, 0⟩])
 (.exit 1))) .skip))
 (.seq (.region [⟨(some 95), .move (.t 0), none, .write, 0⟩, ⟨(some 96), .move (.t 1), none, .write, 0⟩, ⟨(some 97), .move (.t 2), none, .write, 0⟩, ⟨(some 98), .move (.t 11), none, .write, 0⟩, ⟨(some 99), .call (.c (.func 113 [])) [(.t 95), (.t 96), (.t 97), (.t 98)], none, .write, 0⟩, ⟨(some 94), .move (.t 99), none, .write, 0⟩, ⟨(some 100), .extract (.t 94) 0, none, .write, 0⟩, ⟨(some 101), .extract (.t 94) 1, none, .write, 0⟩, ⟨(some 14), .move (.t 100), none, .write, 0⟩, ⟨(some 15), .move (.t 101), none, .write, 0⟩])
 (.seq (.region [⟨(some 102), .move (.t 15), none, .write, 0⟩, ⟨(some 9), .move (.t 102), none, .write, 0⟩])
 (.seq (.region [⟨(some 103), .move (.t 14), none, .write, 0⟩, ⟨(some 104), .move (.t 1), none, .write, 0⟩, ⟨(some 105), .arith .sub (.t 103) (.t 104), none, .write, 0⟩, ⟨(some 106), .move (.t 2), none, .write, 0⟩, ⟨(some 107), .move (.t 14), none, .write, 0⟩, ⟨(some 108), .arith .sub (.t 106) (.t 107), none, .write, 0⟩, ⟨(some 16), .move (.t 105), none, .write, 0⟩, ⟨(some 17), .move (.t 108), none, .write, 0⟩])
 (.seq (.region [⟨(some 109), .move (.t 10), none, .write, 0⟩, ⟨(some 110), .arith .quo (.t 109) (.c (.int .i64 8)), none, .write, 0⟩, ⟨(some 18), .move (.t 110), none, .write, 0⟩])
 (.seq (.region [⟨(some 111), .move (.t 16), none, .write, 0⟩, ⟨(some 112), .move (.t 17), none, .write, 0⟩, ⟨(some 113), .arith .lss (.t 111) (.t 112), none, .write, 0⟩])
 (.cond (.t 113) (.seq (.region [⟨(some 114), .move (.t 16), none, .write, 0⟩, ⟨(some 115), .move (.t 18), none, .write, 0⟩, ⟨(some 116), .arith .geq (.t 114) (.t 115), none, .write, 0⟩, ⟨(some 8), .move (.t 116), none, .write, 0⟩])
 (.seq (.region [⟨(some 117), .move (.t 0), none, .write, 0⟩, ⟨(some 118), .move (.t 1), none, .write, 0⟩, ⟨(some 119), .move (.t 14), none, .write, 0⟩, ⟨(some 120), .move (.t 3), none, .write, 0⟩, ⟨(some 121), .call (.c (.func 78 [])) [(.t 117), (.t 118), (.t 119), (.t 120)], none, .write, 0⟩])
 (.region [⟨(some 122), .move (.t 14), none, .write, 0⟩, ⟨(some 123), .arith .add (.t 122) (.c (.int .i64 1)), none, .write, 0⟩, ⟨(some 1), .move (.t 123), none, .write, 0⟩]))) (.seq (.region [⟨(some 124), .move (.t 17), none, .write, 0⟩, ⟨(some 125), .move (.t 18), none, .write, 0⟩, ⟨(some 126), .arith .geq (.t 124) (.t 125), none, .write, 0⟩, ⟨(some 8), .move (.t 126), none, .write, 0⟩])
 (.seq (.region [⟨(some 127), .move (.t 0), none, .write, 0⟩, ⟨(some 128), .move (.t 14), none, .write, 0⟩, ⟨(some 129), .arith .add (.t 128) (.c (.int .i64 1)), none, .write, 0⟩, ⟨(some 130), .move (.t 2), none, .write, 0⟩, ⟨(some 131), .move (.t 3), none, .write, 0⟩, ⟨(some 132), .call (.c (.func 78 [])) [(.t 127), (.t 129), (.t 130), (.t 131)], none, .write, 0⟩])
 (.region [⟨(some 133), .move (.t 14), none, .write, 0⟩, ⟨(some 2), .move (.t 133), none, .write, 0⟩]))))))))))))))))))

/-- slices.pdqsortOrdered[int] -/
def t78 : DFunc := { ntmps := 134, results := [], mode := .full, body :=
 (.seq (.region [⟨(some 8), .move (.c (.bool true)), none, .write, 0⟩])
 (.seq (.region [⟨(some 9), .move (.c (.bool true)), none, .write, 0⟩])
 (.block 0 (.loop t78l0)))) }

theorem c78 : compFunc Try.prog Try.f78 .full = some t78 := by kernel_rfl

/-- math/bits.Len -/
def t79 : DFunc := { ntmps := 8, results := [(.t 2)], mode := .pure, body :=
 (.seq (.region [⟨(some 2), .move (.c (.int .i64 0)), none, .write, 0⟩])
 (.seq (.cond (.c (.bool false)) (.seq (.region [⟨(some 3), .move (.t 0), none, .write, 0⟩, ⟨(some 4), .conv .u32 (.t 3), none, .write, 0⟩, ⟨(some 5), .call (.c (.func 114 [])) [(.t 4)], none, .write, 0⟩, ⟨(some 2), .move (.t 5), none, .write, 0⟩])
 .ret) .skip)
 (.seq (.region [⟨(some 6), .move (.t 0), none, .write, 0⟩, ⟨(some 7), .call (.c (.func 115 [])) [(.t 6)], none, .write, 0⟩, ⟨(some 2), .move (.t 7), none, .write, 0⟩])
 .ret))) }

theorem c79 : compFunc Try.prog Try.f79 .pure = some t79 := by kernel_rfl

def t83l0 : DCode :=
 (.seq (.seq (.region [⟨(some 15), .move (.t 9), none, .write, 0⟩, ⟨(some 16), .move (.t 10), none, .write, 0⟩, ⟨(some 17), .arith .lss (.t 15) (.t 16), none, .write, 0⟩])
 (.cond (.t 17) .skip (.exit 0)))
 (.block 1 (.seq (.region [⟨(some 18), .move (.t 9), none, .write, 0⟩, ⟨(some 19), .move (.t 10), none, .write, 0⟩, ⟨(some 20), .arith .add (.t 18) (.t 19), none, .write, 0⟩, ⟨(some 21), .conv .u64 (.t 20), none, .write, 0⟩, ⟨(some 22), .arith .shr (.t 21) (.c (.int .u64 1)), none, .write, 0⟩, ⟨(some 23), .conv .i64 (.t 22), none, .write, 0⟩, ⟨(some 11), .move (.t 23), none, .write, 0⟩])
 (.seq (.draw [⟨(some 25), .move (.t 0), none, .read, 0⟩, ⟨(some 26), .move (.t 11), none, .read, 0⟩, ⟨(some 27), .indexAddr 2 (.t 25) (.t 26), none, .read, 0⟩, ⟨(some 28), .load (some 2) (.t 27), none, .read, 0⟩, ⟨(some 29), .load (some 2) (.t 4), none, .read, 0⟩, ⟨(some 24), .move (.t 2), none, .read, 0⟩, ⟨(some 30), .call (.t 24) [(.t 28), (.t 29)], none, .write, 0⟩, ⟨(some 31), .arith .lss (.t 30) (.c (.int .i64 0)), none, .read, 1⟩])
 (.cond (.t 31) (.region [⟨(some 32), .move (.t 11), none, .write, 0⟩, ⟨(some 33), .arith .add (.t 32) (.c (.int .i64 1)), none, .write, 0⟩, ⟨(some 9), .move (.t 33), none, .write, 0⟩]) (.region [⟨(some 34), .move (.t 11), none, .write, 0⟩, ⟨(some 10), .move (.t 34), none, .write, 0⟩]))))))

def t83k0 : DCode :=
 (.seq (.draw [⟨(some 36), .move (.t 9), none, .read, 0⟩, ⟨(some 37), .move (.t 8), none, .read, 0⟩, ⟨(some 38), .arith .lss (.t 36) (.t 37), none, .read, 0⟩, ⟨(some 39), .move (.t 38), none, .read, 0⟩, ⟨(some 41), .move (.t 0), (some (39, true)), .read, 0⟩, ⟨(some 42), .move (.t 9), (some (39, true)), .read, 0⟩, ⟨(some 43), .indexAddr 2 (.t 41) (.t 42), (some (39, true)), .read, 0⟩, ⟨(some 44), .load (some 2) (.t 43), (some (39, true)), .read, 0⟩, ⟨(some 45), .load (some 2) (.t 4), (some (39, true)), .read, 0⟩, ⟨(some 40), .move (.t 2), (some (39, true)), .read, 0⟩, ⟨(some 46), .call (.t 40) [(.t 44), (.t 45)], (some (39, true)), .write, 0⟩, ⟨(some 35), .move (.t 9), none, .read, 0⟩, ⟨(some 47), .arith .eql (.t 46) (.c (.int .i64 0)), (some (39, true)), .read, 1⟩, ⟨(some 48), .pick (.t 39) (.t 47) (.c (.bool false)), none, .read, 1⟩, ⟨(some 6), .move (.t 35), none, .read, 1⟩, ⟨(some 7), .move (.t 48), none, .read, 1⟩])
 .ret)

/-- slices.BinarySearchFunc[[]broadside/api.ID,broadside/api.ID,broadside/api.ID] -/
def t83 : DFunc := { ntmps := 49, results := [(.t 6), (.t 7)], mode := .pure, body :=
 (.seq (.region [⟨(some 4), .box 35 2 (.t 1), none, .write, 0⟩, ⟨(some 6), .move (.c (.int .i64 0)), none, .write, 0⟩, ⟨(some 7), .move (.c (.bool false)), none, .write, 0⟩])
 (.seq (.region [⟨(some 12), .move (.t 0), none, .write, 0⟩, ⟨(some 13), .len 1 (.t 12), none, .write, 0⟩, ⟨(some 8), .move (.t 13), none, .write, 0⟩])
 (.seq (.region [⟨(some 14), .move (.t 8), none, .write, 0⟩, ⟨(some 9), .move (.c (.int .i64 0)), none, .write, 0⟩, ⟨(some 10), .move (.t 14), none, .write, 0⟩])
 (.seq (.block 0 (.loop t83l0))
 t83k0)))) }

theorem c83 : compFunc Try.prog Try.f83 .pure = some t83 := by kernel_rfl

def t84l0 : DCode :=
 (.seq (.seq (.region [⟨(some 15), .move (.t 9), none, .write, 0⟩, ⟨(some 16), .move (.t 10), none, .write, 0⟩, ⟨(some 17), .arith .lss (.t 15) (.t 16), none, .write, 0⟩])
 (.cond (.t 17) .skip (.exit 0)))
 (.block 1 (.seq (.region [⟨(some 18), .move (.t 9), none, .write, 0⟩, ⟨(some 19), .move (.t 10), none, .write, 0⟩, ⟨(some 20), .arith .add (.t 18) (.t 19), none, .write, 0⟩, ⟨(some 21), .conv .u64 (.t 20), none, .write, 0⟩, ⟨(some 22), .arith .shr (.t 21) (.c (.int .u64 1)), none, .write, 0⟩, ⟨(some 23), .conv .i64 (.t 22), none, .write, 0⟩, ⟨(some 11), .move (.t 23), none, .write, 0⟩])
 (.seq (.draw [⟨(some 25), .move (.t 0), none, .read, 0⟩, ⟨(some 26), .move (.t 11), none, .read, 0⟩, ⟨(some 27), .indexAddr 4 (.t 25) (.t 26), none, .read, 0⟩, ⟨(some 28), .load (some 4) (.t 27), none, .read, 0⟩, ⟨(some 29), .load (some 2) (.t 4), none, .read, 0⟩, ⟨(some 24), .move (.t 2), none, .read, 0⟩, ⟨(some 30), .call (.t 24) [(.t 28), (.t 29)], none, .write, 0⟩, ⟨(some 31), .arith .lss (.t 30) (.c (.int .i64 0)), none, .read, 1⟩])
 (.cond (.t 31) (.region [⟨(some 32), .move (.t 11), none, .write, 0⟩, ⟨(some 33), .arith .add (.t 32) (.c (.int .i64 1)), none, .write, 0⟩, ⟨(some 9), .move (.t 33), none, .write, 0⟩]) (.region [⟨(some 34), .move (.t 11), none, .write, 0⟩, ⟨(some 10), .move (.t 34), none, .write, 0⟩]))))))

def t84k0 : DCode :=
 (.seq (.draw [⟨(some 36), .move (.t 9), none, .read, 0⟩, ⟨(some 37), .move (.t 8), none, .read, 0⟩, ⟨(some 38), .arith .lss (.t 36) (.t 37), none, .read, 0⟩, ⟨(some 39), .move (.t 38), none, .read, 0⟩, ⟨(some 41), .move (.t 0), (some (39, true)), .read, 0⟩, ⟨(some 42), .move (.t 9), (some (39, true)), .read, 0⟩, ⟨(some 43), .indexAddr 4 (.t 41) (.t 42), (some (39, true)), .read, 0⟩, ⟨(some 44), .load (some 4) (.t 43), (some (39, true)), .read, 0⟩, ⟨(some 45), .load (some 2) (.t 4), (some (39, true)), .read, 0⟩, ⟨(some 40), .move (.t 2), (some (39, true)), .read, 0⟩, ⟨(some 46), .call (.t 40) [(.t 44), (.t 45)], (some (39, true)), .write, 0⟩, ⟨(some 35), .move (.t 9), none, .read, 0⟩, ⟨(some 47), .arith .eql (.t 46) (.c (.int .i64 0)), (some (39, true)), .read, 1⟩, ⟨(some 48), .pick (.t 39) (.t 47) (.c (.bool false)), none, .read, 1⟩, ⟨(some 6), .move (.t 35), none, .read, 1⟩, ⟨(some 7), .move (.t 48), none, .read, 1⟩])
 .ret)

/-- slices.BinarySearchFunc[[]broadside/api.Advert,broadside/api.Advert,broadside/api.ID] -/
def t84 : DFunc := { ntmps := 49, results := [(.t 6), (.t 7)], mode := .pure, body :=
 (.seq (.region [⟨(some 4), .box 35 2 (.t 1), none, .write, 0⟩, ⟨(some 6), .move (.c (.int .i64 0)), none, .write, 0⟩, ⟨(some 7), .move (.c (.bool false)), none, .write, 0⟩])
 (.seq (.region [⟨(some 12), .move (.t 0), none, .write, 0⟩, ⟨(some 13), .len 1 (.t 12), none, .write, 0⟩, ⟨(some 8), .move (.t 13), none, .write, 0⟩])
 (.seq (.region [⟨(some 14), .move (.t 8), none, .write, 0⟩, ⟨(some 9), .move (.c (.int .i64 0)), none, .write, 0⟩, ⟨(some 10), .move (.t 14), none, .write, 0⟩])
 (.seq (.block 0 (.loop t84l0))
 t84k0)))) }

theorem c84 : compFunc Try.prog Try.f84 .pure = some t84 := by kernel_rfl

/-- broadside/adverts.place$1 -/
def t85 : DFunc := { ntmps := 9, results := [(.t 4)], mode := .pure, body :=
 (.seq (.region [⟨(some 2), .box 41 4 (.t 0), none, .write, 0⟩, ⟨(some 3), .box 35 2 (.t 1), none, .write, 0⟩, ⟨(some 4), .move (.c (.int .i64 0)), none, .write, 0⟩])
 (.seq (.region [⟨(some 5), .fieldAddr 0 (.t 2), none, .write, 0⟩, ⟨(some 6), .load (some 2) (.t 5), none, .write, 0⟩, ⟨(some 7), .load (some 2) (.t 3), none, .write, 0⟩, ⟨(some 8), .call (.c (.func 41 [])) [(.t 6), (.t 7)], none, .write, 0⟩, ⟨(some 4), .move (.t 8), none, .write, 0⟩])
 .ret)) }

theorem c85 : compFunc Try.prog Try.f85 .pure = some t85 := by kernel_rfl

/-- slices.rotateRight[broadside/api.Advert] -/
def t87 : DFunc := { ntmps := 10, results := [], mode := .full, body :=
 (.region [⟨(some 4), .move (.t 0), none, .write, 0⟩, ⟨(some 5), .move (.t 0), none, .write, 0⟩, ⟨(some 6), .len 1 (.t 5), none, .write, 0⟩, ⟨(some 7), .move (.t 1), none, .write, 0⟩, ⟨(some 8), .arith .sub (.t 6) (.t 7), none, .write, 0⟩, ⟨(some 9), .call (.c (.func 116 [])) [(.t 4), (.t 8)], none, .write, 0⟩]) }

theorem c87 : compFunc Try.prog Try.f87 .full = some t87 := by kernel_rfl

/-- slices.rotateRight[broadside/api.ID] -/
def t89 : DFunc := { ntmps := 10, results := [], mode := .full, body :=
 (.region [⟨(some 4), .move (.t 0), none, .write, 0⟩, ⟨(some 5), .move (.t 0), none, .write, 0⟩, ⟨(some 6), .len 1 (.t 5), none, .write, 0⟩, ⟨(some 7), .move (.t 1), none, .write, 0⟩, ⟨(some 8), .arith .sub (.t 6) (.t 7), none, .write, 0⟩, ⟨(some 9), .call (.c (.func 117 [])) [(.t 4), (.t 8)], none, .write, 0⟩]) }

theorem c89 : compFunc Try.prog Try.f89 .full = some t89 := by kernel_rfl

/-- broadside/broadsidekeep.texts -/
def t90 : DFunc := { ntmps := 2, results := [(.t 0)], mode := .pure, body :=
 (.seq (.region [⟨(some 0), .move (.c .nsl), none, .write, 0⟩])
 (.seq (.region [⟨(some 1), .buildSlice 9 1 (.str []) 7 [(0, (.c (.str []))), (1, (.c (.str [120]))), (2, (.c (.str [120, 121]))), (3, (.c (.str [120, 121, 122]))), (4, (.c (.str [120, 122]))), (5, (.c (.str [121]))), (6, (.c (.str [121, 121])))], none, .write, 0⟩, ⟨(some 0), .move (.t 1), none, .write, 0⟩])
 .ret)) }

theorem c90 : compFunc Try.prog Try.f90 .pure = some t90 := by kernel_rfl

def t91l0 : DCode :=
 (.seq (.region [⟨(some 9), .arith .lss (.t 8) (.t 7), none, .write, 0⟩])
 (.seq (.cond (.t 9) .skip (.exit 0))
 (.seq (.block 1 (.seq (.region [⟨(some 10), .move (.t 8), none, .write, 0⟩, ⟨(some 5), .move (.t 10), none, .write, 0⟩])
 (.seq (.region [⟨(some 11), .move (.t 1), none, .write, 0⟩, ⟨(some 12), .move (.t 0), none, .write, 0⟩, ⟨(some 13), .move (.t 5), none, .write, 0⟩, ⟨(some 14), .indexAddr 7 (.t 12) (.t 13), none, .write, 0⟩, ⟨(some 15), .load (some 7) (.t 14), none, .write, 0⟩, ⟨(some 16), .call (.t 11) [(.t 15)], none, .write, 0⟩])
 (.cond (.t 16) (.seq (.region [⟨(some 17), .move (.t 5), none, .write, 0⟩, ⟨(some 4), .move (.t 17), none, .write, 0⟩])
 .ret) .skip))))
 (.region [⟨(some 18), .arith .add (.t 8) (.c (.int .i64 1)), none, .write, 0⟩, ⟨(some 8), .move (.t 18), none, .write, 0⟩]))))

def t91k0 : DCode :=
 (.seq (.region [⟨(some 4), .move (.c (.int .i64 (-1))), none, .write, 0⟩])
 .ret)

/-- slices.IndexFunc[[]broadside/api.Entry,broadside/api.Entry] -/
def t91 : DFunc := { ntmps := 19, results := [(.t 4)], mode := .pure, body :=
 (.seq (.region [⟨(some 4), .move (.c (.int .i64 0)), none, .write, 0⟩])
 (.seq (.seq (.region [⟨(some 6), .move (.t 0), none, .write, 0⟩, ⟨(some 7), .len 1 (.t 6), none, .write, 0⟩, ⟨(some 8), .move (.c (.int .i64 0)), none, .write, 0⟩])
 (.block 0 (.loop t91l0)))
 t91k0)) }

theorem c91 : compFunc Try.prog Try.f91 .pure = some t91 := by kernel_rfl

/-- cmp.Compare[int] -/
def t92 : DFunc := { ntmps := 20, results := [(.t 4)], mode := .pure, body :=
 (.seq (.region [⟨(some 4), .move (.c (.int .i64 0)), none, .write, 0⟩])
 (.seq (.region [⟨(some 7), .move (.t 0), none, .write, 0⟩, ⟨(some 8), .call (.c (.func 118 [])) [(.t 7)], none, .write, 0⟩, ⟨(some 5), .move (.t 8), none, .write, 0⟩])
 (.seq (.region [⟨(some 9), .move (.t 1), none, .write, 0⟩, ⟨(some 10), .call (.c (.func 118 [])) [(.t 9)], none, .write, 0⟩, ⟨(some 6), .move (.t 10), none, .write, 0⟩])
 (.seq (.seq (.region [⟨(some 11), .move (.t 5), none, .write, 0⟩])
 (.cond (.t 11) (.seq (.seq (.region [⟨(some 12), .move (.t 6), none, .write, 0⟩])
 (.cond (.t 12) (.seq (.region [⟨(some 4), .move (.c (.int .i64 0)), none, .write, 0⟩])
 .ret) .skip))
 (.seq (.region [⟨(some 4), .move (.c (.int .i64 (-1))), none, .write, 0⟩])
 .ret)) .skip))
 (.seq (.seq (.region [⟨(some 13), .move (.t 6), none, .write, 0⟩])
 (.cond (.t 13) (.seq (.region [⟨(some 4), .move (.c (.int .i64 1)), none, .write, 0⟩])
 .ret) .skip))
 (.seq (.seq (.region [⟨(some 14), .move (.t 0), none, .write, 0⟩, ⟨(some 15), .move (.t 1), none, .write, 0⟩, ⟨(some 16), .arith .lss (.t 14) (.t 15), none, .write, 0⟩])
 (.cond (.t 16) (.seq (.region [⟨(some 4), .move (.c (.int .i64 (-1))), none, .write, 0⟩])
 .ret) .skip))
 (.seq (.seq (.region [⟨(some 17), .move (.t 0), none, .write, 0⟩, ⟨(some 18), .move (.t 1), none, .write, 0⟩, ⟨(some 19), .arith .gtr (.t 17) (.t 18), none, .write, 0⟩])
 (.cond (.t 19) (.seq (.region [⟨(some 4), .move (.c (.int .i64 1)), none, .write, 0⟩])
 .ret) .skip))
 (.seq (.region [⟨(some 4), .move (.c (.int .i64 0)), none, .write, 0⟩])
 .ret)))))))) }

theorem c92 : compFunc Try.prog Try.f92 .pure = some t92 := by kernel_rfl

def t93l0 : DCode :=
 (.seq (.region [⟨(some 9), .arith .lss (.t 8) (.t 7), none, .write, 0⟩])
 (.seq (.cond (.t 9) .skip (.exit 0))
 (.seq (.block 1 (.seq (.region [⟨(some 10), .move (.t 8), none, .write, 0⟩, ⟨(some 5), .move (.t 10), none, .write, 0⟩])
 (.seq (.region [⟨(some 11), .move (.t 1), none, .write, 0⟩, ⟨(some 12), .move (.t 0), none, .write, 0⟩, ⟨(some 13), .move (.t 5), none, .write, 0⟩, ⟨(some 14), .indexAddr 4 (.t 12) (.t 13), none, .write, 0⟩, ⟨(some 15), .load (some 4) (.t 14), none, .write, 0⟩, ⟨(some 16), .call (.t 11) [(.t 15)], none, .write, 0⟩])
 (.cond (.t 16) (.seq (.region [⟨(some 17), .move (.t 5), none, .write, 0⟩, ⟨(some 4), .move (.t 17), none, .write, 0⟩])
 .ret) .skip))))
 (.region [⟨(some 18), .arith .add (.t 8) (.c (.int .i64 1)), none, .write, 0⟩, ⟨(some 8), .move (.t 18), none, .write, 0⟩]))))

def t93k0 : DCode :=
 (.seq (.region [⟨(some 4), .move (.c (.int .i64 (-1))), none, .write, 0⟩])
 .ret)

/-- slices.IndexFunc[[]broadside/api.Advert,broadside/api.Advert] -/
def t93 : DFunc := { ntmps := 19, results := [(.t 4)], mode := .pure, body :=
 (.seq (.region [⟨(some 4), .move (.c (.int .i64 0)), none, .write, 0⟩])
 (.seq (.seq (.region [⟨(some 6), .move (.t 0), none, .write, 0⟩, ⟨(some 7), .len 1 (.t 6), none, .write, 0⟩, ⟨(some 8), .move (.c (.int .i64 0)), none, .write, 0⟩])
 (.block 0 (.loop t93l0)))
 t93k0)) }

theorem c93 : compFunc Try.prog Try.f93 .pure = some t93 := by kernel_rfl

/-- slices.Contains[[]int,int] -/
def t94 : DFunc := { ntmps := 9, results := [(.t 4)], mode := .pure, body :=
 (.seq (.region [⟨(some 4), .move (.c (.bool false)), none, .write, 0⟩])
 (.seq (.region [⟨(some 5), .move (.t 0), none, .write, 0⟩, ⟨(some 6), .move (.t 1), none, .write, 0⟩, ⟨(some 7), .call (.c (.func 119 [])) [(.t 5), (.t 6)], none, .write, 0⟩, ⟨(some 8), .arith .geq (.t 7) (.c (.int .i64 0)), none, .write, 0⟩, ⟨(some 4), .move (.t 8), none, .write, 0⟩])
 .ret)) }

theorem c94 : compFunc Try.prog Try.f94 .pure = some t94 := by kernel_rfl

/-- broadside/pred.RightOne -/
def t95 : DFunc := { ntmps := 43, results := [(.t 2)], mode := .pure, body :=
 (.seq (.region [⟨(some 1), .box 63 5 (.t 0), none, .write, 0⟩, ⟨(some 2), .move (.c (.bool false)), none, .write, 0⟩])
 (.seq (.seq (.region [⟨(some 3), .fieldAddr 0 (.t 1), none, .write, 0⟩, ⟨(some 4), .load none (.t 3), none, .write, 0⟩, ⟨(some 5), .call (.c (.func 120 [])) [(.t 4)], none, .write, 0⟩, ⟨(some 6), .un .not (.t 5), none, .write, 0⟩])
 (.cond (.t 6) (.seq (.region [⟨(some 2), .move (.c (.bool false)), none, .write, 0⟩])
 .ret) .skip))
 (.seq (.seq (.region [⟨(some 7), .fieldAddr 1 (.t 1), none, .write, 0⟩, ⟨(some 8), .load none (.t 7), none, .write, 0⟩])
 (.block 0 (.seq (.block 3 (.seq (.block 2 (.seq (.block 1 (.seq (.seq (.seq (.region [⟨(some 10), .arith .eql (.t 8) (.c (.int .i64 1)), none, .write, 0⟩, ⟨(some 9), .move (.t 10), none, .write, 0⟩])
 (.cond (.t 9) (.exit 1) .skip))
 (.seq (.seq (.region [⟨(some 12), .arith .eql (.t 8) (.c (.int .i64 3)), none, .write, 0⟩, ⟨(some 11), .move (.t 12), none, .write, 0⟩])
 (.cond (.t 11) (.exit 2) .skip))
 (.seq (.region [⟨(some 14), .arith .eql (.t 8) (.c (.int .i64 2)), none, .write, 0⟩, ⟨(some 13), .move (.t 14), none, .write, 0⟩])
 (.cond (.t 13) (.exit 3) .skip))))
 (.exit 0)))
 (.seq (.seq (.region [⟨(some 15), .fieldAddr 2 (.t 1), none, .write, 0⟩, ⟨(some 16), .load none (.t 15), none, .write, 0⟩, ⟨(some 17), .fieldAddr 3 (.t 1), none, .write, 0⟩, ⟨(some 18), .load none (.t 17), none, .write, 0⟩, ⟨(some 19), .arith .leq (.t 16) (.t 18), none, .write, 0⟩, ⟨(some 20), .move (.t 19), none, .write, 0⟩, ⟨(some 21), .fieldAddr 4 (.t 1), (some (20, true)), .write, 0⟩, ⟨(some 22), .load none (.t 21), (some (20, true)), .write, 0⟩, ⟨(some 23), .arith .eql (.t 22) (.c (.str [])), (some (20, true)), .write, 0⟩, ⟨(some 24), .pick (.t 20) (.t 23) (.c (.bool false)), none, .write, 0⟩, ⟨(some 2), .move (.t 24), none, .write, 0⟩])
 .ret)
 (.exit 0))))
 (.seq (.region [⟨(some 25), .fieldAddr 4 (.t 1), none, .write, 0⟩, ⟨(some 26), .load none (.t 25), none, .write, 0⟩, ⟨(some 27), .len 0 (.t 26), none, .write, 0⟩, ⟨(some 28), .arith .eql (.t 27) (.c (.int .i64 12)), none, .write, 0⟩])
 (.cond (.t 28) (.seq (.region [⟨(some 2), .move (.c (.bool false)), none, .write, 0⟩])
 .ret) .skip))))
 (.seq (.seq (.region [⟨(some 29), .fieldAddr 2 (.t 1), none, .write, 0⟩, ⟨(some 30), .load none (.t 29), none, .write, 0⟩, ⟨(some 31), .arith .eql (.t 30) (.c (.int .i64 0)), none, .write, 0⟩, ⟨(some 32), .move (.t 31), none, .write, 0⟩, ⟨(some 33), .fieldAddr 3 (.t 1), (some (32, true)), .write, 0⟩, ⟨(some 34), .load none (.t 33), (some (32, true)), .write, 0⟩, ⟨(some 35), .arith .eql (.t 34) (.c (.int .i64 0)), (some (32, true)), .write, 0⟩, ⟨(some 36), .pick (.t 32) (.t 35) (.c (.bool false)), none, .write, 0⟩, ⟨(some 37), .move (.t 36), none, .write, 0⟩, ⟨(some 38), .fieldAddr 4 (.t 1), (some (37, true)), .write, 0⟩, ⟨(some 39), .load none (.t 38), (some (37, true)), .write, 0⟩, ⟨(some 40), .len 0 (.t 39), (some (37, true)), .write, 0⟩, ⟨(some 41), .arith .leq (.t 40) (.c (.int .i64 12)), (some (37, true)), .write, 0⟩, ⟨(some 42), .pick (.t 37) (.t 41) (.c (.bool false)), none, .write, 0⟩, ⟨(some 2), .move (.t 42), none, .write, 0⟩])
 .ret)
 (.exit 0)))))
 (.seq (.region [⟨(some 2), .move (.c (.bool false)), none, .write, 0⟩])
 .ret)))) }

theorem c95 : compFunc Try.prog Try.f95 .pure = some t95 := by kernel_rfl

def t96l0 : DCode :=
 (.seq (.region [⟨(some 9), .arith .lss (.t 8) (.t 7), none, .write, 0⟩])
 (.seq (.cond (.t 9) .skip (.exit 0))
 (.seq (.block 1 (.seq (.region [⟨(some 10), .move (.t 8), none, .write, 0⟩, ⟨(some 5), .move (.t 10), none, .write, 0⟩])
 (.seq (.region [⟨(some 11), .move (.t 1), none, .write, 0⟩, ⟨(some 12), .move (.t 0), none, .write, 0⟩, ⟨(some 13), .move (.t 5), none, .write, 0⟩, ⟨(some 14), .indexAddr 3 (.t 12) (.t 13), none, .write, 0⟩, ⟨(some 15), .load (some 3) (.t 14), none, .write, 0⟩, ⟨(some 16), .call (.t 11) [(.t 15)], none, .write, 0⟩])
 (.cond (.t 16) (.seq (.region [⟨(some 17), .move (.t 5), none, .write, 0⟩, ⟨(some 4), .move (.t 17), none, .write, 0⟩])
 .ret) .skip))))
 (.region [⟨(some 18), .arith .add (.t 8) (.c (.int .i64 1)), none, .write, 0⟩, ⟨(some 8), .move (.t 18), none, .write, 0⟩]))))

def t96k0 : DCode :=
 (.seq (.region [⟨(some 4), .move (.c (.int .i64 (-1))), none, .write, 0⟩])
 .ret)

/-- slices.IndexFunc[[]broadside/api.Own,broadside/api.Own] -/
def t96 : DFunc := { ntmps := 19, results := [(.t 4)], mode := .pure, body :=
 (.seq (.region [⟨(some 4), .move (.c (.int .i64 0)), none, .write, 0⟩])
 (.seq (.seq (.region [⟨(some 6), .move (.t 0), none, .write, 0⟩, ⟨(some 7), .len 1 (.t 6), none, .write, 0⟩, ⟨(some 8), .move (.c (.int .i64 0)), none, .write, 0⟩])
 (.block 0 (.loop t96l0)))
 t96k0)) }

theorem c96 : compFunc Try.prog Try.f96 .pure = some t96 := by kernel_rfl

end Go.Dm.Tc
