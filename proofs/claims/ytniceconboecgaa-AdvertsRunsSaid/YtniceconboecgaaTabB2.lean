/-
The table of functions, brought into the machine's form (TabB, part 2). Written by program (wip/tools/table.lean.txt).
-/
import Derived.Test.YtniceconboecgaaDm28
import Derived.Test.YtniceconboecgaaRows
import Derived.KernelRfl
namespace Go.Dm.TabB
open Go.Proofs

/-- broadside/adverts.rises[broadside/api.Advert] -/
def t58 : DFunc := { ntmps := 24, results := [(.t 4)], mode := .full, body :=
 (.seq (.region [⟨(some 4), .move (.c (.bool false)), none, .write, 0⟩])
 (.seq (.seq (.region [⟨(some 5), .move (.c (.int .i64 1)), none, .write, 0⟩])
 (.block 0 (.loop (.seq (.seq (.region [⟨(some 6), .move (.t 5), none, .write, 0⟩, ⟨(some 7), .move (.t 0), none, .write, 0⟩, ⟨(some 8), .len 1 (.t 7), none, .write, 0⟩, ⟨(some 9), .arith .lss (.t 6) (.t 8), none, .write, 0⟩])
 (.cond (.t 9) .skip (.exit 0)))
 (.seq (.block 1 (.seq (.draw [⟨(some 13), .move (.t 0), none, .read, 0⟩, ⟨(some 14), .move (.t 5), none, .read, 0⟩, ⟨(some 15), .arith .sub (.t 14) (.c (.int .i64 1)), none, .read, 0⟩, ⟨(some 16), .indexAddr 4 (.t 13) (.t 15), none, .read, 0⟩, ⟨(some 17), .load (some 4) (.t 16), none, .read, 0⟩, ⟨(some 18), .move (.t 0), none, .read, 0⟩, ⟨(some 19), .move (.t 5), none, .read, 0⟩, ⟨(some 20), .indexAddr 4 (.t 18) (.t 19), none, .read, 0⟩, ⟨(some 21), .load (some 4) (.t 20), none, .read, 0⟩, ⟨(some 12), .move (.t 1), none, .read, 0⟩, ⟨(some 22), .call (.t 12) [(.t 17), (.t 21)], none, .write, 0⟩, ⟨(some 23), .un .not (.t 22), none, .read, 1⟩])
 (.cond (.t 23) (.seq (.region [⟨(some 4), .move (.c (.bool false)), none, .write, 0⟩])
 .ret) .skip)))
 (.region [⟨(some 10), .move (.t 5), none, .write, 0⟩, ⟨(some 11), .arith .add (.t 10) (.c (.int .i64 1)), none, .write, 0⟩, ⟨(some 5), .move (.t 11), none, .write, 0⟩]))))))
 (.seq (.region [⟨(some 4), .move (.c (.bool true)), none, .write, 0⟩])
 .ret))) }

theorem c58 : compFunc Try.prog Try.f58 .full = some t58 := by kernel_rfl

/-- broadside/adverts.Right$2 -/
def t59 : DFunc := { ntmps := 10, results := [(.t 4)], mode := .full, body :=
 (.seq (.region [⟨(some 2), .box 45 4 (.t 0), none, .write, 0⟩, ⟨(some 3), .box 45 4 (.t 1), none, .write, 0⟩, ⟨(some 4), .move (.c (.bool false)), none, .write, 0⟩])
 (.seq (.region [⟨(some 5), .fieldAddr 0 (.t 2), none, .write, 0⟩, ⟨(some 6), .load (some 2) (.t 5), none, .write, 0⟩, ⟨(some 7), .fieldAddr 0 (.t 3), none, .write, 0⟩, ⟨(some 8), .load (some 2) (.t 7), none, .write, 0⟩, ⟨(some 9), .call (.c (.func 29 [])) [(.t 6), (.t 8)], none, .write, 0⟩, ⟨(some 4), .move (.t 9), none, .write, 0⟩])
 .ret)) }

theorem c59 : compFunc Try.prog Try.f59 .full = some t59 := by kernel_rfl

/-- broadside/adverts.rises[broadside/api.Own] -/
def t60 : DFunc := { ntmps := 24, results := [(.t 4)], mode := .full, body :=
 (.seq (.region [⟨(some 4), .move (.c (.bool false)), none, .write, 0⟩])
 (.seq (.seq (.region [⟨(some 5), .move (.c (.int .i64 1)), none, .write, 0⟩])
 (.block 0 (.loop (.seq (.seq (.region [⟨(some 6), .move (.t 5), none, .write, 0⟩, ⟨(some 7), .move (.t 0), none, .write, 0⟩, ⟨(some 8), .len 1 (.t 7), none, .write, 0⟩, ⟨(some 9), .arith .lss (.t 6) (.t 8), none, .write, 0⟩])
 (.cond (.t 9) .skip (.exit 0)))
 (.seq (.block 1 (.seq (.draw [⟨(some 13), .move (.t 0), none, .read, 0⟩, ⟨(some 14), .move (.t 5), none, .read, 0⟩, ⟨(some 15), .arith .sub (.t 14) (.c (.int .i64 1)), none, .read, 0⟩, ⟨(some 16), .indexAddr 3 (.t 13) (.t 15), none, .read, 0⟩, ⟨(some 17), .load (some 3) (.t 16), none, .read, 0⟩, ⟨(some 18), .move (.t 0), none, .read, 0⟩, ⟨(some 19), .move (.t 5), none, .read, 0⟩, ⟨(some 20), .indexAddr 3 (.t 18) (.t 19), none, .read, 0⟩, ⟨(some 21), .load (some 3) (.t 20), none, .read, 0⟩, ⟨(some 12), .move (.t 1), none, .read, 0⟩, ⟨(some 22), .call (.t 12) [(.t 17), (.t 21)], none, .write, 0⟩, ⟨(some 23), .un .not (.t 22), none, .read, 1⟩])
 (.cond (.t 23) (.seq (.region [⟨(some 4), .move (.c (.bool false)), none, .write, 0⟩])
 .ret) .skip)))
 (.region [⟨(some 10), .move (.t 5), none, .write, 0⟩, ⟨(some 11), .arith .add (.t 10) (.c (.int .i64 1)), none, .write, 0⟩, ⟨(some 5), .move (.t 11), none, .write, 0⟩]))))))
 (.seq (.region [⟨(some 4), .move (.c (.bool true)), none, .write, 0⟩])
 .ret))) }

theorem c60 : compFunc Try.prog Try.f60 .full = some t60 := by kernel_rfl

/-- broadside/adverts.Right$3 -/
def t61 : DFunc := { ntmps := 10, results := [(.t 4)], mode := .full, body :=
 (.seq (.region [⟨(some 2), .box 104 3 (.t 0), none, .write, 0⟩, ⟨(some 3), .box 104 3 (.t 1), none, .write, 0⟩, ⟨(some 4), .move (.c (.bool false)), none, .write, 0⟩])
 (.seq (.region [⟨(some 5), .fieldAddr 0 (.t 2), none, .write, 0⟩, ⟨(some 6), .load (some 2) (.t 5), none, .write, 0⟩, ⟨(some 7), .fieldAddr 0 (.t 3), none, .write, 0⟩, ⟨(some 8), .load (some 2) (.t 7), none, .write, 0⟩, ⟨(some 9), .call (.c (.func 29 [])) [(.t 6), (.t 8)], none, .write, 0⟩, ⟨(some 4), .move (.t 9), none, .write, 0⟩])
 .ret)) }

theorem c61 : compFunc Try.prog Try.f61 .full = some t61 := by kernel_rfl

/-- broadside/adverts.rises[broadside/api.Entry] -/
def t62 : DFunc := { ntmps := 24, results := [(.t 4)], mode := .full, body :=
 (.seq (.region [⟨(some 4), .move (.c (.bool false)), none, .write, 0⟩])
 (.seq (.seq (.region [⟨(some 5), .move (.c (.int .i64 1)), none, .write, 0⟩])
 (.block 0 (.loop (.seq (.seq (.region [⟨(some 6), .move (.t 5), none, .write, 0⟩, ⟨(some 7), .move (.t 0), none, .write, 0⟩, ⟨(some 8), .len 1 (.t 7), none, .write, 0⟩, ⟨(some 9), .arith .lss (.t 6) (.t 8), none, .write, 0⟩])
 (.cond (.t 9) .skip (.exit 0)))
 (.seq (.block 1 (.seq (.draw [⟨(some 13), .move (.t 0), none, .read, 0⟩, ⟨(some 14), .move (.t 5), none, .read, 0⟩, ⟨(some 15), .arith .sub (.t 14) (.c (.int .i64 1)), none, .read, 0⟩, ⟨(some 16), .indexAddr 7 (.t 13) (.t 15), none, .read, 0⟩, ⟨(some 17), .load (some 7) (.t 16), none, .read, 0⟩, ⟨(some 18), .move (.t 0), none, .read, 0⟩, ⟨(some 19), .move (.t 5), none, .read, 0⟩, ⟨(some 20), .indexAddr 7 (.t 18) (.t 19), none, .read, 0⟩, ⟨(some 21), .load (some 7) (.t 20), none, .read, 0⟩, ⟨(some 12), .move (.t 1), none, .read, 0⟩, ⟨(some 22), .call (.t 12) [(.t 17), (.t 21)], none, .write, 0⟩, ⟨(some 23), .un .not (.t 22), none, .read, 1⟩])
 (.cond (.t 23) (.seq (.region [⟨(some 4), .move (.c (.bool false)), none, .write, 0⟩])
 .ret) .skip)))
 (.region [⟨(some 10), .move (.t 5), none, .write, 0⟩, ⟨(some 11), .arith .add (.t 10) (.c (.int .i64 1)), none, .write, 0⟩, ⟨(some 5), .move (.t 11), none, .write, 0⟩]))))))
 (.seq (.region [⟨(some 4), .move (.c (.bool true)), none, .write, 0⟩])
 .ret))) }

theorem c62 : compFunc Try.prog Try.f62 .full = some t62 := by kernel_rfl

/-- broadside/adverts.Right$4 -/
def t63 : DFunc := { ntmps := 18, results := [(.t 4)], mode := .full, body :=
 (.seq (.region [⟨(some 2), .box 71 7 (.t 0), none, .write, 0⟩, ⟨(some 3), .box 71 7 (.t 1), none, .write, 0⟩, ⟨(some 4), .move (.c (.bool false)), none, .write, 0⟩])
 (.seq (.draw [⟨(some 5), .fieldAddr 0 (.t 2), none, .read, 0⟩, ⟨(some 6), .load (some 2) (.t 5), none, .read, 0⟩, ⟨(some 7), .fieldAddr 0 (.t 3), none, .read, 0⟩, ⟨(some 8), .load (some 2) (.t 7), none, .read, 0⟩, ⟨(some 9), .call (.c (.func 65 [])) [(.t 6), (.t 8)], none, .create, 0⟩, ⟨(some 10), .fieldAddr 2 (.t 2), none, .read, 0⟩, ⟨(some 11), .load (some 2) (.t 10), none, .read, 0⟩, ⟨(some 12), .fieldAddr 2 (.t 3), none, .read, 0⟩, ⟨(some 13), .load (some 2) (.t 12), none, .read, 0⟩, ⟨(some 14), .call (.c (.func 65 [])) [(.t 11), (.t 13)], none, .write, 1⟩, ⟨(some 15), .buildSlice 3 1 (.int .i64 0) 2 [(0, (.t 9)), (1, (.t 14))], none, .write, 2⟩, ⟨(some 16), .call (.c (.func 64 [])) [(.t 15)], none, .write, 3⟩, ⟨(some 17), .arith .lss (.t 16) (.c (.int .i64 0)), none, .read, 4⟩, ⟨(some 4), .move (.t 17), none, .read, 4⟩])
 .ret)) }

theorem c63 : compFunc Try.prog Try.f63 .full = some t63 := by kernel_rfl

/-- cmp.Or[int] -/
def t64 : DFunc := { ntmps := 18, results := [(.t 2)], mode := .full, body :=
 (.seq (.region [⟨(some 2), .move (.c (.int .i64 0)), none, .write, 0⟩])
 (.seq (.region [⟨(some 3), .move (.c (.int .i64 0)), none, .write, 0⟩])
 (.seq (.seq (.region [⟨(some 6), .move (.t 0), none, .write, 0⟩, ⟨(some 7), .len 1 (.t 6), none, .write, 0⟩, ⟨(some 8), .move (.c (.int .i64 0)), none, .write, 0⟩])
 (.block 0 (.loop (.seq (.region [⟨(some 9), .arith .lss (.t 8) (.t 7), none, .write, 0⟩])
 (.seq (.cond (.t 9) .skip (.exit 0))
 (.seq (.block 1 (.seq (.region [⟨(some 10), .indexAddr 1 (.t 6) (.t 8), none, .write, 0⟩, ⟨(some 11), .load none (.t 10), none, .write, 0⟩, ⟨(some 5), .move (.t 11), none, .write, 0⟩])
 (.seq (.region [⟨(some 12), .move (.t 5), none, .write, 0⟩, ⟨(some 13), .move (.t 3), none, .write, 0⟩, ⟨(some 14), .arith .neq (.t 12) (.t 13), none, .write, 0⟩])
 (.cond (.t 14) (.seq (.region [⟨(some 15), .move (.t 5), none, .write, 0⟩, ⟨(some 2), .move (.t 15), none, .write, 0⟩])
 .ret) .skip))))
 (.region [⟨(some 16), .arith .add (.t 8) (.c (.int .i64 1)), none, .write, 0⟩, ⟨(some 8), .move (.t 16), none, .write, 0⟩])))))))
 (.seq (.region [⟨(some 17), .move (.t 3), none, .write, 0⟩, ⟨(some 2), .move (.t 17), none, .write, 0⟩])
 .ret)))) }

theorem c64 : compFunc Try.prog Try.f64 .full = some t64 := by kernel_rfl

/-- broadside/adverts.compare -/
def t65 : DFunc := { ntmps := 17, results := [(.t 4)], mode := .full, body :=
 (.seq (.region [⟨(some 2), .box 42 2 (.t 0), none, .write, 0⟩, ⟨(some 3), .box 42 2 (.t 1), none, .write, 0⟩, ⟨(some 4), .move (.c (.int .i64 0)), none, .write, 0⟩])
 (.seq (.draw [⟨(some 5), .fieldAddr 0 (.t 2), none, .read, 0⟩, ⟨(some 6), .load none (.t 5), none, .read, 0⟩, ⟨(some 7), .fieldAddr 0 (.t 3), none, .read, 0⟩, ⟨(some 8), .load none (.t 7), none, .read, 0⟩, ⟨(some 9), .call (.c (.func 107 [])) [(.t 6), (.t 8)], none, .create, 0⟩, ⟨(some 10), .fieldAddr 1 (.t 2), none, .read, 0⟩, ⟨(some 11), .load none (.t 10), none, .read, 0⟩, ⟨(some 12), .fieldAddr 1 (.t 3), none, .read, 0⟩, ⟨(some 13), .load none (.t 12), none, .read, 0⟩, ⟨(some 14), .call (.c (.func 107 [])) [(.t 11), (.t 13)], none, .write, 1⟩, ⟨(some 15), .buildSlice 3 1 (.int .i64 0) 2 [(0, (.t 9)), (1, (.t 14))], none, .write, 2⟩, ⟨(some 16), .call (.c (.func 64 [])) [(.t 15)], none, .write, 3⟩, ⟨(some 4), .move (.t 16), none, .read, 4⟩])
 .ret)) }

theorem c65 : compFunc Try.prog Try.f65 .full = some t65 := by kernel_rfl

/-- slices.ContainsFunc[[]broadside/api.Advert,broadside/api.Advert] -/
def t66 : DFunc := { ntmps := 9, results := [(.t 4)], mode := .full, body :=
 (.seq (.region [⟨(some 4), .move (.c (.bool false)), none, .write, 0⟩])
 (.seq (.region [⟨(some 5), .move (.t 0), none, .write, 0⟩, ⟨(some 6), .move (.t 1), none, .write, 0⟩, ⟨(some 7), .call (.c (.func 108 [])) [(.t 5), (.t 6)], none, .write, 0⟩, ⟨(some 8), .arith .geq (.t 7) (.c (.int .i64 0)), none, .write, 0⟩, ⟨(some 4), .move (.t 8), none, .write, 0⟩])
 .ret)) }

theorem c66 : compFunc Try.prog Try.f66 .full = some t66 := by kernel_rfl

/-- broadside/adverts.Right$5 -/
def t67 : DFunc := { ntmps := 22, results := [(.t 3)], mode := .full, body :=
 (.seq (.region [⟨(some 2), .box 45 4 (.t 0), none, .write, 0⟩, ⟨(some 3), .move (.c (.bool false)), none, .write, 0⟩])
 (.seq (.region [⟨(some 4), .load (some 6) (.t 1), none, .write, 0⟩, ⟨(some 5), .fieldAddr 0 (.t 2), none, .write, 0⟩, ⟨(some 6), .load (some 2) (.t 5), none, .write, 0⟩, ⟨(some 7), .call (.c (.func 25 [])) [(.t 4), (.t 6)], none, .write, 0⟩, ⟨(some 8), .un .not (.t 7), none, .write, 0⟩, ⟨(some 9), .move (.t 8), none, .write, 0⟩, ⟨(some 10), .load (some 6) (.t 1), (some (9, false)), .write, 0⟩, ⟨(some 11), .fieldAddr 3 (.t 2), (some (9, false)), .write, 0⟩, ⟨(some 12), .load none (.t 11), (some (9, false)), .write, 0⟩, ⟨(some 13), .call (.c (.func 68 [])) [(.t 10), (.t 12)], (some (9, false)), .write, 0⟩, ⟨(some 14), .un .not (.t 13), (some (9, false)), .write, 0⟩, ⟨(some 15), .pick (.t 9) (.c (.bool true)) (.t 14), none, .write, 0⟩, ⟨(some 16), .move (.t 15), none, .write, 0⟩, ⟨(some 17), .fieldAddr 2 (.t 2), (some (16, false)), .write, 0⟩, ⟨(some 18), .load none (.t 17), (some (16, false)), .write, 0⟩, ⟨(some 19), .call (.c (.func 69 [])) [(.t 18)], (some (16, false)), .write, 0⟩, ⟨(some 20), .un .not (.t 19), (some (16, false)), .write, 0⟩, ⟨(some 21), .pick (.t 16) (.c (.bool true)) (.t 20), none, .write, 0⟩, ⟨(some 3), .move (.t 21), none, .write, 0⟩])
 .ret)) }

theorem c67 : compFunc Try.prog Try.f67 .full = some t67 := by kernel_rfl

/-- broadside/adverts.link -/
def t68 : DFunc := { ntmps := 13, results := [(.t 4)], mode := .full, body :=
 (.seq (.region [⟨(some 2), .box 51 6 (.t 0), none, .write, 0⟩, ⟨(some 4), .move (.c (.bool false)), none, .write, 0⟩])
 (.seq (.region [⟨(some 5), .move (.t 1), none, .write, 0⟩, ⟨(some 6), .arith .eql (.t 5) (.c (.int .i64 (-1))), none, .write, 0⟩, ⟨(some 7), .move (.t 6), none, .write, 0⟩, ⟨(some 8), .fieldAddr 1 (.t 2), (some (7, false)), .write, 0⟩, ⟨(some 9), .load none (.t 8), (some (7, false)), .write, 0⟩, ⟨(some 10), .move (.t 1), (some (7, false)), .write, 0⟩, ⟨(some 11), .call (.c (.func 40 [])) [(.t 9), (.t 10)], (some (7, false)), .write, 0⟩, ⟨(some 12), .pick (.t 7) (.c (.bool true)) (.t 11), none, .write, 0⟩, ⟨(some 4), .move (.t 12), none, .write, 0⟩])
 .ret)) }

theorem c68 : compFunc Try.prog Try.f68 .full = some t68 := by kernel_rfl

/-- broadside/pred.Right -/
def t69 : DFunc := { ntmps := 34, results := [(.t 2)], mode := .full, body :=
 (.seq (.region [⟨(some 2), .move (.c (.bool false)), none, .write, 0⟩])
 (.seq (.seq (.region [⟨(some 5), .move (.t 0), none, .write, 0⟩, ⟨(some 6), .len 1 (.t 5), none, .write, 0⟩, ⟨(some 7), .move (.c (.int .i64 0)), none, .write, 0⟩])
 (.block 0 (.loop (.seq (.region [⟨(some 8), .arith .lss (.t 7) (.t 6), none, .write, 0⟩])
 (.seq (.cond (.t 8) .skip (.exit 0))
 (.seq (.block 1 (.seq (.region [⟨(some 9), .move (.t 7), none, .write, 0⟩, ⟨(some 10), .indexAddr 5 (.t 5) (.t 7), none, .write, 0⟩, ⟨(some 11), .load (some 5) (.t 10), none, .write, 0⟩, ⟨(some 4), .alloc 67 5 (.agg [(.str []), (.int .i64 0), (.int .i64 0), (.int .i64 0), (.str [])]), none, .write, 0⟩, ⟨(some 3), .move (.t 9), none, .write, 0⟩, ⟨none, .store 5 (.t 4) (.t 11), none, .write, 0⟩])
 (.seq (.draw [⟨(some 12), .load (some 5) (.t 4), none, .read, 0⟩, ⟨(some 13), .call (.c (.func 109 [])) [(.t 12)], none, .write, 0⟩, ⟨(some 14), .un .not (.t 13), none, .read, 1⟩, ⟨(some 15), .move (.t 14), none, .read, 1⟩, ⟨(some 16), .move (.t 3), (some (15, false)), .read, 1⟩, ⟨(some 17), .arith .gtr (.t 16) (.c (.int .i64 0)), (some (15, false)), .read, 1⟩, ⟨(some 18), .move (.t 17), (some (15, false)), .read, 1⟩, ⟨(some 19), .move (.t 0), (some (18, true)), .read, 1⟩, ⟨(some 20), .move (.t 3), (some (18, true)), .read, 1⟩, ⟨(some 21), .arith .sub (.t 20) (.c (.int .i64 1)), (some (18, true)), .read, 1⟩, ⟨(some 22), .indexAddr 5 (.t 19) (.t 21), (some (18, true)), .read, 1⟩, ⟨(some 23), .fieldAddr 0 (.t 22), (some (18, true)), .read, 1⟩, ⟨(some 24), .load none (.t 23), (some (18, true)), .read, 1⟩, ⟨(some 25), .fieldAddr 0 (.t 4), (some (18, true)), .read, 1⟩, ⟨(some 26), .load none (.t 25), (some (18, true)), .read, 1⟩, ⟨(some 27), .arith .geq (.t 24) (.t 26), (some (18, true)), .read, 1⟩, ⟨(some 28), .pick (.t 18) (.t 27) (.c (.bool false)), (some (15, false)), .read, 1⟩, ⟨(some 29), .pick (.t 15) (.c (.bool true)) (.t 28), none, .read, 1⟩])
 (.cond (.t 29) (.seq (.region [⟨(some 2), .move (.c (.bool false)), none, .write, 0⟩])
 .ret) .skip))))
 (.region [⟨(some 30), .arith .add (.t 7) (.c (.int .i64 1)), none, .write, 0⟩, ⟨(some 7), .move (.t 30), none, .write, 0⟩])))))))
 (.seq (.region [⟨(some 31), .move (.t 0), none, .write, 0⟩, ⟨(some 32), .len 1 (.t 31), none, .write, 0⟩, ⟨(some 33), .arith .leq (.t 32) (.c (.int .i64 5)), none, .write, 0⟩, ⟨(some 2), .move (.t 33), none, .write, 0⟩])
 .ret))) }

theorem c69 : compFunc Try.prog Try.f69 .full = some t69 := by kernel_rfl

end Go.Dm.TabB
