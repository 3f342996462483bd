/-
The table of functions, brought into the machine's form (TabB, part 3). Written by program (wip/tools/table.lean.txt).
-/
import Derived.Test.YtniceconboecgaaDm28
import Derived.Test.YtniceconboecgaaRows
import Derived.KernelRfl
namespace Go.Dm.TabB
open Go.Proofs

/-- slices.ContainsFunc[[]broadside/api.Entry,broadside/api.Entry] -/
def t70 : DFunc := { ntmps := 9, results := [(.t 4)], mode := .full, body :=
 (.seq (.region [⟨(some 4), .move (.c (.bool false)), none, .write, 0⟩])
 (.seq (.region [⟨(some 5), .move (.t 0), none, .write, 0⟩, ⟨(some 6), .move (.t 1), none, .write, 0⟩, ⟨(some 7), .call (.c (.func 106 [])) [(.t 5), (.t 6)], none, .write, 0⟩, ⟨(some 8), .arith .geq (.t 7) (.c (.int .i64 0)), none, .write, 0⟩, ⟨(some 4), .move (.t 8), none, .write, 0⟩])
 .ret)) }

theorem c70 : compFunc Try.prog Try.f70 .full = some t70 := by kernel_rfl

/-- broadside/adverts.Right$6 -/
def t71 : DFunc := { ntmps := 8, results := [(.t 3)], mode := .full, body :=
 (.seq (.region [⟨(some 2), .box 71 7 (.t 0), none, .write, 0⟩, ⟨(some 3), .move (.c (.bool false)), none, .write, 0⟩])
 (.seq (.region [⟨(some 4), .load (some 6) (.t 1), none, .write, 0⟩, ⟨(some 5), .load (some 7) (.t 2), none, .write, 0⟩, ⟨(some 6), .call (.c (.func 72 [])) [(.t 4), (.t 5)], none, .write, 0⟩, ⟨(some 7), .un .not (.t 6), none, .write, 0⟩, ⟨(some 3), .move (.t 7), none, .write, 0⟩])
 .ret)) }

theorem c71 : compFunc Try.prog Try.f71 .full = some t71 := by kernel_rfl

/-- broadside/adverts.rightEntry -/
def t72 : DFunc := { ntmps := 48, results := [(.t 4)], mode := .full, body :=
 (.seq (.region [⟨(some 2), .box 51 6 (.t 0), none, .write, 0⟩, ⟨(some 3), .box 71 7 (.t 1), none, .write, 0⟩, ⟨(some 4), .move (.c (.bool false)), none, .write, 0⟩])
 (.seq (.region [⟨(some 9), .load (some 6) (.t 2), none, .write, 0⟩, ⟨(some 10), .fieldAddr 0 (.t 3), none, .write, 0⟩, ⟨(some 11), .load (some 2) (.t 10), none, .write, 0⟩, ⟨(some 12), .call (.c (.func 28 [])) [(.t 9), (.t 11)], none, .write, 0⟩, ⟨(some 8), .move (.t 12), none, .write, 0⟩, ⟨(some 13), .extract (.t 8) 0, none, .write, 0⟩, ⟨(some 14), .extract (.t 8) 1, none, .write, 0⟩, ⟨(some 5), .alloc 45 4 (.agg [(.int .i64 0), (.int .i64 0), .nsl, (.int .i64 0)]), none, .write, 0⟩, ⟨none, .store 4 (.t 5) (.t 13), none, .write, 0⟩, ⟨(some 6), .move (.t 14), none, .write, 0⟩])
 (.seq (.region [⟨(some 15), .fieldAddr 3 (.t 5), none, .write, 0⟩, ⟨(some 16), .load none (.t 15), none, .write, 0⟩, ⟨(some 17), .arith .eql (.t 16) (.c (.int .i64 (-1))), none, .write, 0⟩, ⟨(some 7), .move (.t 17), none, .write, 0⟩])
 (.seq (.region [⟨(some 18), .move (.t 6), none, .write, 0⟩, ⟨(some 19), .move (.t 18), none, .write, 0⟩, ⟨(some 20), .load (some 6) (.t 2), (some (19, true)), .write, 0⟩, ⟨(some 21), .fieldAddr 5 (.t 3), (some (19, true)), .write, 0⟩, ⟨(some 22), .load none (.t 21), (some (19, true)), .write, 0⟩, ⟨(some 23), .call (.c (.func 68 [])) [(.t 20), (.t 22)], (some (19, true)), .write, 0⟩, ⟨(some 24), .pick (.t 19) (.t 23) (.c (.bool false)), none, .write, 0⟩, ⟨(some 25), .move (.t 24), none, .write, 0⟩, ⟨(some 26), .fieldAddr 5 (.t 3), (some (25, true)), .write, 0⟩, ⟨(some 27), .load none (.t 26), (some (25, true)), .write, 0⟩, ⟨(some 28), .fieldAddr 3 (.t 5), (some (25, true)), .write, 0⟩, ⟨(some 29), .load none (.t 28), (some (25, true)), .write, 0⟩, ⟨(some 30), .arith .neq (.t 27) (.t 29), (some (25, true)), .write, 0⟩, ⟨(some 31), .move (.t 30), (some (25, true)), .write, 0⟩, ⟨(some 32), .move (.t 7), (some (31, false)), .write, 0⟩, ⟨(some 33), .pick (.t 31) (.c (.bool true)) (.t 32), (some (25, true)), .write, 0⟩, ⟨(some 34), .pick (.t 25) (.t 33) (.c (.bool false)), none, .write, 0⟩, ⟨(some 35), .move (.t 34), none, .write, 0⟩, ⟨(some 36), .fieldAddr 6 (.t 3), (some (35, true)), .write, 0⟩, ⟨(some 37), .load none (.t 36), (some (35, true)), .write, 0⟩, ⟨(some 38), .move (.t 37), (some (35, true)), .write, 0⟩, ⟨(some 39), .move (.t 7), (some (38, true)), .write, 0⟩, ⟨(some 40), .pick (.t 38) (.t 39) (.c (.bool false)), (some (35, true)), .write, 0⟩, ⟨(some 41), .un .not (.t 40), (some (35, true)), .write, 0⟩, ⟨(some 42), .pick (.t 35) (.t 41) (.c (.bool false)), none, .write, 0⟩, ⟨(some 43), .move (.t 42), none, .write, 0⟩, ⟨(some 44), .fieldAddr 4 (.t 3), (some (43, true)), .write, 0⟩, ⟨(some 45), .load none (.t 44), (some (43, true)), .write, 0⟩, ⟨(some 46), .call (.c (.func 69 [])) [(.t 45)], (some (43, true)), .write, 0⟩, ⟨(some 47), .pick (.t 43) (.t 46) (.c (.bool false)), none, .write, 0⟩, ⟨(some 4), .move (.t 47), none, .write, 0⟩])
 .ret)))) }

theorem c72 : compFunc Try.prog Try.f72 .full = some t72 := by kernel_rfl

/-- slices.ContainsFunc[[]broadside/api.Own,broadside/api.Own] -/
def t73 : DFunc := { ntmps := 9, results := [(.t 4)], mode := .full, body :=
 (.seq (.region [⟨(some 4), .move (.c (.bool false)), none, .write, 0⟩])
 (.seq (.region [⟨(some 5), .move (.t 0), none, .write, 0⟩, ⟨(some 6), .move (.t 1), none, .write, 0⟩, ⟨(some 7), .call (.c (.func 110 [])) [(.t 5), (.t 6)], none, .write, 0⟩, ⟨(some 8), .arith .geq (.t 7) (.c (.int .i64 0)), none, .write, 0⟩, ⟨(some 4), .move (.t 8), none, .write, 0⟩])
 .ret)) }

theorem c73 : compFunc Try.prog Try.f73 .full = some t73 := by kernel_rfl

/-- broadside/adverts.Right$7 -/
def t74 : DFunc := { ntmps := 7, results := [(.t 2)], mode := .full, body :=
 (.seq (.region [⟨(some 1), .box 104 3 (.t 0), none, .write, 0⟩, ⟨(some 2), .move (.c (.bool false)), none, .write, 0⟩])
 (.seq (.region [⟨(some 3), .fieldAddr 2 (.t 1), none, .write, 0⟩, ⟨(some 4), .load none (.t 3), none, .write, 0⟩, ⟨(some 5), .call (.c (.func 69 [])) [(.t 4)], none, .write, 0⟩, ⟨(some 6), .un .not (.t 5), none, .write, 0⟩, ⟨(some 2), .move (.t 6), none, .write, 0⟩])
 .ret)) }

theorem c74 : compFunc Try.prog Try.f74 .full = some t74 := by kernel_rfl

/-- slices.Clone[[]broadside/api.Entry,broadside/api.Entry] -/
def t77 : DFunc := { ntmps := 8, results := [(.t 2)], mode := .full, body :=
 (.seq (.region [⟨(some 2), .move (.c .nsl), none, .write, 0⟩])
 (.seq (.seq (.region [⟨(some 3), .move (.t 0), none, .write, 0⟩, ⟨(some 4), .eqn 1 false (.t 3) (.c .nsl), none, .write, 0⟩])
 (.cond (.t 4) (.seq (.region [⟨(some 2), .move (.c .nsl), none, .write, 0⟩])
 .ret) .skip))
 (.seq (.region [⟨(some 5), .buildSlice 71 7 (.agg [(.int .i64 0), (.int .i64 0), (.int .i64 0), (.int .i64 0), .nsl, (.int .i64 0), (.bool false)]) 0 [], none, .write, 0⟩, ⟨(some 6), .move (.t 0), none, .write, 0⟩, ⟨(some 7), .append 71 7 72 (.t 5) (.t 6), none, .write, 0⟩, ⟨(some 2), .move (.t 7), none, .write, 0⟩])
 .ret))) }

theorem c77 : compFunc Try.prog Try.f77 .full = some t77 := by kernel_rfl

/-- slices.Index[[]int,int] -/
def t92 : DFunc := { ntmps := 19, results := [(.t 4)], mode := .full, body :=
 (.seq (.region [⟨(some 4), .move (.c (.int .i64 0)), none, .write, 0⟩])
 (.seq (.seq (.region [⟨(some 6), .move (.t 0), none, .write, 0⟩, ⟨(some 7), .len 1 (.t 6), none, .write, 0⟩, ⟨(some 8), .move (.c (.int .i64 0)), none, .write, 0⟩])
 (.block 0 (.loop (.seq (.region [⟨(some 9), .arith .lss (.t 8) (.t 7), none, .write, 0⟩])
 (.seq (.cond (.t 9) .skip (.exit 0))
 (.seq (.block 1 (.seq (.region [⟨(some 10), .move (.t 8), none, .write, 0⟩, ⟨(some 5), .move (.t 10), none, .write, 0⟩])
 (.seq (.region [⟨(some 11), .move (.t 1), none, .write, 0⟩, ⟨(some 12), .move (.t 0), none, .write, 0⟩, ⟨(some 13), .move (.t 5), none, .write, 0⟩, ⟨(some 14), .indexAddr 1 (.t 12) (.t 13), none, .write, 0⟩, ⟨(some 15), .load none (.t 14), none, .write, 0⟩, ⟨(some 16), .arith .eql (.t 11) (.t 15), none, .write, 0⟩])
 (.cond (.t 16) (.seq (.region [⟨(some 17), .move (.t 5), none, .write, 0⟩, ⟨(some 4), .move (.t 17), none, .write, 0⟩])
 .ret) .skip))))
 (.region [⟨(some 18), .arith .add (.t 8) (.c (.int .i64 1)), none, .write, 0⟩, ⟨(some 8), .move (.t 18), none, .write, 0⟩])))))))
 (.seq (.region [⟨(some 4), .move (.c (.int .i64 (-1))), none, .write, 0⟩])
 .ret))) }

theorem c92 : compFunc Try.prog Try.f92 .full = some t92 := by kernel_rfl

/-- slices.Clone[[]broadside/api.Advert,broadside/api.Advert] -/
def t94 : DFunc := { ntmps := 8, results := [(.t 2)], mode := .full, body :=
 (.seq (.region [⟨(some 2), .move (.c .nsl), none, .write, 0⟩])
 (.seq (.seq (.region [⟨(some 3), .move (.t 0), none, .write, 0⟩, ⟨(some 4), .eqn 1 false (.t 3) (.c .nsl), none, .write, 0⟩])
 (.cond (.t 4) (.seq (.region [⟨(some 2), .move (.c .nsl), none, .write, 0⟩])
 .ret) .skip))
 (.seq (.region [⟨(some 5), .buildSlice 45 4 (.agg [(.int .i64 0), (.int .i64 0), .nsl, (.int .i64 0)]) 0 [], none, .write, 0⟩, ⟨(some 6), .move (.t 0), none, .write, 0⟩, ⟨(some 7), .append 45 4 48 (.t 5) (.t 6), none, .write, 0⟩, ⟨(some 2), .move (.t 7), none, .write, 0⟩])
 .ret))) }

theorem c94 : compFunc Try.prog Try.f94 .full = some t94 := by kernel_rfl

/-- slices.Clone[[]broadside/api.ID,broadside/api.ID] -/
def t95 : DFunc := { ntmps := 8, results := [(.t 2)], mode := .full, body :=
 (.seq (.region [⟨(some 2), .move (.c .nsl), none, .write, 0⟩])
 (.seq (.seq (.region [⟨(some 3), .move (.t 0), none, .write, 0⟩, ⟨(some 4), .eqn 1 false (.t 3) (.c .nsl), none, .write, 0⟩])
 (.cond (.t 4) (.seq (.region [⟨(some 2), .move (.c .nsl), none, .write, 0⟩])
 .ret) .skip))
 (.seq (.region [⟨(some 5), .buildSlice 42 2 (.agg [(.int .i64 0), (.int .i64 0)]) 0 [], none, .write, 0⟩, ⟨(some 6), .move (.t 0), none, .write, 0⟩, ⟨(some 7), .append 42 2 16 (.t 5) (.t 6), none, .write, 0⟩, ⟨(some 2), .move (.t 7), none, .write, 0⟩])
 .ret))) }

theorem c95 : compFunc Try.prog Try.f95 .full = some t95 := by kernel_rfl

/-- slices.Clone[[]broadside/api.Own,broadside/api.Own] -/
def t96 : DFunc := { ntmps := 8, results := [(.t 2)], mode := .full, body :=
 (.seq (.region [⟨(some 2), .move (.c .nsl), none, .write, 0⟩])
 (.seq (.seq (.region [⟨(some 3), .move (.t 0), none, .write, 0⟩, ⟨(some 4), .eqn 1 false (.t 3) (.c .nsl), none, .write, 0⟩])
 (.cond (.t 4) (.seq (.region [⟨(some 2), .move (.c .nsl), none, .write, 0⟩])
 .ret) .skip))
 (.seq (.region [⟨(some 5), .buildSlice 104 3 (.agg [(.int .i64 0), (.int .i64 0), .nsl]) 0 [], none, .write, 0⟩, ⟨(some 6), .move (.t 0), none, .write, 0⟩, ⟨(some 7), .append 104 3 40 (.t 5) (.t 6), none, .write, 0⟩, ⟨(some 2), .move (.t 7), none, .write, 0⟩])
 .ret))) }

theorem c96 : compFunc Try.prog Try.f96 .full = some t96 := by kernel_rfl

/-- slices.BinarySearchFunc[[]broadside/api.ID,broadside/api.ID,broadside/api.ID] -/
def t97 : DFunc := { ntmps := 49, results := [(.t 6), (.t 7)], mode := .full, body :=
 (.seq (.region [⟨(some 4), .box 42 2 (.t 1), none, .write, 0⟩, ⟨(some 6), .move (.c (.int .i64 0)), none, .write, 0⟩, ⟨(some 7), .move (.c (.bool false)), none, .write, 0⟩])
 (.seq (.region [⟨(some 12), .move (.t 0), none, .write, 0⟩, ⟨(some 13), .len 1 (.t 12), none, .write, 0⟩, ⟨(some 8), .move (.t 13), none, .write, 0⟩])
 (.seq (.region [⟨(some 14), .move (.t 8), none, .write, 0⟩, ⟨(some 9), .move (.c (.int .i64 0)), none, .write, 0⟩, ⟨(some 10), .move (.t 14), none, .write, 0⟩])
 (.seq (.block 0 (.loop (.seq (.seq (.region [⟨(some 15), .move (.t 9), none, .write, 0⟩, ⟨(some 16), .move (.t 10), none, .write, 0⟩, ⟨(some 17), .arith .lss (.t 15) (.t 16), none, .write, 0⟩])
 (.cond (.t 17) .skip (.exit 0)))
 (.block 1 (.seq (.region [⟨(some 18), .move (.t 9), none, .write, 0⟩, ⟨(some 19), .move (.t 10), none, .write, 0⟩, ⟨(some 20), .arith .add (.t 18) (.t 19), none, .write, 0⟩, ⟨(some 21), .conv .u64 (.t 20), none, .write, 0⟩, ⟨(some 22), .arith .shr (.t 21) (.c (.int .u64 1)), none, .write, 0⟩, ⟨(some 23), .conv .i64 (.t 22), none, .write, 0⟩, ⟨(some 11), .move (.t 23), none, .write, 0⟩])
 (.seq (.draw [⟨(some 25), .move (.t 0), none, .read, 0⟩, ⟨(some 26), .move (.t 11), none, .read, 0⟩, ⟨(some 27), .indexAddr 2 (.t 25) (.t 26), none, .read, 0⟩, ⟨(some 28), .load (some 2) (.t 27), none, .read, 0⟩, ⟨(some 29), .load (some 2) (.t 4), none, .read, 0⟩, ⟨(some 24), .move (.t 2), none, .read, 0⟩, ⟨(some 30), .call (.t 24) [(.t 28), (.t 29)], none, .write, 0⟩, ⟨(some 31), .arith .lss (.t 30) (.c (.int .i64 0)), none, .read, 1⟩])
 (.cond (.t 31) (.region [⟨(some 32), .move (.t 11), none, .write, 0⟩, ⟨(some 33), .arith .add (.t 32) (.c (.int .i64 1)), none, .write, 0⟩, ⟨(some 9), .move (.t 33), none, .write, 0⟩]) (.region [⟨(some 34), .move (.t 11), none, .write, 0⟩, ⟨(some 10), .move (.t 34), none, .write, 0⟩]))))))))
 (.seq (.draw [⟨(some 36), .move (.t 9), none, .read, 0⟩, ⟨(some 37), .move (.t 8), none, .read, 0⟩, ⟨(some 38), .arith .lss (.t 36) (.t 37), none, .read, 0⟩, ⟨(some 39), .move (.t 38), none, .read, 0⟩, ⟨(some 41), .move (.t 0), (some (39, true)), .read, 0⟩, ⟨(some 42), .move (.t 9), (some (39, true)), .read, 0⟩, ⟨(some 43), .indexAddr 2 (.t 41) (.t 42), (some (39, true)), .read, 0⟩, ⟨(some 44), .load (some 2) (.t 43), (some (39, true)), .read, 0⟩, ⟨(some 45), .load (some 2) (.t 4), (some (39, true)), .read, 0⟩, ⟨(some 40), .move (.t 2), (some (39, true)), .read, 0⟩, ⟨(some 46), .call (.t 40) [(.t 44), (.t 45)], (some (39, true)), .write, 0⟩, ⟨(some 35), .move (.t 9), none, .read, 0⟩, ⟨(some 47), .arith .eql (.t 46) (.c (.int .i64 0)), (some (39, true)), .read, 1⟩, ⟨(some 48), .pick (.t 39) (.t 47) (.c (.bool false)), none, .read, 1⟩, ⟨(some 6), .move (.t 35), none, .read, 1⟩, ⟨(some 7), .move (.t 48), none, .read, 1⟩])
 .ret))))) }

theorem c97 : compFunc Try.prog Try.f97 .full = some t97 := by kernel_rfl

/-- slices.BinarySearchFunc[[]broadside/api.Advert,broadside/api.Advert,broadside/api.ID] -/
def t98 : DFunc := { ntmps := 49, results := [(.t 6), (.t 7)], mode := .full, body :=
 (.seq (.region [⟨(some 4), .box 42 2 (.t 1), none, .write, 0⟩, ⟨(some 6), .move (.c (.int .i64 0)), none, .write, 0⟩, ⟨(some 7), .move (.c (.bool false)), none, .write, 0⟩])
 (.seq (.region [⟨(some 12), .move (.t 0), none, .write, 0⟩, ⟨(some 13), .len 1 (.t 12), none, .write, 0⟩, ⟨(some 8), .move (.t 13), none, .write, 0⟩])
 (.seq (.region [⟨(some 14), .move (.t 8), none, .write, 0⟩, ⟨(some 9), .move (.c (.int .i64 0)), none, .write, 0⟩, ⟨(some 10), .move (.t 14), none, .write, 0⟩])
 (.seq (.block 0 (.loop (.seq (.seq (.region [⟨(some 15), .move (.t 9), none, .write, 0⟩, ⟨(some 16), .move (.t 10), none, .write, 0⟩, ⟨(some 17), .arith .lss (.t 15) (.t 16), none, .write, 0⟩])
 (.cond (.t 17) .skip (.exit 0)))
 (.block 1 (.seq (.region [⟨(some 18), .move (.t 9), none, .write, 0⟩, ⟨(some 19), .move (.t 10), none, .write, 0⟩, ⟨(some 20), .arith .add (.t 18) (.t 19), none, .write, 0⟩, ⟨(some 21), .conv .u64 (.t 20), none, .write, 0⟩, ⟨(some 22), .arith .shr (.t 21) (.c (.int .u64 1)), none, .write, 0⟩, ⟨(some 23), .conv .i64 (.t 22), none, .write, 0⟩, ⟨(some 11), .move (.t 23), none, .write, 0⟩])
 (.seq (.draw [⟨(some 25), .move (.t 0), none, .read, 0⟩, ⟨(some 26), .move (.t 11), none, .read, 0⟩, ⟨(some 27), .indexAddr 4 (.t 25) (.t 26), none, .read, 0⟩, ⟨(some 28), .load (some 4) (.t 27), none, .read, 0⟩, ⟨(some 29), .load (some 2) (.t 4), none, .read, 0⟩, ⟨(some 24), .move (.t 2), none, .read, 0⟩, ⟨(some 30), .call (.t 24) [(.t 28), (.t 29)], none, .write, 0⟩, ⟨(some 31), .arith .lss (.t 30) (.c (.int .i64 0)), none, .read, 1⟩])
 (.cond (.t 31) (.region [⟨(some 32), .move (.t 11), none, .write, 0⟩, ⟨(some 33), .arith .add (.t 32) (.c (.int .i64 1)), none, .write, 0⟩, ⟨(some 9), .move (.t 33), none, .write, 0⟩]) (.region [⟨(some 34), .move (.t 11), none, .write, 0⟩, ⟨(some 10), .move (.t 34), none, .write, 0⟩]))))))))
 (.seq (.draw [⟨(some 36), .move (.t 9), none, .read, 0⟩, ⟨(some 37), .move (.t 8), none, .read, 0⟩, ⟨(some 38), .arith .lss (.t 36) (.t 37), none, .read, 0⟩, ⟨(some 39), .move (.t 38), none, .read, 0⟩, ⟨(some 41), .move (.t 0), (some (39, true)), .read, 0⟩, ⟨(some 42), .move (.t 9), (some (39, true)), .read, 0⟩, ⟨(some 43), .indexAddr 4 (.t 41) (.t 42), (some (39, true)), .read, 0⟩, ⟨(some 44), .load (some 4) (.t 43), (some (39, true)), .read, 0⟩, ⟨(some 45), .load (some 2) (.t 4), (some (39, true)), .read, 0⟩, ⟨(some 40), .move (.t 2), (some (39, true)), .read, 0⟩, ⟨(some 46), .call (.t 40) [(.t 44), (.t 45)], (some (39, true)), .write, 0⟩, ⟨(some 35), .move (.t 9), none, .read, 0⟩, ⟨(some 47), .arith .eql (.t 46) (.c (.int .i64 0)), (some (39, true)), .read, 1⟩, ⟨(some 48), .pick (.t 39) (.t 47) (.c (.bool false)), none, .read, 1⟩, ⟨(some 6), .move (.t 35), none, .read, 1⟩, ⟨(some 7), .move (.t 48), none, .read, 1⟩])
 .ret))))) }

theorem c98 : compFunc Try.prog Try.f98 .full = some t98 := by kernel_rfl

end Go.Dm.TabB
