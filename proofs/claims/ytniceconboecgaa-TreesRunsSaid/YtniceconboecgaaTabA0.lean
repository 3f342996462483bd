/-
The table of functions, brought into the machine's form (TabA, part 0). Written by program (wip/tools/table.lean.txt).
-/
import Derived.Test.YtniceconboecgaaDm28
import Derived.Test.YtniceconboecgaaRows
import Derived.KernelRfl
namespace Go.Dm.TabA
open Go.Proofs

/-- broadside/broadsidelaw21.TreesRuns -/
def t3 : DFunc := { ntmps := 32, results := [(.t 0)], mode := .full, body :=
 (.seq (.region [⟨(some 0), .move (.c (.bool false)), none, .write, 0⟩])
 (.seq (.region [⟨(some 2), .buildSlice 3 1 (.int .i64 0) 3 [(0, (.c (.int .i64 (-1)))), (1, (.c (.int .i64 0))), (2, (.c (.int .i64 1)))], none, .write, 0⟩, ⟨(some 1), .move (.t 2), none, .write, 0⟩])
 (.seq (.region [⟨(some 3), .move (.t 1), none, .write, 0⟩, ⟨(some 4), .call (.c (.func 13 [])) [(.t 3), (.c (.int .i64 2))], none, .write, 0⟩, ⟨(some 5), .buildSlice 3 1 (.int .i64 0) 3 [(0, (.c (.int .i64 2))), (1, (.c (.int .i64 1))), (2, (.c (.int .i64 0)))], none, .write, 0⟩, ⟨(some 6), .call (.c (.func 12 [])) [(.t 4), (.t 5)], none, .write, 0⟩, ⟨(some 7), .move (.t 6), none, .write, 0⟩, ⟨(some 8), .move (.t 1), (some (7, true)), .write, 0⟩, ⟨(some 9), .call (.c (.func 14 [])) [(.t 8), (.c (.int .i64 2))], (some (7, true)), .write, 0⟩, ⟨(some 10), .arith .eql (.t 9) (.c (.int .i64 2)), (some (7, true)), .write, 0⟩, ⟨(some 11), .pick (.t 7) (.t 10) (.c (.bool false)), none, .write, 0⟩, ⟨(some 12), .move (.t 11), none, .write, 0⟩, ⟨(some 13), .move (.t 1), (some (12, true)), .write, 0⟩, ⟨(some 14), .call (.c (.func 15 [])) [(.t 13), (.c (.int .i64 1))], (some (12, true)), .write, 0⟩, ⟨(some 15), .buildSlice 3 1 (.int .i64 0) 2 [(0, (.c (.int .i64 1))), (1, (.c (.int .i64 2)))], (some (12, true)), .write, 0⟩, ⟨(some 16), .call (.c (.func 12 [])) [(.t 14), (.t 15)], (some (12, true)), .write, 0⟩, ⟨(some 17), .pick (.t 12) (.t 16) (.c (.bool false)), none, .write, 0⟩, ⟨(some 18), .move (.t 17), none, .write, 0⟩, ⟨(some 19), .build [(.int .i64 0), (.int .i64 0)] [(0, 1, (.c (.int .i64 0))), (1, 1, (.c (.int .i64 1)))], (some (18, true)), .write, 0⟩, ⟨(some 20), .build [(.int .i64 0), (.int .i64 0)] [(0, 1, (.c (.int .i64 1))), (1, 1, (.c (.int .i64 2)))], (some (18, true)), .write, 0⟩, ⟨(some 21), .buildSlice 27 2 (.agg [(.int .i64 0), (.int .i64 0)]) 2 [(0, (.t 19)), (1, (.t 20))], (some (18, true)), .write, 0⟩, ⟨(some 22), .build [(.int .i64 0), .nsl] [(0, 1, (.c (.int .i64 3))), (1, 1, (.t 21))], (some (18, true)), .write, 0⟩, ⟨(some 23), .move (.t 1), (some (18, true)), .write, 0⟩, ⟨(some 24), .call (.c (.func 16 [])) [(.t 22), (.t 23)], (some (18, true)), .write, 0⟩, ⟨(some 25), .pick (.t 18) (.t 24) (.c (.bool false)), none, .write, 0⟩, ⟨(some 26), .move (.t 25), none, .write, 0⟩, ⟨(some 27), .buildSlice 3 1 (.int .i64 0) 2 [(0, (.c (.int .i64 1))), (1, (.c (.int .i64 0)))], (some (26, true)), .write, 0⟩, ⟨(some 28), .call (.c (.func 13 [])) [(.t 27), (.c (.int .i64 0))], (some (26, true)), .write, 0⟩, ⟨(some 29), .len 1 (.t 28), (some (26, true)), .write, 0⟩, ⟨(some 30), .arith .eql (.t 29) (.c (.int .i64 0)), (some (26, true)), .write, 0⟩, ⟨(some 31), .pick (.t 26) (.t 30) (.c (.bool false)), none, .write, 0⟩, ⟨(some 0), .move (.t 31), none, .write, 0⟩])
 .ret))) }

theorem c3 : compFunc Try.prog Try.f3 .full = some t3 := by kernel_rfl

/-- broadside/broadsidebook.Same[int] -/
def t12 : DFunc := { ntmps := 26, results := [(.t 4)], mode := .full, body :=
 (.seq (.region [⟨(some 4), .move (.c (.bool false)), none, .write, 0⟩])
 (.seq (.seq (.region [⟨(some 6), .move (.t 0), none, .write, 0⟩, ⟨(some 7), .len 1 (.t 6), none, .write, 0⟩, ⟨(some 8), .move (.t 1), none, .write, 0⟩, ⟨(some 9), .len 1 (.t 8), none, .write, 0⟩, ⟨(some 10), .arith .neq (.t 7) (.t 9), none, .write, 0⟩])
 (.cond (.t 10) (.seq (.region [⟨(some 4), .move (.c (.bool false)), none, .write, 0⟩])
 .ret) .skip))
 (.seq (.seq (.region [⟨(some 5), .move (.c (.int .i64 0)), none, .write, 0⟩])
 (.block 0 (.loop (.seq (.seq (.region [⟨(some 11), .move (.t 5), none, .write, 0⟩, ⟨(some 12), .move (.t 0), none, .write, 0⟩, ⟨(some 13), .len 1 (.t 12), none, .write, 0⟩, ⟨(some 14), .arith .lss (.t 11) (.t 13), none, .write, 0⟩])
 (.cond (.t 14) .skip (.exit 0)))
 (.seq (.block 1 (.seq (.draw [⟨(some 17), .move (.t 0), none, .read, 0⟩, ⟨(some 18), .move (.t 5), none, .read, 0⟩, ⟨(some 19), .indexAddr 1 (.t 17) (.t 18), none, .read, 0⟩, ⟨(some 20), .load none (.t 19), none, .read, 0⟩, ⟨(some 21), .move (.t 1), none, .read, 0⟩, ⟨(some 22), .move (.t 5), none, .read, 0⟩, ⟨(some 23), .indexAddr 1 (.t 21) (.t 22), none, .read, 0⟩, ⟨(some 24), .load none (.t 23), none, .read, 0⟩, ⟨(some 25), .arith .neq (.t 20) (.t 24), none, .read, 0⟩])
 (.cond (.t 25) (.seq (.region [⟨(some 4), .move (.c (.bool false)), none, .write, 0⟩])
 .ret) .skip)))
 (.region [⟨(some 15), .move (.t 5), none, .write, 0⟩, ⟨(some 16), .arith .add (.t 15) (.c (.int .i64 1)), none, .write, 0⟩, ⟨(some 5), .move (.t 16), none, .write, 0⟩]))))))
 (.seq (.region [⟨(some 4), .move (.c (.bool true)), none, .write, 0⟩])
 .ret)))) }

theorem c12 : compFunc Try.prog Try.f12 .full = some t12 := by kernel_rfl

/-- broadside/trees.Path -/
def t13 : DFunc := { ntmps := 35, results := [(.t 4)], mode := .full, body :=
 (.seq (.region [⟨(some 4), .move (.c .nsl), none, .write, 0⟩])
 (.seq (.region [⟨(some 5), .move (.c .nsl), none, .write, 0⟩])
 (.seq (.block 0 (.loop (.seq (.seq (.region [⟨(some 6), .move (.t 1), none, .write, 0⟩, ⟨(some 7), .arith .geq (.t 6) (.c (.int .i64 0)), none, .write, 0⟩, ⟨(some 8), .move (.t 7), none, .write, 0⟩, ⟨(some 9), .move (.t 1), (some (8, true)), .write, 0⟩, ⟨(some 10), .move (.t 0), (some (8, true)), .write, 0⟩, ⟨(some 11), .len 1 (.t 10), (some (8, true)), .write, 0⟩, ⟨(some 12), .arith .lss (.t 9) (.t 11), (some (8, true)), .write, 0⟩, ⟨(some 13), .pick (.t 8) (.t 12) (.c (.bool false)), none, .write, 0⟩, ⟨(some 14), .move (.t 13), none, .write, 0⟩, ⟨(some 15), .move (.t 5), (some (14, true)), .write, 0⟩, ⟨(some 16), .len 1 (.t 15), (some (14, true)), .write, 0⟩, ⟨(some 17), .move (.t 0), (some (14, true)), .write, 0⟩, ⟨(some 18), .len 1 (.t 17), (some (14, true)), .write, 0⟩, ⟨(some 19), .arith .lss (.t 16) (.t 18), (some (14, true)), .write, 0⟩, ⟨(some 20), .pick (.t 14) (.t 19) (.c (.bool false)), none, .write, 0⟩])
 (.cond (.t 20) .skip (.exit 0)))
 (.block 1 (.seq (.region [⟨(some 21), .move (.t 5), none, .write, 0⟩, ⟨(some 22), .move (.t 1), none, .write, 0⟩, ⟨(some 23), .buildSlice 3 1 (.int .i64 0) 1 [(0, (.t 22))], none, .write, 0⟩, ⟨(some 24), .append 3 1 8 (.t 21) (.t 23), none, .write, 0⟩, ⟨(some 5), .move (.t 24), none, .write, 0⟩])
 (.seq (.seq (.region [⟨(some 25), .move (.t 0), none, .write, 0⟩, ⟨(some 26), .move (.t 1), none, .write, 0⟩, ⟨(some 27), .indexAddr 1 (.t 25) (.t 26), none, .write, 0⟩, ⟨(some 28), .load none (.t 27), none, .write, 0⟩, ⟨(some 29), .arith .eql (.t 28) (.c (.int .i64 (-1))), none, .write, 0⟩])
 (.cond (.t 29) (.seq (.region [⟨(some 30), .move (.t 5), none, .write, 0⟩, ⟨(some 4), .move (.t 30), none, .write, 0⟩])
 .ret) .skip))
 (.region [⟨(some 31), .move (.t 0), none, .write, 0⟩, ⟨(some 32), .move (.t 1), none, .write, 0⟩, ⟨(some 33), .indexAddr 1 (.t 31) (.t 32), none, .write, 0⟩, ⟨(some 34), .load none (.t 33), none, .write, 0⟩, ⟨(some 1), .move (.t 34), none, .write, 0⟩])))))))
 (.seq (.region [⟨(some 4), .move (.c .nsl), none, .write, 0⟩])
 .ret)))) }

theorem c13 : compFunc Try.prog Try.f13 .full = some t13 := by kernel_rfl

/-- broadside/trees.Depth -/
def t14 : DFunc := { ntmps := 10, results := [(.t 4)], mode := .full, body :=
 (.seq (.region [⟨(some 4), .move (.c (.int .i64 0)), none, .write, 0⟩])
 (.seq (.region [⟨(some 5), .move (.t 0), none, .write, 0⟩, ⟨(some 6), .move (.t 1), none, .write, 0⟩, ⟨(some 7), .call (.c (.func 13 [])) [(.t 5), (.t 6)], none, .write, 0⟩, ⟨(some 8), .len 1 (.t 7), none, .write, 0⟩, ⟨(some 9), .arith .sub (.t 8) (.c (.int .i64 1)), none, .write, 0⟩, ⟨(some 4), .move (.t 9), none, .write, 0⟩])
 .ret)) }

theorem c14 : compFunc Try.prog Try.f14 .full = some t14 := by kernel_rfl

/-- broadside/trees.Below -/
def t15 : DFunc := { ntmps := 23, results := [(.t 4)], mode := .full, body :=
 (.seq (.region [⟨(some 4), .move (.c .nsl), none, .write, 0⟩])
 (.seq (.region [⟨(some 5), .move (.c .nsl), none, .write, 0⟩])
 (.seq (.seq (.region [⟨(some 7), .move (.t 0), none, .write, 0⟩, ⟨(some 8), .len 1 (.t 7), none, .write, 0⟩, ⟨(some 9), .move (.c (.int .i64 0)), none, .write, 0⟩])
 (.block 0 (.loop (.seq (.region [⟨(some 10), .arith .lss (.t 9) (.t 8), none, .write, 0⟩])
 (.seq (.cond (.t 10) .skip (.exit 0))
 (.seq (.block 1 (.seq (.region [⟨(some 11), .move (.t 9), none, .write, 0⟩, ⟨(some 6), .move (.t 11), none, .write, 0⟩])
 (.seq (.region [⟨(some 12), .move (.t 0), none, .write, 0⟩, ⟨(some 13), .move (.t 6), none, .write, 0⟩, ⟨(some 14), .call (.c (.func 13 [])) [(.t 12), (.t 13)], none, .write, 0⟩, ⟨(some 15), .move (.t 1), none, .write, 0⟩, ⟨(some 16), .call (.c (.func 40 [])) [(.t 14), (.t 15)], none, .write, 0⟩])
 (.cond (.t 16) (.region [⟨(some 17), .move (.t 5), none, .write, 0⟩, ⟨(some 18), .move (.t 6), none, .write, 0⟩, ⟨(some 19), .buildSlice 3 1 (.int .i64 0) 1 [(0, (.t 18))], none, .write, 0⟩, ⟨(some 20), .append 3 1 8 (.t 17) (.t 19), none, .write, 0⟩, ⟨(some 5), .move (.t 20), none, .write, 0⟩]) .skip))))
 (.region [⟨(some 21), .arith .add (.t 9) (.c (.int .i64 1)), none, .write, 0⟩, ⟨(some 9), .move (.t 21), none, .write, 0⟩])))))))
 (.seq (.region [⟨(some 22), .move (.t 5), none, .write, 0⟩, ⟨(some 4), .move (.t 22), none, .write, 0⟩])
 .ret)))) }

theorem c15 : compFunc Try.prog Try.f15 .full = some t15 := by kernel_rfl

/-- broadside/trees.Spans -/
def t16 : DFunc := { ntmps := 40, results := [(.t 4)], mode := .full, body :=
 (.seq (.region [⟨(some 2), .box 30 2 (.t 0), none, .write, 0⟩, ⟨(some 4), .move (.c (.bool false)), none, .write, 0⟩])
 (.seq (.region [⟨(some 5), .move (.c (.int .i64 0)), none, .write, 0⟩])
 (.seq (.seq (.region [⟨(some 8), .move (.t 1), none, .write, 0⟩, ⟨(some 9), .len 1 (.t 8), none, .write, 0⟩, ⟨(some 10), .move (.c (.int .i64 0)), none, .write, 0⟩])
 (.block 0 (.loop (.seq (.region [⟨(some 11), .arith .lss (.t 10) (.t 9), none, .write, 0⟩])
 (.seq (.cond (.t 11) .skip (.exit 0))
 (.seq (.block 1 (.seq (.region [⟨(some 12), .move (.t 10), none, .write, 0⟩, ⟨(some 13), .indexAddr 1 (.t 8) (.t 10), none, .write, 0⟩, ⟨(some 14), .load none (.t 13), none, .write, 0⟩, ⟨(some 6), .move (.t 12), none, .write, 0⟩, ⟨(some 7), .move (.t 14), none, .write, 0⟩])
 (.seq (.block 2 (.seq (.region [⟨(some 16), .move (.t 7), none, .write, 0⟩, ⟨(some 17), .arith .eql (.t 16) (.c (.int .i64 (-1))), none, .write, 0⟩, ⟨(some 15), .move (.t 17), none, .write, 0⟩])
 (.cond (.t 15) (.region [⟨(some 18), .move (.t 5), none, .write, 0⟩, ⟨(some 19), .arith .add (.t 18) (.c (.int .i64 1)), none, .write, 0⟩, ⟨(some 5), .move (.t 19), none, .write, 0⟩]) (.seq (.region [⟨(some 21), .load (some 2) (.t 2), none, .write, 0⟩, ⟨(some 22), .move (.t 7), none, .write, 0⟩, ⟨(some 23), .move (.t 6), none, .write, 0⟩, ⟨(some 24), .call (.c (.func 20 [])) [(.t 21), (.t 22), (.t 23)], none, .write, 0⟩, ⟨(some 25), .un .not (.t 24), none, .write, 0⟩, ⟨(some 20), .move (.t 25), none, .write, 0⟩])
 (.cond (.t 20) (.seq (.region [⟨(some 4), .move (.c (.bool false)), none, .write, 0⟩])
 .ret) .skip)))))
 (.seq (.region [⟨(some 26), .move (.t 1), none, .write, 0⟩, ⟨(some 27), .move (.t 6), none, .write, 0⟩, ⟨(some 28), .call (.c (.func 14 [])) [(.t 26), (.t 27)], none, .write, 0⟩, ⟨(some 29), .arith .lss (.t 28) (.c (.int .i64 0)), none, .write, 0⟩])
 (.cond (.t 29) (.seq (.region [⟨(some 4), .move (.c (.bool false)), none, .write, 0⟩])
 .ret) .skip)))))
 (.region [⟨(some 30), .arith .add (.t 10) (.c (.int .i64 1)), none, .write, 0⟩, ⟨(some 10), .move (.t 30), none, .write, 0⟩])))))))
 (.seq (.region [⟨(some 31), .move (.t 1), none, .write, 0⟩, ⟨(some 32), .len 1 (.t 31), none, .write, 0⟩, ⟨(some 33), .fieldAddr 0 (.t 2), none, .write, 0⟩, ⟨(some 34), .load none (.t 33), none, .write, 0⟩, ⟨(some 35), .arith .eql (.t 32) (.t 34), none, .write, 0⟩, ⟨(some 36), .move (.t 35), none, .write, 0⟩, ⟨(some 37), .move (.t 5), (some (36, true)), .write, 0⟩, ⟨(some 38), .arith .eql (.t 37) (.c (.int .i64 1)), (some (36, true)), .write, 0⟩, ⟨(some 39), .pick (.t 36) (.t 38) (.c (.bool false)), none, .write, 0⟩, ⟨(some 4), .move (.t 39), none, .write, 0⟩])
 .ret)))) }

theorem c16 : compFunc Try.prog Try.f16 .full = some t16 := by kernel_rfl

/-- broadside/graph.Linked -/
def t20 : DFunc := { ntmps := 12, results := [(.t 6)], mode := .full, body :=
 (.seq (.region [⟨(some 3), .box 30 2 (.t 0), none, .write, 0⟩, ⟨(some 6), .move (.c (.bool false)), none, .write, 0⟩])
 (.seq (.region [⟨(some 7), .load (some 2) (.t 3), none, .write, 0⟩, ⟨(some 8), .move (.t 1), none, .write, 0⟩, ⟨(some 9), .call (.c (.func 43 [])) [(.t 7), (.t 8)], none, .write, 0⟩, ⟨(some 10), .move (.t 2), none, .write, 0⟩, ⟨(some 11), .call (.c (.func 40 [])) [(.t 9), (.t 10)], none, .write, 0⟩, ⟨(some 6), .move (.t 11), none, .write, 0⟩])
 .ret)) }

theorem c20 : compFunc Try.prog Try.f20 .full = some t20 := by kernel_rfl

/-- slices.Contains[[]int,int] -/
def t40 : DFunc := { ntmps := 9, results := [(.t 4)], mode := .full, body :=
 (.seq (.region [⟨(some 4), .move (.c (.bool false)), none, .write, 0⟩])
 (.seq (.region [⟨(some 5), .move (.t 0), none, .write, 0⟩, ⟨(some 6), .move (.t 1), none, .write, 0⟩, ⟨(some 7), .call (.c (.func 92 [])) [(.t 5), (.t 6)], none, .write, 0⟩, ⟨(some 8), .arith .geq (.t 7) (.c (.int .i64 0)), none, .write, 0⟩, ⟨(some 4), .move (.t 8), none, .write, 0⟩])
 .ret)) }

theorem c40 : compFunc Try.prog Try.f40 .full = some t40 := by kernel_rfl

/-- broadside/graph.Near -/
def t43 : DFunc := { ntmps := 45, results := [(.t 4)], mode := .full, body :=
 (.seq (.region [⟨(some 2), .box 30 2 (.t 0), none, .write, 0⟩, ⟨(some 4), .move (.c .nsl), none, .write, 0⟩])
 (.seq (.region [⟨(some 5), .move (.c .nsl), none, .write, 0⟩])
 (.seq (.seq (.region [⟨(some 8), .fieldAddr 1 (.t 2), none, .write, 0⟩, ⟨(some 9), .load none (.t 8), none, .write, 0⟩, ⟨(some 10), .len 1 (.t 9), none, .write, 0⟩, ⟨(some 11), .move (.c (.int .i64 0)), none, .write, 0⟩])
 (.block 0 (.loop (.seq (.region [⟨(some 12), .arith .lss (.t 11) (.t 10), none, .write, 0⟩])
 (.seq (.cond (.t 12) .skip (.exit 0))
 (.seq (.block 1 (.seq (.region [⟨(some 13), .indexAddr 2 (.t 9) (.t 11), none, .write, 0⟩, ⟨(some 14), .load (some 2) (.t 13), none, .write, 0⟩, ⟨(some 7), .alloc 27 2 (.agg [(.int .i64 0), (.int .i64 0)]), none, .write, 0⟩, ⟨none, .store 2 (.t 7) (.t 14), none, .write, 0⟩])
 (.block 2 (.seq (.region [⟨(some 16), .load (some 2) (.t 2), none, .write, 0⟩, ⟨(some 17), .load (some 2) (.t 7), none, .write, 0⟩, ⟨(some 18), .call (.c (.func 93 [])) [(.t 16), (.t 17)], none, .write, 0⟩, ⟨(some 19), .un .not (.t 18), none, .write, 0⟩, ⟨(some 15), .move (.t 19), none, .write, 0⟩])
 (.cond (.t 15) .skip (.seq (.region [⟨(some 21), .indexArr 2 1 (.t 7) (.c (.int .i64 0)), none, .write, 0⟩, ⟨(some 22), .load none (.t 21), none, .write, 0⟩, ⟨(some 23), .move (.t 1), none, .write, 0⟩, ⟨(some 24), .arith .eql (.t 22) (.t 23), none, .write, 0⟩, ⟨(some 20), .move (.t 24), none, .write, 0⟩])
 (.cond (.t 20) (.region [⟨(some 25), .move (.t 5), none, .write, 0⟩, ⟨(some 26), .indexArr 2 1 (.t 7) (.c (.int .i64 1)), none, .write, 0⟩, ⟨(some 27), .load none (.t 26), none, .write, 0⟩, ⟨(some 28), .buildSlice 3 1 (.int .i64 0) 1 [(0, (.t 27))], none, .write, 0⟩, ⟨(some 29), .append 3 1 8 (.t 25) (.t 28), none, .write, 0⟩, ⟨(some 5), .move (.t 29), none, .write, 0⟩]) (.seq (.region [⟨(some 31), .indexArr 2 1 (.t 7) (.c (.int .i64 1)), none, .write, 0⟩, ⟨(some 32), .load none (.t 31), none, .write, 0⟩, ⟨(some 33), .move (.t 1), none, .write, 0⟩, ⟨(some 34), .arith .eql (.t 32) (.t 33), none, .write, 0⟩, ⟨(some 30), .move (.t 34), none, .write, 0⟩])
 (.cond (.t 30) (.region [⟨(some 35), .move (.t 5), none, .write, 0⟩, ⟨(some 36), .indexArr 2 1 (.t 7) (.c (.int .i64 0)), none, .write, 0⟩, ⟨(some 37), .load none (.t 36), none, .write, 0⟩, ⟨(some 38), .buildSlice 3 1 (.int .i64 0) 1 [(0, (.t 37))], none, .write, 0⟩, ⟨(some 39), .append 3 1 8 (.t 35) (.t 38), none, .write, 0⟩, ⟨(some 5), .move (.t 39), none, .write, 0⟩]) .skip)))))))))
 (.region [⟨(some 40), .arith .add (.t 11) (.c (.int .i64 1)), none, .write, 0⟩, ⟨(some 11), .move (.t 40), none, .write, 0⟩])))))))
 (.seq (.region [⟨(some 41), .move (.t 5), none, .write, 0⟩, ⟨(some 42), .call (.c (.func 50 [])) [(.t 41)], none, .write, 0⟩])
 (.seq (.region [⟨(some 43), .move (.t 5), none, .write, 0⟩, ⟨(some 44), .call (.c (.func 51 [])) [(.t 43)], none, .write, 0⟩, ⟨(some 4), .move (.t 44), none, .write, 0⟩])
 .ret))))) }

theorem c43 : compFunc Try.prog Try.f43 .full = some t43 := by kernel_rfl

/-- slices.Sort[[]int,int] -/
def t50 : DFunc := { ntmps := 11, results := [], mode := .full, body :=
 (.seq (.region [⟨(some 3), .move (.t 0), none, .write, 0⟩, ⟨(some 4), .len 1 (.t 3), none, .write, 0⟩, ⟨(some 2), .move (.t 4), none, .write, 0⟩])
 (.region [⟨(some 5), .move (.t 0), none, .write, 0⟩, ⟨(some 6), .move (.t 2), none, .write, 0⟩, ⟨(some 7), .move (.t 2), none, .write, 0⟩, ⟨(some 8), .conv .u64 (.t 7), none, .write, 0⟩, ⟨(some 9), .call (.c (.func 105 [])) [(.t 8)], none, .write, 0⟩, ⟨(some 10), .call (.c (.func 104 [])) [(.t 5), (.c (.int .i64 0)), (.t 6), (.t 9)], none, .write, 0⟩])) }

theorem c50 : compFunc Try.prog Try.f50 .full = some t50 := by kernel_rfl

/-- slices.Compact[[]int,int] -/
def t51 : DFunc := { ntmps := 61, results := [(.t 2)], mode := .full, body :=
 (.seq (.region [⟨(some 2), .move (.c .nsl), none, .write, 0⟩])
 (.seq (.seq (.region [⟨(some 6), .move (.t 0), none, .write, 0⟩, ⟨(some 7), .len 1 (.t 6), none, .write, 0⟩, ⟨(some 8), .arith .lss (.t 7) (.c (.int .i64 2)), none, .write, 0⟩])
 (.cond (.t 8) (.seq (.region [⟨(some 9), .move (.t 0), none, .write, 0⟩, ⟨(some 2), .move (.t 9), none, .write, 0⟩])
 .ret) .skip))
 (.seq (.seq (.region [⟨(some 3), .move (.c (.int .i64 1)), none, .write, 0⟩])
 (.block 0 (.loop (.seq (.seq (.region [⟨(some 10), .move (.t 3), none, .write, 0⟩, ⟨(some 11), .move (.t 0), none, .write, 0⟩, ⟨(some 12), .len 1 (.t 11), none, .write, 0⟩, ⟨(some 13), .arith .lss (.t 10) (.t 12), none, .write, 0⟩])
 (.cond (.t 13) .skip (.exit 0)))
 (.seq (.block 1 (.seq (.draw [⟨(some 16), .move (.t 0), none, .read, 0⟩, ⟨(some 17), .move (.t 3), none, .read, 0⟩, ⟨(some 18), .indexAddr 1 (.t 16) (.t 17), none, .read, 0⟩, ⟨(some 19), .load none (.t 18), none, .read, 0⟩, ⟨(some 20), .move (.t 0), none, .read, 0⟩, ⟨(some 21), .move (.t 3), none, .read, 0⟩, ⟨(some 22), .arith .sub (.t 21) (.c (.int .i64 1)), none, .read, 0⟩, ⟨(some 23), .indexAddr 1 (.t 20) (.t 22), none, .read, 0⟩, ⟨(some 24), .load none (.t 23), none, .read, 0⟩, ⟨(some 25), .arith .eql (.t 19) (.t 24), none, .read, 0⟩])
 (.cond (.t 25) (.seq (.region [⟨(some 26), .move (.t 0), none, .write, 0⟩, ⟨(some 27), .move (.t 3), none, .write, 0⟩, ⟨(some 28), .sliceSl 1 (.t 26) (some (.t 27)) none, none, .write, 0⟩, ⟨(some 4), .move (.t 28), none, .write, 0⟩])
 (.seq (.seq (.region [⟨(some 5), .move (.c (.int .i64 1)), none, .write, 0⟩])
 (.block 2 (.loop (.seq (.seq (.region [⟨(some 29), .move (.t 5), none, .write, 0⟩, ⟨(some 30), .move (.t 4), none, .write, 0⟩, ⟨(some 31), .len 1 (.t 30), none, .write, 0⟩, ⟨(some 32), .arith .lss (.t 29) (.t 31), none, .write, 0⟩])
 (.cond (.t 32) .skip (.exit 2)))
 (.seq (.block 3 (.seq (.draw [⟨(some 35), .move (.t 4), none, .read, 0⟩, ⟨(some 36), .move (.t 5), none, .read, 0⟩, ⟨(some 37), .indexAddr 1 (.t 35) (.t 36), none, .read, 0⟩, ⟨(some 38), .load none (.t 37), none, .read, 0⟩, ⟨(some 39), .move (.t 4), none, .read, 0⟩, ⟨(some 40), .move (.t 5), none, .read, 0⟩, ⟨(some 41), .arith .sub (.t 40) (.c (.int .i64 1)), none, .read, 0⟩, ⟨(some 42), .indexAddr 1 (.t 39) (.t 41), none, .read, 0⟩, ⟨(some 43), .load none (.t 42), none, .read, 0⟩, ⟨(some 44), .arith .neq (.t 38) (.t 43), none, .read, 0⟩])
 (.cond (.t 44) (.seq (.region [⟨(some 45), .move (.t 0), none, .write, 0⟩, ⟨(some 46), .move (.t 3), none, .write, 0⟩, ⟨(some 47), .move (.t 4), none, .write, 0⟩, ⟨(some 48), .move (.t 5), none, .write, 0⟩, ⟨(some 49), .indexAddr 1 (.t 47) (.t 48), none, .write, 0⟩, ⟨(some 50), .load none (.t 49), none, .write, 0⟩, ⟨(some 51), .indexAddr 1 (.t 45) (.t 46), none, .write, 0⟩, ⟨none, .store 1 (.t 51) (.t 50), none, .write, 0⟩])
 (.region [⟨(some 52), .move (.t 3), none, .write, 0⟩, ⟨(some 53), .arith .add (.t 52) (.c (.int .i64 1)), none, .write, 0⟩, ⟨(some 3), .move (.t 53), none, .write, 0⟩])) .skip)))
 (.region [⟨(some 33), .move (.t 5), none, .write, 0⟩, ⟨(some 34), .arith .add (.t 33) (.c (.int .i64 1)), none, .write, 0⟩, ⟨(some 5), .move (.t 34), none, .write, 0⟩]))))))
 (.seq (.region [⟨(some 54), .move (.t 0), none, .write, 0⟩, ⟨(some 55), .move (.t 3), none, .write, 0⟩, ⟨(some 56), .sliceSl 1 (.t 54) (some (.t 55)) none, none, .write, 0⟩, ⟨none, .clear 1 (.int .i64 0) (.t 56), none, .write, 0⟩])
 (.seq (.region [⟨(some 57), .move (.t 0), none, .write, 0⟩, ⟨(some 58), .move (.t 3), none, .write, 0⟩, ⟨(some 59), .sliceSl 1 (.t 57) none (some (.t 58)), none, .write, 0⟩, ⟨(some 2), .move (.t 59), none, .write, 0⟩])
 .ret)))) .skip)))
 (.region [⟨(some 14), .move (.t 3), none, .write, 0⟩, ⟨(some 15), .arith .add (.t 14) (.c (.int .i64 1)), none, .write, 0⟩, ⟨(some 3), .move (.t 15), none, .write, 0⟩]))))))
 (.seq (.region [⟨(some 60), .move (.t 0), none, .write, 0⟩, ⟨(some 2), .move (.t 60), none, .write, 0⟩])
 .ret)))) }

theorem c51 : compFunc Try.prog Try.f51 .full = some t51 := by kernel_rfl

/-- slices.Index[[]int,int] -/
def t92 : DFunc := { ntmps := 19, results := [(.t 4)], mode := .full, body :=
 (.seq (.region [⟨(some 4), .move (.c (.int .i64 0)), none, .write, 0⟩])
 (.seq (.seq (.region [⟨(some 6), .move (.t 0), none, .write, 0⟩, ⟨(some 7), .len 1 (.t 6), none, .write, 0⟩, ⟨(some 8), .move (.c (.int .i64 0)), none, .write, 0⟩])
 (.block 0 (.loop (.seq (.region [⟨(some 9), .arith .lss (.t 8) (.t 7), none, .write, 0⟩])
 (.seq (.cond (.t 9) .skip (.exit 0))
 (.seq (.block 1 (.seq (.region [⟨(some 10), .move (.t 8), none, .write, 0⟩, ⟨(some 5), .move (.t 10), none, .write, 0⟩])
 (.seq (.region [⟨(some 11), .move (.t 1), none, .write, 0⟩, ⟨(some 12), .move (.t 0), none, .write, 0⟩, ⟨(some 13), .move (.t 5), none, .write, 0⟩, ⟨(some 14), .indexAddr 1 (.t 12) (.t 13), none, .write, 0⟩, ⟨(some 15), .load none (.t 14), none, .write, 0⟩, ⟨(some 16), .arith .eql (.t 11) (.t 15), none, .write, 0⟩])
 (.cond (.t 16) (.seq (.region [⟨(some 17), .move (.t 5), none, .write, 0⟩, ⟨(some 4), .move (.t 17), none, .write, 0⟩])
 .ret) .skip))))
 (.region [⟨(some 18), .arith .add (.t 8) (.c (.int .i64 1)), none, .write, 0⟩, ⟨(some 8), .move (.t 18), none, .write, 0⟩])))))))
 (.seq (.region [⟨(some 4), .move (.c (.int .i64 (-1))), none, .write, 0⟩])
 .ret))) }

theorem c92 : compFunc Try.prog Try.f92 .full = some t92 := by kernel_rfl

end Go.Dm.TabA
