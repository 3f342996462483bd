/-
The table of functions, brought into the machine's form (TabR, part 6). Written by program (wip/tools/table.lean.txt).
-/
import Derived.Test.YtdacnhfdcejahaaGreatDm32
import Derived.Test.YtdacnhfdcejahaaGreatRows
import Derived.KernelRfl
namespace Go.Dm.TabR
open Go.Proofs

/-- broadside/pred.Both -/
def t83 : DFunc := { ntmps := 69, results := [(.cell 4 (some 5)), (.t 5)], mode := .full, body :=
 (.seq (.region [⟨(some 2), .box 126 5 (.t 0), none, .write, 0⟩, ⟨(some 3), .box 126 5 (.t 1), none, .write, 0⟩, ⟨(some 4), .alloc 126 5 (.agg [(.str []), (.int .i64 0), (.int .i64 0), (.int .i64 0), (.str [])]), none, .write, 0⟩, ⟨(some 5), .move (.c (.bool false)), none, .write, 0⟩])
 (.seq (.region [⟨(some 7), .build [(.str []), (.int .i64 0), (.int .i64 0), (.int .i64 0), (.str [])] [], none, .write, 0⟩, ⟨(some 6), .alloc 126 5 (.agg [(.str []), (.int .i64 0), (.int .i64 0), (.int .i64 0), (.str [])]), none, .write, 0⟩, ⟨none, .store 5 (.t 6) (.t 7), none, .write, 0⟩])
 (.seq (.seq (.region [⟨(some 8), .fieldAddr 1 (.t 2), none, .write, 0⟩, ⟨(some 9), .load none (.t 8), none, .write, 0⟩, ⟨(some 10), .fieldAddr 1 (.t 3), none, .write, 0⟩, ⟨(some 11), .load none (.t 10), none, .write, 0⟩, ⟨(some 12), .arith .gtr (.t 9) (.t 11), none, .write, 0⟩])
 (.cond (.t 12) (.region [⟨(some 13), .load (some 5) (.t 3), none, .write, 0⟩, ⟨(some 14), .load (some 5) (.t 2), none, .write, 0⟩, ⟨none, .store 5 (.t 2) (.t 13), none, .write, 0⟩, ⟨none, .store 5 (.t 3) (.t 14), none, .write, 0⟩]) .skip))
 (.seq (.seq (.region [⟨(some 15), .fieldAddr 1 (.t 2), none, .write, 0⟩, ⟨(some 16), .load none (.t 15), none, .write, 0⟩])
 (.block 0 (.seq (.block 3 (.seq (.block 2 (.seq (.block 1 (.seq (.seq (.seq (.region [⟨(some 18), .arith .eql (.t 16) (.c (.int .i64 1)), none, .write, 0⟩, ⟨(some 17), .move (.t 18), none, .write, 0⟩])
 (.cond (.t 17) (.exit 1) .skip))
 (.seq (.seq (.region [⟨(some 20), .arith .eql (.t 16) (.c (.int .i64 3)), none, .write, 0⟩, ⟨(some 19), .move (.t 20), none, .write, 0⟩])
 (.cond (.t 19) (.exit 2) .skip))
 (.seq (.region [⟨(some 22), .arith .eql (.t 16) (.c (.int .i64 2)), none, .write, 0⟩, ⟨(some 21), .move (.t 22), none, .write, 0⟩])
 (.cond (.t 21) (.exit 3) .skip))))
 (.exit 0)))
 (.seq (.seq (.seq (.region [⟨(some 23), .fieldAddr 1 (.t 3), none, .write, 0⟩, ⟨(some 24), .load none (.t 23), none, .write, 0⟩, ⟨(some 25), .arith .neq (.t 24) (.c (.int .i64 1)), none, .write, 0⟩, ⟨(some 26), .move (.t 25), none, .write, 0⟩, ⟨(some 27), .fieldAddr 2 (.t 2), (some (26, false)), .write, 0⟩, ⟨(some 28), .load none (.t 27), (some (26, false)), .write, 0⟩, ⟨(some 29), .fieldAddr 2 (.t 3), (some (26, false)), .write, 0⟩, ⟨(some 30), .load none (.t 29), (some (26, false)), .write, 0⟩, ⟨(some 31), .minmax true (.t 28) (.t 30), (some (26, false)), .write, 0⟩, ⟨(some 32), .fieldAddr 3 (.t 2), (some (26, false)), .write, 0⟩, ⟨(some 33), .load none (.t 32), (some (26, false)), .write, 0⟩, ⟨(some 34), .fieldAddr 3 (.t 3), (some (26, false)), .write, 0⟩, ⟨(some 35), .load none (.t 34), (some (26, false)), .write, 0⟩, ⟨(some 36), .minmax false (.t 33) (.t 35), (some (26, false)), .write, 0⟩, ⟨(some 37), .arith .gtr (.t 31) (.t 36), (some (26, false)), .write, 0⟩, ⟨(some 38), .pick (.t 26) (.c (.bool true)) (.t 37), none, .write, 0⟩])
 (.cond (.t 38) (.seq (.region [⟨(some 39), .load (some 5) (.t 6), none, .write, 0⟩, ⟨none, .store 5 (.t 4) (.t 39), none, .write, 0⟩, ⟨(some 5), .move (.c (.bool false)), none, .write, 0⟩])
 .ret) .skip))
 (.seq (.draw [⟨(some 40), .fieldAddr 2 (.t 2), none, .read, 0⟩, ⟨(some 41), .load none (.t 40), none, .read, 0⟩, ⟨(some 42), .fieldAddr 2 (.t 3), none, .read, 0⟩, ⟨(some 43), .load none (.t 42), none, .read, 0⟩, ⟨(some 45), .fieldAddr 3 (.t 2), none, .read, 0⟩, ⟨(some 46), .load none (.t 45), none, .read, 0⟩, ⟨(some 47), .fieldAddr 3 (.t 3), none, .read, 0⟩, ⟨(some 48), .load none (.t 47), none, .read, 0⟩, ⟨(some 44), .minmax true (.t 41) (.t 43), none, .read, 0⟩, ⟨(some 50), .fieldAddr 2 (.t 2), none, .read, 0⟩, ⟨none, .store 1 (.t 50) (.t 44), none, .create, 0⟩, ⟨(some 49), .minmax false (.t 46) (.t 48), none, .read, 0⟩, ⟨(some 51), .fieldAddr 3 (.t 2), none, .read, 1⟩, ⟨none, .store 1 (.t 51) (.t 49), none, .write, 1⟩])
 (.seq (.region [⟨(some 52), .load (some 5) (.t 2), none, .write, 0⟩, ⟨none, .store 5 (.t 4) (.t 52), none, .write, 0⟩, ⟨(some 5), .move (.c (.bool true)), none, .write, 0⟩])
 .ret)))
 (.exit 0))))
 (.seq (.region [⟨(some 53), .fieldAddr 4 (.t 2), none, .write, 0⟩, ⟨(some 54), .load none (.t 53), none, .write, 0⟩, ⟨(some 55), .len 0 (.t 54), none, .write, 0⟩, ⟨(some 56), .fieldAddr 4 (.t 3), none, .write, 0⟩, ⟨(some 57), .load none (.t 56), none, .write, 0⟩, ⟨(some 58), .len 0 (.t 57), none, .write, 0⟩, ⟨(some 59), .arith .lss (.t 55) (.t 58), none, .write, 0⟩])
 (.cond (.t 59) (.region [⟨(some 60), .load (some 5) (.t 3), none, .write, 0⟩, ⟨(some 61), .load (some 5) (.t 2), none, .write, 0⟩, ⟨none, .store 5 (.t 2) (.t 60), none, .write, 0⟩, ⟨none, .store 5 (.t 3) (.t 61), none, .write, 0⟩]) .skip))))
 (.seq (.seq (.draw [⟨(some 62), .load (some 5) (.t 3), none, .read, 0⟩, ⟨(some 63), .fieldAddr 4 (.t 2), none, .read, 0⟩, ⟨(some 64), .load none (.t 63), none, .read, 0⟩, ⟨(some 65), .call (.c (.func 85 [])) [(.t 64)], none, .create, 0⟩, ⟨(some 66), .call (.c (.func 98 [])) [(.t 62), (.t 65)], none, .write, 1⟩])
 (.cond (.t 66) (.seq (.region [⟨(some 67), .load (some 5) (.t 2), none, .write, 0⟩, ⟨none, .store 5 (.t 4) (.t 67), none, .write, 0⟩, ⟨(some 5), .move (.c (.bool true)), none, .write, 0⟩])
 .ret) .skip))
 (.exit 0)))))
 (.seq (.region [⟨(some 68), .load (some 5) (.t 6), none, .write, 0⟩, ⟨none, .store 5 (.t 4) (.t 68), none, .write, 0⟩, ⟨(some 5), .move (.c (.bool false)), none, .write, 0⟩])
 .ret))))) }

theorem c83 : compFunc Tryz.prog Tryz.f83 .full = some t83 := by kernel_rfl

/-- slices.Insert[[]broadside/api.Constraint,broadside/api.Constraint] -/
def t84 : DFunc := { ntmps := 95, results := [(.t 6)], mode := .split, body :=
 (.seq (.region [⟨(some 6), .move (.c .nsl), none, .write, 0⟩])
 (.seq (.region [⟨(some 10), .move (.t 0), none, .write, 0⟩, ⟨(some 11), .move (.t 1), none, .write, 0⟩, ⟨(some 12), .sliceSl 5 (.t 10) (some (.t 11)) none, none, .write, 0⟩])
 (.seq (.region [⟨(some 13), .move (.t 2), none, .write, 0⟩, ⟨(some 14), .len 1 (.t 13), none, .write, 0⟩, ⟨(some 7), .move (.t 14), none, .write, 0⟩])
 (.seq (.seq (.region [⟨(some 15), .move (.t 7), none, .write, 0⟩, ⟨(some 16), .arith .eql (.t 15) (.c (.int .i64 0)), none, .write, 0⟩])
 (.cond (.t 16) (.seq (.region [⟨(some 17), .move (.t 0), none, .write, 0⟩, ⟨(some 6), .move (.t 17), none, .write, 0⟩])
 .ret) .skip))
 (.seq (.region [⟨(some 18), .move (.t 0), none, .write, 0⟩, ⟨(some 19), .len 1 (.t 18), none, .write, 0⟩, ⟨(some 8), .move (.t 19), none, .write, 0⟩])
 (.seq (.seq (.region [⟨(some 20), .move (.t 1), none, .write, 0⟩, ⟨(some 21), .move (.t 8), none, .write, 0⟩, ⟨(some 22), .arith .eql (.t 20) (.t 21), none, .write, 0⟩])
 (.cond (.t 22) (.seq (.region [⟨(some 23), .move (.t 0), none, .write, 0⟩, ⟨(some 24), .move (.t 2), none, .write, 0⟩, ⟨(some 25), .append 126 5 56 (.t 23) (.t 24), none, .write, 0⟩, ⟨(some 6), .move (.t 25), none, .write, 0⟩])
 .ret) .skip))
 (.seq (.seq (.region [⟨(some 26), .move (.t 8), none, .write, 0⟩, ⟨(some 27), .move (.t 7), none, .write, 0⟩, ⟨(some 28), .arith .add (.t 26) (.t 27), none, .write, 0⟩, ⟨(some 29), .move (.t 0), none, .write, 0⟩, ⟨(some 30), .cap (.t 29), none, .write, 0⟩, ⟨(some 31), .arith .gtr (.t 28) (.t 30), none, .write, 0⟩])
 (.cond (.t 31) (.seq (.region [⟨(some 32), .move (.t 0), none, .write, 0⟩, ⟨(some 33), .move (.t 1), none, .write, 0⟩, ⟨(some 34), .sliceSl 5 (.t 32) none (some (.t 33)), none, .write, 0⟩, ⟨(some 35), .move (.t 8), none, .write, 0⟩, ⟨(some 36), .move (.t 7), none, .write, 0⟩, ⟨(some 37), .arith .add (.t 35) (.t 36), none, .write, 0⟩, ⟨(some 38), .move (.t 1), none, .write, 0⟩, ⟨(some 39), .arith .sub (.t 37) (.t 38), none, .write, 0⟩, ⟨(some 40), .appendZ 126 5 56 (.agg [(.str []), (.int .i64 0), (.int .i64 0), (.int .i64 0), (.str [])]) (.t 34) (.t 39), none, .write, 0⟩, ⟨(some 9), .move (.t 40), none, .write, 0⟩])
 (.seq (.region [⟨(some 41), .move (.t 9), none, .write, 0⟩, ⟨(some 42), .move (.t 1), none, .write, 0⟩, ⟨(some 43), .sliceSl 5 (.t 41) (some (.t 42)) none, none, .write, 0⟩, ⟨(some 44), .move (.t 2), none, .write, 0⟩, ⟨(some 45), .copy 5 (.t 43) (.t 44), none, .write, 0⟩])
 (.seq (.draw [⟨(some 46), .move (.t 9), none, .read, 0⟩, ⟨(some 47), .move (.t 1), none, .read, 0⟩, ⟨(some 48), .move (.t 7), none, .read, 0⟩, ⟨(some 49), .arith .add (.t 47) (.t 48), none, .read, 0⟩, ⟨(some 50), .sliceSl 5 (.t 46) (some (.t 49)) none, none, .read, 0⟩, ⟨(some 51), .move (.t 0), none, .read, 0⟩, ⟨(some 52), .move (.t 1), none, .read, 0⟩, ⟨(some 53), .sliceSl 5 (.t 51) (some (.t 52)) none, none, .read, 0⟩, ⟨(some 54), .copy 5 (.t 50) (.t 53), none, .write, 0⟩])
 (.seq (.region [⟨(some 55), .move (.t 9), none, .write, 0⟩, ⟨(some 6), .move (.t 55), none, .write, 0⟩])
 .ret)))) .skip))
 (.seq (.region [⟨(some 56), .move (.t 0), none, .write, 0⟩, ⟨(some 57), .move (.t 8), none, .write, 0⟩, ⟨(some 58), .move (.t 7), none, .write, 0⟩, ⟨(some 59), .arith .add (.t 57) (.t 58), none, .write, 0⟩, ⟨(some 60), .sliceSl 5 (.t 56) none (some (.t 59)), none, .write, 0⟩, ⟨(some 0), .move (.t 60), none, .write, 0⟩])
 (.seq (.seq (.region [⟨(some 61), .move (.t 2), none, .write, 0⟩, ⟨(some 62), .move (.t 0), none, .write, 0⟩, ⟨(some 63), .move (.t 1), none, .write, 0⟩, ⟨(some 64), .move (.t 7), none, .write, 0⟩, ⟨(some 65), .arith .add (.t 63) (.t 64), none, .write, 0⟩, ⟨(some 66), .sliceSl 5 (.t 62) (some (.t 65)) none, none, .write, 0⟩, ⟨(some 67), .call (.c (.func 99 [])) [(.t 61), (.t 66)], none, .write, 0⟩, ⟨(some 68), .un .not (.t 67), none, .write, 0⟩])
 (.cond (.t 68) (.seq (.draw [⟨(some 69), .move (.t 0), none, .read, 0⟩, ⟨(some 70), .move (.t 1), none, .read, 0⟩, ⟨(some 71), .move (.t 7), none, .read, 0⟩, ⟨(some 72), .arith .add (.t 70) (.t 71), none, .read, 0⟩, ⟨(some 73), .sliceSl 5 (.t 69) (some (.t 72)) none, none, .read, 0⟩, ⟨(some 74), .move (.t 0), none, .read, 0⟩, ⟨(some 75), .move (.t 1), none, .read, 0⟩, ⟨(some 76), .sliceSl 5 (.t 74) (some (.t 75)) none, none, .read, 0⟩, ⟨(some 77), .copy 5 (.t 73) (.t 76), none, .write, 0⟩])
 (.seq (.region [⟨(some 78), .move (.t 0), none, .write, 0⟩, ⟨(some 79), .move (.t 1), none, .write, 0⟩, ⟨(some 80), .sliceSl 5 (.t 78) (some (.t 79)) none, none, .write, 0⟩, ⟨(some 81), .move (.t 2), none, .write, 0⟩, ⟨(some 82), .copy 5 (.t 80) (.t 81), none, .write, 0⟩])
 (.seq (.region [⟨(some 83), .move (.t 0), none, .write, 0⟩, ⟨(some 6), .move (.t 83), none, .write, 0⟩])
 .ret))) .skip))
 (.seq (.region [⟨(some 84), .move (.t 0), none, .write, 0⟩, ⟨(some 85), .move (.t 8), none, .write, 0⟩, ⟨(some 86), .sliceSl 5 (.t 84) (some (.t 85)) none, none, .write, 0⟩, ⟨(some 87), .move (.t 2), none, .write, 0⟩, ⟨(some 88), .copy 5 (.t 86) (.t 87), none, .write, 0⟩])
 (.seq (.region [⟨(some 89), .move (.t 0), none, .write, 0⟩, ⟨(some 90), .move (.t 1), none, .write, 0⟩, ⟨(some 91), .sliceSl 5 (.t 89) (some (.t 90)) none, none, .write, 0⟩, ⟨(some 92), .move (.t 7), none, .write, 0⟩, ⟨(some 93), .call (.c (.func 100 [])) [(.t 91), (.t 92)], none, .write, 0⟩])
 (.seq (.region [⟨(some 94), .move (.t 0), none, .write, 0⟩, ⟨(some 6), .move (.t 94), none, .write, 0⟩])
 .ret)))))))))))) }

theorem c84 : compFunc Tryz.prog Tryz.f84 .split = some t84 := by kernel_rfl

/-- broadside/value.Text -/
def t85 : DFunc := { ntmps := 5, results := [(.cell 2 (some 3))], mode := .full, body :=
 (.seq (.region [⟨(some 2), .alloc 137 3 (.agg [(.bool false), (.int .i64 0), (.str [])]), none, .write, 0⟩])
 (.seq (.region [⟨(some 3), .move (.t 0), none, .write, 0⟩, ⟨(some 4), .build [(.bool false), (.int .i64 0), (.str [])] [(0, 1, (.c (.bool true))), (2, 1, (.t 3))], none, .write, 0⟩, ⟨none, .store 3 (.t 2) (.t 4), none, .write, 0⟩])
 .ret)) }

theorem c85 : compFunc Tryz.prog Tryz.f85 .full = some t85 := by kernel_rfl

/-- broadside/value.Number -/
def t86 : DFunc := { ntmps := 5, results := [(.cell 2 (some 3))], mode := .full, body :=
 (.seq (.region [⟨(some 2), .alloc 137 3 (.agg [(.bool false), (.int .i64 0), (.str [])]), none, .write, 0⟩])
 (.seq (.region [⟨(some 3), .move (.t 0), none, .write, 0⟩, ⟨(some 4), .build [(.bool false), (.int .i64 0), (.str [])] [(1, 1, (.t 3))], none, .write, 0⟩, ⟨none, .store 3 (.t 2) (.t 4), none, .write, 0⟩])
 .ret)) }

theorem c86 : compFunc Tryz.prog Tryz.f86 .full = some t86 := by kernel_rfl

/-- slices.BinarySearchFunc[[]broadside/api.Entry,broadside/api.Entry,broadside/api.ID] -/
def t87 : DFunc := { ntmps := 49, results := [(.t 6), (.t 7)], mode := .full, body :=
 (.seq (.region [⟨(some 4), .box 23 2 (.t 1), none, .write, 0⟩, ⟨(some 6), .move (.c (.int .i64 0)), none, .write, 0⟩, ⟨(some 7), .move (.c (.bool false)), none, .write, 0⟩])
 (.seq (.region [⟨(some 12), .move (.t 0), none, .write, 0⟩, ⟨(some 13), .len 1 (.t 12), none, .write, 0⟩, ⟨(some 8), .move (.t 13), none, .write, 0⟩])
 (.seq (.region [⟨(some 14), .move (.t 8), none, .write, 0⟩, ⟨(some 9), .move (.c (.int .i64 0)), none, .write, 0⟩, ⟨(some 10), .move (.t 14), none, .write, 0⟩])
 (.seq (.block 0 (.loop (.seq (.seq (.region [⟨(some 15), .move (.t 9), none, .write, 0⟩, ⟨(some 16), .move (.t 10), none, .write, 0⟩, ⟨(some 17), .arith .lss (.t 15) (.t 16), none, .write, 0⟩])
 (.cond (.t 17) .skip (.exit 0)))
 (.block 1 (.seq (.region [⟨(some 18), .move (.t 9), none, .write, 0⟩, ⟨(some 19), .move (.t 10), none, .write, 0⟩, ⟨(some 20), .arith .add (.t 18) (.t 19), none, .write, 0⟩, ⟨(some 21), .conv .u64 (.t 20), none, .write, 0⟩, ⟨(some 22), .arith .shr (.t 21) (.c (.int .u64 1)), none, .write, 0⟩, ⟨(some 23), .conv .i64 (.t 22), none, .write, 0⟩, ⟨(some 11), .move (.t 23), none, .write, 0⟩])
 (.seq (.draw [⟨(some 25), .move (.t 0), none, .read, 0⟩, ⟨(some 26), .move (.t 11), none, .read, 0⟩, ⟨(some 27), .indexAddr 7 (.t 25) (.t 26), none, .read, 0⟩, ⟨(some 28), .load (some 7) (.t 27), none, .read, 0⟩, ⟨(some 29), .load (some 2) (.t 4), none, .read, 0⟩, ⟨(some 24), .move (.t 2), none, .read, 0⟩, ⟨(some 30), .call (.t 24) [(.t 28), (.t 29)], none, .write, 0⟩, ⟨(some 31), .arith .lss (.t 30) (.c (.int .i64 0)), none, .read, 1⟩])
 (.cond (.t 31) (.region [⟨(some 32), .move (.t 11), none, .write, 0⟩, ⟨(some 33), .arith .add (.t 32) (.c (.int .i64 1)), none, .write, 0⟩, ⟨(some 9), .move (.t 33), none, .write, 0⟩]) (.region [⟨(some 34), .move (.t 11), none, .write, 0⟩, ⟨(some 10), .move (.t 34), none, .write, 0⟩]))))))))
 (.seq (.draw [⟨(some 36), .move (.t 9), none, .read, 0⟩, ⟨(some 37), .move (.t 8), none, .read, 0⟩, ⟨(some 38), .arith .lss (.t 36) (.t 37), none, .read, 0⟩, ⟨(some 39), .move (.t 38), none, .read, 0⟩, ⟨(some 41), .move (.t 0), (some (39, true)), .read, 0⟩, ⟨(some 42), .move (.t 9), (some (39, true)), .read, 0⟩, ⟨(some 43), .indexAddr 7 (.t 41) (.t 42), (some (39, true)), .read, 0⟩, ⟨(some 44), .load (some 7) (.t 43), (some (39, true)), .read, 0⟩, ⟨(some 45), .load (some 2) (.t 4), (some (39, true)), .read, 0⟩, ⟨(some 40), .move (.t 2), (some (39, true)), .read, 0⟩, ⟨(some 46), .call (.t 40) [(.t 44), (.t 45)], (some (39, true)), .write, 0⟩, ⟨(some 35), .move (.t 9), none, .read, 0⟩, ⟨(some 47), .arith .eql (.t 46) (.c (.int .i64 0)), (some (39, true)), .read, 1⟩, ⟨(some 48), .pick (.t 39) (.t 47) (.c (.bool false)), none, .read, 1⟩, ⟨(some 6), .move (.t 35), none, .read, 1⟩, ⟨(some 7), .move (.t 48), none, .read, 1⟩])
 .ret))))) }

theorem c87 : compFunc Tryz.prog Tryz.f87 .full = some t87 := by kernel_rfl

/-- broadside/subs.place$1 -/
def t88 : DFunc := { ntmps := 34, results := [(.t 5)], mode := .full, body :=
 (.seq (.region [⟨(some 3), .box 62 7 (.t 0), none, .write, 0⟩, ⟨(some 4), .box 23 2 (.t 1), none, .write, 0⟩, ⟨(some 5), .move (.c (.int .i64 0)), none, .write, 0⟩])
 (.seq (.block 0 (.seq (.region [⟨(some 7), .fieldAddr 0 (.t 3), none, .write, 0⟩, ⟨(some 8), .load (some 2) (.t 7), none, .write, 0⟩, ⟨(some 9), .load (some 2) (.t 2), none, .write, 0⟩, ⟨(some 10), .eqa false [1, 1] (.t 8) (.t 9), none, .write, 0⟩, ⟨(some 11), .move (.t 10), none, .write, 0⟩, ⟨(some 12), .fieldAddr 2 (.t 3), (some (11, true)), .write, 0⟩, ⟨(some 13), .load (some 2) (.t 12), (some (11, true)), .write, 0⟩, ⟨(some 14), .load (some 2) (.t 4), (some (11, true)), .write, 0⟩, ⟨(some 15), .eqa false [1, 1] (.t 13) (.t 14), (some (11, true)), .write, 0⟩, ⟨(some 16), .pick (.t 11) (.t 15) (.c (.bool false)), none, .write, 0⟩, ⟨(some 6), .move (.t 16), none, .write, 0⟩])
 (.cond (.t 6) (.seq (.region [⟨(some 5), .move (.c (.int .i64 0)), none, .write, 0⟩])
 .ret) (.seq (.region [⟨(some 18), .fieldAddr 0 (.t 3), none, .write, 0⟩, ⟨(some 19), .load (some 2) (.t 18), none, .write, 0⟩, ⟨(some 20), .load (some 2) (.t 2), none, .write, 0⟩, ⟨(some 21), .call (.c (.func 39 [])) [(.t 19), (.t 20)], none, .write, 0⟩, ⟨(some 22), .move (.t 21), none, .write, 0⟩, ⟨(some 23), .fieldAddr 0 (.t 3), (some (22, false)), .write, 0⟩, ⟨(some 24), .load (some 2) (.t 23), (some (22, false)), .write, 0⟩, ⟨(some 25), .load (some 2) (.t 2), (some (22, false)), .write, 0⟩, ⟨(some 26), .eqa false [1, 1] (.t 24) (.t 25), (some (22, false)), .write, 0⟩, ⟨(some 27), .move (.t 26), (some (22, false)), .write, 0⟩, ⟨(some 28), .fieldAddr 2 (.t 3), (some (27, true)), .write, 0⟩, ⟨(some 29), .load (some 2) (.t 28), (some (27, true)), .write, 0⟩, ⟨(some 30), .load (some 2) (.t 4), (some (27, true)), .write, 0⟩, ⟨(some 31), .call (.c (.func 39 [])) [(.t 29), (.t 30)], (some (27, true)), .write, 0⟩, ⟨(some 32), .pick (.t 27) (.t 31) (.c (.bool false)), (some (22, false)), .write, 0⟩, ⟨(some 33), .pick (.t 22) (.c (.bool true)) (.t 32), none, .write, 0⟩, ⟨(some 17), .move (.t 33), none, .write, 0⟩])
 (.cond (.t 17) (.seq (.region [⟨(some 5), .move (.c (.int .i64 (-1))), none, .write, 0⟩])
 .ret) .skip)))))
 (.seq (.region [⟨(some 5), .move (.c (.int .i64 1)), none, .write, 0⟩])
 .ret))) }

theorem c88 : compFunc Tryz.prog Tryz.f88 .full = some t88 := by kernel_rfl

/-- slices.ContainsFunc[[]broadside/api.Entry,broadside/api.Entry] -/
def t89 : DFunc := { ntmps := 9, results := [(.t 4)], mode := .full, body :=
 (.seq (.region [⟨(some 4), .move (.c (.bool false)), none, .write, 0⟩])
 (.seq (.region [⟨(some 5), .move (.t 0), none, .write, 0⟩, ⟨(some 6), .move (.t 1), none, .write, 0⟩, ⟨(some 7), .call (.c (.func 101 [])) [(.t 5), (.t 6)], none, .write, 0⟩, ⟨(some 8), .arith .geq (.t 7) (.c (.int .i64 0)), none, .write, 0⟩, ⟨(some 4), .move (.t 8), none, .write, 0⟩])
 .ret)) }

theorem c89 : compFunc Tryz.prog Tryz.f89 .full = some t89 := by kernel_rfl

/-- broadside/subs.Of -/
def t90 : DFunc := { ntmps := 25, results := [(.t 4)], mode := .full, body :=
 (.seq (.region [⟨(some 2), .box 30 6 (.t 0), none, .write, 0⟩, ⟨(some 3), .box 23 2 (.t 1), none, .write, 0⟩, ⟨(some 4), .move (.c .nsl), none, .write, 0⟩])
 (.seq (.region [⟨(some 5), .move (.c .nsl), none, .write, 0⟩])
 (.seq (.seq (.region [⟨(some 8), .fieldAddr 4 (.t 2), none, .write, 0⟩, ⟨(some 9), .load none (.t 8), none, .write, 0⟩, ⟨(some 10), .len 1 (.t 9), none, .write, 0⟩, ⟨(some 11), .move (.c (.int .i64 0)), none, .write, 0⟩])
 (.block 0 (.loop (.seq (.region [⟨(some 12), .arith .lss (.t 11) (.t 10), none, .write, 0⟩])
 (.seq (.cond (.t 12) .skip (.exit 0))
 (.seq (.block 1 (.seq (.region [⟨(some 13), .indexAddr 7 (.t 9) (.t 11), none, .write, 0⟩, ⟨(some 14), .load (some 7) (.t 13), none, .write, 0⟩, ⟨(some 7), .alloc 62 7 (.agg [(.int .i64 0), (.int .i64 0), (.int .i64 0), (.int .i64 0), .nsl, (.int .i64 0), (.bool false)]), none, .write, 0⟩, ⟨none, .store 7 (.t 7) (.t 14), none, .write, 0⟩])
 (.seq (.region [⟨(some 15), .fieldAddr 0 (.t 7), none, .write, 0⟩, ⟨(some 16), .load (some 2) (.t 15), none, .write, 0⟩, ⟨(some 17), .load (some 2) (.t 3), none, .write, 0⟩, ⟨(some 18), .eqa false [1, 1] (.t 16) (.t 17), none, .write, 0⟩])
 (.cond (.t 18) (.region [⟨(some 19), .move (.t 5), none, .write, 0⟩, ⟨(some 20), .load (some 7) (.t 7), none, .write, 0⟩, ⟨(some 21), .buildSlice 62 7 (.agg [(.int .i64 0), (.int .i64 0), (.int .i64 0), (.int .i64 0), .nsl, (.int .i64 0), (.bool false)]) 1 [(0, (.t 20))], none, .write, 0⟩, ⟨(some 22), .append 62 7 72 (.t 19) (.t 21), none, .write, 0⟩, ⟨(some 5), .move (.t 22), none, .write, 0⟩]) .skip))))
 (.region [⟨(some 23), .arith .add (.t 11) (.c (.int .i64 1)), none, .write, 0⟩, ⟨(some 11), .move (.t 23), none, .write, 0⟩])))))))
 (.seq (.region [⟨(some 24), .move (.t 5), none, .write, 0⟩, ⟨(some 4), .move (.t 24), none, .write, 0⟩])
 .ret)))) }

theorem c90 : compFunc Tryz.prog Tryz.f90 .full = some t90 := by kernel_rfl

/-- broadside/subs.Covered$1 -/
def t91 : DFunc := { ntmps := 12, results := [(.t 3)], mode := .full, body :=
 (.seq (.region [⟨(some 2), .box 62 7 (.t 0), none, .write, 0⟩, ⟨(some 3), .move (.c (.bool false)), none, .write, 0⟩])
 (.seq (.region [⟨(some 4), .fieldAddr 6 (.t 2), none, .write, 0⟩, ⟨(some 5), .load none (.t 4), none, .write, 0⟩, ⟨(some 6), .move (.t 5), none, .write, 0⟩, ⟨(some 7), .fieldAddr 4 (.t 2), (some (6, true)), .write, 0⟩, ⟨(some 8), .load none (.t 7), (some (6, true)), .write, 0⟩, ⟨(some 9), .load none (.t 1), (some (6, true)), .write, 0⟩, ⟨(some 10), .call (.c (.func 92 [])) [(.t 8), (.t 9)], (some (6, true)), .write, 0⟩, ⟨(some 11), .pick (.t 6) (.t 10) (.c (.bool false)), none, .write, 0⟩, ⟨(some 3), .move (.t 11), none, .write, 0⟩])
 .ret)) }

theorem c91 : compFunc Tryz.prog Tryz.f91 .full = some t91 := by kernel_rfl

/-- broadside/rel.Covers -/
def t92 : DFunc := { ntmps := 46, results := [(.t 4)], mode := .full, body :=
 (.seq (.region [⟨(some 4), .move (.c (.bool false)), none, .write, 0⟩])
 (.seq (.region [⟨(some 12), .makeMap, none, .write, 0⟩, ⟨(some 5), .move (.t 12), none, .write, 0⟩])
 (.seq (.seq (.region [⟨(some 13), .move (.t 1), none, .write, 0⟩, ⟨(some 14), .len 1 (.t 13), none, .write, 0⟩, ⟨(some 15), .move (.c (.int .i64 0)), none, .write, 0⟩])
 (.block 0 (.loop (.seq (.region [⟨(some 16), .arith .lss (.t 15) (.t 14), none, .write, 0⟩])
 (.seq (.cond (.t 16) .skip (.exit 0))
 (.seq (.block 1 (.seq (.region [⟨(some 17), .indexAddr 5 (.t 13) (.t 15), none, .write, 0⟩, ⟨(some 18), .load (some 5) (.t 17), none, .write, 0⟩, ⟨(some 7), .alloc 126 5 (.agg [(.str []), (.int .i64 0), (.int .i64 0), (.int .i64 0), (.str [])]), none, .write, 0⟩, ⟨none, .store 5 (.t 7) (.t 18), none, .write, 0⟩])
 (.region [⟨(some 19), .move (.t 5), none, .write, 0⟩, ⟨(some 20), .fieldAddr 0 (.t 7), none, .write, 0⟩, ⟨(some 21), .load none (.t 20), none, .write, 0⟩, ⟨(some 22), .load (some 5) (.t 7), none, .write, 0⟩, ⟨none, .mapUpdate (.prim 2) (.t 19) (.t 21) (.t 22), none, .write, 0⟩])))
 (.region [⟨(some 23), .arith .add (.t 15) (.c (.int .i64 1)), none, .write, 0⟩, ⟨(some 15), .move (.t 23), none, .write, 0⟩])))))))
 (.seq (.seq (.region [⟨(some 24), .move (.t 0), none, .write, 0⟩, ⟨(some 25), .len 1 (.t 24), none, .write, 0⟩, ⟨(some 26), .move (.c (.int .i64 0)), none, .write, 0⟩])
 (.block 2 (.loop (.seq (.region [⟨(some 27), .arith .lss (.t 26) (.t 25), none, .write, 0⟩])
 (.seq (.cond (.t 27) .skip (.exit 2))
 (.seq (.block 3 (.seq (.region [⟨(some 28), .indexAddr 5 (.t 24) (.t 26), none, .write, 0⟩, ⟨(some 29), .load (some 5) (.t 28), none, .write, 0⟩, ⟨(some 9), .alloc 126 5 (.agg [(.str []), (.int .i64 0), (.int .i64 0), (.int .i64 0), (.str [])]), none, .write, 0⟩, ⟨none, .store 5 (.t 9) (.t 29), none, .write, 0⟩])
 (.seq (.region [⟨(some 31), .move (.t 5), none, .write, 0⟩, ⟨(some 32), .fieldAddr 0 (.t 9), none, .write, 0⟩, ⟨(some 33), .load none (.t 32), none, .write, 0⟩, ⟨(some 34), .lookup (.prim 2) (.agg [(.str []), (.int .i64 0), (.int .i64 0), (.int .i64 0), (.str [])]) true (.t 31) (.t 33), none, .write, 0⟩, ⟨(some 30), .move (.t 34), none, .write, 0⟩, ⟨(some 35), .extract (.t 30) 0, none, .write, 0⟩, ⟨(some 36), .extract (.t 30) 1, none, .write, 0⟩, ⟨(some 10), .alloc 126 5 (.agg [(.str []), (.int .i64 0), (.int .i64 0), (.int .i64 0), (.str [])]), none, .write, 0⟩, ⟨none, .store 5 (.t 10) (.t 35), none, .write, 0⟩, ⟨(some 11), .move (.t 36), none, .write, 0⟩])
 (.seq (.region [⟨(some 37), .move (.t 11), none, .write, 0⟩, ⟨(some 38), .un .not (.t 37), none, .write, 0⟩, ⟨(some 39), .move (.t 38), none, .write, 0⟩, ⟨(some 40), .load (some 5) (.t 9), (some (39, false)), .write, 0⟩, ⟨(some 41), .load (some 5) (.t 10), (some (39, false)), .write, 0⟩, ⟨(some 42), .call (.c (.func 102 [])) [(.t 40), (.t 41)], (some (39, false)), .write, 0⟩, ⟨(some 43), .un .not (.t 42), (some (39, false)), .write, 0⟩, ⟨(some 44), .pick (.t 39) (.c (.bool true)) (.t 43), none, .write, 0⟩])
 (.cond (.t 44) (.seq (.region [⟨(some 4), .move (.c (.bool false)), none, .write, 0⟩])
 .ret) .skip)))))
 (.region [⟨(some 45), .arith .add (.t 26) (.c (.int .i64 1)), none, .write, 0⟩, ⟨(some 26), .move (.t 45), none, .write, 0⟩])))))))
 (.seq (.region [⟨(some 4), .move (.c (.bool true)), none, .write, 0⟩])
 .ret))))) }

theorem c92 : compFunc Tryz.prog Tryz.f92 .full = some t92 := by kernel_rfl

/-- slices.rotateRight[broadside/api.Entry] -/
def t94 : DFunc := { ntmps := 10, results := [], mode := .full, body :=
 (.region [⟨(some 4), .move (.t 0), none, .write, 0⟩, ⟨(some 5), .move (.t 0), none, .write, 0⟩, ⟨(some 6), .len 1 (.t 5), none, .write, 0⟩, ⟨(some 7), .move (.t 1), none, .write, 0⟩, ⟨(some 8), .arith .sub (.t 6) (.t 7), none, .write, 0⟩, ⟨(some 9), .call (.c (.func 103 [])) [(.t 4), (.t 8)], none, .write, 0⟩]) }

theorem c94 : compFunc Tryz.prog Tryz.f94 .full = some t94 := by kernel_rfl

/-- slices.order2Ordered[int] -/
def t95 : DFunc := { ntmps := 28, results := [(.t 8), (.t 9)], mode := .full, body :=
 (.seq (.region [⟨(some 8), .move (.c (.int .i64 0)), none, .write, 0⟩, ⟨(some 9), .move (.c (.int .i64 0)), none, .write, 0⟩])
 (.seq (.seq (.draw [⟨(some 10), .move (.t 0), none, .read, 0⟩, ⟨(some 11), .move (.t 2), none, .read, 0⟩, ⟨(some 12), .indexAddr 1 (.t 10) (.t 11), none, .read, 0⟩, ⟨(some 13), .load none (.t 12), none, .read, 0⟩, ⟨(some 14), .move (.t 0), none, .read, 0⟩, ⟨(some 15), .move (.t 1), none, .read, 0⟩, ⟨(some 16), .indexAddr 1 (.t 14) (.t 15), none, .read, 0⟩, ⟨(some 17), .load none (.t 16), none, .read, 0⟩, ⟨(some 18), .call (.c (.func 57 [])) [(.t 13), (.t 17)], none, .write, 0⟩])
 (.cond (.t 18) (.seq (.region [⟨(some 19), .move (.t 3), none, .write, 0⟩, ⟨(some 20), .nilCheck (.t 19), none, .write, 0⟩, ⟨(some 21), .load none (.t 20), none, .write, 0⟩, ⟨(some 22), .arith .add (.t 21) (.c (.int .i64 1)), none, .write, 0⟩, ⟨(some 23), .nilCheck (.t 19), none, .write, 0⟩, ⟨none, .store 1 (.t 23) (.t 22), none, .write, 0⟩])
 (.seq (.region [⟨(some 24), .move (.t 2), none, .write, 0⟩, ⟨(some 25), .move (.t 1), none, .write, 0⟩, ⟨(some 8), .move (.t 24), none, .write, 0⟩, ⟨(some 9), .move (.t 25), none, .write, 0⟩])
 .ret)) .skip))
 (.seq (.region [⟨(some 26), .move (.t 1), none, .write, 0⟩, ⟨(some 27), .move (.t 2), none, .write, 0⟩, ⟨(some 8), .move (.t 26), none, .write, 0⟩, ⟨(some 9), .move (.t 27), none, .write, 0⟩])
 .ret))) }

theorem c95 : compFunc Tryz.prog Tryz.f95 .full = some t95 := by kernel_rfl

end Go.Dm.TabR
