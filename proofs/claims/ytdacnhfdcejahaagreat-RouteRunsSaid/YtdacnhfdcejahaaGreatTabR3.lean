/-
The table of functions, brought into the machine's form (TabR, part 3). Written by program (wip/tools/table.lean.txt).
-/
import Derived.Test.YtdacnhfdcejahaaGreatDm32
import Derived.Test.YtdacnhfdcejahaaGreatRows
import Derived.KernelRfl
namespace Go.Dm.TabR
open Go.Proofs

/-- cmp.Or[int] -/
def t47 : DFunc := { ntmps := 18, results := [(.t 2)], mode := .full, body :=
 (.seq (.region [⟨(some 2), .move (.c (.int .i64 0)), none, .write, 0⟩])
 (.seq (.region [⟨(some 3), .move (.c (.int .i64 0)), none, .write, 0⟩])
 (.seq (.seq (.region [⟨(some 6), .move (.t 0), none, .write, 0⟩, ⟨(some 7), .len 1 (.t 6), none, .write, 0⟩, ⟨(some 8), .move (.c (.int .i64 0)), none, .write, 0⟩])
 (.block 0 (.loop (.seq (.region [⟨(some 9), .arith .lss (.t 8) (.t 7), none, .write, 0⟩])
 (.seq (.cond (.t 9) .skip (.exit 0))
 (.seq (.block 1 (.seq (.region [⟨(some 10), .indexAddr 1 (.t 6) (.t 8), none, .write, 0⟩, ⟨(some 11), .load none (.t 10), none, .write, 0⟩, ⟨(some 5), .move (.t 11), none, .write, 0⟩])
 (.seq (.region [⟨(some 12), .move (.t 5), none, .write, 0⟩, ⟨(some 13), .move (.t 3), none, .write, 0⟩, ⟨(some 14), .arith .neq (.t 12) (.t 13), none, .write, 0⟩])
 (.cond (.t 14) (.seq (.region [⟨(some 15), .move (.t 5), none, .write, 0⟩, ⟨(some 2), .move (.t 15), none, .write, 0⟩])
 .ret) .skip))))
 (.region [⟨(some 16), .arith .add (.t 8) (.c (.int .i64 1)), none, .write, 0⟩, ⟨(some 8), .move (.t 16), none, .write, 0⟩])))))))
 (.seq (.region [⟨(some 17), .move (.t 3), none, .write, 0⟩, ⟨(some 2), .move (.t 17), none, .write, 0⟩])
 .ret)))) }

theorem c47 : compFunc Tryz.prog Tryz.f47 .full = some t47 := by kernel_rfl

/-- cmp.Compare[int] -/
def t48 : DFunc := { ntmps := 20, results := [(.t 4)], mode := .full, body :=
 (.seq (.region [⟨(some 4), .move (.c (.int .i64 0)), none, .write, 0⟩])
 (.seq (.region [⟨(some 7), .move (.t 0), none, .write, 0⟩, ⟨(some 8), .call (.c (.func 69 [])) [(.t 7)], none, .write, 0⟩, ⟨(some 5), .move (.t 8), none, .write, 0⟩])
 (.seq (.region [⟨(some 9), .move (.t 1), none, .write, 0⟩, ⟨(some 10), .call (.c (.func 69 [])) [(.t 9)], none, .write, 0⟩, ⟨(some 6), .move (.t 10), none, .write, 0⟩])
 (.seq (.seq (.region [⟨(some 11), .move (.t 5), none, .write, 0⟩])
 (.cond (.t 11) (.seq (.seq (.region [⟨(some 12), .move (.t 6), none, .write, 0⟩])
 (.cond (.t 12) (.seq (.region [⟨(some 4), .move (.c (.int .i64 0)), none, .write, 0⟩])
 .ret) .skip))
 (.seq (.region [⟨(some 4), .move (.c (.int .i64 (-1))), none, .write, 0⟩])
 .ret)) .skip))
 (.seq (.seq (.region [⟨(some 13), .move (.t 6), none, .write, 0⟩])
 (.cond (.t 13) (.seq (.region [⟨(some 4), .move (.c (.int .i64 1)), none, .write, 0⟩])
 .ret) .skip))
 (.seq (.seq (.region [⟨(some 14), .move (.t 0), none, .write, 0⟩, ⟨(some 15), .move (.t 1), none, .write, 0⟩, ⟨(some 16), .arith .lss (.t 14) (.t 15), none, .write, 0⟩])
 (.cond (.t 16) (.seq (.region [⟨(some 4), .move (.c (.int .i64 (-1))), none, .write, 0⟩])
 .ret) .skip))
 (.seq (.seq (.region [⟨(some 17), .move (.t 0), none, .write, 0⟩, ⟨(some 18), .move (.t 1), none, .write, 0⟩, ⟨(some 19), .arith .gtr (.t 17) (.t 18), none, .write, 0⟩])
 (.cond (.t 19) (.seq (.region [⟨(some 4), .move (.c (.int .i64 1)), none, .write, 0⟩])
 .ret) .skip))
 (.seq (.region [⟨(some 4), .move (.c (.int .i64 0)), none, .write, 0⟩])
 .ret)))))))) }

theorem c48 : compFunc Tryz.prog Tryz.f48 .full = some t48 := by kernel_rfl

/-- slices.rotateLeft[broadside/api.Advert] -/
def t49 : DFunc := { ntmps := 14, results := [], mode := .full, body :=
 (.seq (.region [⟨(some 4), .move (.t 0), none, .write, 0⟩, ⟨(some 5), .move (.t 1), none, .write, 0⟩, ⟨(some 6), .sliceSl 4 (.t 4) none (some (.t 5)), none, .write, 0⟩, ⟨(some 7), .call (.c (.func 70 [])) [(.t 6)], none, .write, 0⟩])
 (.seq (.region [⟨(some 8), .move (.t 0), none, .write, 0⟩, ⟨(some 9), .move (.t 1), none, .write, 0⟩, ⟨(some 10), .sliceSl 4 (.t 8) (some (.t 9)) none, none, .write, 0⟩, ⟨(some 11), .call (.c (.func 70 [])) [(.t 10)], none, .write, 0⟩])
 (.region [⟨(some 12), .move (.t 0), none, .write, 0⟩, ⟨(some 13), .call (.c (.func 70 [])) [(.t 12)], none, .write, 0⟩]))) }

theorem c49 : compFunc Tryz.prog Tryz.f49 .full = some t49 := by kernel_rfl

/-- slices.rotateLeft[broadside/api.ID] -/
def t50 : DFunc := { ntmps := 14, results := [], mode := .full, body :=
 (.seq (.region [⟨(some 4), .move (.t 0), none, .write, 0⟩, ⟨(some 5), .move (.t 1), none, .write, 0⟩, ⟨(some 6), .sliceSl 2 (.t 4) none (some (.t 5)), none, .write, 0⟩, ⟨(some 7), .call (.c (.func 71 [])) [(.t 6)], none, .write, 0⟩])
 (.seq (.region [⟨(some 8), .move (.t 0), none, .write, 0⟩, ⟨(some 9), .move (.t 1), none, .write, 0⟩, ⟨(some 10), .sliceSl 2 (.t 8) (some (.t 9)) none, none, .write, 0⟩, ⟨(some 11), .call (.c (.func 71 [])) [(.t 10)], none, .write, 0⟩])
 (.region [⟨(some 12), .move (.t 0), none, .write, 0⟩, ⟨(some 13), .call (.c (.func 71 [])) [(.t 12)], none, .write, 0⟩]))) }

theorem c50 : compFunc Tryz.prog Tryz.f50 .full = some t50 := by kernel_rfl

/-- slices.insertionSortOrdered[int] -/
def t51 : DFunc := { ntmps := 49, results := [], mode := .full, body :=
 (.seq (.region [⟨(some 8), .move (.t 1), none, .write, 0⟩, ⟨(some 9), .arith .add (.t 8) (.c (.int .i64 1)), none, .write, 0⟩, ⟨(some 6), .move (.t 9), none, .write, 0⟩])
 (.block 0 (.loop (.seq (.seq (.region [⟨(some 10), .move (.t 6), none, .write, 0⟩, ⟨(some 11), .move (.t 2), none, .write, 0⟩, ⟨(some 12), .arith .lss (.t 10) (.t 11), none, .write, 0⟩])
 (.cond (.t 12) .skip (.exit 0)))
 (.seq (.block 1 (.seq (.region [⟨(some 15), .move (.t 6), none, .write, 0⟩, ⟨(some 7), .move (.t 15), none, .write, 0⟩])
 (.block 2 (.loop (.seq (.seq (.draw [⟨(some 16), .move (.t 7), none, .read, 0⟩, ⟨(some 17), .move (.t 1), none, .read, 0⟩, ⟨(some 18), .arith .gtr (.t 16) (.t 17), none, .read, 0⟩, ⟨(some 19), .move (.t 18), none, .read, 0⟩, ⟨(some 20), .move (.t 0), (some (19, true)), .read, 0⟩, ⟨(some 21), .move (.t 7), (some (19, true)), .read, 0⟩, ⟨(some 22), .indexAddr 1 (.t 20) (.t 21), (some (19, true)), .read, 0⟩, ⟨(some 23), .load none (.t 22), (some (19, true)), .read, 0⟩, ⟨(some 24), .move (.t 0), (some (19, true)), .read, 0⟩, ⟨(some 25), .move (.t 7), (some (19, true)), .read, 0⟩, ⟨(some 26), .arith .sub (.t 25) (.c (.int .i64 1)), (some (19, true)), .read, 0⟩, ⟨(some 27), .indexAddr 1 (.t 24) (.t 26), (some (19, true)), .read, 0⟩, ⟨(some 28), .load none (.t 27), (some (19, true)), .read, 0⟩, ⟨(some 29), .call (.c (.func 57 [])) [(.t 23), (.t 28)], (some (19, true)), .write, 0⟩, ⟨(some 30), .pick (.t 19) (.t 29) (.c (.bool false)), none, .read, 1⟩])
 (.cond (.t 30) .skip (.exit 2)))
 (.seq (.block 3 (.draw [⟨(some 38), .move (.t 0), none, .read, 0⟩, ⟨(some 39), .move (.t 7), none, .read, 0⟩, ⟨(some 40), .arith .sub (.t 39) (.c (.int .i64 1)), none, .read, 0⟩, ⟨(some 41), .indexAddr 1 (.t 38) (.t 40), none, .read, 0⟩, ⟨(some 42), .load none (.t 41), none, .read, 0⟩, ⟨(some 43), .move (.t 0), none, .read, 0⟩, ⟨(some 44), .move (.t 7), none, .read, 0⟩, ⟨(some 45), .indexAddr 1 (.t 43) (.t 44), none, .read, 0⟩, ⟨(some 46), .load none (.t 45), none, .read, 0⟩, ⟨(some 33), .move (.t 0), none, .read, 0⟩, ⟨(some 34), .move (.t 7), none, .read, 0⟩, ⟨(some 47), .indexAddr 1 (.t 33) (.t 34), none, .read, 0⟩, ⟨none, .store 1 (.t 47) (.t 42), none, .write, 0⟩, ⟨(some 35), .move (.t 0), none, .read, 0⟩, ⟨(some 36), .move (.t 7), none, .read, 0⟩, ⟨(some 37), .arith .sub (.t 36) (.c (.int .i64 1)), none, .read, 0⟩, ⟨(some 48), .indexAddr 1 (.t 35) (.t 37), none, .read, 1⟩, ⟨none, .store 1 (.t 48) (.t 46), none, .write, 1⟩]))
 (.region [⟨(some 31), .move (.t 7), none, .write, 0⟩, ⟨(some 32), .arith .sub (.t 31) (.c (.int .i64 1)), none, .write, 0⟩, ⟨(some 7), .move (.t 32), none, .write, 0⟩])))))))
 (.region [⟨(some 13), .move (.t 6), none, .write, 0⟩, ⟨(some 14), .arith .add (.t 13) (.c (.int .i64 1)), none, .write, 0⟩, ⟨(some 6), .move (.t 14), none, .write, 0⟩])))))) }

theorem c51 : compFunc Tryz.prog Tryz.f51 .full = some t51 := by kernel_rfl

/-- slices.heapSortOrdered[int] -/
def t52 : DFunc := { ntmps := 56, results := [], mode := .full, body :=
 (.seq (.region [⟨(some 11), .move (.t 1), none, .write, 0⟩, ⟨(some 6), .move (.t 11), none, .write, 0⟩])
 (.seq (.region [⟨(some 7), .move (.c (.int .i64 0)), none, .write, 0⟩])
 (.seq (.region [⟨(some 12), .move (.t 2), none, .write, 0⟩, ⟨(some 13), .move (.t 1), none, .write, 0⟩, ⟨(some 14), .arith .sub (.t 12) (.t 13), none, .write, 0⟩, ⟨(some 8), .move (.t 14), none, .write, 0⟩])
 (.seq (.seq (.region [⟨(some 15), .move (.t 8), none, .write, 0⟩, ⟨(some 16), .arith .sub (.t 15) (.c (.int .i64 1)), none, .write, 0⟩, ⟨(some 17), .arith .quo (.t 16) (.c (.int .i64 2)), none, .write, 0⟩, ⟨(some 9), .move (.t 17), none, .write, 0⟩])
 (.block 0 (.loop (.seq (.seq (.region [⟨(some 18), .move (.t 9), none, .write, 0⟩, ⟨(some 19), .arith .geq (.t 18) (.c (.int .i64 0)), none, .write, 0⟩])
 (.cond (.t 19) .skip (.exit 0)))
 (.seq (.block 1 (.region [⟨(some 22), .move (.t 0), none, .write, 0⟩, ⟨(some 23), .move (.t 9), none, .write, 0⟩, ⟨(some 24), .move (.t 8), none, .write, 0⟩, ⟨(some 25), .move (.t 6), none, .write, 0⟩, ⟨(some 26), .call (.c (.func 72 [])) [(.t 22), (.t 23), (.t 24), (.t 25)], none, .write, 0⟩]))
 (.region [⟨(some 20), .move (.t 9), none, .write, 0⟩, ⟨(some 21), .arith .sub (.t 20) (.c (.int .i64 1)), none, .write, 0⟩, ⟨(some 9), .move (.t 21), none, .write, 0⟩]))))))
 (.seq (.region [⟨(some 27), .move (.t 8), none, .write, 0⟩, ⟨(some 28), .arith .sub (.t 27) (.c (.int .i64 1)), none, .write, 0⟩, ⟨(some 10), .move (.t 28), none, .write, 0⟩])
 (.block 2 (.loop (.seq (.seq (.region [⟨(some 29), .move (.t 10), none, .write, 0⟩, ⟨(some 30), .arith .geq (.t 29) (.c (.int .i64 0)), none, .write, 0⟩])
 (.cond (.t 30) .skip (.exit 2)))
 (.seq (.block 3 (.seq (.draw [⟨(some 39), .move (.t 0), none, .read, 0⟩, ⟨(some 40), .move (.t 6), none, .read, 0⟩, ⟨(some 41), .move (.t 10), none, .read, 0⟩, ⟨(some 42), .arith .add (.t 40) (.t 41), none, .read, 0⟩, ⟨(some 43), .indexAddr 1 (.t 39) (.t 42), none, .read, 0⟩, ⟨(some 44), .load none (.t 43), none, .read, 0⟩, ⟨(some 45), .move (.t 0), none, .read, 0⟩, ⟨(some 46), .move (.t 6), none, .read, 0⟩, ⟨(some 47), .indexAddr 1 (.t 45) (.t 46), none, .read, 0⟩, ⟨(some 48), .load none (.t 47), none, .read, 0⟩, ⟨(some 33), .move (.t 0), none, .read, 0⟩, ⟨(some 34), .move (.t 6), none, .read, 0⟩, ⟨(some 49), .indexAddr 1 (.t 33) (.t 34), none, .read, 0⟩, ⟨none, .store 1 (.t 49) (.t 44), none, .write, 0⟩, ⟨(some 35), .move (.t 0), none, .read, 0⟩, ⟨(some 36), .move (.t 6), none, .read, 0⟩, ⟨(some 37), .move (.t 10), none, .read, 0⟩, ⟨(some 38), .arith .add (.t 36) (.t 37), none, .read, 0⟩, ⟨(some 50), .indexAddr 1 (.t 35) (.t 38), none, .read, 1⟩, ⟨none, .store 1 (.t 50) (.t 48), none, .write, 1⟩])
 (.region [⟨(some 51), .move (.t 0), none, .write, 0⟩, ⟨(some 52), .move (.t 7), none, .write, 0⟩, ⟨(some 53), .move (.t 10), none, .write, 0⟩, ⟨(some 54), .move (.t 6), none, .write, 0⟩, ⟨(some 55), .call (.c (.func 72 [])) [(.t 51), (.t 52), (.t 53), (.t 54)], none, .write, 0⟩])))
 (.region [⟨(some 31), .move (.t 10), none, .write, 0⟩, ⟨(some 32), .arith .sub (.t 31) (.c (.int .i64 1)), none, .write, 0⟩, ⟨(some 10), .move (.t 32), none, .write, 0⟩])))))))))) }

theorem c52 : compFunc Tryz.prog Tryz.f52 .full = some t52 := by kernel_rfl

/-- slices.breakPatternsOrdered[int] -/
def t53 : DFunc := { ntmps := 65, results := [], mode := .full, body :=
 (.seq (.region [⟨(some 11), .move (.t 2), none, .write, 0⟩, ⟨(some 12), .move (.t 1), none, .write, 0⟩, ⟨(some 13), .arith .sub (.t 11) (.t 12), none, .write, 0⟩, ⟨(some 6), .move (.t 13), none, .write, 0⟩])
 (.seq (.region [⟨(some 14), .move (.t 6), none, .write, 0⟩, ⟨(some 15), .arith .geq (.t 14) (.c (.int .i64 8)), none, .write, 0⟩])
 (.cond (.t 15) (.seq (.region [⟨(some 16), .move (.t 6), none, .write, 0⟩, ⟨(some 17), .conv .u64 (.t 16), none, .write, 0⟩, ⟨(some 7), .alloc 118 1 (.int .u64 0), none, .write, 0⟩, ⟨none, .store 1 (.t 7) (.t 17), none, .write, 0⟩])
 (.seq (.region [⟨(some 18), .move (.t 6), none, .write, 0⟩, ⟨(some 19), .call (.c (.func 73 [])) [(.t 18)], none, .write, 0⟩, ⟨(some 8), .move (.t 19), none, .write, 0⟩])
 (.seq (.region [⟨(some 20), .move (.t 1), none, .write, 0⟩, ⟨(some 21), .move (.t 6), none, .write, 0⟩, ⟨(some 22), .arith .quo (.t 21) (.c (.int .i64 4)), none, .write, 0⟩, ⟨(some 23), .arith .mul (.t 22) (.c (.int .i64 2)), none, .write, 0⟩, ⟨(some 24), .arith .add (.t 20) (.t 23), none, .write, 0⟩, ⟨(some 25), .arith .sub (.t 24) (.c (.int .i64 1)), none, .write, 0⟩, ⟨(some 9), .move (.t 25), none, .write, 0⟩])
 (.block 0 (.loop (.seq (.seq (.region [⟨(some 26), .move (.t 9), none, .write, 0⟩, ⟨(some 27), .move (.t 1), none, .write, 0⟩, ⟨(some 28), .move (.t 6), none, .write, 0⟩, ⟨(some 29), .arith .quo (.t 28) (.c (.int .i64 4)), none, .write, 0⟩, ⟨(some 30), .arith .mul (.t 29) (.c (.int .i64 2)), none, .write, 0⟩, ⟨(some 31), .arith .add (.t 27) (.t 30), none, .write, 0⟩, ⟨(some 32), .arith .add (.t 31) (.c (.int .i64 1)), none, .write, 0⟩, ⟨(some 33), .arith .leq (.t 26) (.t 32), none, .write, 0⟩])
 (.cond (.t 33) .skip (.exit 0)))
 (.seq (.block 1 (.seq (.region [⟨(some 36), .call (.c (.func 74 [])) [(.t 7)], none, .write, 0⟩, ⟨(some 37), .move (.t 8), none, .write, 0⟩, ⟨(some 38), .arith .sub (.t 37) (.c (.int .u64 1)), none, .write, 0⟩, ⟨(some 39), .arith .and (.t 36) (.t 38), none, .write, 0⟩, ⟨(some 40), .conv .i64 (.t 39), none, .write, 0⟩, ⟨(some 10), .move (.t 40), none, .write, 0⟩])
 (.seq (.seq (.region [⟨(some 41), .move (.t 10), none, .write, 0⟩, ⟨(some 42), .move (.t 6), none, .write, 0⟩, ⟨(some 43), .arith .geq (.t 41) (.t 42), none, .write, 0⟩])
 (.cond (.t 43) (.region [⟨(some 44), .move (.t 10), none, .write, 0⟩, ⟨(some 45), .move (.t 6), none, .write, 0⟩, ⟨(some 46), .arith .sub (.t 44) (.t 45), none, .write, 0⟩, ⟨(some 10), .move (.t 46), none, .write, 0⟩]) .skip))
 (.draw [⟨(some 53), .move (.t 0), none, .read, 0⟩, ⟨(some 54), .move (.t 1), none, .read, 0⟩, ⟨(some 55), .move (.t 10), none, .read, 0⟩, ⟨(some 56), .arith .add (.t 54) (.t 55), none, .read, 0⟩, ⟨(some 57), .indexAddr 1 (.t 53) (.t 56), none, .read, 0⟩, ⟨(some 58), .load none (.t 57), none, .read, 0⟩, ⟨(some 59), .move (.t 0), none, .read, 0⟩, ⟨(some 60), .move (.t 9), none, .read, 0⟩, ⟨(some 61), .indexAddr 1 (.t 59) (.t 60), none, .read, 0⟩, ⟨(some 62), .load none (.t 61), none, .read, 0⟩, ⟨(some 47), .move (.t 0), none, .read, 0⟩, ⟨(some 48), .move (.t 9), none, .read, 0⟩, ⟨(some 63), .indexAddr 1 (.t 47) (.t 48), none, .read, 0⟩, ⟨none, .store 1 (.t 63) (.t 58), none, .write, 0⟩, ⟨(some 49), .move (.t 0), none, .read, 0⟩, ⟨(some 50), .move (.t 1), none, .read, 0⟩, ⟨(some 51), .move (.t 10), none, .read, 0⟩, ⟨(some 52), .arith .add (.t 50) (.t 51), none, .read, 0⟩, ⟨(some 64), .indexAddr 1 (.t 49) (.t 52), none, .read, 1⟩, ⟨none, .store 1 (.t 64) (.t 62), none, .write, 1⟩]))))
 (.region [⟨(some 34), .move (.t 9), none, .write, 0⟩, ⟨(some 35), .arith .add (.t 34) (.c (.int .i64 1)), none, .write, 0⟩, ⟨(some 9), .move (.t 35), none, .write, 0⟩])))))))) .skip))) }

theorem c53 : compFunc Tryz.prog Tryz.f53 .full = some t53 := by kernel_rfl

/-- slices.choosePivotOrdered[int] -/
def t54 : DFunc := { ntmps := 57, results := [(.t 6), (.t 7)], mode := .full, body :=
 (.seq (.region [⟨(some 6), .move (.c (.int .i64 0)), none, .write, 0⟩, ⟨(some 7), .move (.c (.int .i64 0)), none, .write, 0⟩])
 (.seq (.region [⟨(some 13), .move (.t 2), none, .write, 0⟩, ⟨(some 14), .move (.t 1), none, .write, 0⟩, ⟨(some 15), .arith .sub (.t 13) (.t 14), none, .write, 0⟩, ⟨(some 8), .move (.t 15), none, .write, 0⟩])
 (.seq (.region [⟨(some 9), .alloc 3 1 (.int .i64 0), none, .write, 0⟩])
 (.seq (.region [⟨(some 16), .move (.t 1), none, .write, 0⟩, ⟨(some 17), .move (.t 8), none, .write, 0⟩, ⟨(some 18), .arith .quo (.t 17) (.c (.int .i64 4)), none, .write, 0⟩, ⟨(some 19), .arith .mul (.t 18) (.c (.int .i64 1)), none, .write, 0⟩, ⟨(some 20), .arith .add (.t 16) (.t 19), none, .write, 0⟩, ⟨(some 10), .move (.t 20), none, .write, 0⟩])
 (.seq (.region [⟨(some 21), .move (.t 1), none, .write, 0⟩, ⟨(some 22), .move (.t 8), none, .write, 0⟩, ⟨(some 23), .arith .quo (.t 22) (.c (.int .i64 4)), none, .write, 0⟩, ⟨(some 24), .arith .mul (.t 23) (.c (.int .i64 2)), none, .write, 0⟩, ⟨(some 25), .arith .add (.t 21) (.t 24), none, .write, 0⟩, ⟨(some 11), .move (.t 25), none, .write, 0⟩])
 (.seq (.region [⟨(some 26), .move (.t 1), none, .write, 0⟩, ⟨(some 27), .move (.t 8), none, .write, 0⟩, ⟨(some 28), .arith .quo (.t 27) (.c (.int .i64 4)), none, .write, 0⟩, ⟨(some 29), .arith .mul (.t 28) (.c (.int .i64 3)), none, .write, 0⟩, ⟨(some 30), .arith .add (.t 26) (.t 29), none, .write, 0⟩, ⟨(some 12), .move (.t 30), none, .write, 0⟩])
 (.seq (.seq (.region [⟨(some 31), .move (.t 8), none, .write, 0⟩, ⟨(some 32), .arith .geq (.t 31) (.c (.int .i64 8)), none, .write, 0⟩])
 (.cond (.t 32) (.seq (.seq (.region [⟨(some 33), .move (.t 8), none, .write, 0⟩, ⟨(some 34), .arith .geq (.t 33) (.c (.int .i64 50)), none, .write, 0⟩])
 (.cond (.t 34) (.seq (.region [⟨(some 35), .move (.t 0), none, .write, 0⟩, ⟨(some 36), .move (.t 10), none, .write, 0⟩, ⟨(some 37), .call (.c (.func 75 [])) [(.t 35), (.t 36), (.t 9)], none, .write, 0⟩, ⟨(some 10), .move (.t 37), none, .write, 0⟩])
 (.seq (.region [⟨(some 38), .move (.t 0), none, .write, 0⟩, ⟨(some 39), .move (.t 11), none, .write, 0⟩, ⟨(some 40), .call (.c (.func 75 [])) [(.t 38), (.t 39), (.t 9)], none, .write, 0⟩, ⟨(some 11), .move (.t 40), none, .write, 0⟩])
 (.region [⟨(some 41), .move (.t 0), none, .write, 0⟩, ⟨(some 42), .move (.t 12), none, .write, 0⟩, ⟨(some 43), .call (.c (.func 75 [])) [(.t 41), (.t 42), (.t 9)], none, .write, 0⟩, ⟨(some 12), .move (.t 43), none, .write, 0⟩]))) .skip))
 (.region [⟨(some 44), .move (.t 0), none, .write, 0⟩, ⟨(some 45), .move (.t 10), none, .write, 0⟩, ⟨(some 46), .move (.t 11), none, .write, 0⟩, ⟨(some 47), .move (.t 12), none, .write, 0⟩, ⟨(some 48), .call (.c (.func 76 [])) [(.t 44), (.t 45), (.t 46), (.t 47), (.t 9)], none, .write, 0⟩, ⟨(some 11), .move (.t 48), none, .write, 0⟩])) .skip))
 (.seq (.region [⟨(some 49), .load none (.t 9), none, .write, 0⟩])
 (.block 0 (.seq (.region [⟨(some 52), .arith .eql (.t 49) (.c (.int .i64 0)), none, .write, 0⟩, ⟨(some 51), .move (.t 52), none, .write, 0⟩])
 (.cond (.t 51) (.seq (.region [⟨(some 53), .move (.t 11), none, .write, 0⟩, ⟨(some 6), .move (.t 53), none, .write, 0⟩, ⟨(some 7), .move (.c (.int .i64 1)), none, .write, 0⟩])
 .ret) (.seq (.region [⟨(some 55), .arith .eql (.t 49) (.c (.int .i64 12)), none, .write, 0⟩, ⟨(some 54), .move (.t 55), none, .write, 0⟩])
 (.cond (.t 54) (.seq (.region [⟨(some 56), .move (.t 11), none, .write, 0⟩, ⟨(some 6), .move (.t 56), none, .write, 0⟩, ⟨(some 7), .move (.c (.int .i64 2)), none, .write, 0⟩])
 .ret) (.seq (.region [⟨(some 50), .move (.t 11), none, .write, 0⟩, ⟨(some 6), .move (.t 50), none, .write, 0⟩, ⟨(some 7), .move (.c (.int .i64 0)), none, .write, 0⟩])
 .ret)))))))))))))) }

theorem c54 : compFunc Tryz.prog Tryz.f54 .full = some t54 := by kernel_rfl

/-- slices.reverseRangeOrdered[int] -/
def t55 : DFunc := { ntmps := 32, results := [], mode := .full, body :=
 (.seq (.region [⟨(some 8), .move (.t 1), none, .write, 0⟩, ⟨(some 6), .move (.t 8), none, .write, 0⟩])
 (.seq (.region [⟨(some 9), .move (.t 2), none, .write, 0⟩, ⟨(some 10), .arith .sub (.t 9) (.c (.int .i64 1)), none, .write, 0⟩, ⟨(some 7), .move (.t 10), none, .write, 0⟩])
 (.block 0 (.loop (.seq (.seq (.region [⟨(some 11), .move (.t 6), none, .write, 0⟩, ⟨(some 12), .move (.t 7), none, .write, 0⟩, ⟨(some 13), .arith .lss (.t 11) (.t 12), none, .write, 0⟩])
 (.cond (.t 13) .skip (.exit 0)))
 (.block 1 (.seq (.draw [⟨(some 18), .move (.t 0), none, .read, 0⟩, ⟨(some 19), .move (.t 7), none, .read, 0⟩, ⟨(some 20), .indexAddr 1 (.t 18) (.t 19), none, .read, 0⟩, ⟨(some 21), .load none (.t 20), none, .read, 0⟩, ⟨(some 22), .move (.t 0), none, .read, 0⟩, ⟨(some 23), .move (.t 6), none, .read, 0⟩, ⟨(some 24), .indexAddr 1 (.t 22) (.t 23), none, .read, 0⟩, ⟨(some 25), .load none (.t 24), none, .read, 0⟩, ⟨(some 14), .move (.t 0), none, .read, 0⟩, ⟨(some 15), .move (.t 6), none, .read, 0⟩, ⟨(some 26), .indexAddr 1 (.t 14) (.t 15), none, .read, 0⟩, ⟨none, .store 1 (.t 26) (.t 21), none, .write, 0⟩, ⟨(some 16), .move (.t 0), none, .read, 0⟩, ⟨(some 17), .move (.t 7), none, .read, 0⟩, ⟨(some 27), .indexAddr 1 (.t 16) (.t 17), none, .read, 1⟩, ⟨none, .store 1 (.t 27) (.t 25), none, .write, 1⟩])
 (.seq (.region [⟨(some 28), .move (.t 6), none, .write, 0⟩, ⟨(some 29), .arith .add (.t 28) (.c (.int .i64 1)), none, .write, 0⟩, ⟨(some 6), .move (.t 29), none, .write, 0⟩])
 (.region [⟨(some 30), .move (.t 7), none, .write, 0⟩, ⟨(some 31), .arith .sub (.t 30) (.c (.int .i64 1)), none, .write, 0⟩, ⟨(some 7), .move (.t 31), none, .write, 0⟩]))))))))) }

theorem c55 : compFunc Tryz.prog Tryz.f55 .full = some t55 := by kernel_rfl

/-- slices.partialInsertionSortOrdered[int] -/
def t56 : DFunc := { ntmps := 133, results := [(.t 6)], mode := .full, body :=
 (.seq (.region [⟨(some 6), .move (.c (.bool false)), none, .write, 0⟩])
 (.seq (.region [⟨(some 11), .move (.t 1), none, .write, 0⟩, ⟨(some 12), .arith .add (.t 11) (.c (.int .i64 1)), none, .write, 0⟩, ⟨(some 7), .move (.t 12), none, .write, 0⟩])
 (.seq (.seq (.region [⟨(some 8), .move (.c (.int .i64 0)), none, .write, 0⟩])
 (.block 0 (.loop (.seq (.seq (.region [⟨(some 13), .move (.t 8), none, .write, 0⟩, ⟨(some 14), .arith .lss (.t 13) (.c (.int .i64 5)), none, .write, 0⟩])
 (.cond (.t 14) .skip (.exit 0)))
 (.seq (.block 1 (.seq (.block 2 (.loop (.seq (.seq (.draw [⟨(some 17), .move (.t 7), none, .read, 0⟩, ⟨(some 18), .move (.t 2), none, .read, 0⟩, ⟨(some 19), .arith .lss (.t 17) (.t 18), none, .read, 0⟩, ⟨(some 20), .move (.t 19), none, .read, 0⟩, ⟨(some 21), .move (.t 0), (some (20, true)), .read, 0⟩, ⟨(some 22), .move (.t 7), (some (20, true)), .read, 0⟩, ⟨(some 23), .indexAddr 1 (.t 21) (.t 22), (some (20, true)), .read, 0⟩, ⟨(some 24), .load none (.t 23), (some (20, true)), .read, 0⟩, ⟨(some 25), .move (.t 0), (some (20, true)), .read, 0⟩, ⟨(some 26), .move (.t 7), (some (20, true)), .read, 0⟩, ⟨(some 27), .arith .sub (.t 26) (.c (.int .i64 1)), (some (20, true)), .read, 0⟩, ⟨(some 28), .indexAddr 1 (.t 25) (.t 27), (some (20, true)), .read, 0⟩, ⟨(some 29), .load none (.t 28), (some (20, true)), .read, 0⟩, ⟨(some 30), .call (.c (.func 57 [])) [(.t 24), (.t 29)], (some (20, true)), .write, 0⟩, ⟨(some 31), .un .not (.t 30), (some (20, true)), .read, 1⟩, ⟨(some 32), .pick (.t 20) (.t 31) (.c (.bool false)), none, .read, 1⟩])
 (.cond (.t 32) .skip (.exit 2)))
 (.block 3 (.region [⟨(some 33), .move (.t 7), none, .write, 0⟩, ⟨(some 34), .arith .add (.t 33) (.c (.int .i64 1)), none, .write, 0⟩, ⟨(some 7), .move (.t 34), none, .write, 0⟩])))))
 (.seq (.seq (.region [⟨(some 35), .move (.t 7), none, .write, 0⟩, ⟨(some 36), .move (.t 2), none, .write, 0⟩, ⟨(some 37), .arith .eql (.t 35) (.t 36), none, .write, 0⟩])
 (.cond (.t 37) (.seq (.region [⟨(some 6), .move (.c (.bool true)), none, .write, 0⟩])
 .ret) .skip))
 (.seq (.seq (.region [⟨(some 38), .move (.t 2), none, .write, 0⟩, ⟨(some 39), .move (.t 1), none, .write, 0⟩, ⟨(some 40), .arith .sub (.t 38) (.t 39), none, .write, 0⟩, ⟨(some 41), .arith .lss (.t 40) (.c (.int .i64 50)), none, .write, 0⟩])
 (.cond (.t 41) (.seq (.region [⟨(some 6), .move (.c (.bool false)), none, .write, 0⟩])
 .ret) .skip))
 (.seq (.draw [⟨(some 47), .move (.t 0), none, .read, 0⟩, ⟨(some 48), .move (.t 7), none, .read, 0⟩, ⟨(some 49), .arith .sub (.t 48) (.c (.int .i64 1)), none, .read, 0⟩, ⟨(some 50), .indexAddr 1 (.t 47) (.t 49), none, .read, 0⟩, ⟨(some 51), .load none (.t 50), none, .read, 0⟩, ⟨(some 52), .move (.t 0), none, .read, 0⟩, ⟨(some 53), .move (.t 7), none, .read, 0⟩, ⟨(some 54), .indexAddr 1 (.t 52) (.t 53), none, .read, 0⟩, ⟨(some 55), .load none (.t 54), none, .read, 0⟩, ⟨(some 42), .move (.t 0), none, .read, 0⟩, ⟨(some 43), .move (.t 7), none, .read, 0⟩, ⟨(some 56), .indexAddr 1 (.t 42) (.t 43), none, .read, 0⟩, ⟨none, .store 1 (.t 56) (.t 51), none, .write, 0⟩, ⟨(some 44), .move (.t 0), none, .read, 0⟩, ⟨(some 45), .move (.t 7), none, .read, 0⟩, ⟨(some 46), .arith .sub (.t 45) (.c (.int .i64 1)), none, .read, 0⟩, ⟨(some 57), .indexAddr 1 (.t 44) (.t 46), none, .read, 1⟩, ⟨none, .store 1 (.t 57) (.t 55), none, .write, 1⟩])
 (.seq (.seq (.region [⟨(some 58), .move (.t 7), none, .write, 0⟩, ⟨(some 59), .move (.t 1), none, .write, 0⟩, ⟨(some 60), .arith .sub (.t 58) (.t 59), none, .write, 0⟩, ⟨(some 61), .arith .geq (.t 60) (.c (.int .i64 2)), none, .write, 0⟩])
 (.cond (.t 61) (.seq (.region [⟨(some 62), .move (.t 7), none, .write, 0⟩, ⟨(some 63), .arith .sub (.t 62) (.c (.int .i64 1)), none, .write, 0⟩, ⟨(some 9), .move (.t 63), none, .write, 0⟩])
 (.block 4 (.loop (.seq (.seq (.region [⟨(some 64), .move (.t 9), none, .write, 0⟩, ⟨(some 65), .arith .geq (.t 64) (.c (.int .i64 1)), none, .write, 0⟩])
 (.cond (.t 65) .skip (.exit 4)))
 (.seq (.block 5 (.seq (.seq (.draw [⟨(some 68), .move (.t 0), none, .read, 0⟩, ⟨(some 69), .move (.t 9), none, .read, 0⟩, ⟨(some 70), .indexAddr 1 (.t 68) (.t 69), none, .read, 0⟩, ⟨(some 71), .load none (.t 70), none, .read, 0⟩, ⟨(some 72), .move (.t 0), none, .read, 0⟩, ⟨(some 73), .move (.t 9), none, .read, 0⟩, ⟨(some 74), .arith .sub (.t 73) (.c (.int .i64 1)), none, .read, 0⟩, ⟨(some 75), .indexAddr 1 (.t 72) (.t 74), none, .read, 0⟩, ⟨(some 76), .load none (.t 75), none, .read, 0⟩, ⟨(some 77), .call (.c (.func 57 [])) [(.t 71), (.t 76)], none, .write, 0⟩, ⟨(some 78), .un .not (.t 77), none, .read, 1⟩])
 (.cond (.t 78) (.exit 4) .skip))
 (.draw [⟨(some 84), .move (.t 0), none, .read, 0⟩, ⟨(some 85), .move (.t 9), none, .read, 0⟩, ⟨(some 86), .arith .sub (.t 85) (.c (.int .i64 1)), none, .read, 0⟩, ⟨(some 87), .indexAddr 1 (.t 84) (.t 86), none, .read, 0⟩, ⟨(some 88), .load none (.t 87), none, .read, 0⟩, ⟨(some 89), .move (.t 0), none, .read, 0⟩, ⟨(some 90), .move (.t 9), none, .read, 0⟩, ⟨(some 91), .indexAddr 1 (.t 89) (.t 90), none, .read, 0⟩, ⟨(some 92), .load none (.t 91), none, .read, 0⟩, ⟨(some 79), .move (.t 0), none, .read, 0⟩, ⟨(some 80), .move (.t 9), none, .read, 0⟩, ⟨(some 93), .indexAddr 1 (.t 79) (.t 80), none, .read, 0⟩, ⟨none, .store 1 (.t 93) (.t 88), none, .write, 0⟩, ⟨(some 81), .move (.t 0), none, .read, 0⟩, ⟨(some 82), .move (.t 9), none, .read, 0⟩, ⟨(some 83), .arith .sub (.t 82) (.c (.int .i64 1)), none, .read, 0⟩, ⟨(some 94), .indexAddr 1 (.t 81) (.t 83), none, .read, 1⟩, ⟨none, .store 1 (.t 94) (.t 92), none, .write, 1⟩])))
 (.region [⟨(some 66), .move (.t 9), none, .write, 0⟩, ⟨(some 67), .arith .sub (.t 66) (.c (.int .i64 1)), none, .write, 0⟩, ⟨(some 9), .move (.t 67), none, .write, 0⟩])))))) .skip))
 (.seq (.region [⟨(some 95), .move (.t 2), none, .write, 0⟩, ⟨(some 96), .move (.t 7), none, .write, 0⟩, ⟨(some 97), .arith .sub (.t 95) (.t 96), none, .write, 0⟩, ⟨(some 98), .arith .geq (.t 97) (.c (.int .i64 2)), none, .write, 0⟩])
 (.cond (.t 98) (.seq (.region [⟨(some 99), .move (.t 7), none, .write, 0⟩, ⟨(some 100), .arith .add (.t 99) (.c (.int .i64 1)), none, .write, 0⟩, ⟨(some 10), .move (.t 100), none, .write, 0⟩])
 (.block 6 (.loop (.seq (.seq (.region [⟨(some 101), .move (.t 10), none, .write, 0⟩, ⟨(some 102), .move (.t 2), none, .write, 0⟩, ⟨(some 103), .arith .lss (.t 101) (.t 102), none, .write, 0⟩])
 (.cond (.t 103) .skip (.exit 6)))
 (.seq (.block 7 (.seq (.seq (.draw [⟨(some 106), .move (.t 0), none, .read, 0⟩, ⟨(some 107), .move (.t 10), none, .read, 0⟩, ⟨(some 108), .indexAddr 1 (.t 106) (.t 107), none, .read, 0⟩, ⟨(some 109), .load none (.t 108), none, .read, 0⟩, ⟨(some 110), .move (.t 0), none, .read, 0⟩, ⟨(some 111), .move (.t 10), none, .read, 0⟩, ⟨(some 112), .arith .sub (.t 111) (.c (.int .i64 1)), none, .read, 0⟩, ⟨(some 113), .indexAddr 1 (.t 110) (.t 112), none, .read, 0⟩, ⟨(some 114), .load none (.t 113), none, .read, 0⟩, ⟨(some 115), .call (.c (.func 57 [])) [(.t 109), (.t 114)], none, .write, 0⟩, ⟨(some 116), .un .not (.t 115), none, .read, 1⟩])
 (.cond (.t 116) (.exit 6) .skip))
 (.draw [⟨(some 122), .move (.t 0), none, .read, 0⟩, ⟨(some 123), .move (.t 10), none, .read, 0⟩, ⟨(some 124), .arith .sub (.t 123) (.c (.int .i64 1)), none, .read, 0⟩, ⟨(some 125), .indexAddr 1 (.t 122) (.t 124), none, .read, 0⟩, ⟨(some 126), .load none (.t 125), none, .read, 0⟩, ⟨(some 127), .move (.t 0), none, .read, 0⟩, ⟨(some 128), .move (.t 10), none, .read, 0⟩, ⟨(some 129), .indexAddr 1 (.t 127) (.t 128), none, .read, 0⟩, ⟨(some 130), .load none (.t 129), none, .read, 0⟩, ⟨(some 117), .move (.t 0), none, .read, 0⟩, ⟨(some 118), .move (.t 10), none, .read, 0⟩, ⟨(some 131), .indexAddr 1 (.t 117) (.t 118), none, .read, 0⟩, ⟨none, .store 1 (.t 131) (.t 126), none, .write, 0⟩, ⟨(some 119), .move (.t 0), none, .read, 0⟩, ⟨(some 120), .move (.t 10), none, .read, 0⟩, ⟨(some 121), .arith .sub (.t 120) (.c (.int .i64 1)), none, .read, 0⟩, ⟨(some 132), .indexAddr 1 (.t 119) (.t 121), none, .read, 1⟩, ⟨none, .store 1 (.t 132) (.t 130), none, .write, 1⟩])))
 (.region [⟨(some 104), .move (.t 10), none, .write, 0⟩, ⟨(some 105), .arith .add (.t 104) (.c (.int .i64 1)), none, .write, 0⟩, ⟨(some 10), .move (.t 105), none, .write, 0⟩])))))) .skip))))))))
 (.region [⟨(some 15), .move (.t 8), none, .write, 0⟩, ⟨(some 16), .arith .add (.t 15) (.c (.int .i64 1)), none, .write, 0⟩, ⟨(some 8), .move (.t 16), none, .write, 0⟩]))))))
 (.seq (.region [⟨(some 6), .move (.c (.bool false)), none, .write, 0⟩])
 .ret)))) }

theorem c56 : compFunc Tryz.prog Tryz.f56 .full = some t56 := by kernel_rfl

/-- cmp.Less[int] -/
def t57 : DFunc := { ntmps := 17, results := [(.t 4)], mode := .full, body :=
 (.seq (.region [⟨(some 4), .move (.c (.bool false)), none, .write, 0⟩])
 (.seq (.region [⟨(some 5), .move (.t 0), none, .write, 0⟩, ⟨(some 6), .call (.c (.func 69 [])) [(.t 5)], none, .write, 0⟩, ⟨(some 7), .move (.t 6), none, .write, 0⟩, ⟨(some 8), .move (.t 1), (some (7, true)), .write, 0⟩, ⟨(some 9), .call (.c (.func 69 [])) [(.t 8)], (some (7, true)), .write, 0⟩, ⟨(some 10), .un .not (.t 9), (some (7, true)), .write, 0⟩, ⟨(some 11), .pick (.t 7) (.t 10) (.c (.bool false)), none, .write, 0⟩, ⟨(some 12), .move (.t 11), none, .write, 0⟩, ⟨(some 13), .move (.t 0), (some (12, false)), .write, 0⟩, ⟨(some 14), .move (.t 1), (some (12, false)), .write, 0⟩, ⟨(some 15), .arith .lss (.t 13) (.t 14), (some (12, false)), .write, 0⟩, ⟨(some 16), .pick (.t 12) (.c (.bool true)) (.t 15), none, .write, 0⟩, ⟨(some 4), .move (.t 16), none, .write, 0⟩])
 .ret)) }

theorem c57 : compFunc Tryz.prog Tryz.f57 .full = some t57 := by kernel_rfl

/-- slices.partitionEqualOrdered[int] -/
def t58 : DFunc := { ntmps := 84, results := [(.t 8)], mode := .full, body :=
 (.seq (.region [⟨(some 8), .move (.c (.int .i64 0)), none, .write, 0⟩])
 (.seq (.draw [⟨(some 15), .move (.t 0), none, .read, 0⟩, ⟨(some 16), .move (.t 3), none, .read, 0⟩, ⟨(some 17), .indexAddr 1 (.t 15) (.t 16), none, .read, 0⟩, ⟨(some 18), .load none (.t 17), none, .read, 0⟩, ⟨(some 19), .move (.t 0), none, .read, 0⟩, ⟨(some 20), .move (.t 1), none, .read, 0⟩, ⟨(some 21), .indexAddr 1 (.t 19) (.t 20), none, .read, 0⟩, ⟨(some 22), .load none (.t 21), none, .read, 0⟩, ⟨(some 11), .move (.t 0), none, .read, 0⟩, ⟨(some 12), .move (.t 1), none, .read, 0⟩, ⟨(some 23), .indexAddr 1 (.t 11) (.t 12), none, .read, 0⟩, ⟨none, .store 1 (.t 23) (.t 18), none, .write, 0⟩, ⟨(some 13), .move (.t 0), none, .read, 0⟩, ⟨(some 14), .move (.t 3), none, .read, 0⟩, ⟨(some 24), .indexAddr 1 (.t 13) (.t 14), none, .read, 1⟩, ⟨none, .store 1 (.t 24) (.t 22), none, .write, 1⟩])
 (.seq (.region [⟨(some 25), .move (.t 1), none, .write, 0⟩, ⟨(some 26), .arith .add (.t 25) (.c (.int .i64 1)), none, .write, 0⟩, ⟨(some 27), .move (.t 2), none, .write, 0⟩, ⟨(some 28), .arith .sub (.t 27) (.c (.int .i64 1)), none, .write, 0⟩, ⟨(some 9), .move (.t 26), none, .write, 0⟩, ⟨(some 10), .move (.t 28), none, .write, 0⟩])
 (.seq (.block 0 (.loop (.block 1 (.seq (.block 2 (.loop (.seq (.seq (.draw [⟨(some 29), .move (.t 9), none, .read, 0⟩, ⟨(some 30), .move (.t 10), none, .read, 0⟩, ⟨(some 31), .arith .leq (.t 29) (.t 30), none, .read, 0⟩, ⟨(some 32), .move (.t 31), none, .read, 0⟩, ⟨(some 33), .move (.t 0), (some (32, true)), .read, 0⟩, ⟨(some 34), .move (.t 1), (some (32, true)), .read, 0⟩, ⟨(some 35), .indexAddr 1 (.t 33) (.t 34), (some (32, true)), .read, 0⟩, ⟨(some 36), .load none (.t 35), (some (32, true)), .read, 0⟩, ⟨(some 37), .move (.t 0), (some (32, true)), .read, 0⟩, ⟨(some 38), .move (.t 9), (some (32, true)), .read, 0⟩, ⟨(some 39), .indexAddr 1 (.t 37) (.t 38), (some (32, true)), .read, 0⟩, ⟨(some 40), .load none (.t 39), (some (32, true)), .read, 0⟩, ⟨(some 41), .call (.c (.func 57 [])) [(.t 36), (.t 40)], (some (32, true)), .write, 0⟩, ⟨(some 42), .un .not (.t 41), (some (32, true)), .read, 1⟩, ⟨(some 43), .pick (.t 32) (.t 42) (.c (.bool false)), none, .read, 1⟩])
 (.cond (.t 43) .skip (.exit 2)))
 (.block 3 (.region [⟨(some 44), .move (.t 9), none, .write, 0⟩, ⟨(some 45), .arith .add (.t 44) (.c (.int .i64 1)), none, .write, 0⟩, ⟨(some 9), .move (.t 45), none, .write, 0⟩])))))
 (.seq (.block 4 (.loop (.seq (.seq (.draw [⟨(some 46), .move (.t 9), none, .read, 0⟩, ⟨(some 47), .move (.t 10), none, .read, 0⟩, ⟨(some 48), .arith .leq (.t 46) (.t 47), none, .read, 0⟩, ⟨(some 49), .move (.t 48), none, .read, 0⟩, ⟨(some 50), .move (.t 0), (some (49, true)), .read, 0⟩, ⟨(some 51), .move (.t 1), (some (49, true)), .read, 0⟩, ⟨(some 52), .indexAddr 1 (.t 50) (.t 51), (some (49, true)), .read, 0⟩, ⟨(some 53), .load none (.t 52), (some (49, true)), .read, 0⟩, ⟨(some 54), .move (.t 0), (some (49, true)), .read, 0⟩, ⟨(some 55), .move (.t 10), (some (49, true)), .read, 0⟩, ⟨(some 56), .indexAddr 1 (.t 54) (.t 55), (some (49, true)), .read, 0⟩, ⟨(some 57), .load none (.t 56), (some (49, true)), .read, 0⟩, ⟨(some 58), .call (.c (.func 57 [])) [(.t 53), (.t 57)], (some (49, true)), .write, 0⟩, ⟨(some 59), .pick (.t 49) (.t 58) (.c (.bool false)), none, .read, 1⟩])
 (.cond (.t 59) .skip (.exit 4)))
 (.block 5 (.region [⟨(some 60), .move (.t 10), none, .write, 0⟩, ⟨(some 61), .arith .sub (.t 60) (.c (.int .i64 1)), none, .write, 0⟩, ⟨(some 10), .move (.t 61), none, .write, 0⟩])))))
 (.seq (.seq (.region [⟨(some 62), .move (.t 9), none, .write, 0⟩, ⟨(some 63), .move (.t 10), none, .write, 0⟩, ⟨(some 64), .arith .gtr (.t 62) (.t 63), none, .write, 0⟩])
 (.cond (.t 64) (.exit 0) .skip))
 (.seq (.draw [⟨(some 69), .move (.t 0), none, .read, 0⟩, ⟨(some 70), .move (.t 10), none, .read, 0⟩, ⟨(some 71), .indexAddr 1 (.t 69) (.t 70), none, .read, 0⟩, ⟨(some 72), .load none (.t 71), none, .read, 0⟩, ⟨(some 73), .move (.t 0), none, .read, 0⟩, ⟨(some 74), .move (.t 9), none, .read, 0⟩, ⟨(some 75), .indexAddr 1 (.t 73) (.t 74), none, .read, 0⟩, ⟨(some 76), .load none (.t 75), none, .read, 0⟩, ⟨(some 65), .move (.t 0), none, .read, 0⟩, ⟨(some 66), .move (.t 9), none, .read, 0⟩, ⟨(some 77), .indexAddr 1 (.t 65) (.t 66), none, .read, 0⟩, ⟨none, .store 1 (.t 77) (.t 72), none, .write, 0⟩, ⟨(some 67), .move (.t 0), none, .read, 0⟩, ⟨(some 68), .move (.t 10), none, .read, 0⟩, ⟨(some 78), .indexAddr 1 (.t 67) (.t 68), none, .read, 1⟩, ⟨none, .store 1 (.t 78) (.t 76), none, .write, 1⟩])
 (.seq (.region [⟨(some 79), .move (.t 9), none, .write, 0⟩, ⟨(some 80), .arith .add (.t 79) (.c (.int .i64 1)), none, .write, 0⟩, ⟨(some 9), .move (.t 80), none, .write, 0⟩])
 (.region [⟨(some 81), .move (.t 10), none, .write, 0⟩, ⟨(some 82), .arith .sub (.t 81) (.c (.int .i64 1)), none, .write, 0⟩, ⟨(some 10), .move (.t 82), none, .write, 0⟩])))))))))
 (.seq (.region [⟨(some 83), .move (.t 9), none, .write, 0⟩, ⟨(some 8), .move (.t 83), none, .write, 0⟩])
 .ret))))) }

theorem c58 : compFunc Tryz.prog Tryz.f58 .full = some t58 := by kernel_rfl

end Go.Dm.TabR
