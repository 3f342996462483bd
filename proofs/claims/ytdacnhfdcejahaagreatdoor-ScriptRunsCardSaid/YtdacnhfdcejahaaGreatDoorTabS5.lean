/-
The table of functions, brought into the machine's form (TabS, part 5). Written by program (wip/tools/table.lean.txt).
-/
import Derived.Test.YtdacnhfdcejahaaGreatDoorDm32
import Derived.Test.YtdacnhfdcejahaaGreatDoorRows
import Derived.KernelRfl
namespace Go.Dm.TabS
open Go.Proofs

/-- slices.medianAdjacentOrdered[int] -/
def t285 : DFunc := { ntmps := 15, results := [(.t 6)], mode := .full, body :=
 (.seq (.region [⟨(some 6), .move (.c (.int .i64 0)), none, .write, 0⟩])
 (.seq (.region [⟨(some 7), .move (.t 0), none, .write, 0⟩, ⟨(some 8), .move (.t 1), none, .write, 0⟩, ⟨(some 9), .arith .sub (.t 8) (.c (.int .i64 1)), none, .write, 0⟩, ⟨(some 10), .move (.t 1), none, .write, 0⟩, ⟨(some 11), .move (.t 1), none, .write, 0⟩, ⟨(some 12), .arith .add (.t 11) (.c (.int .i64 1)), none, .write, 0⟩, ⟨(some 13), .move (.t 2), none, .write, 0⟩, ⟨(some 14), .call (.c (.func 286 [])) [(.t 7), (.t 9), (.t 10), (.t 12), (.t 13)], none, .write, 0⟩, ⟨(some 6), .move (.t 14), none, .write, 0⟩])
 .ret)) }

theorem c285 : compFunc Tryz.prog Tryz.f285 .full = some t285 := by kernel_rfl

/-- slices.medianOrdered[int] -/
def t286 : DFunc := { ntmps := 36, results := [(.t 10)], mode := .full, body :=
 (.seq (.region [⟨(some 10), .move (.c (.int .i64 0)), none, .write, 0⟩])
 (.seq (.region [⟨(some 12), .move (.t 0), none, .write, 0⟩, ⟨(some 13), .move (.t 1), none, .write, 0⟩, ⟨(some 14), .move (.t 2), none, .write, 0⟩, ⟨(some 15), .move (.t 4), none, .write, 0⟩, ⟨(some 16), .call (.c (.func 325 [])) [(.t 12), (.t 13), (.t 14), (.t 15)], none, .write, 0⟩, ⟨(some 11), .move (.t 16), none, .write, 0⟩, ⟨(some 17), .extract (.t 11) 0, none, .write, 0⟩, ⟨(some 18), .extract (.t 11) 1, none, .write, 0⟩, ⟨(some 1), .move (.t 17), none, .write, 0⟩, ⟨(some 2), .move (.t 18), none, .write, 0⟩])
 (.seq (.region [⟨(some 20), .move (.t 0), none, .write, 0⟩, ⟨(some 21), .move (.t 2), none, .write, 0⟩, ⟨(some 22), .move (.t 3), none, .write, 0⟩, ⟨(some 23), .move (.t 4), none, .write, 0⟩, ⟨(some 24), .call (.c (.func 325 [])) [(.t 20), (.t 21), (.t 22), (.t 23)], none, .write, 0⟩, ⟨(some 19), .move (.t 24), none, .write, 0⟩, ⟨(some 25), .extract (.t 19) 0, none, .write, 0⟩, ⟨(some 26), .extract (.t 19) 1, none, .write, 0⟩, ⟨(some 2), .move (.t 25), none, .write, 0⟩, ⟨(some 3), .move (.t 26), none, .write, 0⟩])
 (.seq (.region [⟨(some 28), .move (.t 0), none, .write, 0⟩, ⟨(some 29), .move (.t 1), none, .write, 0⟩, ⟨(some 30), .move (.t 2), none, .write, 0⟩, ⟨(some 31), .move (.t 4), none, .write, 0⟩, ⟨(some 32), .call (.c (.func 325 [])) [(.t 28), (.t 29), (.t 30), (.t 31)], none, .write, 0⟩, ⟨(some 27), .move (.t 32), none, .write, 0⟩, ⟨(some 33), .extract (.t 27) 0, none, .write, 0⟩, ⟨(some 34), .extract (.t 27) 1, none, .write, 0⟩, ⟨(some 1), .move (.t 33), none, .write, 0⟩, ⟨(some 2), .move (.t 34), none, .write, 0⟩])
 (.seq (.region [⟨(some 35), .move (.t 2), none, .write, 0⟩, ⟨(some 10), .move (.t 35), none, .write, 0⟩])
 .ret))))) }

theorem c286 : compFunc Tryz.prog Tryz.f286 .full = some t286 := by kernel_rfl

/-- slices.BinarySearchFunc[[]broadside/api.ID,broadside/api.ID,broadside/api.ID] -/
def t287 : DFunc := { ntmps := 49, results := [(.t 6), (.t 7)], mode := .full, body :=
 (.seq (.region [⟨(some 4), .box 45 2 (.t 1), none, .write, 0⟩, ⟨(some 6), .move (.c (.int .i64 0)), none, .write, 0⟩, ⟨(some 7), .move (.c (.bool false)), none, .write, 0⟩])
 (.seq (.region [⟨(some 12), .move (.t 0), none, .write, 0⟩, ⟨(some 13), .len 1 (.t 12), none, .write, 0⟩, ⟨(some 8), .move (.t 13), none, .write, 0⟩])
 (.seq (.region [⟨(some 14), .move (.t 8), none, .write, 0⟩, ⟨(some 9), .move (.c (.int .i64 0)), none, .write, 0⟩, ⟨(some 10), .move (.t 14), none, .write, 0⟩])
 (.seq (.block 0 (.loop (.seq (.seq (.region [⟨(some 15), .move (.t 9), none, .write, 0⟩, ⟨(some 16), .move (.t 10), none, .write, 0⟩, ⟨(some 17), .arith .lss (.t 15) (.t 16), none, .write, 0⟩])
 (.cond (.t 17) .skip (.exit 0)))
 (.block 1 (.seq (.region [⟨(some 18), .move (.t 9), none, .write, 0⟩, ⟨(some 19), .move (.t 10), none, .write, 0⟩, ⟨(some 20), .arith .add (.t 18) (.t 19), none, .write, 0⟩, ⟨(some 21), .conv .u64 (.t 20), none, .write, 0⟩, ⟨(some 22), .arith .shr (.t 21) (.c (.int .u64 1)), none, .write, 0⟩, ⟨(some 23), .conv .i64 (.t 22), none, .write, 0⟩, ⟨(some 11), .move (.t 23), none, .write, 0⟩])
 (.seq (.draw [⟨(some 25), .move (.t 0), none, .read, 0⟩, ⟨(some 26), .move (.t 11), none, .read, 0⟩, ⟨(some 27), .indexAddr 2 (.t 25) (.t 26), none, .read, 0⟩, ⟨(some 28), .load (some 2) (.t 27), none, .read, 0⟩, ⟨(some 29), .load (some 2) (.t 4), none, .read, 0⟩, ⟨(some 24), .move (.t 2), none, .read, 0⟩, ⟨(some 30), .call (.t 24) [(.t 28), (.t 29)], none, .write, 0⟩, ⟨(some 31), .arith .lss (.t 30) (.c (.int .i64 0)), none, .read, 1⟩])
 (.cond (.t 31) (.region [⟨(some 32), .move (.t 11), none, .write, 0⟩, ⟨(some 33), .arith .add (.t 32) (.c (.int .i64 1)), none, .write, 0⟩, ⟨(some 9), .move (.t 33), none, .write, 0⟩]) (.region [⟨(some 34), .move (.t 11), none, .write, 0⟩, ⟨(some 10), .move (.t 34), none, .write, 0⟩]))))))))
 (.seq (.draw [⟨(some 36), .move (.t 9), none, .read, 0⟩, ⟨(some 37), .move (.t 8), none, .read, 0⟩, ⟨(some 38), .arith .lss (.t 36) (.t 37), none, .read, 0⟩, ⟨(some 39), .move (.t 38), none, .read, 0⟩, ⟨(some 41), .move (.t 0), (some (39, true)), .read, 0⟩, ⟨(some 42), .move (.t 9), (some (39, true)), .read, 0⟩, ⟨(some 43), .indexAddr 2 (.t 41) (.t 42), (some (39, true)), .read, 0⟩, ⟨(some 44), .load (some 2) (.t 43), (some (39, true)), .read, 0⟩, ⟨(some 45), .load (some 2) (.t 4), (some (39, true)), .read, 0⟩, ⟨(some 40), .move (.t 2), (some (39, true)), .read, 0⟩, ⟨(some 46), .call (.t 40) [(.t 44), (.t 45)], (some (39, true)), .write, 0⟩, ⟨(some 35), .move (.t 9), none, .read, 0⟩, ⟨(some 47), .arith .eql (.t 46) (.c (.int .i64 0)), (some (39, true)), .read, 1⟩, ⟨(some 48), .pick (.t 39) (.t 47) (.c (.bool false)), none, .read, 1⟩, ⟨(some 6), .move (.t 35), none, .read, 1⟩, ⟨(some 7), .move (.t 48), none, .read, 1⟩])
 .ret))))) }

theorem c287 : compFunc Tryz.prog Tryz.f287 .full = some t287 := by kernel_rfl

/-- slices.Index[[]int,int] -/
def t288 : DFunc := { ntmps := 19, results := [(.t 4)], mode := .full, body :=
 (.seq (.region [⟨(some 4), .move (.c (.int .i64 0)), none, .write, 0⟩])
 (.seq (.seq (.region [⟨(some 6), .move (.t 0), none, .write, 0⟩, ⟨(some 7), .len 1 (.t 6), none, .write, 0⟩, ⟨(some 8), .move (.c (.int .i64 0)), none, .write, 0⟩])
 (.block 0 (.loop (.seq (.region [⟨(some 9), .arith .lss (.t 8) (.t 7), none, .write, 0⟩])
 (.seq (.cond (.t 9) .skip (.exit 0))
 (.seq (.block 1 (.seq (.region [⟨(some 10), .move (.t 8), none, .write, 0⟩, ⟨(some 5), .move (.t 10), none, .write, 0⟩])
 (.seq (.region [⟨(some 11), .move (.t 1), none, .write, 0⟩, ⟨(some 12), .move (.t 0), none, .write, 0⟩, ⟨(some 13), .move (.t 5), none, .write, 0⟩, ⟨(some 14), .indexAddr 1 (.t 12) (.t 13), none, .write, 0⟩, ⟨(some 15), .load none (.t 14), none, .write, 0⟩, ⟨(some 16), .arith .eql (.t 11) (.t 15), none, .write, 0⟩])
 (.cond (.t 16) (.seq (.region [⟨(some 17), .move (.t 5), none, .write, 0⟩, ⟨(some 4), .move (.t 17), none, .write, 0⟩])
 .ret) .skip))))
 (.region [⟨(some 18), .arith .add (.t 8) (.c (.int .i64 1)), none, .write, 0⟩, ⟨(some 8), .move (.t 18), none, .write, 0⟩])))))))
 (.seq (.region [⟨(some 4), .move (.c (.int .i64 (-1))), none, .write, 0⟩])
 .ret))) }

theorem c288 : compFunc Tryz.prog Tryz.f288 .full = some t288 := by kernel_rfl

/-- broadside/rel.wider -/
def t289 : DFunc := { ntmps := 45, results := [(.t 4)], mode := .full, body :=
 (.seq (.region [⟨(some 2), .box 288 5 (.t 0), none, .write, 0⟩, ⟨(some 3), .box 288 5 (.t 1), none, .write, 0⟩, ⟨(some 4), .move (.c (.bool false)), none, .write, 0⟩])
 (.seq (.seq (.region [⟨(some 5), .fieldAddr 1 (.t 3), none, .write, 0⟩, ⟨(some 6), .load none (.t 5), none, .write, 0⟩])
 (.block 0 (.seq (.region [⟨(some 8), .arith .eql (.t 6) (.c (.int .i64 1)), none, .write, 0⟩, ⟨(some 7), .move (.t 8), none, .write, 0⟩])
 (.cond (.t 7) (.seq (.region [⟨(some 9), .fieldAddr 1 (.t 2), none, .write, 0⟩, ⟨(some 10), .load none (.t 9), none, .write, 0⟩, ⟨(some 11), .arith .eql (.t 10) (.c (.int .i64 1)), none, .write, 0⟩, ⟨(some 12), .move (.t 11), none, .write, 0⟩, ⟨(some 13), .fieldAddr 2 (.t 2), (some (12, true)), .write, 0⟩, ⟨(some 14), .load none (.t 13), (some (12, true)), .write, 0⟩, ⟨(some 15), .fieldAddr 2 (.t 3), (some (12, true)), .write, 0⟩, ⟨(some 16), .load none (.t 15), (some (12, true)), .write, 0⟩, ⟨(some 17), .arith .leq (.t 14) (.t 16), (some (12, true)), .write, 0⟩, ⟨(some 18), .pick (.t 12) (.t 17) (.c (.bool false)), none, .write, 0⟩, ⟨(some 19), .move (.t 18), none, .write, 0⟩, ⟨(some 20), .fieldAddr 3 (.t 3), (some (19, true)), .write, 0⟩, ⟨(some 21), .load none (.t 20), (some (19, true)), .write, 0⟩, ⟨(some 22), .fieldAddr 3 (.t 2), (some (19, true)), .write, 0⟩, ⟨(some 23), .load none (.t 22), (some (19, true)), .write, 0⟩, ⟨(some 24), .arith .leq (.t 21) (.t 23), (some (19, true)), .write, 0⟩, ⟨(some 25), .pick (.t 19) (.t 24) (.c (.bool false)), none, .write, 0⟩, ⟨(some 4), .move (.t 25), none, .write, 0⟩])
 .ret) (.seq (.region [⟨(some 27), .arith .eql (.t 6) (.c (.int .i64 3)), none, .write, 0⟩, ⟨(some 26), .move (.t 27), none, .write, 0⟩])
 (.cond (.t 26) (.seq (.region [⟨(some 28), .fieldAddr 1 (.t 2), none, .write, 0⟩, ⟨(some 29), .load none (.t 28), none, .write, 0⟩, ⟨(some 30), .arith .eql (.t 29) (.c (.int .i64 3)), none, .write, 0⟩, ⟨(some 31), .move (.t 30), none, .write, 0⟩, ⟨(some 32), .fieldAddr 4 (.t 3), (some (31, true)), .write, 0⟩, ⟨(some 33), .load none (.t 32), (some (31, true)), .write, 0⟩, ⟨(some 34), .fieldAddr 4 (.t 2), (some (31, true)), .write, 0⟩, ⟨(some 35), .load none (.t 34), (some (31, true)), .write, 0⟩, ⟨(some 36), .call (.c (.func 326 [])) [(.t 33), (.t 35)], (some (31, true)), .write, 0⟩, ⟨(some 37), .pick (.t 31) (.t 36) (.c (.bool false)), none, .write, 0⟩, ⟨(some 4), .move (.t 37), none, .write, 0⟩])
 .ret) (.seq (.region [⟨(some 39), .arith .eql (.t 6) (.c (.int .i64 2)), none, .write, 0⟩, ⟨(some 38), .move (.t 39), none, .write, 0⟩])
 (.cond (.t 38) (.seq (.draw [⟨(some 40), .load (some 5) (.t 2), none, .read, 0⟩, ⟨(some 41), .fieldAddr 4 (.t 3), none, .read, 0⟩, ⟨(some 42), .load none (.t 41), none, .read, 0⟩, ⟨(some 43), .call (.c (.func 316 [])) [(.t 42)], none, .create, 0⟩, ⟨(some 44), .call (.c (.func 305 [])) [(.t 40), (.t 43)], none, .write, 1⟩, ⟨(some 4), .move (.t 44), none, .read, 2⟩])
 .ret) .skip))))))))
 (.seq (.region [⟨(some 4), .move (.c (.bool false)), none, .write, 0⟩])
 .ret))) }

theorem c289 : compFunc Tryz.prog Tryz.f289 .full = some t289 := by kernel_rfl

/-- broadside/rel.Sample -/
def t292 : DFunc := { ntmps := 31, results := [(.t 2)], mode := .full, body :=
 (.seq (.region [⟨(some 2), .move (.c .nsl), none, .write, 0⟩])
 (.seq (.region [⟨(some 3), .move (.c .nsl), none, .write, 0⟩])
 (.seq (.seq (.region [⟨(some 7), .move (.t 0), none, .write, 0⟩, ⟨(some 8), .len 1 (.t 7), none, .write, 0⟩, ⟨(some 9), .move (.c (.int .i64 0)), none, .write, 0⟩])
 (.block 0 (.loop (.seq (.region [⟨(some 10), .arith .lss (.t 9) (.t 8), none, .write, 0⟩])
 (.seq (.cond (.t 10) .skip (.exit 0))
 (.seq (.block 1 (.seq (.region [⟨(some 11), .indexAddr 5 (.t 7) (.t 9), none, .write, 0⟩, ⟨(some 12), .load (some 5) (.t 11), none, .write, 0⟩, ⟨(some 5), .alloc 288 5 (.agg [(.str []), (.int .i64 0), (.int .i64 0), (.int .i64 0), (.str [])]), none, .write, 0⟩, ⟨none, .store 5 (.t 5) (.t 12), none, .write, 0⟩])
 (.seq (.region [⟨(some 13), .fieldAddr 4 (.t 5), none, .write, 0⟩, ⟨(some 14), .load none (.t 13), none, .write, 0⟩, ⟨(some 15), .call (.c (.func 316 [])) [(.t 14)], none, .write, 0⟩, ⟨(some 6), .alloc 291 3 (.agg [(.bool false), (.int .i64 0), (.str [])]), none, .write, 0⟩, ⟨none, .store 3 (.t 6) (.t 15), none, .write, 0⟩])
 (.seq (.seq (.region [⟨(some 16), .fieldAddr 1 (.t 5), none, .write, 0⟩, ⟨(some 17), .load none (.t 16), none, .write, 0⟩, ⟨(some 18), .arith .eql (.t 17) (.c (.int .i64 1)), none, .write, 0⟩])
 (.cond (.t 18) (.region [⟨(some 19), .fieldAddr 2 (.t 5), none, .write, 0⟩, ⟨(some 20), .load none (.t 19), none, .write, 0⟩, ⟨(some 21), .call (.c (.func 327 [])) [(.t 20)], none, .write, 0⟩, ⟨none, .store 3 (.t 6) (.t 21), none, .write, 0⟩]) .skip))
 (.region [⟨(some 22), .move (.t 3), none, .write, 0⟩, ⟨(some 23), .fieldAddr 0 (.t 5), none, .write, 0⟩, ⟨(some 24), .load none (.t 23), none, .write, 0⟩, ⟨(some 25), .load (some 3) (.t 6), none, .write, 0⟩, ⟨(some 26), .build [(.str []), (.bool false), (.int .i64 0), (.str [])] [(0, 1, (.t 24)), (1, 3, (.t 25))], none, .write, 0⟩, ⟨(some 27), .buildSlice 293 4 (.agg [(.str []), (.bool false), (.int .i64 0), (.str [])]) 1 [(0, (.t 26))], none, .write, 0⟩, ⟨(some 28), .append 293 4 48 (.t 22) (.t 27), none, .write, 0⟩, ⟨(some 3), .move (.t 28), none, .write, 0⟩])))))
 (.region [⟨(some 29), .arith .add (.t 9) (.c (.int .i64 1)), none, .write, 0⟩, ⟨(some 9), .move (.t 29), none, .write, 0⟩])))))))
 (.seq (.region [⟨(some 30), .move (.t 3), none, .write, 0⟩, ⟨(some 2), .move (.t 30), none, .write, 0⟩])
 .ret)))) }

theorem c292 : compFunc Tryz.prog Tryz.f292 .full = some t292 := by kernel_rfl

/-- slices.rotateRight[broadside/api.ID] -/
def t296 : DFunc := { ntmps := 10, results := [], mode := .full, body :=
 (.region [⟨(some 4), .move (.t 0), none, .write, 0⟩, ⟨(some 5), .move (.t 0), none, .write, 0⟩, ⟨(some 6), .len 1 (.t 5), none, .write, 0⟩, ⟨(some 7), .move (.t 1), none, .write, 0⟩, ⟨(some 8), .arith .sub (.t 6) (.t 7), none, .write, 0⟩, ⟨(some 9), .call (.c (.func 328 [])) [(.t 4), (.t 8)], none, .write, 0⟩]) }

theorem c296 : compFunc Tryz.prog Tryz.f296 .full = some t296 := by kernel_rfl

/-- slices.BinarySearchFunc[[]broadside/api.Entry,broadside/api.Entry,broadside/api.ID] -/
def t297 : DFunc := { ntmps := 49, results := [(.t 6), (.t 7)], mode := .full, body :=
 (.seq (.region [⟨(some 4), .box 45 2 (.t 1), none, .write, 0⟩, ⟨(some 6), .move (.c (.int .i64 0)), none, .write, 0⟩, ⟨(some 7), .move (.c (.bool false)), none, .write, 0⟩])
 (.seq (.region [⟨(some 12), .move (.t 0), none, .write, 0⟩, ⟨(some 13), .len 1 (.t 12), none, .write, 0⟩, ⟨(some 8), .move (.t 13), none, .write, 0⟩])
 (.seq (.region [⟨(some 14), .move (.t 8), none, .write, 0⟩, ⟨(some 9), .move (.c (.int .i64 0)), none, .write, 0⟩, ⟨(some 10), .move (.t 14), none, .write, 0⟩])
 (.seq (.block 0 (.loop (.seq (.seq (.region [⟨(some 15), .move (.t 9), none, .write, 0⟩, ⟨(some 16), .move (.t 10), none, .write, 0⟩, ⟨(some 17), .arith .lss (.t 15) (.t 16), none, .write, 0⟩])
 (.cond (.t 17) .skip (.exit 0)))
 (.block 1 (.seq (.region [⟨(some 18), .move (.t 9), none, .write, 0⟩, ⟨(some 19), .move (.t 10), none, .write, 0⟩, ⟨(some 20), .arith .add (.t 18) (.t 19), none, .write, 0⟩, ⟨(some 21), .conv .u64 (.t 20), none, .write, 0⟩, ⟨(some 22), .arith .shr (.t 21) (.c (.int .u64 1)), none, .write, 0⟩, ⟨(some 23), .conv .i64 (.t 22), none, .write, 0⟩, ⟨(some 11), .move (.t 23), none, .write, 0⟩])
 (.seq (.draw [⟨(some 25), .move (.t 0), none, .read, 0⟩, ⟨(some 26), .move (.t 11), none, .read, 0⟩, ⟨(some 27), .indexAddr 7 (.t 25) (.t 26), none, .read, 0⟩, ⟨(some 28), .load (some 7) (.t 27), none, .read, 0⟩, ⟨(some 29), .load (some 2) (.t 4), none, .read, 0⟩, ⟨(some 24), .move (.t 2), none, .read, 0⟩, ⟨(some 30), .call (.t 24) [(.t 28), (.t 29)], none, .write, 0⟩, ⟨(some 31), .arith .lss (.t 30) (.c (.int .i64 0)), none, .read, 1⟩])
 (.cond (.t 31) (.region [⟨(some 32), .move (.t 11), none, .write, 0⟩, ⟨(some 33), .arith .add (.t 32) (.c (.int .i64 1)), none, .write, 0⟩, ⟨(some 9), .move (.t 33), none, .write, 0⟩]) (.region [⟨(some 34), .move (.t 11), none, .write, 0⟩, ⟨(some 10), .move (.t 34), none, .write, 0⟩]))))))))
 (.seq (.draw [⟨(some 36), .move (.t 9), none, .read, 0⟩, ⟨(some 37), .move (.t 8), none, .read, 0⟩, ⟨(some 38), .arith .lss (.t 36) (.t 37), none, .read, 0⟩, ⟨(some 39), .move (.t 38), none, .read, 0⟩, ⟨(some 41), .move (.t 0), (some (39, true)), .read, 0⟩, ⟨(some 42), .move (.t 9), (some (39, true)), .read, 0⟩, ⟨(some 43), .indexAddr 7 (.t 41) (.t 42), (some (39, true)), .read, 0⟩, ⟨(some 44), .load (some 7) (.t 43), (some (39, true)), .read, 0⟩, ⟨(some 45), .load (some 2) (.t 4), (some (39, true)), .read, 0⟩, ⟨(some 40), .move (.t 2), (some (39, true)), .read, 0⟩, ⟨(some 46), .call (.t 40) [(.t 44), (.t 45)], (some (39, true)), .write, 0⟩, ⟨(some 35), .move (.t 9), none, .read, 0⟩, ⟨(some 47), .arith .eql (.t 46) (.c (.int .i64 0)), (some (39, true)), .read, 1⟩, ⟨(some 48), .pick (.t 39) (.t 47) (.c (.bool false)), none, .read, 1⟩, ⟨(some 6), .move (.t 35), none, .read, 1⟩, ⟨(some 7), .move (.t 48), none, .read, 1⟩])
 .ret))))) }

theorem c297 : compFunc Tryz.prog Tryz.f297 .full = some t297 := by kernel_rfl

/-- broadside/subs.place$1 -/
def t298 : DFunc := { ntmps := 34, results := [(.t 5)], mode := .full, body :=
 (.seq (.region [⟨(some 3), .box 156 7 (.t 0), none, .write, 0⟩, ⟨(some 4), .box 45 2 (.t 1), none, .write, 0⟩, ⟨(some 5), .move (.c (.int .i64 0)), none, .write, 0⟩])
 (.seq (.block 0 (.seq (.region [⟨(some 7), .fieldAddr 0 (.t 3), none, .write, 0⟩, ⟨(some 8), .load (some 2) (.t 7), none, .write, 0⟩, ⟨(some 9), .load (some 2) (.t 2), none, .write, 0⟩, ⟨(some 10), .eqa false [1, 1] (.t 8) (.t 9), none, .write, 0⟩, ⟨(some 11), .move (.t 10), none, .write, 0⟩, ⟨(some 12), .fieldAddr 2 (.t 3), (some (11, true)), .write, 0⟩, ⟨(some 13), .load (some 2) (.t 12), (some (11, true)), .write, 0⟩, ⟨(some 14), .load (some 2) (.t 4), (some (11, true)), .write, 0⟩, ⟨(some 15), .eqa false [1, 1] (.t 13) (.t 14), (some (11, true)), .write, 0⟩, ⟨(some 16), .pick (.t 11) (.t 15) (.c (.bool false)), none, .write, 0⟩, ⟨(some 6), .move (.t 16), none, .write, 0⟩])
 (.cond (.t 6) (.seq (.region [⟨(some 5), .move (.c (.int .i64 0)), none, .write, 0⟩])
 .ret) (.seq (.region [⟨(some 18), .fieldAddr 0 (.t 3), none, .write, 0⟩, ⟨(some 19), .load (some 2) (.t 18), none, .write, 0⟩, ⟨(some 20), .load (some 2) (.t 2), none, .write, 0⟩, ⟨(some 21), .call (.c (.func 124 [])) [(.t 19), (.t 20)], none, .write, 0⟩, ⟨(some 22), .move (.t 21), none, .write, 0⟩, ⟨(some 23), .fieldAddr 0 (.t 3), (some (22, false)), .write, 0⟩, ⟨(some 24), .load (some 2) (.t 23), (some (22, false)), .write, 0⟩, ⟨(some 25), .load (some 2) (.t 2), (some (22, false)), .write, 0⟩, ⟨(some 26), .eqa false [1, 1] (.t 24) (.t 25), (some (22, false)), .write, 0⟩, ⟨(some 27), .move (.t 26), (some (22, false)), .write, 0⟩, ⟨(some 28), .fieldAddr 2 (.t 3), (some (27, true)), .write, 0⟩, ⟨(some 29), .load (some 2) (.t 28), (some (27, true)), .write, 0⟩, ⟨(some 30), .load (some 2) (.t 4), (some (27, true)), .write, 0⟩, ⟨(some 31), .call (.c (.func 124 [])) [(.t 29), (.t 30)], (some (27, true)), .write, 0⟩, ⟨(some 32), .pick (.t 27) (.t 31) (.c (.bool false)), (some (22, false)), .write, 0⟩, ⟨(some 33), .pick (.t 22) (.c (.bool true)) (.t 32), none, .write, 0⟩, ⟨(some 17), .move (.t 33), none, .write, 0⟩])
 (.cond (.t 17) (.seq (.region [⟨(some 5), .move (.c (.int .i64 (-1))), none, .write, 0⟩])
 .ret) .skip)))))
 (.seq (.region [⟨(some 5), .move (.c (.int .i64 1)), none, .write, 0⟩])
 .ret))) }

theorem c298 : compFunc Tryz.prog Tryz.f298 .full = some t298 := by kernel_rfl

/-- slices.rotateRight[broadside/api.Entry] -/
def t300 : DFunc := { ntmps := 10, results := [], mode := .full, body :=
 (.region [⟨(some 4), .move (.t 0), none, .write, 0⟩, ⟨(some 5), .move (.t 0), none, .write, 0⟩, ⟨(some 6), .len 1 (.t 5), none, .write, 0⟩, ⟨(some 7), .move (.t 1), none, .write, 0⟩, ⟨(some 8), .arith .sub (.t 6) (.t 7), none, .write, 0⟩, ⟨(some 9), .call (.c (.func 329 [])) [(.t 4), (.t 8)], none, .write, 0⟩]) }

theorem c300 : compFunc Tryz.prog Tryz.f300 .full = some t300 := by kernel_rfl

/-- slices.Contains[[][2]int,[2]int] -/
def t301 : DFunc := { ntmps := 9, results := [(.t 4)], mode := .full, body :=
 (.seq (.region [⟨(some 3), .box 64 2 (.t 1), none, .write, 0⟩, ⟨(some 4), .move (.c (.bool false)), none, .write, 0⟩])
 (.seq (.region [⟨(some 5), .move (.t 0), none, .write, 0⟩, ⟨(some 6), .load (some 2) (.t 3), none, .write, 0⟩, ⟨(some 7), .call (.c (.func 330 [])) [(.t 5), (.t 6)], none, .write, 0⟩, ⟨(some 8), .arith .geq (.t 7) (.c (.int .i64 0)), none, .write, 0⟩, ⟨(some 4), .move (.t 8), none, .write, 0⟩])
 .ret)) }

theorem c301 : compFunc Tryz.prog Tryz.f301 .full = some t301 := by kernel_rfl

/-- slices.Grow[[]broadside/api.Message,broadside/api.Message] -/
def t302 : DFunc := { ntmps := 27, results := [(.t 4)], mode := .full, body :=
 (.seq (.region [⟨(some 4), .move (.c .nsl), none, .write, 0⟩])
 (.seq (.seq (.region [⟨(some 5), .move (.t 1), none, .write, 0⟩, ⟨(some 6), .arith .lss (.t 5) (.c (.int .i64 0)), none, .write, 0⟩])
 (.cond (.t 6) (.region [⟨(some 7), .makeIface 9 (.c (.str [99, 97, 110, 110, 111, 116, 32, 98, 101, 32, 110, 101, 103, 97, 116, 105, 118, 101])), none, .write, 0⟩, ⟨none, .extract (.c .nilp) 0, none, .write, 0⟩]) .skip))
 (.seq (.seq (.region [⟨(some 8), .move (.t 1), none, .write, 0⟩, ⟨(some 9), .move (.t 0), none, .write, 0⟩, ⟨(some 10), .cap (.t 9), none, .write, 0⟩, ⟨(some 11), .move (.t 0), none, .write, 0⟩, ⟨(some 12), .len 1 (.t 11), none, .write, 0⟩, ⟨(some 13), .arith .sub (.t 10) (.t 12), none, .write, 0⟩, ⟨(some 14), .arith .sub (.t 8) (.t 13), none, .write, 0⟩, ⟨(some 1), .move (.t 14), none, .write, 0⟩])
 (.seq (.region [⟨(some 15), .move (.t 1), none, .write, 0⟩, ⟨(some 16), .arith .gtr (.t 15) (.c (.int .i64 0)), none, .write, 0⟩])
 (.cond (.t 16) (.region [⟨(some 17), .move (.t 0), none, .write, 0⟩, ⟨(some 18), .move (.t 0), none, .write, 0⟩, ⟨(some 19), .cap (.t 18), none, .write, 0⟩, ⟨(some 20), .sliceSl 7 (.t 17) none (some (.t 19)), none, .write, 0⟩, ⟨(some 21), .move (.t 1), none, .write, 0⟩, ⟨(some 22), .appendZ 49 7 88 (.agg [(.int .i64 0), (.int .i64 0), (.int .i64 0), (.int .i64 0), (.int .i64 0), .nsl, .nsl]) (.t 20) (.t 21), none, .write, 0⟩, ⟨(some 23), .move (.t 0), none, .write, 0⟩, ⟨(some 24), .len 1 (.t 23), none, .write, 0⟩, ⟨(some 25), .sliceSl 7 (.t 22) none (some (.t 24)), none, .write, 0⟩, ⟨(some 0), .move (.t 25), none, .write, 0⟩]) .skip)))
 (.seq (.region [⟨(some 26), .move (.t 0), none, .write, 0⟩, ⟨(some 4), .move (.t 26), none, .write, 0⟩])
 .ret)))) }

theorem c302 : compFunc Tryz.prog Tryz.f302 .full = some t302 := by kernel_rfl

/-- slices.rotateLeft[broadside/api.Own] -/
def t303 : DFunc := { ntmps := 14, results := [], mode := .full, body :=
 (.seq (.region [⟨(some 4), .move (.t 0), none, .write, 0⟩, ⟨(some 5), .move (.t 1), none, .write, 0⟩, ⟨(some 6), .sliceSl 3 (.t 4) none (some (.t 5)), none, .write, 0⟩, ⟨(some 7), .call (.c (.func 331 [])) [(.t 6)], none, .write, 0⟩])
 (.seq (.region [⟨(some 8), .move (.t 0), none, .write, 0⟩, ⟨(some 9), .move (.t 1), none, .write, 0⟩, ⟨(some 10), .sliceSl 3 (.t 8) (some (.t 9)) none, none, .write, 0⟩, ⟨(some 11), .call (.c (.func 331 [])) [(.t 10)], none, .write, 0⟩])
 (.region [⟨(some 12), .move (.t 0), none, .write, 0⟩, ⟨(some 13), .call (.c (.func 331 [])) [(.t 12)], none, .write, 0⟩]))) }

theorem c303 : compFunc Tryz.prog Tryz.f303 .full = some t303 := by kernel_rfl

/-- broadside/tuple.Get -/
def t304 : DFunc := { ntmps := 22, results := [(.cell 4 (some 3)), (.t 5)], mode := .full, body :=
 (.seq (.region [⟨(some 4), .alloc 291 3 (.agg [(.bool false), (.int .i64 0), (.str [])]), none, .write, 0⟩, ⟨(some 5), .move (.c (.bool false)), none, .write, 0⟩])
 (.seq (.seq (.region [⟨(some 8), .move (.t 0), none, .write, 0⟩, ⟨(some 9), .len 1 (.t 8), none, .write, 0⟩, ⟨(some 10), .move (.c (.int .i64 0)), none, .write, 0⟩])
 (.block 0 (.loop (.seq (.region [⟨(some 11), .arith .lss (.t 10) (.t 9), none, .write, 0⟩])
 (.seq (.cond (.t 11) .skip (.exit 0))
 (.seq (.block 1 (.seq (.region [⟨(some 12), .indexAddr 4 (.t 8) (.t 10), none, .write, 0⟩, ⟨(some 13), .load (some 4) (.t 12), none, .write, 0⟩, ⟨(some 7), .alloc 293 4 (.agg [(.str []), (.bool false), (.int .i64 0), (.str [])]), none, .write, 0⟩, ⟨none, .store 4 (.t 7) (.t 13), none, .write, 0⟩])
 (.seq (.region [⟨(some 14), .fieldAddr 0 (.t 7), none, .write, 0⟩, ⟨(some 15), .load none (.t 14), none, .write, 0⟩, ⟨(some 16), .move (.t 1), none, .write, 0⟩, ⟨(some 17), .arith .eql (.t 15) (.t 16), none, .write, 0⟩])
 (.cond (.t 17) (.seq (.region [⟨(some 18), .fieldAddr 1 (.t 7), none, .write, 0⟩, ⟨(some 19), .load (some 3) (.t 18), none, .write, 0⟩, ⟨none, .store 3 (.t 4) (.t 19), none, .write, 0⟩, ⟨(some 5), .move (.c (.bool true)), none, .write, 0⟩])
 .ret) .skip))))
 (.region [⟨(some 20), .arith .add (.t 10) (.c (.int .i64 1)), none, .write, 0⟩, ⟨(some 10), .move (.t 20), none, .write, 0⟩])))))))
 (.seq (.region [⟨(some 21), .build [(.bool false), (.int .i64 0), (.str [])] [], none, .write, 0⟩, ⟨none, .store 3 (.t 4) (.t 21), none, .write, 0⟩, ⟨(some 5), .move (.c (.bool false)), none, .write, 0⟩])
 .ret))) }

theorem c304 : compFunc Tryz.prog Tryz.f304 .full = some t304 := by kernel_rfl

/-- broadside/pred.Holds -/
def t305 : DFunc := { ntmps := 48, results := [(.t 4)], mode := .full, body :=
 (.seq (.region [⟨(some 2), .box 288 5 (.t 0), none, .write, 0⟩, ⟨(some 3), .box 291 3 (.t 1), none, .write, 0⟩, ⟨(some 4), .move (.c (.bool false)), none, .write, 0⟩])
 (.seq (.seq (.region [⟨(some 5), .fieldAddr 1 (.t 2), none, .write, 0⟩, ⟨(some 6), .load none (.t 5), none, .write, 0⟩])
 (.block 0 (.seq (.region [⟨(some 8), .arith .eql (.t 6) (.c (.int .i64 1)), none, .write, 0⟩, ⟨(some 7), .move (.t 8), none, .write, 0⟩])
 (.cond (.t 7) (.seq (.region [⟨(some 9), .fieldAddr 0 (.t 3), none, .write, 0⟩, ⟨(some 10), .load none (.t 9), none, .write, 0⟩, ⟨(some 11), .un .not (.t 10), none, .write, 0⟩, ⟨(some 12), .move (.t 11), none, .write, 0⟩, ⟨(some 13), .fieldAddr 2 (.t 2), (some (12, true)), .write, 0⟩, ⟨(some 14), .load none (.t 13), (some (12, true)), .write, 0⟩, ⟨(some 15), .fieldAddr 1 (.t 3), (some (12, true)), .write, 0⟩, ⟨(some 16), .load none (.t 15), (some (12, true)), .write, 0⟩, ⟨(some 17), .arith .leq (.t 14) (.t 16), (some (12, true)), .write, 0⟩, ⟨(some 18), .pick (.t 12) (.t 17) (.c (.bool false)), none, .write, 0⟩, ⟨(some 19), .move (.t 18), none, .write, 0⟩, ⟨(some 20), .fieldAddr 1 (.t 3), (some (19, true)), .write, 0⟩, ⟨(some 21), .load none (.t 20), (some (19, true)), .write, 0⟩, ⟨(some 22), .fieldAddr 3 (.t 2), (some (19, true)), .write, 0⟩, ⟨(some 23), .load none (.t 22), (some (19, true)), .write, 0⟩, ⟨(some 24), .arith .leq (.t 21) (.t 23), (some (19, true)), .write, 0⟩, ⟨(some 25), .pick (.t 19) (.t 24) (.c (.bool false)), none, .write, 0⟩, ⟨(some 4), .move (.t 25), none, .write, 0⟩])
 .ret) (.seq (.region [⟨(some 27), .arith .eql (.t 6) (.c (.int .i64 2)), none, .write, 0⟩, ⟨(some 26), .move (.t 27), none, .write, 0⟩])
 (.cond (.t 26) (.seq (.region [⟨(some 28), .fieldAddr 0 (.t 3), none, .write, 0⟩, ⟨(some 29), .load none (.t 28), none, .write, 0⟩, ⟨(some 30), .move (.t 29), none, .write, 0⟩, ⟨(some 31), .fieldAddr 2 (.t 3), (some (30, true)), .write, 0⟩, ⟨(some 32), .load none (.t 31), (some (30, true)), .write, 0⟩, ⟨(some 33), .fieldAddr 4 (.t 2), (some (30, true)), .write, 0⟩, ⟨(some 34), .load none (.t 33), (some (30, true)), .write, 0⟩, ⟨(some 35), .arith .eql (.t 32) (.t 34), (some (30, true)), .write, 0⟩, ⟨(some 36), .pick (.t 30) (.t 35) (.c (.bool false)), none, .write, 0⟩, ⟨(some 4), .move (.t 36), none, .write, 0⟩])
 .ret) (.seq (.region [⟨(some 38), .arith .eql (.t 6) (.c (.int .i64 3)), none, .write, 0⟩, ⟨(some 37), .move (.t 38), none, .write, 0⟩])
 (.cond (.t 37) (.seq (.region [⟨(some 39), .fieldAddr 0 (.t 3), none, .write, 0⟩, ⟨(some 40), .load none (.t 39), none, .write, 0⟩, ⟨(some 41), .move (.t 40), none, .write, 0⟩, ⟨(some 42), .fieldAddr 2 (.t 3), (some (41, true)), .write, 0⟩, ⟨(some 43), .load none (.t 42), (some (41, true)), .write, 0⟩, ⟨(some 44), .fieldAddr 4 (.t 2), (some (41, true)), .write, 0⟩, ⟨(some 45), .load none (.t 44), (some (41, true)), .write, 0⟩, ⟨(some 46), .call (.c (.func 326 [])) [(.t 43), (.t 45)], (some (41, true)), .write, 0⟩, ⟨(some 47), .pick (.t 41) (.t 46) (.c (.bool false)), none, .write, 0⟩, ⟨(some 4), .move (.t 47), none, .write, 0⟩])
 .ret) .skip))))))))
 (.seq (.region [⟨(some 4), .move (.c (.bool false)), none, .write, 0⟩])
 .ret))) }

theorem c305 : compFunc Tryz.prog Tryz.f305 .full = some t305 := by kernel_rfl

/-- broadside/world.place -/
def t306 : DFunc := { ntmps := 13, results := [(.t 4), (.t 5)], mode := .full, body :=
 (.seq (.region [⟨(some 3), .box 3 1 (.t 1), none, .write, 0⟩, ⟨(some 4), .move (.c (.int .i64 0)), none, .write, 0⟩, ⟨(some 5), .move (.c (.bool false)), none, .write, 0⟩])
 (.seq (.region [⟨(some 7), .move (.t 0), none, .write, 0⟩, ⟨(some 8), .makeFunc 333 [(.t 3)], none, .write, 0⟩, ⟨(some 9), .call (.c (.func 332 [])) [(.t 7), (.t 8)], none, .write, 0⟩, ⟨(some 6), .move (.t 9), none, .write, 0⟩])
 (.seq (.region [⟨(some 10), .move (.t 6), none, .write, 0⟩, ⟨(some 11), .move (.t 6), none, .write, 0⟩, ⟨(some 12), .arith .geq (.t 11) (.c (.int .i64 0)), none, .write, 0⟩, ⟨(some 4), .move (.t 10), none, .write, 0⟩, ⟨(some 5), .move (.t 12), none, .write, 0⟩])
 .ret))) }

theorem c306 : compFunc Tryz.prog Tryz.f306 .full = some t306 := by kernel_rfl

/-- broadside/world.fits -/
def t307 : DFunc := { ntmps := 25, results := [(.t 4)], mode := .full, body :=
 (.seq (.region [⟨(some 2), .box 352 6 (.t 0), none, .write, 0⟩, ⟨(some 4), .move (.c .nsl), none, .write, 0⟩])
 (.seq (.region [⟨(some 5), .move (.c .nsl), none, .write, 0⟩])
 (.seq (.seq (.region [⟨(some 8), .fieldAddr 1 (.t 2), none, .write, 0⟩, ⟨(some 9), .load none (.t 8), none, .write, 0⟩, ⟨(some 10), .len 1 (.t 9), none, .write, 0⟩, ⟨(some 11), .move (.c (.int .i64 0)), none, .write, 0⟩])
 (.block 0 (.loop (.seq (.region [⟨(some 12), .arith .lss (.t 11) (.t 10), none, .write, 0⟩])
 (.seq (.cond (.t 12) .skip (.exit 0))
 (.seq (.block 1 (.seq (.region [⟨(some 13), .indexAddr 2 (.t 9) (.t 11), none, .write, 0⟩, ⟨(some 14), .load (some 2) (.t 13), none, .write, 0⟩, ⟨(some 7), .alloc 414 2 (.agg [(.int .i64 0), .nsl]), none, .write, 0⟩, ⟨none, .store 2 (.t 7) (.t 14), none, .write, 0⟩])
 (.seq (.region [⟨(some 15), .fieldAddr 1 (.t 7), none, .write, 0⟩, ⟨(some 16), .load none (.t 15), none, .write, 0⟩, ⟨(some 17), .move (.t 1), none, .write, 0⟩, ⟨(some 18), .call (.c (.func 242 [])) [(.t 16), (.t 17)], none, .write, 0⟩])
 (.cond (.t 18) (.region [⟨(some 19), .move (.t 5), none, .write, 0⟩, ⟨(some 20), .load (some 2) (.t 7), none, .write, 0⟩, ⟨(some 21), .buildSlice 414 2 (.agg [(.int .i64 0), .nsl]) 1 [(0, (.t 20))], none, .write, 0⟩, ⟨(some 22), .append 414 2 32 (.t 19) (.t 21), none, .write, 0⟩, ⟨(some 5), .move (.t 22), none, .write, 0⟩]) .skip))))
 (.region [⟨(some 23), .arith .add (.t 11) (.c (.int .i64 1)), none, .write, 0⟩, ⟨(some 11), .move (.t 23), none, .write, 0⟩])))))))
 (.seq (.region [⟨(some 24), .move (.t 5), none, .write, 0⟩, ⟨(some 4), .move (.t 24), none, .write, 0⟩])
 .ret)))) }

theorem c307 : compFunc Tryz.prog Tryz.f307 .full = some t307 := by kernel_rfl

/-- (*broadside/world.World).told$1 -/
def t308 : DFunc := { ntmps := 8, results := [(.cell 3 (some 2))], mode := .full, body :=
 (.seq (.region [⟨(some 3), .alloc 45 2 (.agg [(.int .i64 0), (.int .i64 0)]), none, .write, 0⟩])
 (.seq (.region [⟨(some 4), .fieldAddr 1 (.t 1), none, .write, 0⟩, ⟨(some 5), .load none (.t 4), none, .write, 0⟩, ⟨(some 6), .move (.t 0), none, .write, 0⟩, ⟨(some 7), .build [(.int .i64 0), (.int .i64 0)] [(0, 1, (.t 5)), (1, 1, (.t 6))], none, .write, 0⟩, ⟨none, .store 2 (.t 3) (.t 7), none, .write, 0⟩])
 .ret)) }

theorem c308 : compFunc Tryz.prog Tryz.f308 .full = some t308 := by kernel_rfl

/-- broadside/world.without -/
def t309 : DFunc := { ntmps := 9, results := [(.t 4)], mode := .full, body :=
 (.seq (.region [⟨(some 3), .box 3 1 (.t 1), none, .write, 0⟩, ⟨(some 4), .move (.c .nsl), none, .write, 0⟩])
 (.seq (.region [⟨(some 5), .move (.t 0), none, .write, 0⟩, ⟨(some 6), .call (.c (.func 335 [])) [(.t 5)], none, .write, 0⟩, ⟨(some 7), .makeFunc 336 [(.t 3)], none, .write, 0⟩, ⟨(some 8), .call (.c (.func 334 [])) [(.t 6), (.t 7)], none, .write, 0⟩, ⟨(some 4), .move (.t 8), none, .write, 0⟩])
 .ret)) }

theorem c309 : compFunc Tryz.prog Tryz.f309 .full = some t309 := by kernel_rfl

/-- (*broadside/net.Net).Unadvertise -/
def t310 : DFunc := { ntmps := 11, results := [(.t 6)], mode := .full, body :=
 (.seq (.region [⟨(some 5), .box 45 2 (.t 2), none, .write, 0⟩, ⟨(some 6), .move (.c .nili), none, .write, 0⟩])
 (.seq (.region [⟨(some 7), .move (.t 0), none, .write, 0⟩, ⟨(some 8), .move (.t 1), none, .write, 0⟩, ⟨(some 9), .makeFunc 337 [(.t 5)], none, .write, 0⟩, ⟨(some 10), .call (.c (.func 67 [])) [(.t 7), (.t 8), (.t 9)], none, .write, 0⟩, ⟨(some 6), .move (.t 10), none, .write, 0⟩])
 .ret)) }

theorem c310 : compFunc Tryz.prog Tryz.f310 .full = some t310 := by kernel_rfl

/-- (*broadside/net.Net).Unsubscribe -/
def t311 : DFunc := { ntmps := 11, results := [(.t 6)], mode := .full, body :=
 (.seq (.region [⟨(some 5), .box 45 2 (.t 2), none, .write, 0⟩, ⟨(some 6), .move (.c .nili), none, .write, 0⟩])
 (.seq (.region [⟨(some 7), .move (.t 0), none, .write, 0⟩, ⟨(some 8), .move (.t 1), none, .write, 0⟩, ⟨(some 9), .makeFunc 338 [(.t 5)], none, .write, 0⟩, ⟨(some 10), .call (.c (.func 67 [])) [(.t 7), (.t 8), (.t 9)], none, .write, 0⟩, ⟨(some 6), .move (.t 10), none, .write, 0⟩])
 .ret)) }

theorem c311 : compFunc Tryz.prog Tryz.f311 .full = some t311 := by kernel_rfl

/-- slices.siftDownCmpFunc[[2]int] -/
def t312 : DFunc := { ntmps := 82, results := [], mode := .full, body :=
 (.seq (.region [⟨(some 12), .move (.t 1), none, .write, 0⟩, ⟨(some 10), .move (.t 12), none, .write, 0⟩])
 (.block 0 (.loop (.block 1 (.seq (.region [⟨(some 13), .move (.t 10), none, .write, 0⟩, ⟨(some 14), .arith .mul (.c (.int .i64 2)) (.t 13), none, .write, 0⟩, ⟨(some 15), .arith .add (.t 14) (.c (.int .i64 1)), none, .write, 0⟩, ⟨(some 11), .move (.t 15), none, .write, 0⟩])
 (.seq (.seq (.region [⟨(some 16), .move (.t 11), none, .write, 0⟩, ⟨(some 17), .move (.t 2), none, .write, 0⟩, ⟨(some 18), .arith .geq (.t 16) (.t 17), none, .write, 0⟩])
 (.cond (.t 18) (.exit 0) .skip))
 (.seq (.seq (.draw [⟨(some 19), .move (.t 11), none, .read, 0⟩, ⟨(some 20), .arith .add (.t 19) (.c (.int .i64 1)), none, .read, 0⟩, ⟨(some 21), .move (.t 2), none, .read, 0⟩, ⟨(some 22), .arith .lss (.t 20) (.t 21), none, .read, 0⟩, ⟨(some 23), .move (.t 22), none, .read, 0⟩, ⟨(some 25), .move (.t 0), (some (23, true)), .read, 0⟩, ⟨(some 26), .move (.t 3), (some (23, true)), .read, 0⟩, ⟨(some 27), .move (.t 11), (some (23, true)), .read, 0⟩, ⟨(some 28), .arith .add (.t 26) (.t 27), (some (23, true)), .read, 0⟩, ⟨(some 29), .indexAddr 2 (.t 25) (.t 28), (some (23, true)), .read, 0⟩, ⟨(some 30), .load (some 2) (.t 29), (some (23, true)), .read, 0⟩, ⟨(some 31), .move (.t 0), (some (23, true)), .read, 0⟩, ⟨(some 32), .move (.t 3), (some (23, true)), .read, 0⟩, ⟨(some 33), .move (.t 11), (some (23, true)), .read, 0⟩, ⟨(some 34), .arith .add (.t 32) (.t 33), (some (23, true)), .read, 0⟩, ⟨(some 35), .arith .add (.t 34) (.c (.int .i64 1)), (some (23, true)), .read, 0⟩, ⟨(some 36), .indexAddr 2 (.t 31) (.t 35), (some (23, true)), .read, 0⟩, ⟨(some 37), .load (some 2) (.t 36), (some (23, true)), .read, 0⟩, ⟨(some 24), .move (.t 4), (some (23, true)), .read, 0⟩, ⟨(some 38), .call (.t 24) [(.t 30), (.t 37)], (some (23, true)), .write, 0⟩, ⟨(some 39), .arith .lss (.t 38) (.c (.int .i64 0)), (some (23, true)), .read, 1⟩, ⟨(some 40), .pick (.t 23) (.t 39) (.c (.bool false)), none, .read, 1⟩])
 (.cond (.t 40) (.region [⟨(some 41), .move (.t 11), none, .write, 0⟩, ⟨(some 42), .arith .add (.t 41) (.c (.int .i64 1)), none, .write, 0⟩, ⟨(some 11), .move (.t 42), none, .write, 0⟩]) .skip))
 (.seq (.seq (.draw [⟨(some 44), .move (.t 0), none, .read, 0⟩, ⟨(some 45), .move (.t 3), none, .read, 0⟩, ⟨(some 46), .move (.t 10), none, .read, 0⟩, ⟨(some 47), .arith .add (.t 45) (.t 46), none, .read, 0⟩, ⟨(some 48), .indexAddr 2 (.t 44) (.t 47), none, .read, 0⟩, ⟨(some 49), .load (some 2) (.t 48), none, .read, 0⟩, ⟨(some 50), .move (.t 0), none, .read, 0⟩, ⟨(some 51), .move (.t 3), none, .read, 0⟩, ⟨(some 52), .move (.t 11), none, .read, 0⟩, ⟨(some 53), .arith .add (.t 51) (.t 52), none, .read, 0⟩, ⟨(some 54), .indexAddr 2 (.t 50) (.t 53), none, .read, 0⟩, ⟨(some 55), .load (some 2) (.t 54), none, .read, 0⟩, ⟨(some 43), .move (.t 4), none, .read, 0⟩, ⟨(some 56), .call (.t 43) [(.t 49), (.t 55)], none, .write, 0⟩, ⟨(some 57), .arith .lss (.t 56) (.c (.int .i64 0)), none, .read, 1⟩, ⟨(some 58), .un .not (.t 57), none, .read, 1⟩])
 (.cond (.t 58) .ret .skip))
 (.seq (.draw [⟨(some 67), .move (.t 0), none, .read, 0⟩, ⟨(some 68), .move (.t 3), none, .read, 0⟩, ⟨(some 69), .move (.t 11), none, .read, 0⟩, ⟨(some 70), .arith .add (.t 68) (.t 69), none, .read, 0⟩, ⟨(some 71), .indexAddr 2 (.t 67) (.t 70), none, .read, 0⟩, ⟨(some 72), .load (some 2) (.t 71), none, .read, 0⟩, ⟨(some 73), .move (.t 0), none, .read, 0⟩, ⟨(some 74), .move (.t 3), none, .read, 0⟩, ⟨(some 75), .move (.t 10), none, .read, 0⟩, ⟨(some 76), .arith .add (.t 74) (.t 75), none, .read, 0⟩, ⟨(some 77), .indexAddr 2 (.t 73) (.t 76), none, .read, 0⟩, ⟨(some 78), .load (some 2) (.t 77), none, .read, 0⟩, ⟨(some 59), .move (.t 0), none, .read, 0⟩, ⟨(some 60), .move (.t 3), none, .read, 0⟩, ⟨(some 61), .move (.t 10), none, .read, 0⟩, ⟨(some 62), .arith .add (.t 60) (.t 61), none, .read, 0⟩, ⟨(some 79), .indexAddr 2 (.t 59) (.t 62), none, .read, 0⟩, ⟨none, .store 2 (.t 79) (.t 72), none, .write, 0⟩, ⟨(some 63), .move (.t 0), none, .read, 0⟩, ⟨(some 64), .move (.t 3), none, .read, 0⟩, ⟨(some 65), .move (.t 11), none, .read, 0⟩, ⟨(some 66), .arith .add (.t 64) (.t 65), none, .read, 0⟩, ⟨(some 80), .indexAddr 2 (.t 63) (.t 66), none, .read, 1⟩, ⟨none, .store 2 (.t 80) (.t 78), none, .write, 1⟩])
 (.region [⟨(some 81), .move (.t 11), none, .write, 0⟩, ⟨(some 10), .move (.t 81), none, .write, 0⟩])))))))))) }

theorem c312 : compFunc Tryz.prog Tryz.f312 .full = some t312 := by kernel_rfl

/-- slices.medianAdjacentCmpFunc[[2]int] -/
def t313 : DFunc := { ntmps := 18, results := [(.t 8)], mode := .full, body :=
 (.seq (.region [⟨(some 8), .move (.c (.int .i64 0)), none, .write, 0⟩])
 (.seq (.region [⟨(some 9), .move (.t 0), none, .write, 0⟩, ⟨(some 10), .move (.t 1), none, .write, 0⟩, ⟨(some 11), .arith .sub (.t 10) (.c (.int .i64 1)), none, .write, 0⟩, ⟨(some 12), .move (.t 1), none, .write, 0⟩, ⟨(some 13), .move (.t 1), none, .write, 0⟩, ⟨(some 14), .arith .add (.t 13) (.c (.int .i64 1)), none, .write, 0⟩, ⟨(some 15), .move (.t 2), none, .write, 0⟩, ⟨(some 16), .move (.t 3), none, .write, 0⟩, ⟨(some 17), .call (.c (.func 314 [])) [(.t 9), (.t 11), (.t 12), (.t 14), (.t 15), (.t 16)], none, .write, 0⟩, ⟨(some 8), .move (.t 17), none, .write, 0⟩])
 .ret)) }

theorem c313 : compFunc Tryz.prog Tryz.f313 .full = some t313 := by kernel_rfl

/-- slices.medianCmpFunc[[2]int] -/
def t314 : DFunc := { ntmps := 41, results := [(.t 12)], mode := .full, body :=
 (.seq (.region [⟨(some 12), .move (.c (.int .i64 0)), none, .write, 0⟩])
 (.seq (.region [⟨(some 14), .move (.t 0), none, .write, 0⟩, ⟨(some 15), .move (.t 1), none, .write, 0⟩, ⟨(some 16), .move (.t 2), none, .write, 0⟩, ⟨(some 17), .move (.t 4), none, .write, 0⟩, ⟨(some 18), .move (.t 5), none, .write, 0⟩, ⟨(some 19), .call (.c (.func 340 [])) [(.t 14), (.t 15), (.t 16), (.t 17), (.t 18)], none, .write, 0⟩, ⟨(some 13), .move (.t 19), none, .write, 0⟩, ⟨(some 20), .extract (.t 13) 0, none, .write, 0⟩, ⟨(some 21), .extract (.t 13) 1, none, .write, 0⟩, ⟨(some 1), .move (.t 20), none, .write, 0⟩, ⟨(some 2), .move (.t 21), none, .write, 0⟩])
 (.seq (.region [⟨(some 23), .move (.t 0), none, .write, 0⟩, ⟨(some 24), .move (.t 2), none, .write, 0⟩, ⟨(some 25), .move (.t 3), none, .write, 0⟩, ⟨(some 26), .move (.t 4), none, .write, 0⟩, ⟨(some 27), .move (.t 5), none, .write, 0⟩, ⟨(some 28), .call (.c (.func 340 [])) [(.t 23), (.t 24), (.t 25), (.t 26), (.t 27)], none, .write, 0⟩, ⟨(some 22), .move (.t 28), none, .write, 0⟩, ⟨(some 29), .extract (.t 22) 0, none, .write, 0⟩, ⟨(some 30), .extract (.t 22) 1, none, .write, 0⟩, ⟨(some 2), .move (.t 29), none, .write, 0⟩, ⟨(some 3), .move (.t 30), none, .write, 0⟩])
 (.seq (.region [⟨(some 32), .move (.t 0), none, .write, 0⟩, ⟨(some 33), .move (.t 1), none, .write, 0⟩, ⟨(some 34), .move (.t 2), none, .write, 0⟩, ⟨(some 35), .move (.t 4), none, .write, 0⟩, ⟨(some 36), .move (.t 5), none, .write, 0⟩, ⟨(some 37), .call (.c (.func 340 [])) [(.t 32), (.t 33), (.t 34), (.t 35), (.t 36)], none, .write, 0⟩, ⟨(some 31), .move (.t 37), none, .write, 0⟩, ⟨(some 38), .extract (.t 31) 0, none, .write, 0⟩, ⟨(some 39), .extract (.t 31) 1, none, .write, 0⟩, ⟨(some 1), .move (.t 38), none, .write, 0⟩, ⟨(some 2), .move (.t 39), none, .write, 0⟩])
 (.seq (.region [⟨(some 40), .move (.t 2), none, .write, 0⟩, ⟨(some 12), .move (.t 40), none, .write, 0⟩])
 .ret))))) }

theorem c314 : compFunc Tryz.prog Tryz.f314 .full = some t314 := by kernel_rfl

/-- internal/bytealg.CompareString -/
def t315 : DFunc := { ntmps := 8, results := [(.t 4)], mode := .full, body :=
 (.seq (.region [⟨(some 4), .move (.c (.int .i64 0)), none, .write, 0⟩])
 (.seq (.region [⟨(some 5), .move (.t 0), none, .write, 0⟩, ⟨(some 6), .move (.t 1), none, .write, 0⟩, ⟨(some 7), .call (.c (.func 341 [])) [(.t 5), (.t 6)], none, .write, 0⟩, ⟨(some 4), .move (.t 7), none, .write, 0⟩])
 .ret)) }

theorem c315 : compFunc Tryz.prog Tryz.f315 .full = some t315 := by kernel_rfl

/-- broadside/value.Text -/
def t316 : DFunc := { ntmps := 5, results := [(.cell 2 (some 3))], mode := .full, body :=
 (.seq (.region [⟨(some 2), .alloc 291 3 (.agg [(.bool false), (.int .i64 0), (.str [])]), none, .write, 0⟩])
 (.seq (.region [⟨(some 3), .move (.t 0), none, .write, 0⟩, ⟨(some 4), .build [(.bool false), (.int .i64 0), (.str [])] [(0, 1, (.c (.bool true))), (2, 1, (.t 3))], none, .write, 0⟩, ⟨none, .store 3 (.t 2) (.t 4), none, .write, 0⟩])
 .ret)) }

theorem c316 : compFunc Tryz.prog Tryz.f316 .full = some t316 := by kernel_rfl

/-- slices.rotateRight[broadside/api.Constraint] -/
def t318 : DFunc := { ntmps := 10, results := [], mode := .full, body :=
 (.region [⟨(some 4), .move (.t 0), none, .write, 0⟩, ⟨(some 5), .move (.t 0), none, .write, 0⟩, ⟨(some 6), .len 1 (.t 5), none, .write, 0⟩, ⟨(some 7), .move (.t 1), none, .write, 0⟩, ⟨(some 8), .arith .sub (.t 6) (.t 7), none, .write, 0⟩, ⟨(some 9), .call (.c (.func 342 [])) [(.t 4), (.t 8)], none, .write, 0⟩]) }

theorem c318 : compFunc Tryz.prog Tryz.f318 .full = some t318 := by kernel_rfl

/-- slices.rotateLeft[broadside/api.Advert] -/
def t319 : DFunc := { ntmps := 14, results := [], mode := .full, body :=
 (.seq (.region [⟨(some 4), .move (.t 0), none, .write, 0⟩, ⟨(some 5), .move (.t 1), none, .write, 0⟩, ⟨(some 6), .sliceSl 4 (.t 4) none (some (.t 5)), none, .write, 0⟩, ⟨(some 7), .call (.c (.func 343 [])) [(.t 6)], none, .write, 0⟩])
 (.seq (.region [⟨(some 8), .move (.t 0), none, .write, 0⟩, ⟨(some 9), .move (.t 1), none, .write, 0⟩, ⟨(some 10), .sliceSl 4 (.t 8) (some (.t 9)) none, none, .write, 0⟩, ⟨(some 11), .call (.c (.func 343 [])) [(.t 10)], none, .write, 0⟩])
 (.region [⟨(some 12), .move (.t 0), none, .write, 0⟩, ⟨(some 13), .call (.c (.func 343 [])) [(.t 12)], none, .write, 0⟩]))) }

theorem c319 : compFunc Tryz.prog Tryz.f319 .full = some t319 := by kernel_rfl

/-- slices.rotateLeft[broadside/model.sub] -/
def t320 : DFunc := { ntmps := 14, results := [], mode := .full, body :=
 (.seq (.region [⟨(some 4), .move (.t 0), none, .write, 0⟩, ⟨(some 5), .move (.t 1), none, .write, 0⟩, ⟨(some 6), .sliceSl 4 (.t 4) none (some (.t 5)), none, .write, 0⟩, ⟨(some 7), .call (.c (.func 344 [])) [(.t 6)], none, .write, 0⟩])
 (.seq (.region [⟨(some 8), .move (.t 0), none, .write, 0⟩, ⟨(some 9), .move (.t 1), none, .write, 0⟩, ⟨(some 10), .sliceSl 4 (.t 8) (some (.t 9)) none, none, .write, 0⟩, ⟨(some 11), .call (.c (.func 344 [])) [(.t 10)], none, .write, 0⟩])
 (.region [⟨(some 12), .move (.t 0), none, .write, 0⟩, ⟨(some 13), .call (.c (.func 344 [])) [(.t 12)], none, .write, 0⟩]))) }

theorem c320 : compFunc Tryz.prog Tryz.f320 .full = some t320 := by kernel_rfl

/-- broadside/code.read -/
def t321 : DFunc := { ntmps := 87, results := [(.cell 2 (some 9))], mode := .full, body :=
 (.seq (.region [⟨(some 2), .alloc 85 9 (.agg [(.int .i64 0), (.int .i64 0), (.int .i64 0), (.int .i64 0), (.int .i64 0), (.int .i64 0), .nsl, .nsl, .nsl]), none, .write, 0⟩])
 (.seq (.region [⟨(some 8), .move (.t 0), none, .write, 0⟩, ⟨(some 9), .call (.c (.func 183 [])) [(.t 8)], none, .write, 0⟩, ⟨(some 10), .conv .i64 (.t 9), none, .write, 0⟩, ⟨(some 11), .move (.t 0), none, .write, 0⟩, ⟨(some 12), .call (.c (.func 271 [])) [(.t 11)], none, .write, 0⟩, ⟨(some 13), .move (.t 0), none, .write, 0⟩, ⟨(some 14), .call (.c (.func 271 [])) [(.t 13)], none, .write, 0⟩, ⟨(some 15), .move (.t 0), none, .write, 0⟩, ⟨(some 16), .call (.c (.func 271 [])) [(.t 15)], none, .write, 0⟩, ⟨(some 17), .move (.t 0), none, .write, 0⟩, ⟨(some 18), .call (.c (.func 271 [])) [(.t 17)], none, .write, 0⟩, ⟨(some 19), .move (.t 0), none, .write, 0⟩, ⟨(some 20), .call (.c (.func 271 [])) [(.t 19)], none, .write, 0⟩, ⟨(some 21), .build [(.int .i64 0), (.int .i64 0), (.int .i64 0), (.int .i64 0), (.int .i64 0), (.int .i64 0), .nsl, .nsl, .nsl] [(0, 1, (.t 10)), (1, 1, (.t 12)), (2, 1, (.t 14)), (3, 1, (.t 16)), (4, 1, (.t 18)), (5, 1, (.t 20))], none, .write, 0⟩, ⟨(some 3), .alloc 85 9 (.agg [(.int .i64 0), (.int .i64 0), (.int .i64 0), (.int .i64 0), (.int .i64 0), (.int .i64 0), .nsl, .nsl, .nsl]), none, .write, 0⟩, ⟨none, .store 9 (.t 3) (.t 21), none, .write, 0⟩])
 (.seq (.seq (.region [⟨(some 22), .move (.t 0), none, .write, 0⟩, ⟨(some 23), .call (.c (.func 183 [])) [(.t 22)], none, .write, 0⟩, ⟨(some 24), .conv .i64 (.t 23), none, .write, 0⟩, ⟨(some 4), .move (.t 24), none, .write, 0⟩])
 (.block 0 (.loop (.seq (.seq (.region [⟨(some 25), .move (.t 4), none, .write, 0⟩, ⟨(some 26), .arith .gtr (.t 25) (.c (.int .i64 0)), none, .write, 0⟩, ⟨(some 27), .move (.t 26), none, .write, 0⟩, ⟨(some 28), .move (.t 0), (some (27, true)), .write, 0⟩, ⟨(some 29), .call (.c (.func 186 [])) [(.t 28)], (some (27, true)), .write, 0⟩, ⟨(some 30), .pick (.t 27) (.t 29) (.c (.bool false)), none, .write, 0⟩])
 (.cond (.t 30) .skip (.exit 0)))
 (.seq (.block 1 (.draw [⟨(some 33), .fieldAddr 6 (.t 3), none, .read, 0⟩, ⟨(some 34), .load none (.t 33), none, .read, 0⟩, ⟨(some 35), .move (.t 0), none, .read, 0⟩, ⟨(some 36), .call (.c (.func 274 [])) [(.t 35)], none, .create, 0⟩, ⟨(some 37), .move (.t 0), none, .read, 0⟩, ⟨(some 38), .call (.c (.func 183 [])) [(.t 37)], none, .create, 0⟩, ⟨(some 40), .move (.t 0), none, .read, 0⟩, ⟨(some 41), .call (.c (.func 271 [])) [(.t 40)], none, .create, 0⟩, ⟨(some 42), .move (.t 0), none, .read, 0⟩, ⟨(some 43), .call (.c (.func 271 [])) [(.t 42)], none, .create, 0⟩, ⟨(some 44), .move (.t 0), none, .read, 0⟩, ⟨(some 45), .call (.c (.func 274 [])) [(.t 44)], none, .create, 0⟩, ⟨(some 39), .conv .i64 (.t 38), none, .read, 2⟩, ⟨(some 46), .build [(.str []), (.int .i64 0), (.int .i64 0), (.int .i64 0), (.str [])] [(0, 1, (.t 36)), (1, 1, (.t 39)), (2, 1, (.t 41)), (3, 1, (.t 43)), (4, 1, (.t 45))], none, .read, 5⟩, ⟨(some 47), .buildSlice 288 5 (.agg [(.str []), (.int .i64 0), (.int .i64 0), (.int .i64 0), (.str [])]) 1 [(0, (.t 46))], none, .create, 0⟩, ⟨(some 48), .append 288 5 56 (.t 34) (.t 47), none, .write, 6⟩, ⟨(some 49), .fieldAddr 6 (.t 3), none, .read, 7⟩, ⟨none, .store 1 (.t 49) (.t 48), none, .write, 7⟩]))
 (.region [⟨(some 31), .move (.t 4), none, .write, 0⟩, ⟨(some 32), .arith .sub (.t 31) (.c (.int .i64 1)), none, .write, 0⟩, ⟨(some 4), .move (.t 32), none, .write, 0⟩]))))))
 (.seq (.seq (.region [⟨(some 50), .move (.t 0), none, .write, 0⟩, ⟨(some 51), .call (.c (.func 183 [])) [(.t 50)], none, .write, 0⟩, ⟨(some 52), .conv .i64 (.t 51), none, .write, 0⟩, ⟨(some 5), .move (.t 52), none, .write, 0⟩])
 (.block 2 (.loop (.seq (.seq (.region [⟨(some 53), .move (.t 5), none, .write, 0⟩, ⟨(some 54), .arith .gtr (.t 53) (.c (.int .i64 0)), none, .write, 0⟩, ⟨(some 55), .move (.t 54), none, .write, 0⟩, ⟨(some 56), .move (.t 0), (some (55, true)), .write, 0⟩, ⟨(some 57), .call (.c (.func 186 [])) [(.t 56)], (some (55, true)), .write, 0⟩, ⟨(some 58), .pick (.t 55) (.t 57) (.c (.bool false)), none, .write, 0⟩])
 (.cond (.t 58) .skip (.exit 2)))
 (.seq (.block 3 (.seq (.region [⟨(some 61), .move (.t 0), none, .write, 0⟩, ⟨(some 62), .call (.c (.func 274 [])) [(.t 61)], none, .write, 0⟩, ⟨(some 63), .build [(.str []), (.bool false), (.int .i64 0), (.str [])] [(0, 1, (.t 62))], none, .write, 0⟩, ⟨(some 6), .alloc 293 4 (.agg [(.str []), (.bool false), (.int .i64 0), (.str [])]), none, .write, 0⟩, ⟨none, .store 4 (.t 6) (.t 63), none, .write, 0⟩])
 (.seq (.region [⟨(some 64), .move (.t 0), none, .write, 0⟩, ⟨(some 65), .call (.c (.func 183 [])) [(.t 64)], none, .write, 0⟩, ⟨(some 66), .arith .eql (.t 65) (.c (.int .u8 1)), none, .write, 0⟩, ⟨(some 67), .move (.t 0), none, .write, 0⟩, ⟨(some 68), .call (.c (.func 271 [])) [(.t 67)], none, .write, 0⟩, ⟨(some 69), .move (.t 0), none, .write, 0⟩, ⟨(some 70), .call (.c (.func 274 [])) [(.t 69)], none, .write, 0⟩, ⟨(some 71), .build [(.bool false), (.int .i64 0), (.str [])] [(0, 1, (.t 66)), (1, 1, (.t 68)), (2, 1, (.t 70))], none, .write, 0⟩, ⟨(some 72), .fieldAddr 1 (.t 6), none, .write, 0⟩, ⟨none, .store 3 (.t 72) (.t 71), none, .write, 0⟩])
 (.region [⟨(some 73), .fieldAddr 7 (.t 3), none, .write, 0⟩, ⟨(some 74), .load none (.t 73), none, .write, 0⟩, ⟨(some 75), .load (some 4) (.t 6), none, .write, 0⟩, ⟨(some 76), .buildSlice 293 4 (.agg [(.str []), (.bool false), (.int .i64 0), (.str [])]) 1 [(0, (.t 75))], none, .write, 0⟩, ⟨(some 77), .append 293 4 48 (.t 74) (.t 76), none, .write, 0⟩, ⟨(some 78), .fieldAddr 7 (.t 3), none, .write, 0⟩, ⟨none, .store 1 (.t 78) (.t 77), none, .write, 0⟩]))))
 (.region [⟨(some 59), .move (.t 5), none, .write, 0⟩, ⟨(some 60), .arith .sub (.t 59) (.c (.int .i64 1)), none, .write, 0⟩, ⟨(some 5), .move (.t 60), none, .write, 0⟩]))))))
 (.seq (.seq (.region [⟨(some 79), .move (.t 0), none, .write, 0⟩, ⟨(some 80), .call (.c (.func 274 [])) [(.t 79)], none, .write, 0⟩, ⟨(some 7), .move (.t 80), none, .write, 0⟩])
 (.seq (.region [⟨(some 81), .move (.t 7), none, .write, 0⟩, ⟨(some 82), .arith .neq (.t 81) (.c (.str [])), none, .write, 0⟩])
 (.cond (.t 82) (.region [⟨(some 83), .move (.t 7), none, .write, 0⟩, ⟨(some 84), .extract (.c .nilp) 0, none, .write, 0⟩, ⟨(some 85), .fieldAddr 8 (.t 3), none, .write, 0⟩, ⟨none, .store 1 (.t 85) (.t 84), none, .write, 0⟩]) .skip)))
 (.seq (.region [⟨(some 86), .load (some 9) (.t 3), none, .write, 0⟩, ⟨none, .store 9 (.t 2) (.t 86), none, .write, 0⟩])
 .ret)))))) }

theorem c321 : compFunc Tryz.prog Tryz.f321 .full = some t321 := by kernel_rfl

/-- broadside/code.Right -/
def t322 : DFunc := { ntmps := 87, results := [(.t 2)], mode := .full, body :=
 (.seq (.region [⟨(some 1), .box 85 9 (.t 0), none, .write, 0⟩, ⟨(some 2), .move (.c (.bool false)), none, .write, 0⟩])
 (.seq (.region [⟨(some 10), .load (some 9) (.t 1), none, .write, 0⟩, ⟨(some 11), .call (.c (.func 345 [])) [(.t 10)], none, .write, 0⟩, ⟨(some 9), .move (.t 11), none, .write, 0⟩, ⟨(some 12), .extract (.t 9) 0, none, .write, 0⟩, ⟨(some 13), .extract (.t 9) 1, none, .write, 0⟩, ⟨(some 3), .alloc 85 9 (.agg [(.int .i64 0), (.int .i64 0), (.int .i64 0), (.int .i64 0), (.int .i64 0), (.int .i64 0), .nsl, .nsl, .nsl]), none, .write, 0⟩, ⟨none, .store 9 (.t 3) (.t 12), none, .write, 0⟩, ⟨(some 4), .move (.t 13), none, .write, 0⟩])
 (.seq (.seq (.region [⟨(some 14), .move (.t 4), none, .write, 0⟩, ⟨(some 15), .un .not (.t 14), none, .write, 0⟩, ⟨(some 16), .move (.t 15), none, .write, 0⟩, ⟨(some 17), .load (some 9) (.t 3), (some (16, false)), .write, 0⟩, ⟨(some 18), .load (some 9) (.t 1), (some (16, false)), .write, 0⟩, ⟨(some 19), .call (.c (.func 346 [])) [(.t 17), (.t 18)], (some (16, false)), .write, 0⟩, ⟨(some 20), .un .not (.t 19), (some (16, false)), .write, 0⟩, ⟨(some 21), .pick (.t 16) (.c (.bool true)) (.t 20), none, .write, 0⟩, ⟨(some 22), .move (.t 21), none, .write, 0⟩, ⟨(some 23), .fieldAddr 6 (.t 1), (some (22, false)), .write, 0⟩, ⟨(some 24), .load none (.t 23), (some (22, false)), .write, 0⟩, ⟨(some 25), .len 1 (.t 24), (some (22, false)), .write, 0⟩, ⟨(some 26), .arith .gtr (.t 25) (.c (.int .i64 200)), (some (22, false)), .write, 0⟩, ⟨(some 27), .pick (.t 22) (.c (.bool true)) (.t 26), none, .write, 0⟩, ⟨(some 28), .move (.t 27), none, .write, 0⟩, ⟨(some 29), .fieldAddr 7 (.t 1), (some (28, false)), .write, 0⟩, ⟨(some 30), .load none (.t 29), (some (28, false)), .write, 0⟩, ⟨(some 31), .len 1 (.t 30), (some (28, false)), .write, 0⟩, ⟨(some 32), .arith .gtr (.t 31) (.c (.int .i64 200)), (some (28, false)), .write, 0⟩, ⟨(some 33), .pick (.t 28) (.c (.bool true)) (.t 32), none, .write, 0⟩, ⟨(some 34), .move (.t 33), none, .write, 0⟩, ⟨(some 35), .fieldAddr 8 (.t 1), (some (34, false)), .write, 0⟩, ⟨(some 36), .load none (.t 35), (some (34, false)), .write, 0⟩, ⟨(some 37), .len 1 (.t 36), (some (34, false)), .write, 0⟩, ⟨(some 38), .arith .gtr (.t 37) (.c (.int .i64 255)), (some (34, false)), .write, 0⟩, ⟨(some 39), .pick (.t 34) (.c (.bool true)) (.t 38), none, .write, 0⟩])
 (.cond (.t 39) (.seq (.region [⟨(some 2), .move (.c (.bool false)), none, .write, 0⟩])
 .ret) .skip))
 (.seq (.seq (.region [⟨(some 40), .fieldAddr 6 (.t 1), none, .write, 0⟩, ⟨(some 41), .load none (.t 40), none, .write, 0⟩, ⟨(some 42), .len 1 (.t 41), none, .write, 0⟩, ⟨(some 43), .move (.c (.int .i64 0)), none, .write, 0⟩])
 (.block 0 (.loop (.seq (.region [⟨(some 44), .arith .lss (.t 43) (.t 42), none, .write, 0⟩])
 (.seq (.cond (.t 44) .skip (.exit 0))
 (.seq (.block 1 (.seq (.region [⟨(some 45), .indexAddr 5 (.t 41) (.t 43), none, .write, 0⟩, ⟨(some 46), .load (some 5) (.t 45), none, .write, 0⟩, ⟨(some 6), .alloc 288 5 (.agg [(.str []), (.int .i64 0), (.int .i64 0), (.int .i64 0), (.str [])]), none, .write, 0⟩, ⟨none, .store 5 (.t 6) (.t 46), none, .write, 0⟩])
 (.seq (.region [⟨(some 47), .fieldAddr 0 (.t 6), none, .write, 0⟩, ⟨(some 48), .load none (.t 47), none, .write, 0⟩, ⟨(some 49), .len 0 (.t 48), none, .write, 0⟩, ⟨(some 50), .arith .gtr (.t 49) (.c (.int .i64 255)), none, .write, 0⟩, ⟨(some 51), .move (.t 50), none, .write, 0⟩, ⟨(some 52), .fieldAddr 4 (.t 6), (some (51, false)), .write, 0⟩, ⟨(some 53), .load none (.t 52), (some (51, false)), .write, 0⟩, ⟨(some 54), .len 0 (.t 53), (some (51, false)), .write, 0⟩, ⟨(some 55), .arith .gtr (.t 54) (.c (.int .i64 255)), (some (51, false)), .write, 0⟩, ⟨(some 56), .pick (.t 51) (.c (.bool true)) (.t 55), none, .write, 0⟩, ⟨(some 57), .move (.t 56), none, .write, 0⟩, ⟨(some 58), .fieldAddr 1 (.t 6), (some (57, false)), .write, 0⟩, ⟨(some 59), .load none (.t 58), (some (57, false)), .write, 0⟩, ⟨(some 60), .arith .lss (.t 59) (.c (.int .i64 0)), (some (57, false)), .write, 0⟩, ⟨(some 61), .pick (.t 57) (.c (.bool true)) (.t 60), none, .write, 0⟩, ⟨(some 62), .move (.t 61), none, .write, 0⟩, ⟨(some 63), .fieldAddr 1 (.t 6), (some (62, false)), .write, 0⟩, ⟨(some 64), .load none (.t 63), (some (62, false)), .write, 0⟩, ⟨(some 65), .arith .gtr (.t 64) (.c (.int .i64 255)), (some (62, false)), .write, 0⟩, ⟨(some 66), .pick (.t 62) (.c (.bool true)) (.t 65), none, .write, 0⟩])
 (.cond (.t 66) (.seq (.region [⟨(some 2), .move (.c (.bool false)), none, .write, 0⟩])
 .ret) .skip))))
 (.region [⟨(some 67), .arith .add (.t 43) (.c (.int .i64 1)), none, .write, 0⟩, ⟨(some 43), .move (.t 67), none, .write, 0⟩])))))))
 (.seq (.seq (.region [⟨(some 68), .fieldAddr 7 (.t 1), none, .write, 0⟩, ⟨(some 69), .load none (.t 68), none, .write, 0⟩, ⟨(some 70), .len 1 (.t 69), none, .write, 0⟩, ⟨(some 71), .move (.c (.int .i64 0)), none, .write, 0⟩])
 (.block 2 (.loop (.seq (.region [⟨(some 72), .arith .lss (.t 71) (.t 70), none, .write, 0⟩])
 (.seq (.cond (.t 72) .skip (.exit 2))
 (.seq (.block 3 (.seq (.region [⟨(some 73), .indexAddr 4 (.t 69) (.t 71), none, .write, 0⟩, ⟨(some 74), .load (some 4) (.t 73), none, .write, 0⟩, ⟨(some 8), .alloc 293 4 (.agg [(.str []), (.bool false), (.int .i64 0), (.str [])]), none, .write, 0⟩, ⟨none, .store 4 (.t 8) (.t 74), none, .write, 0⟩])
 (.seq (.region [⟨(some 75), .fieldAddr 0 (.t 8), none, .write, 0⟩, ⟨(some 76), .load none (.t 75), none, .write, 0⟩, ⟨(some 77), .len 0 (.t 76), none, .write, 0⟩, ⟨(some 78), .arith .gtr (.t 77) (.c (.int .i64 255)), none, .write, 0⟩, ⟨(some 79), .move (.t 78), none, .write, 0⟩, ⟨(some 80), .fieldAddr 1 (.t 8), (some (79, false)), .write, 0⟩, ⟨(some 81), .fieldAddr 2 (.t 80), (some (79, false)), .write, 0⟩, ⟨(some 82), .load none (.t 81), (some (79, false)), .write, 0⟩, ⟨(some 83), .len 0 (.t 82), (some (79, false)), .write, 0⟩, ⟨(some 84), .arith .gtr (.t 83) (.c (.int .i64 255)), (some (79, false)), .write, 0⟩, ⟨(some 85), .pick (.t 79) (.c (.bool true)) (.t 84), none, .write, 0⟩])
 (.cond (.t 85) (.seq (.region [⟨(some 2), .move (.c (.bool false)), none, .write, 0⟩])
 .ret) .skip))))
 (.region [⟨(some 86), .arith .add (.t 71) (.c (.int .i64 1)), none, .write, 0⟩, ⟨(some 71), .move (.t 86), none, .write, 0⟩])))))))
 (.seq (.region [⟨(some 2), .move (.c (.bool true)), none, .write, 0⟩])
 .ret)))))) }

theorem c322 : compFunc Tryz.prog Tryz.f322 .full = some t322 := by kernel_rfl

/-- broadside/code.put -/
def t323 : DFunc := { ntmps := 106, results := [(.t 2)], mode := .full, body :=
 (.seq (.region [⟨(some 1), .box 85 9 (.t 0), none, .write, 0⟩, ⟨(some 2), .move (.c .nsl), none, .write, 0⟩])
 (.seq (.draw [⟨(some 8), .fieldAddr 0 (.t 1), none, .read, 0⟩, ⟨(some 9), .load none (.t 8), none, .read, 0⟩, ⟨(some 12), .fieldAddr 1 (.t 1), none, .read, 0⟩, ⟨(some 13), .load none (.t 12), none, .read, 0⟩, ⟨(some 14), .fieldAddr 2 (.t 1), none, .read, 0⟩, ⟨(some 15), .load none (.t 14), none, .read, 0⟩, ⟨(some 16), .fieldAddr 3 (.t 1), none, .read, 0⟩, ⟨(some 17), .load none (.t 16), none, .read, 0⟩, ⟨(some 18), .fieldAddr 4 (.t 1), none, .read, 0⟩, ⟨(some 19), .load none (.t 18), none, .read, 0⟩, ⟨(some 20), .fieldAddr 5 (.t 1), none, .read, 0⟩, ⟨(some 21), .load none (.t 20), none, .read, 0⟩, ⟨(some 22), .buildSlice 3 1 (.int .i64 0) 5 [(0, (.t 13)), (1, (.t 15)), (2, (.t 17)), (3, (.t 19)), (4, (.t 21))], none, .create, 0⟩, ⟨(some 23), .call (.c (.func 277 [])) [(.t 22)], none, .create, 0⟩, ⟨(some 10), .conv .u8 (.t 9), none, .read, 0⟩, ⟨(some 11), .buildSlice 5 1 (.int .u8 0) 1 [(0, (.t 10))], none, .create, 0⟩, ⟨(some 24), .append 5 1 1 (.t 11) (.t 23), none, .write, 3⟩, ⟨(some 3), .move (.t 24), none, .read, 4⟩])
 (.seq (.region [⟨(some 25), .move (.t 3), none, .write, 0⟩, ⟨(some 26), .fieldAddr 6 (.t 1), none, .write, 0⟩, ⟨(some 27), .load none (.t 26), none, .write, 0⟩, ⟨(some 28), .len 1 (.t 27), none, .write, 0⟩, ⟨(some 29), .conv .u8 (.t 28), none, .write, 0⟩, ⟨(some 30), .buildSlice 5 1 (.int .u8 0) 1 [(0, (.t 29))], none, .write, 0⟩, ⟨(some 31), .append 5 1 1 (.t 25) (.t 30), none, .write, 0⟩, ⟨(some 3), .move (.t 31), none, .write, 0⟩])
 (.seq (.seq (.region [⟨(some 32), .fieldAddr 6 (.t 1), none, .write, 0⟩, ⟨(some 33), .load none (.t 32), none, .write, 0⟩, ⟨(some 34), .len 1 (.t 33), none, .write, 0⟩, ⟨(some 35), .move (.c (.int .i64 0)), none, .write, 0⟩])
 (.block 0 (.loop (.seq (.region [⟨(some 36), .arith .lss (.t 35) (.t 34), none, .write, 0⟩])
 (.seq (.cond (.t 36) .skip (.exit 0))
 (.seq (.block 1 (.seq (.region [⟨(some 37), .indexAddr 5 (.t 33) (.t 35), none, .write, 0⟩, ⟨(some 38), .load (some 5) (.t 37), none, .write, 0⟩, ⟨(some 5), .alloc 288 5 (.agg [(.str []), (.int .i64 0), (.int .i64 0), (.int .i64 0), (.str [])]), none, .write, 0⟩, ⟨none, .store 5 (.t 5) (.t 38), none, .write, 0⟩])
 (.seq (.draw [⟨(some 40), .fieldAddr 0 (.t 5), none, .read, 0⟩, ⟨(some 41), .load none (.t 40), none, .read, 0⟩, ⟨(some 42), .call (.c (.func 278 [])) [(.t 41)], none, .create, 0⟩, ⟨(some 39), .move (.t 3), none, .read, 0⟩, ⟨(some 43), .append 5 1 1 (.t 39) (.t 42), none, .create, 0⟩, ⟨(some 44), .fieldAddr 1 (.t 5), none, .read, 0⟩, ⟨(some 45), .load none (.t 44), none, .read, 0⟩, ⟨(some 46), .conv .u8 (.t 45), none, .read, 0⟩, ⟨(some 47), .buildSlice 5 1 (.int .u8 0) 1 [(0, (.t 46))], none, .create, 0⟩, ⟨(some 48), .append 5 1 1 (.t 43) (.t 47), none, .write, 3⟩, ⟨(some 3), .move (.t 48), none, .read, 4⟩])
 (.draw [⟨(some 50), .fieldAddr 2 (.t 5), none, .read, 0⟩, ⟨(some 51), .load none (.t 50), none, .read, 0⟩, ⟨(some 52), .fieldAddr 3 (.t 5), none, .read, 0⟩, ⟨(some 53), .load none (.t 52), none, .read, 0⟩, ⟨(some 54), .buildSlice 3 1 (.int .i64 0) 2 [(0, (.t 51)), (1, (.t 53))], none, .create, 0⟩, ⟨(some 55), .call (.c (.func 277 [])) [(.t 54)], none, .create, 0⟩, ⟨(some 49), .move (.t 3), none, .read, 0⟩, ⟨(some 56), .append 5 1 1 (.t 49) (.t 55), none, .create, 0⟩, ⟨(some 57), .fieldAddr 4 (.t 5), none, .read, 0⟩, ⟨(some 58), .load none (.t 57), none, .read, 0⟩, ⟨(some 59), .call (.c (.func 278 [])) [(.t 58)], none, .write, 3⟩, ⟨(some 60), .append 5 1 1 (.t 56) (.t 59), none, .write, 4⟩, ⟨(some 3), .move (.t 60), none, .read, 5⟩]))))
 (.region [⟨(some 61), .arith .add (.t 35) (.c (.int .i64 1)), none, .write, 0⟩, ⟨(some 35), .move (.t 61), none, .write, 0⟩])))))))
 (.seq (.region [⟨(some 62), .move (.t 3), none, .write, 0⟩, ⟨(some 63), .fieldAddr 7 (.t 1), none, .write, 0⟩, ⟨(some 64), .load none (.t 63), none, .write, 0⟩, ⟨(some 65), .len 1 (.t 64), none, .write, 0⟩, ⟨(some 66), .conv .u8 (.t 65), none, .write, 0⟩, ⟨(some 67), .buildSlice 5 1 (.int .u8 0) 1 [(0, (.t 66))], none, .write, 0⟩, ⟨(some 68), .append 5 1 1 (.t 62) (.t 67), none, .write, 0⟩, ⟨(some 3), .move (.t 68), none, .write, 0⟩])
 (.seq (.seq (.region [⟨(some 69), .fieldAddr 7 (.t 1), none, .write, 0⟩, ⟨(some 70), .load none (.t 69), none, .write, 0⟩, ⟨(some 71), .len 1 (.t 70), none, .write, 0⟩, ⟨(some 72), .move (.c (.int .i64 0)), none, .write, 0⟩])
 (.block 2 (.loop (.seq (.region [⟨(some 73), .arith .lss (.t 72) (.t 71), none, .write, 0⟩])
 (.seq (.cond (.t 73) .skip (.exit 2))
 (.seq (.block 3 (.seq (.region [⟨(some 74), .indexAddr 4 (.t 70) (.t 72), none, .write, 0⟩, ⟨(some 75), .load (some 4) (.t 74), none, .write, 0⟩, ⟨(some 7), .alloc 293 4 (.agg [(.str []), (.bool false), (.int .i64 0), (.str [])]), none, .write, 0⟩, ⟨none, .store 4 (.t 7) (.t 75), none, .write, 0⟩])
 (.seq (.draw [⟨(some 77), .fieldAddr 0 (.t 7), none, .read, 0⟩, ⟨(some 78), .load none (.t 77), none, .read, 0⟩, ⟨(some 79), .call (.c (.func 278 [])) [(.t 78)], none, .create, 0⟩, ⟨(some 76), .move (.t 3), none, .read, 0⟩, ⟨(some 80), .append 5 1 1 (.t 76) (.t 79), none, .create, 0⟩, ⟨(some 81), .fieldAddr 1 (.t 7), none, .read, 0⟩, ⟨(some 82), .fieldAddr 0 (.t 81), none, .read, 0⟩, ⟨(some 83), .load none (.t 82), none, .read, 0⟩, ⟨(some 84), .call (.c (.func 347 [])) [(.t 83)], none, .write, 2⟩, ⟨(some 85), .buildSlice 5 1 (.int .u8 0) 1 [(0, (.t 84))], none, .create, 0⟩, ⟨(some 86), .append 5 1 1 (.t 80) (.t 85), none, .write, 4⟩, ⟨(some 3), .move (.t 86), none, .read, 5⟩])
 (.draw [⟨(some 88), .fieldAddr 1 (.t 7), none, .read, 0⟩, ⟨(some 89), .fieldAddr 1 (.t 88), none, .read, 0⟩, ⟨(some 90), .load none (.t 89), none, .read, 0⟩, ⟨(some 91), .buildSlice 3 1 (.int .i64 0) 1 [(0, (.t 90))], none, .create, 0⟩, ⟨(some 92), .call (.c (.func 277 [])) [(.t 91)], none, .create, 0⟩, ⟨(some 87), .move (.t 3), none, .read, 0⟩, ⟨(some 93), .append 5 1 1 (.t 87) (.t 92), none, .create, 0⟩, ⟨(some 94), .fieldAddr 1 (.t 7), none, .read, 0⟩, ⟨(some 95), .fieldAddr 2 (.t 94), none, .read, 0⟩, ⟨(some 96), .load none (.t 95), none, .read, 0⟩, ⟨(some 97), .call (.c (.func 278 [])) [(.t 96)], none, .write, 3⟩, ⟨(some 98), .append 5 1 1 (.t 93) (.t 97), none, .write, 4⟩, ⟨(some 3), .move (.t 98), none, .read, 5⟩]))))
 (.region [⟨(some 99), .arith .add (.t 72) (.c (.int .i64 1)), none, .write, 0⟩, ⟨(some 72), .move (.t 99), none, .write, 0⟩])))))))
 (.seq (.region [⟨(some 100), .move (.t 3), none, .write, 0⟩, ⟨(some 101), .fieldAddr 8 (.t 1), none, .write, 0⟩, ⟨(some 102), .load none (.t 101), none, .write, 0⟩, ⟨(some 103), .extract (.c .nilp) 0, none, .write, 0⟩, ⟨(some 104), .call (.c (.func 278 [])) [(.t 103)], none, .write, 0⟩, ⟨(some 105), .append 5 1 1 (.t 100) (.t 104), none, .write, 0⟩, ⟨(some 2), .move (.t 105), none, .write, 0⟩])
 .ret))))))) }

theorem c323 : compFunc Tryz.prog Tryz.f323 .full = some t323 := by kernel_rfl

/-- slices.Delete[[]broadside/api.Entry,broadside/api.Entry] -/
def t324 : DFunc := { ntmps := 33, results := [(.t 6)], mode := .full, body :=
 (.seq (.region [⟨(some 6), .move (.c .nsl), none, .write, 0⟩])
 (.seq (.region [⟨(some 8), .move (.t 0), none, .write, 0⟩, ⟨(some 9), .move (.t 1), none, .write, 0⟩, ⟨(some 10), .move (.t 2), none, .write, 0⟩, ⟨(some 11), .move (.t 0), none, .write, 0⟩, ⟨(some 12), .len 1 (.t 11), none, .write, 0⟩, ⟨(some 13), .slice3 (.t 8) (.t 9) (.t 10) (.t 12), none, .write, 0⟩])
 (.seq (.seq (.region [⟨(some 14), .move (.t 1), none, .write, 0⟩, ⟨(some 15), .move (.t 2), none, .write, 0⟩, ⟨(some 16), .arith .eql (.t 14) (.t 15), none, .write, 0⟩])
 (.cond (.t 16) (.seq (.region [⟨(some 17), .move (.t 0), none, .write, 0⟩, ⟨(some 6), .move (.t 17), none, .write, 0⟩])
 .ret) .skip))
 (.seq (.region [⟨(some 18), .move (.t 0), none, .write, 0⟩, ⟨(some 19), .len 1 (.t 18), none, .write, 0⟩, ⟨(some 7), .move (.t 19), none, .write, 0⟩])
 (.seq (.draw [⟨(some 20), .move (.t 0), none, .read, 0⟩, ⟨(some 21), .move (.t 1), none, .read, 0⟩, ⟨(some 22), .sliceSl 7 (.t 20) none (some (.t 21)), none, .read, 0⟩, ⟨(some 23), .move (.t 0), none, .read, 0⟩, ⟨(some 24), .move (.t 2), none, .read, 0⟩, ⟨(some 25), .sliceSl 7 (.t 23) (some (.t 24)) none, none, .read, 0⟩, ⟨(some 26), .append 156 7 72 (.t 22) (.t 25), none, .write, 0⟩, ⟨(some 0), .move (.t 26), none, .read, 1⟩])
 (.seq (.region [⟨(some 27), .move (.t 0), none, .write, 0⟩, ⟨(some 28), .move (.t 0), none, .write, 0⟩, ⟨(some 29), .len 1 (.t 28), none, .write, 0⟩, ⟨(some 30), .move (.t 7), none, .write, 0⟩, ⟨(some 31), .sliceSl 7 (.t 27) (some (.t 29)) (some (.t 30)), none, .write, 0⟩, ⟨none, .clear 7 (.agg [(.int .i64 0), (.int .i64 0), (.int .i64 0), (.int .i64 0), .nsl, (.int .i64 0), (.bool false)]) (.t 31), none, .write, 0⟩])
 (.seq (.region [⟨(some 32), .move (.t 0), none, .write, 0⟩, ⟨(some 6), .move (.t 32), none, .write, 0⟩])
 .ret))))))) }

theorem c324 : compFunc Tryz.prog Tryz.f324 .full = some t324 := by kernel_rfl

/-- slices.order2Ordered[int] -/
def t325 : DFunc := { ntmps := 28, results := [(.t 8), (.t 9)], mode := .full, body :=
 (.seq (.region [⟨(some 8), .move (.c (.int .i64 0)), none, .write, 0⟩, ⟨(some 9), .move (.c (.int .i64 0)), none, .write, 0⟩])
 (.seq (.seq (.draw [⟨(some 10), .move (.t 0), none, .read, 0⟩, ⟨(some 11), .move (.t 2), none, .read, 0⟩, ⟨(some 12), .indexAddr 1 (.t 10) (.t 11), none, .read, 0⟩, ⟨(some 13), .load none (.t 12), none, .read, 0⟩, ⟨(some 14), .move (.t 0), none, .read, 0⟩, ⟨(some 15), .move (.t 1), none, .read, 0⟩, ⟨(some 16), .indexAddr 1 (.t 14) (.t 15), none, .read, 0⟩, ⟨(some 17), .load none (.t 16), none, .read, 0⟩, ⟨(some 18), .call (.c (.func 202 [])) [(.t 13), (.t 17)], none, .write, 0⟩])
 (.cond (.t 18) (.seq (.region [⟨(some 19), .move (.t 3), none, .write, 0⟩, ⟨(some 20), .nilCheck (.t 19), none, .write, 0⟩, ⟨(some 21), .load none (.t 20), none, .write, 0⟩, ⟨(some 22), .arith .add (.t 21) (.c (.int .i64 1)), none, .write, 0⟩, ⟨(some 23), .nilCheck (.t 19), none, .write, 0⟩, ⟨none, .store 1 (.t 23) (.t 22), none, .write, 0⟩])
 (.seq (.region [⟨(some 24), .move (.t 2), none, .write, 0⟩, ⟨(some 25), .move (.t 1), none, .write, 0⟩, ⟨(some 8), .move (.t 24), none, .write, 0⟩, ⟨(some 9), .move (.t 25), none, .write, 0⟩])
 .ret)) .skip))
 (.seq (.region [⟨(some 26), .move (.t 1), none, .write, 0⟩, ⟨(some 27), .move (.t 2), none, .write, 0⟩, ⟨(some 8), .move (.t 26), none, .write, 0⟩, ⟨(some 9), .move (.t 27), none, .write, 0⟩])
 .ret))) }

theorem c325 : compFunc Tryz.prog Tryz.f325 .full = some t325 := by kernel_rfl

/-- strings.HasPrefix -/
def t326 : DFunc := { ntmps := 8, results := [(.t 4)], mode := .full, body :=
 (.seq (.region [⟨(some 4), .move (.c (.bool false)), none, .write, 0⟩])
 (.seq (.region [⟨(some 5), .move (.t 0), none, .write, 0⟩, ⟨(some 6), .move (.t 1), none, .write, 0⟩, ⟨(some 7), .call (.c (.func 348 [])) [(.t 5), (.t 6)], none, .write, 0⟩, ⟨(some 4), .move (.t 7), none, .write, 0⟩])
 .ret)) }

theorem c326 : compFunc Tryz.prog Tryz.f326 .full = some t326 := by kernel_rfl

/-- broadside/value.Number -/
def t327 : DFunc := { ntmps := 5, results := [(.cell 2 (some 3))], mode := .full, body :=
 (.seq (.region [⟨(some 2), .alloc 291 3 (.agg [(.bool false), (.int .i64 0), (.str [])]), none, .write, 0⟩])
 (.seq (.region [⟨(some 3), .move (.t 0), none, .write, 0⟩, ⟨(some 4), .build [(.bool false), (.int .i64 0), (.str [])] [(1, 1, (.t 3))], none, .write, 0⟩, ⟨none, .store 3 (.t 2) (.t 4), none, .write, 0⟩])
 .ret)) }

theorem c327 : compFunc Tryz.prog Tryz.f327 .full = some t327 := by kernel_rfl

end Go.Dm.TabS
