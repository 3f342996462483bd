/-
The table of functions, brought into the machine's form (TabW, part 4). Written by program (wip/tools/table.lean.txt).
-/
import Derived.Test.YtkhmbjajaibinaaGreatDoorDm32
import Derived.Test.YtkhmbjajaibinaaGreatDoorRows
import Derived.KernelRfl
namespace Go.Dm.TabW
open Go.Proofs

/-- slices.BinarySearchFunc[[]broadside/api.ID,broadside/api.ID,broadside/api.ID] -/
def t233 : DFunc := { ntmps := 49, results := [(.t 6), (.t 7)], mode := .full, body :=
 (.seq (.region [⟨(some 4), .box 32 2 (.t 1), none, .write, 0⟩, ⟨(some 6), .move (.c (.int .i64 0)), none, .write, 0⟩, ⟨(some 7), .move (.c (.bool false)), none, .write, 0⟩])
 (.seq (.region [⟨(some 12), .move (.t 0), none, .write, 0⟩, ⟨(some 13), .len 1 (.t 12), none, .write, 0⟩, ⟨(some 8), .move (.t 13), none, .write, 0⟩])
 (.seq (.region [⟨(some 14), .move (.t 8), none, .write, 0⟩, ⟨(some 9), .move (.c (.int .i64 0)), none, .write, 0⟩, ⟨(some 10), .move (.t 14), none, .write, 0⟩])
 (.seq (.block 0 (.loop (.seq (.seq (.region [⟨(some 15), .move (.t 9), none, .write, 0⟩, ⟨(some 16), .move (.t 10), none, .write, 0⟩, ⟨(some 17), .arith .lss (.t 15) (.t 16), none, .write, 0⟩])
 (.cond (.t 17) .skip (.exit 0)))
 (.block 1 (.seq (.region [⟨(some 18), .move (.t 9), none, .write, 0⟩, ⟨(some 19), .move (.t 10), none, .write, 0⟩, ⟨(some 20), .arith .add (.t 18) (.t 19), none, .write, 0⟩, ⟨(some 21), .conv .u64 (.t 20), none, .write, 0⟩, ⟨(some 22), .arith .shr (.t 21) (.c (.int .u64 1)), none, .write, 0⟩, ⟨(some 23), .conv .i64 (.t 22), none, .write, 0⟩, ⟨(some 11), .move (.t 23), none, .write, 0⟩])
 (.seq (.draw [⟨(some 25), .move (.t 0), none, .read, 0⟩, ⟨(some 26), .move (.t 11), none, .read, 0⟩, ⟨(some 27), .indexAddr 2 (.t 25) (.t 26), none, .read, 0⟩, ⟨(some 28), .load (some 2) (.t 27), none, .read, 0⟩, ⟨(some 29), .load (some 2) (.t 4), none, .read, 0⟩, ⟨(some 24), .move (.t 2), none, .read, 0⟩, ⟨(some 30), .call (.t 24) [(.t 28), (.t 29)], none, .write, 0⟩, ⟨(some 31), .arith .lss (.t 30) (.c (.int .i64 0)), none, .read, 1⟩])
 (.cond (.t 31) (.region [⟨(some 32), .move (.t 11), none, .write, 0⟩, ⟨(some 33), .arith .add (.t 32) (.c (.int .i64 1)), none, .write, 0⟩, ⟨(some 9), .move (.t 33), none, .write, 0⟩]) (.region [⟨(some 34), .move (.t 11), none, .write, 0⟩, ⟨(some 10), .move (.t 34), none, .write, 0⟩]))))))))
 (.seq (.draw [⟨(some 36), .move (.t 9), none, .read, 0⟩, ⟨(some 37), .move (.t 8), none, .read, 0⟩, ⟨(some 38), .arith .lss (.t 36) (.t 37), none, .read, 0⟩, ⟨(some 39), .move (.t 38), none, .read, 0⟩, ⟨(some 41), .move (.t 0), (some (39, true)), .read, 0⟩, ⟨(some 42), .move (.t 9), (some (39, true)), .read, 0⟩, ⟨(some 43), .indexAddr 2 (.t 41) (.t 42), (some (39, true)), .read, 0⟩, ⟨(some 44), .load (some 2) (.t 43), (some (39, true)), .read, 0⟩, ⟨(some 45), .load (some 2) (.t 4), (some (39, true)), .read, 0⟩, ⟨(some 40), .move (.t 2), (some (39, true)), .read, 0⟩, ⟨(some 46), .call (.t 40) [(.t 44), (.t 45)], (some (39, true)), .write, 0⟩, ⟨(some 35), .move (.t 9), none, .read, 0⟩, ⟨(some 47), .arith .eql (.t 46) (.c (.int .i64 0)), (some (39, true)), .read, 1⟩, ⟨(some 48), .pick (.t 39) (.t 47) (.c (.bool false)), none, .read, 1⟩, ⟨(some 6), .move (.t 35), none, .read, 1⟩, ⟨(some 7), .move (.t 48), none, .read, 1⟩])
 .ret))))) }

theorem c233 : compFunc Tryz.prog Tryz.f233 .full = some t233 := by kernel_rfl

/-- slices.rotateRight[broadside/api.Advert] -/
def t235 : DFunc := { ntmps := 10, results := [], mode := .full, body :=
 (.region [⟨(some 4), .move (.t 0), none, .write, 0⟩, ⟨(some 5), .move (.t 0), none, .write, 0⟩, ⟨(some 6), .len 1 (.t 5), none, .write, 0⟩, ⟨(some 7), .move (.t 1), none, .write, 0⟩, ⟨(some 8), .arith .sub (.t 6) (.t 7), none, .write, 0⟩, ⟨(some 9), .call (.c (.func 287 [])) [(.t 4), (.t 8)], none, .write, 0⟩]) }

theorem c235 : compFunc Tryz.prog Tryz.f235 .full = some t235 := by kernel_rfl

/-- slices.rotateRight[broadside/api.ID] -/
def t237 : DFunc := { ntmps := 10, results := [], mode := .full, body :=
 (.region [⟨(some 4), .move (.t 0), none, .write, 0⟩, ⟨(some 5), .move (.t 0), none, .write, 0⟩, ⟨(some 6), .len 1 (.t 5), none, .write, 0⟩, ⟨(some 7), .move (.t 1), none, .write, 0⟩, ⟨(some 8), .arith .sub (.t 6) (.t 7), none, .write, 0⟩, ⟨(some 9), .call (.c (.func 288 [])) [(.t 4), (.t 8)], none, .write, 0⟩]) }

theorem c237 : compFunc Tryz.prog Tryz.f237 .full = some t237 := by kernel_rfl

/-- broadside/rel.Sample -/
def t238 : DFunc := { ntmps := 31, results := [(.t 2)], mode := .full, body :=
 (.seq (.region [⟨(some 2), .move (.c .nsl), none, .write, 0⟩])
 (.seq (.region [⟨(some 3), .move (.c .nsl), none, .write, 0⟩])
 (.seq (.seq (.region [⟨(some 7), .move (.t 0), none, .write, 0⟩, ⟨(some 8), .len 1 (.t 7), none, .write, 0⟩, ⟨(some 9), .move (.c (.int .i64 0)), none, .write, 0⟩])
 (.block 0 (.loop (.seq (.region [⟨(some 10), .arith .lss (.t 9) (.t 8), none, .write, 0⟩])
 (.seq (.cond (.t 10) .skip (.exit 0))
 (.seq (.block 1 (.seq (.region [⟨(some 11), .indexAddr 5 (.t 7) (.t 9), none, .write, 0⟩, ⟨(some 12), .load (some 5) (.t 11), none, .write, 0⟩, ⟨(some 5), .alloc 303 5 (.agg [(.str []), (.int .i64 0), (.int .i64 0), (.int .i64 0), (.str [])]), none, .write, 0⟩, ⟨none, .store 5 (.t 5) (.t 12), none, .write, 0⟩])
 (.seq (.region [⟨(some 13), .fieldAddr 4 (.t 5), none, .write, 0⟩, ⟨(some 14), .load none (.t 13), none, .write, 0⟩, ⟨(some 15), .call (.c (.func 289 [])) [(.t 14)], none, .write, 0⟩, ⟨(some 6), .alloc 251 3 (.agg [(.bool false), (.int .i64 0), (.str [])]), none, .write, 0⟩, ⟨none, .store 3 (.t 6) (.t 15), none, .write, 0⟩])
 (.seq (.seq (.region [⟨(some 16), .fieldAddr 1 (.t 5), none, .write, 0⟩, ⟨(some 17), .load none (.t 16), none, .write, 0⟩, ⟨(some 18), .arith .eql (.t 17) (.c (.int .i64 1)), none, .write, 0⟩])
 (.cond (.t 18) (.region [⟨(some 19), .fieldAddr 2 (.t 5), none, .write, 0⟩, ⟨(some 20), .load none (.t 19), none, .write, 0⟩, ⟨(some 21), .call (.c (.func 290 [])) [(.t 20)], none, .write, 0⟩, ⟨none, .store 3 (.t 6) (.t 21), none, .write, 0⟩]) .skip))
 (.region [⟨(some 22), .move (.t 3), none, .write, 0⟩, ⟨(some 23), .fieldAddr 0 (.t 5), none, .write, 0⟩, ⟨(some 24), .load none (.t 23), none, .write, 0⟩, ⟨(some 25), .load (some 3) (.t 6), none, .write, 0⟩, ⟨(some 26), .build [(.str []), (.bool false), (.int .i64 0), (.str [])] [(0, 1, (.t 24)), (1, 3, (.t 25))], none, .write, 0⟩, ⟨(some 27), .buildSlice 253 4 (.agg [(.str []), (.bool false), (.int .i64 0), (.str [])]) 1 [(0, (.t 26))], none, .write, 0⟩, ⟨(some 28), .append 253 4 48 (.t 22) (.t 27), none, .write, 0⟩, ⟨(some 3), .move (.t 28), none, .write, 0⟩])))))
 (.region [⟨(some 29), .arith .add (.t 9) (.c (.int .i64 1)), none, .write, 0⟩, ⟨(some 9), .move (.t 29), none, .write, 0⟩])))))))
 (.seq (.region [⟨(some 30), .move (.t 3), none, .write, 0⟩, ⟨(some 2), .move (.t 30), none, .write, 0⟩])
 .ret)))) }

theorem c238 : compFunc Tryz.prog Tryz.f238 .full = some t238 := by kernel_rfl

/-- slices.BinarySearchFunc[[]broadside/api.Entry,broadside/api.Entry,broadside/api.ID] -/
def t239 : DFunc := { ntmps := 49, results := [(.t 6), (.t 7)], mode := .full, body :=
 (.seq (.region [⟨(some 4), .box 32 2 (.t 1), none, .write, 0⟩, ⟨(some 6), .move (.c (.int .i64 0)), none, .write, 0⟩, ⟨(some 7), .move (.c (.bool false)), none, .write, 0⟩])
 (.seq (.region [⟨(some 12), .move (.t 0), none, .write, 0⟩, ⟨(some 13), .len 1 (.t 12), none, .write, 0⟩, ⟨(some 8), .move (.t 13), none, .write, 0⟩])
 (.seq (.region [⟨(some 14), .move (.t 8), none, .write, 0⟩, ⟨(some 9), .move (.c (.int .i64 0)), none, .write, 0⟩, ⟨(some 10), .move (.t 14), none, .write, 0⟩])
 (.seq (.block 0 (.loop (.seq (.seq (.region [⟨(some 15), .move (.t 9), none, .write, 0⟩, ⟨(some 16), .move (.t 10), none, .write, 0⟩, ⟨(some 17), .arith .lss (.t 15) (.t 16), none, .write, 0⟩])
 (.cond (.t 17) .skip (.exit 0)))
 (.block 1 (.seq (.region [⟨(some 18), .move (.t 9), none, .write, 0⟩, ⟨(some 19), .move (.t 10), none, .write, 0⟩, ⟨(some 20), .arith .add (.t 18) (.t 19), none, .write, 0⟩, ⟨(some 21), .conv .u64 (.t 20), none, .write, 0⟩, ⟨(some 22), .arith .shr (.t 21) (.c (.int .u64 1)), none, .write, 0⟩, ⟨(some 23), .conv .i64 (.t 22), none, .write, 0⟩, ⟨(some 11), .move (.t 23), none, .write, 0⟩])
 (.seq (.draw [⟨(some 25), .move (.t 0), none, .read, 0⟩, ⟨(some 26), .move (.t 11), none, .read, 0⟩, ⟨(some 27), .indexAddr 7 (.t 25) (.t 26), none, .read, 0⟩, ⟨(some 28), .load (some 7) (.t 27), none, .read, 0⟩, ⟨(some 29), .load (some 2) (.t 4), none, .read, 0⟩, ⟨(some 24), .move (.t 2), none, .read, 0⟩, ⟨(some 30), .call (.t 24) [(.t 28), (.t 29)], none, .write, 0⟩, ⟨(some 31), .arith .lss (.t 30) (.c (.int .i64 0)), none, .read, 1⟩])
 (.cond (.t 31) (.region [⟨(some 32), .move (.t 11), none, .write, 0⟩, ⟨(some 33), .arith .add (.t 32) (.c (.int .i64 1)), none, .write, 0⟩, ⟨(some 9), .move (.t 33), none, .write, 0⟩]) (.region [⟨(some 34), .move (.t 11), none, .write, 0⟩, ⟨(some 10), .move (.t 34), none, .write, 0⟩]))))))))
 (.seq (.draw [⟨(some 36), .move (.t 9), none, .read, 0⟩, ⟨(some 37), .move (.t 8), none, .read, 0⟩, ⟨(some 38), .arith .lss (.t 36) (.t 37), none, .read, 0⟩, ⟨(some 39), .move (.t 38), none, .read, 0⟩, ⟨(some 41), .move (.t 0), (some (39, true)), .read, 0⟩, ⟨(some 42), .move (.t 9), (some (39, true)), .read, 0⟩, ⟨(some 43), .indexAddr 7 (.t 41) (.t 42), (some (39, true)), .read, 0⟩, ⟨(some 44), .load (some 7) (.t 43), (some (39, true)), .read, 0⟩, ⟨(some 45), .load (some 2) (.t 4), (some (39, true)), .read, 0⟩, ⟨(some 40), .move (.t 2), (some (39, true)), .read, 0⟩, ⟨(some 46), .call (.t 40) [(.t 44), (.t 45)], (some (39, true)), .write, 0⟩, ⟨(some 35), .move (.t 9), none, .read, 0⟩, ⟨(some 47), .arith .eql (.t 46) (.c (.int .i64 0)), (some (39, true)), .read, 1⟩, ⟨(some 48), .pick (.t 39) (.t 47) (.c (.bool false)), none, .read, 1⟩, ⟨(some 6), .move (.t 35), none, .read, 1⟩, ⟨(some 7), .move (.t 48), none, .read, 1⟩])
 .ret))))) }

theorem c239 : compFunc Tryz.prog Tryz.f239 .full = some t239 := by kernel_rfl

/-- broadside/subs.place$1 -/
def t240 : DFunc := { ntmps := 34, results := [(.t 5)], mode := .full, body :=
 (.seq (.region [⟨(some 3), .box 192 7 (.t 0), none, .write, 0⟩, ⟨(some 4), .box 32 2 (.t 1), none, .write, 0⟩, ⟨(some 5), .move (.c (.int .i64 0)), none, .write, 0⟩])
 (.seq (.block 0 (.seq (.region [⟨(some 7), .fieldAddr 0 (.t 3), none, .write, 0⟩, ⟨(some 8), .load (some 2) (.t 7), none, .write, 0⟩, ⟨(some 9), .load (some 2) (.t 2), none, .write, 0⟩, ⟨(some 10), .eqa false [1, 1] (.t 8) (.t 9), none, .write, 0⟩, ⟨(some 11), .move (.t 10), none, .write, 0⟩, ⟨(some 12), .fieldAddr 2 (.t 3), (some (11, true)), .write, 0⟩, ⟨(some 13), .load (some 2) (.t 12), (some (11, true)), .write, 0⟩, ⟨(some 14), .load (some 2) (.t 4), (some (11, true)), .write, 0⟩, ⟨(some 15), .eqa false [1, 1] (.t 13) (.t 14), (some (11, true)), .write, 0⟩, ⟨(some 16), .pick (.t 11) (.t 15) (.c (.bool false)), none, .write, 0⟩, ⟨(some 6), .move (.t 16), none, .write, 0⟩])
 (.cond (.t 6) (.seq (.region [⟨(some 5), .move (.c (.int .i64 0)), none, .write, 0⟩])
 .ret) (.seq (.region [⟨(some 18), .fieldAddr 0 (.t 3), none, .write, 0⟩, ⟨(some 19), .load (some 2) (.t 18), none, .write, 0⟩, ⟨(some 20), .load (some 2) (.t 2), none, .write, 0⟩, ⟨(some 21), .call (.c (.func 120 [])) [(.t 19), (.t 20)], none, .write, 0⟩, ⟨(some 22), .move (.t 21), none, .write, 0⟩, ⟨(some 23), .fieldAddr 0 (.t 3), (some (22, false)), .write, 0⟩, ⟨(some 24), .load (some 2) (.t 23), (some (22, false)), .write, 0⟩, ⟨(some 25), .load (some 2) (.t 2), (some (22, false)), .write, 0⟩, ⟨(some 26), .eqa false [1, 1] (.t 24) (.t 25), (some (22, false)), .write, 0⟩, ⟨(some 27), .move (.t 26), (some (22, false)), .write, 0⟩, ⟨(some 28), .fieldAddr 2 (.t 3), (some (27, true)), .write, 0⟩, ⟨(some 29), .load (some 2) (.t 28), (some (27, true)), .write, 0⟩, ⟨(some 30), .load (some 2) (.t 4), (some (27, true)), .write, 0⟩, ⟨(some 31), .call (.c (.func 120 [])) [(.t 29), (.t 30)], (some (27, true)), .write, 0⟩, ⟨(some 32), .pick (.t 27) (.t 31) (.c (.bool false)), (some (22, false)), .write, 0⟩, ⟨(some 33), .pick (.t 22) (.c (.bool true)) (.t 32), none, .write, 0⟩, ⟨(some 17), .move (.t 33), none, .write, 0⟩])
 (.cond (.t 17) (.seq (.region [⟨(some 5), .move (.c (.int .i64 (-1))), none, .write, 0⟩])
 .ret) .skip)))))
 (.seq (.region [⟨(some 5), .move (.c (.int .i64 1)), none, .write, 0⟩])
 .ret))) }

theorem c240 : compFunc Tryz.prog Tryz.f240 .full = some t240 := by kernel_rfl

/-- slices.rotateRight[broadside/api.Entry] -/
def t242 : DFunc := { ntmps := 10, results := [], mode := .full, body :=
 (.region [⟨(some 4), .move (.t 0), none, .write, 0⟩, ⟨(some 5), .move (.t 0), none, .write, 0⟩, ⟨(some 6), .len 1 (.t 5), none, .write, 0⟩, ⟨(some 7), .move (.t 1), none, .write, 0⟩, ⟨(some 8), .arith .sub (.t 6) (.t 7), none, .write, 0⟩, ⟨(some 9), .call (.c (.func 291 [])) [(.t 4), (.t 8)], none, .write, 0⟩]) }

theorem c242 : compFunc Tryz.prog Tryz.f242 .full = some t242 := by kernel_rfl

/-- slices.rotateLeft[broadside/api.Own] -/
def t243 : DFunc := { ntmps := 14, results := [], mode := .full, body :=
 (.seq (.region [⟨(some 4), .move (.t 0), none, .write, 0⟩, ⟨(some 5), .move (.t 1), none, .write, 0⟩, ⟨(some 6), .sliceSl 3 (.t 4) none (some (.t 5)), none, .write, 0⟩, ⟨(some 7), .call (.c (.func 292 [])) [(.t 6)], none, .write, 0⟩])
 (.seq (.region [⟨(some 8), .move (.t 0), none, .write, 0⟩, ⟨(some 9), .move (.t 1), none, .write, 0⟩, ⟨(some 10), .sliceSl 3 (.t 8) (some (.t 9)) none, none, .write, 0⟩, ⟨(some 11), .call (.c (.func 292 [])) [(.t 10)], none, .write, 0⟩])
 (.region [⟨(some 12), .move (.t 0), none, .write, 0⟩, ⟨(some 13), .call (.c (.func 292 [])) [(.t 12)], none, .write, 0⟩]))) }

theorem c243 : compFunc Tryz.prog Tryz.f243 .full = some t243 := by kernel_rfl

/-- broadside/tuple.Get -/
def t244 : DFunc := { ntmps := 22, results := [(.cell 4 (some 3)), (.t 5)], mode := .full, body :=
 (.seq (.region [⟨(some 4), .alloc 251 3 (.agg [(.bool false), (.int .i64 0), (.str [])]), none, .write, 0⟩, ⟨(some 5), .move (.c (.bool false)), none, .write, 0⟩])
 (.seq (.seq (.region [⟨(some 8), .move (.t 0), none, .write, 0⟩, ⟨(some 9), .len 1 (.t 8), none, .write, 0⟩, ⟨(some 10), .move (.c (.int .i64 0)), none, .write, 0⟩])
 (.block 0 (.loop (.seq (.region [⟨(some 11), .arith .lss (.t 10) (.t 9), none, .write, 0⟩])
 (.seq (.cond (.t 11) .skip (.exit 0))
 (.seq (.block 1 (.seq (.region [⟨(some 12), .indexAddr 4 (.t 8) (.t 10), none, .write, 0⟩, ⟨(some 13), .load (some 4) (.t 12), none, .write, 0⟩, ⟨(some 7), .alloc 253 4 (.agg [(.str []), (.bool false), (.int .i64 0), (.str [])]), none, .write, 0⟩, ⟨none, .store 4 (.t 7) (.t 13), none, .write, 0⟩])
 (.seq (.region [⟨(some 14), .fieldAddr 0 (.t 7), none, .write, 0⟩, ⟨(some 15), .load none (.t 14), none, .write, 0⟩, ⟨(some 16), .move (.t 1), none, .write, 0⟩, ⟨(some 17), .arith .eql (.t 15) (.t 16), none, .write, 0⟩])
 (.cond (.t 17) (.seq (.region [⟨(some 18), .fieldAddr 1 (.t 7), none, .write, 0⟩, ⟨(some 19), .load (some 3) (.t 18), none, .write, 0⟩, ⟨none, .store 3 (.t 4) (.t 19), none, .write, 0⟩, ⟨(some 5), .move (.c (.bool true)), none, .write, 0⟩])
 .ret) .skip))))
 (.region [⟨(some 20), .arith .add (.t 10) (.c (.int .i64 1)), none, .write, 0⟩, ⟨(some 10), .move (.t 20), none, .write, 0⟩])))))))
 (.seq (.region [⟨(some 21), .build [(.bool false), (.int .i64 0), (.str [])] [], none, .write, 0⟩, ⟨none, .store 3 (.t 4) (.t 21), none, .write, 0⟩, ⟨(some 5), .move (.c (.bool false)), none, .write, 0⟩])
 .ret))) }

theorem c244 : compFunc Tryz.prog Tryz.f244 .full = some t244 := by kernel_rfl

/-- broadside/pred.Holds -/
def t245 : DFunc := { ntmps := 48, results := [(.t 4)], mode := .full, body :=
 (.seq (.region [⟨(some 2), .box 303 5 (.t 0), none, .write, 0⟩, ⟨(some 3), .box 251 3 (.t 1), none, .write, 0⟩, ⟨(some 4), .move (.c (.bool false)), none, .write, 0⟩])
 (.seq (.seq (.region [⟨(some 5), .fieldAddr 1 (.t 2), none, .write, 0⟩, ⟨(some 6), .load none (.t 5), none, .write, 0⟩])
 (.block 0 (.seq (.region [⟨(some 8), .arith .eql (.t 6) (.c (.int .i64 1)), none, .write, 0⟩, ⟨(some 7), .move (.t 8), none, .write, 0⟩])
 (.cond (.t 7) (.seq (.region [⟨(some 9), .fieldAddr 0 (.t 3), none, .write, 0⟩, ⟨(some 10), .load none (.t 9), none, .write, 0⟩, ⟨(some 11), .un .not (.t 10), none, .write, 0⟩, ⟨(some 12), .move (.t 11), none, .write, 0⟩, ⟨(some 13), .fieldAddr 2 (.t 2), (some (12, true)), .write, 0⟩, ⟨(some 14), .load none (.t 13), (some (12, true)), .write, 0⟩, ⟨(some 15), .fieldAddr 1 (.t 3), (some (12, true)), .write, 0⟩, ⟨(some 16), .load none (.t 15), (some (12, true)), .write, 0⟩, ⟨(some 17), .arith .leq (.t 14) (.t 16), (some (12, true)), .write, 0⟩, ⟨(some 18), .pick (.t 12) (.t 17) (.c (.bool false)), none, .write, 0⟩, ⟨(some 19), .move (.t 18), none, .write, 0⟩, ⟨(some 20), .fieldAddr 1 (.t 3), (some (19, true)), .write, 0⟩, ⟨(some 21), .load none (.t 20), (some (19, true)), .write, 0⟩, ⟨(some 22), .fieldAddr 3 (.t 2), (some (19, true)), .write, 0⟩, ⟨(some 23), .load none (.t 22), (some (19, true)), .write, 0⟩, ⟨(some 24), .arith .leq (.t 21) (.t 23), (some (19, true)), .write, 0⟩, ⟨(some 25), .pick (.t 19) (.t 24) (.c (.bool false)), none, .write, 0⟩, ⟨(some 4), .move (.t 25), none, .write, 0⟩])
 .ret) (.seq (.region [⟨(some 27), .arith .eql (.t 6) (.c (.int .i64 2)), none, .write, 0⟩, ⟨(some 26), .move (.t 27), none, .write, 0⟩])
 (.cond (.t 26) (.seq (.region [⟨(some 28), .fieldAddr 0 (.t 3), none, .write, 0⟩, ⟨(some 29), .load none (.t 28), none, .write, 0⟩, ⟨(some 30), .move (.t 29), none, .write, 0⟩, ⟨(some 31), .fieldAddr 2 (.t 3), (some (30, true)), .write, 0⟩, ⟨(some 32), .load none (.t 31), (some (30, true)), .write, 0⟩, ⟨(some 33), .fieldAddr 4 (.t 2), (some (30, true)), .write, 0⟩, ⟨(some 34), .load none (.t 33), (some (30, true)), .write, 0⟩, ⟨(some 35), .arith .eql (.t 32) (.t 34), (some (30, true)), .write, 0⟩, ⟨(some 36), .pick (.t 30) (.t 35) (.c (.bool false)), none, .write, 0⟩, ⟨(some 4), .move (.t 36), none, .write, 0⟩])
 .ret) (.seq (.region [⟨(some 38), .arith .eql (.t 6) (.c (.int .i64 3)), none, .write, 0⟩, ⟨(some 37), .move (.t 38), none, .write, 0⟩])
 (.cond (.t 37) (.seq (.region [⟨(some 39), .fieldAddr 0 (.t 3), none, .write, 0⟩, ⟨(some 40), .load none (.t 39), none, .write, 0⟩, ⟨(some 41), .move (.t 40), none, .write, 0⟩, ⟨(some 42), .fieldAddr 2 (.t 3), (some (41, true)), .write, 0⟩, ⟨(some 43), .load none (.t 42), (some (41, true)), .write, 0⟩, ⟨(some 44), .fieldAddr 4 (.t 2), (some (41, true)), .write, 0⟩, ⟨(some 45), .load none (.t 44), (some (41, true)), .write, 0⟩, ⟨(some 46), .call (.c (.func 293 [])) [(.t 43), (.t 45)], (some (41, true)), .write, 0⟩, ⟨(some 47), .pick (.t 41) (.t 46) (.c (.bool false)), none, .write, 0⟩, ⟨(some 4), .move (.t 47), none, .write, 0⟩])
 .ret) .skip))))))))
 (.seq (.region [⟨(some 4), .move (.c (.bool false)), none, .write, 0⟩])
 .ret))) }

theorem c245 : compFunc Tryz.prog Tryz.f245 .full = some t245 := by kernel_rfl

/-- slices.siftDownCmpFunc[[2]int] -/
def t247 : DFunc := { ntmps := 82, results := [], mode := .full, body :=
 (.seq (.region [⟨(some 12), .move (.t 1), none, .write, 0⟩, ⟨(some 10), .move (.t 12), none, .write, 0⟩])
 (.block 0 (.loop (.block 1 (.seq (.region [⟨(some 13), .move (.t 10), none, .write, 0⟩, ⟨(some 14), .arith .mul (.c (.int .i64 2)) (.t 13), none, .write, 0⟩, ⟨(some 15), .arith .add (.t 14) (.c (.int .i64 1)), none, .write, 0⟩, ⟨(some 11), .move (.t 15), none, .write, 0⟩])
 (.seq (.seq (.region [⟨(some 16), .move (.t 11), none, .write, 0⟩, ⟨(some 17), .move (.t 2), none, .write, 0⟩, ⟨(some 18), .arith .geq (.t 16) (.t 17), none, .write, 0⟩])
 (.cond (.t 18) (.exit 0) .skip))
 (.seq (.seq (.draw [⟨(some 19), .move (.t 11), none, .read, 0⟩, ⟨(some 20), .arith .add (.t 19) (.c (.int .i64 1)), none, .read, 0⟩, ⟨(some 21), .move (.t 2), none, .read, 0⟩, ⟨(some 22), .arith .lss (.t 20) (.t 21), none, .read, 0⟩, ⟨(some 23), .move (.t 22), none, .read, 0⟩, ⟨(some 25), .move (.t 0), (some (23, true)), .read, 0⟩, ⟨(some 26), .move (.t 3), (some (23, true)), .read, 0⟩, ⟨(some 27), .move (.t 11), (some (23, true)), .read, 0⟩, ⟨(some 28), .arith .add (.t 26) (.t 27), (some (23, true)), .read, 0⟩, ⟨(some 29), .indexAddr 2 (.t 25) (.t 28), (some (23, true)), .read, 0⟩, ⟨(some 30), .load (some 2) (.t 29), (some (23, true)), .read, 0⟩, ⟨(some 31), .move (.t 0), (some (23, true)), .read, 0⟩, ⟨(some 32), .move (.t 3), (some (23, true)), .read, 0⟩, ⟨(some 33), .move (.t 11), (some (23, true)), .read, 0⟩, ⟨(some 34), .arith .add (.t 32) (.t 33), (some (23, true)), .read, 0⟩, ⟨(some 35), .arith .add (.t 34) (.c (.int .i64 1)), (some (23, true)), .read, 0⟩, ⟨(some 36), .indexAddr 2 (.t 31) (.t 35), (some (23, true)), .read, 0⟩, ⟨(some 37), .load (some 2) (.t 36), (some (23, true)), .read, 0⟩, ⟨(some 24), .move (.t 4), (some (23, true)), .read, 0⟩, ⟨(some 38), .call (.t 24) [(.t 30), (.t 37)], (some (23, true)), .write, 0⟩, ⟨(some 39), .arith .lss (.t 38) (.c (.int .i64 0)), (some (23, true)), .read, 1⟩, ⟨(some 40), .pick (.t 23) (.t 39) (.c (.bool false)), none, .read, 1⟩])
 (.cond (.t 40) (.region [⟨(some 41), .move (.t 11), none, .write, 0⟩, ⟨(some 42), .arith .add (.t 41) (.c (.int .i64 1)), none, .write, 0⟩, ⟨(some 11), .move (.t 42), none, .write, 0⟩]) .skip))
 (.seq (.seq (.draw [⟨(some 44), .move (.t 0), none, .read, 0⟩, ⟨(some 45), .move (.t 3), none, .read, 0⟩, ⟨(some 46), .move (.t 10), none, .read, 0⟩, ⟨(some 47), .arith .add (.t 45) (.t 46), none, .read, 0⟩, ⟨(some 48), .indexAddr 2 (.t 44) (.t 47), none, .read, 0⟩, ⟨(some 49), .load (some 2) (.t 48), none, .read, 0⟩, ⟨(some 50), .move (.t 0), none, .read, 0⟩, ⟨(some 51), .move (.t 3), none, .read, 0⟩, ⟨(some 52), .move (.t 11), none, .read, 0⟩, ⟨(some 53), .arith .add (.t 51) (.t 52), none, .read, 0⟩, ⟨(some 54), .indexAddr 2 (.t 50) (.t 53), none, .read, 0⟩, ⟨(some 55), .load (some 2) (.t 54), none, .read, 0⟩, ⟨(some 43), .move (.t 4), none, .read, 0⟩, ⟨(some 56), .call (.t 43) [(.t 49), (.t 55)], none, .write, 0⟩, ⟨(some 57), .arith .lss (.t 56) (.c (.int .i64 0)), none, .read, 1⟩, ⟨(some 58), .un .not (.t 57), none, .read, 1⟩])
 (.cond (.t 58) .ret .skip))
 (.seq (.draw [⟨(some 67), .move (.t 0), none, .read, 0⟩, ⟨(some 68), .move (.t 3), none, .read, 0⟩, ⟨(some 69), .move (.t 11), none, .read, 0⟩, ⟨(some 70), .arith .add (.t 68) (.t 69), none, .read, 0⟩, ⟨(some 71), .indexAddr 2 (.t 67) (.t 70), none, .read, 0⟩, ⟨(some 72), .load (some 2) (.t 71), none, .read, 0⟩, ⟨(some 73), .move (.t 0), none, .read, 0⟩, ⟨(some 74), .move (.t 3), none, .read, 0⟩, ⟨(some 75), .move (.t 10), none, .read, 0⟩, ⟨(some 76), .arith .add (.t 74) (.t 75), none, .read, 0⟩, ⟨(some 77), .indexAddr 2 (.t 73) (.t 76), none, .read, 0⟩, ⟨(some 78), .load (some 2) (.t 77), none, .read, 0⟩, ⟨(some 59), .move (.t 0), none, .read, 0⟩, ⟨(some 60), .move (.t 3), none, .read, 0⟩, ⟨(some 61), .move (.t 10), none, .read, 0⟩, ⟨(some 62), .arith .add (.t 60) (.t 61), none, .read, 0⟩, ⟨(some 79), .indexAddr 2 (.t 59) (.t 62), none, .read, 0⟩, ⟨none, .store 2 (.t 79) (.t 72), none, .write, 0⟩, ⟨(some 63), .move (.t 0), none, .read, 0⟩, ⟨(some 64), .move (.t 3), none, .read, 0⟩, ⟨(some 65), .move (.t 11), none, .read, 0⟩, ⟨(some 66), .arith .add (.t 64) (.t 65), none, .read, 0⟩, ⟨(some 80), .indexAddr 2 (.t 63) (.t 66), none, .read, 1⟩, ⟨none, .store 2 (.t 80) (.t 78), none, .write, 1⟩])
 (.region [⟨(some 81), .move (.t 11), none, .write, 0⟩, ⟨(some 10), .move (.t 81), none, .write, 0⟩])))))))))) }

theorem c247 : compFunc Tryz.prog Tryz.f247 .full = some t247 := by kernel_rfl

/-- slices.nextPowerOfTwo -/
def t248 : DFunc := { ntmps := 7, results := [(.t 2)], mode := .full, body :=
 (.seq (.region [⟨(some 2), .move (.c (.int .u64 0)), none, .write, 0⟩])
 (.seq (.region [⟨(some 3), .move (.t 0), none, .write, 0⟩, ⟨(some 4), .conv .u64 (.t 3), none, .write, 0⟩, ⟨(some 5), .call (.c (.func 115 [])) [(.t 4)], none, .write, 0⟩, ⟨(some 6), .arith .shl (.c (.int .u64 1)) (.t 5), none, .write, 0⟩, ⟨(some 2), .move (.t 6), none, .write, 0⟩])
 .ret)) }

theorem c248 : compFunc Tryz.prog Tryz.f248 .full = some t248 := by kernel_rfl

/-- (*slices.xorshift).Next -/
def t249 : DFunc := { ntmps := 33, results := [(.t 2)], mode := .full, body :=
 (.seq (.region [⟨(some 2), .move (.c (.int .u64 0)), none, .write, 0⟩])
 (.seq (.draw [⟨(some 3), .move (.t 0), none, .read, 0⟩, ⟨(some 4), .nilCheck (.t 3), none, .read, 0⟩, ⟨(some 5), .load none (.t 4), none, .read, 0⟩, ⟨(some 6), .move (.t 0), none, .read, 0⟩, ⟨(some 7), .nilCheck (.t 6), none, .read, 0⟩, ⟨(some 8), .load none (.t 7), none, .read, 0⟩, ⟨(some 9), .arith .shl (.t 8) (.c (.int .u64 13)), none, .read, 0⟩, ⟨(some 10), .arith .xor (.t 5) (.t 9), none, .read, 0⟩, ⟨(some 11), .nilCheck (.t 3), none, .read, 0⟩, ⟨none, .store 1 (.t 11) (.t 10), none, .write, 0⟩])
 (.seq (.draw [⟨(some 12), .move (.t 0), none, .read, 0⟩, ⟨(some 13), .nilCheck (.t 12), none, .read, 0⟩, ⟨(some 14), .load none (.t 13), none, .read, 0⟩, ⟨(some 15), .move (.t 0), none, .read, 0⟩, ⟨(some 16), .nilCheck (.t 15), none, .read, 0⟩, ⟨(some 17), .load none (.t 16), none, .read, 0⟩, ⟨(some 18), .arith .shr (.t 17) (.c (.int .u64 7)), none, .read, 0⟩, ⟨(some 19), .arith .xor (.t 14) (.t 18), none, .read, 0⟩, ⟨(some 20), .nilCheck (.t 12), none, .read, 0⟩, ⟨none, .store 1 (.t 20) (.t 19), none, .write, 0⟩])
 (.seq (.draw [⟨(some 21), .move (.t 0), none, .read, 0⟩, ⟨(some 22), .nilCheck (.t 21), none, .read, 0⟩, ⟨(some 23), .load none (.t 22), none, .read, 0⟩, ⟨(some 24), .move (.t 0), none, .read, 0⟩, ⟨(some 25), .nilCheck (.t 24), none, .read, 0⟩, ⟨(some 26), .load none (.t 25), none, .read, 0⟩, ⟨(some 27), .arith .shl (.t 26) (.c (.int .u64 17)), none, .read, 0⟩, ⟨(some 28), .arith .xor (.t 23) (.t 27), none, .read, 0⟩, ⟨(some 29), .nilCheck (.t 21), none, .read, 0⟩, ⟨none, .store 1 (.t 29) (.t 28), none, .write, 0⟩])
 (.seq (.region [⟨(some 30), .move (.t 0), none, .write, 0⟩, ⟨(some 31), .nilCheck (.t 30), none, .write, 0⟩, ⟨(some 32), .load none (.t 31), none, .write, 0⟩, ⟨(some 2), .move (.t 32), none, .write, 0⟩])
 .ret))))) }

theorem c249 : compFunc Tryz.prog Tryz.f249 .full = some t249 := by kernel_rfl

/-- slices.medianAdjacentCmpFunc[[2]int] -/
def t250 : DFunc := { ntmps := 18, results := [(.t 8)], mode := .full, body :=
 (.seq (.region [⟨(some 8), .move (.c (.int .i64 0)), none, .write, 0⟩])
 (.seq (.region [⟨(some 9), .move (.t 0), none, .write, 0⟩, ⟨(some 10), .move (.t 1), none, .write, 0⟩, ⟨(some 11), .arith .sub (.t 10) (.c (.int .i64 1)), none, .write, 0⟩, ⟨(some 12), .move (.t 1), none, .write, 0⟩, ⟨(some 13), .move (.t 1), none, .write, 0⟩, ⟨(some 14), .arith .add (.t 13) (.c (.int .i64 1)), none, .write, 0⟩, ⟨(some 15), .move (.t 2), none, .write, 0⟩, ⟨(some 16), .move (.t 3), none, .write, 0⟩, ⟨(some 17), .call (.c (.func 251 [])) [(.t 9), (.t 11), (.t 12), (.t 14), (.t 15), (.t 16)], none, .write, 0⟩, ⟨(some 8), .move (.t 17), none, .write, 0⟩])
 .ret)) }

theorem c250 : compFunc Tryz.prog Tryz.f250 .full = some t250 := by kernel_rfl

/-- slices.medianCmpFunc[[2]int] -/
def t251 : DFunc := { ntmps := 41, results := [(.t 12)], mode := .full, body :=
 (.seq (.region [⟨(some 12), .move (.c (.int .i64 0)), none, .write, 0⟩])
 (.seq (.region [⟨(some 14), .move (.t 0), none, .write, 0⟩, ⟨(some 15), .move (.t 1), none, .write, 0⟩, ⟨(some 16), .move (.t 2), none, .write, 0⟩, ⟨(some 17), .move (.t 4), none, .write, 0⟩, ⟨(some 18), .move (.t 5), none, .write, 0⟩, ⟨(some 19), .call (.c (.func 294 [])) [(.t 14), (.t 15), (.t 16), (.t 17), (.t 18)], none, .write, 0⟩, ⟨(some 13), .move (.t 19), none, .write, 0⟩, ⟨(some 20), .extract (.t 13) 0, none, .write, 0⟩, ⟨(some 21), .extract (.t 13) 1, none, .write, 0⟩, ⟨(some 1), .move (.t 20), none, .write, 0⟩, ⟨(some 2), .move (.t 21), none, .write, 0⟩])
 (.seq (.region [⟨(some 23), .move (.t 0), none, .write, 0⟩, ⟨(some 24), .move (.t 2), none, .write, 0⟩, ⟨(some 25), .move (.t 3), none, .write, 0⟩, ⟨(some 26), .move (.t 4), none, .write, 0⟩, ⟨(some 27), .move (.t 5), none, .write, 0⟩, ⟨(some 28), .call (.c (.func 294 [])) [(.t 23), (.t 24), (.t 25), (.t 26), (.t 27)], none, .write, 0⟩, ⟨(some 22), .move (.t 28), none, .write, 0⟩, ⟨(some 29), .extract (.t 22) 0, none, .write, 0⟩, ⟨(some 30), .extract (.t 22) 1, none, .write, 0⟩, ⟨(some 2), .move (.t 29), none, .write, 0⟩, ⟨(some 3), .move (.t 30), none, .write, 0⟩])
 (.seq (.region [⟨(some 32), .move (.t 0), none, .write, 0⟩, ⟨(some 33), .move (.t 1), none, .write, 0⟩, ⟨(some 34), .move (.t 2), none, .write, 0⟩, ⟨(some 35), .move (.t 4), none, .write, 0⟩, ⟨(some 36), .move (.t 5), none, .write, 0⟩, ⟨(some 37), .call (.c (.func 294 [])) [(.t 32), (.t 33), (.t 34), (.t 35), (.t 36)], none, .write, 0⟩, ⟨(some 31), .move (.t 37), none, .write, 0⟩, ⟨(some 38), .extract (.t 31) 0, none, .write, 0⟩, ⟨(some 39), .extract (.t 31) 1, none, .write, 0⟩, ⟨(some 1), .move (.t 38), none, .write, 0⟩, ⟨(some 2), .move (.t 39), none, .write, 0⟩])
 (.seq (.region [⟨(some 40), .move (.t 2), none, .write, 0⟩, ⟨(some 12), .move (.t 40), none, .write, 0⟩])
 .ret))))) }

theorem c251 : compFunc Tryz.prog Tryz.f251 .full = some t251 := by kernel_rfl

/-- slices.Index[[]int,int] -/
def t252 : DFunc := { ntmps := 19, results := [(.t 4)], mode := .full, body :=
 (.seq (.region [⟨(some 4), .move (.c (.int .i64 0)), none, .write, 0⟩])
 (.seq (.seq (.region [⟨(some 6), .move (.t 0), none, .write, 0⟩, ⟨(some 7), .len 1 (.t 6), none, .write, 0⟩, ⟨(some 8), .move (.c (.int .i64 0)), none, .write, 0⟩])
 (.block 0 (.loop (.seq (.region [⟨(some 9), .arith .lss (.t 8) (.t 7), none, .write, 0⟩])
 (.seq (.cond (.t 9) .skip (.exit 0))
 (.seq (.block 1 (.seq (.region [⟨(some 10), .move (.t 8), none, .write, 0⟩, ⟨(some 5), .move (.t 10), none, .write, 0⟩])
 (.seq (.region [⟨(some 11), .move (.t 1), none, .write, 0⟩, ⟨(some 12), .move (.t 0), none, .write, 0⟩, ⟨(some 13), .move (.t 5), none, .write, 0⟩, ⟨(some 14), .indexAddr 1 (.t 12) (.t 13), none, .write, 0⟩, ⟨(some 15), .load none (.t 14), none, .write, 0⟩, ⟨(some 16), .arith .eql (.t 11) (.t 15), none, .write, 0⟩])
 (.cond (.t 16) (.seq (.region [⟨(some 17), .move (.t 5), none, .write, 0⟩, ⟨(some 4), .move (.t 17), none, .write, 0⟩])
 .ret) .skip))))
 (.region [⟨(some 18), .arith .add (.t 8) (.c (.int .i64 1)), none, .write, 0⟩, ⟨(some 8), .move (.t 18), none, .write, 0⟩])))))))
 (.seq (.region [⟨(some 4), .move (.c (.int .i64 (-1))), none, .write, 0⟩])
 .ret))) }

theorem c252 : compFunc Tryz.prog Tryz.f252 .full = some t252 := by kernel_rfl

/-- broadside/tuple.Name -/
def t253 : DFunc := { ntmps := 27, results := [(.t 2)], mode := .full, body :=
 (.seq (.region [⟨(some 2), .move (.c (.bool false)), none, .write, 0⟩])
 (.seq (.seq (.region [⟨(some 4), .move (.t 0), none, .write, 0⟩, ⟨(some 5), .len 0 (.t 4), none, .write, 0⟩, ⟨(some 6), .move (.c (.int .i64 0)), none, .write, 0⟩])
 (.block 0 (.loop (.seq (.region [⟨(some 7), .arith .lss (.t 6) (.t 5), none, .write, 0⟩])
 (.seq (.cond (.t 7) .skip (.exit 0))
 (.seq (.block 1 (.seq (.region [⟨(some 8), .move (.t 6), none, .write, 0⟩, ⟨(some 3), .move (.t 8), none, .write, 0⟩])
 (.seq (.region [⟨(some 9), .move (.t 0), none, .write, 0⟩, ⟨(some 10), .move (.t 3), none, .write, 0⟩, ⟨(some 11), .indexStr (.t 9) (.t 10), none, .write, 0⟩, ⟨(some 12), .arith .lss (.t 11) (.c (.int .u8 97)), none, .write, 0⟩, ⟨(some 13), .move (.t 12), none, .write, 0⟩, ⟨(some 14), .move (.t 0), (some (13, false)), .write, 0⟩, ⟨(some 15), .move (.t 3), (some (13, false)), .write, 0⟩, ⟨(some 16), .indexStr (.t 14) (.t 15), (some (13, false)), .write, 0⟩, ⟨(some 17), .arith .gtr (.t 16) (.c (.int .u8 122)), (some (13, false)), .write, 0⟩, ⟨(some 18), .pick (.t 13) (.c (.bool true)) (.t 17), none, .write, 0⟩])
 (.cond (.t 18) (.seq (.region [⟨(some 2), .move (.c (.bool false)), none, .write, 0⟩])
 .ret) .skip))))
 (.region [⟨(some 19), .arith .add (.t 6) (.c (.int .i64 1)), none, .write, 0⟩, ⟨(some 6), .move (.t 19), none, .write, 0⟩])))))))
 (.seq (.region [⟨(some 20), .move (.t 0), none, .write, 0⟩, ⟨(some 21), .arith .neq (.t 20) (.c (.str [])), none, .write, 0⟩, ⟨(some 22), .move (.t 21), none, .write, 0⟩, ⟨(some 23), .move (.t 0), (some (22, true)), .write, 0⟩, ⟨(some 24), .len 0 (.t 23), (some (22, true)), .write, 0⟩, ⟨(some 25), .arith .leq (.t 24) (.c (.int .i64 12)), (some (22, true)), .write, 0⟩, ⟨(some 26), .pick (.t 22) (.t 25) (.c (.bool false)), none, .write, 0⟩, ⟨(some 2), .move (.t 26), none, .write, 0⟩])
 .ret))) }

theorem c253 : compFunc Tryz.prog Tryz.f253 .full = some t253 := by kernel_rfl

/-- broadside/rel.wider -/
def t254 : DFunc := { ntmps := 45, results := [(.t 4)], mode := .full, body :=
 (.seq (.region [⟨(some 2), .box 303 5 (.t 0), none, .write, 0⟩, ⟨(some 3), .box 303 5 (.t 1), none, .write, 0⟩, ⟨(some 4), .move (.c (.bool false)), none, .write, 0⟩])
 (.seq (.seq (.region [⟨(some 5), .fieldAddr 1 (.t 3), none, .write, 0⟩, ⟨(some 6), .load none (.t 5), none, .write, 0⟩])
 (.block 0 (.seq (.region [⟨(some 8), .arith .eql (.t 6) (.c (.int .i64 1)), none, .write, 0⟩, ⟨(some 7), .move (.t 8), none, .write, 0⟩])
 (.cond (.t 7) (.seq (.region [⟨(some 9), .fieldAddr 1 (.t 2), none, .write, 0⟩, ⟨(some 10), .load none (.t 9), none, .write, 0⟩, ⟨(some 11), .arith .eql (.t 10) (.c (.int .i64 1)), none, .write, 0⟩, ⟨(some 12), .move (.t 11), none, .write, 0⟩, ⟨(some 13), .fieldAddr 2 (.t 2), (some (12, true)), .write, 0⟩, ⟨(some 14), .load none (.t 13), (some (12, true)), .write, 0⟩, ⟨(some 15), .fieldAddr 2 (.t 3), (some (12, true)), .write, 0⟩, ⟨(some 16), .load none (.t 15), (some (12, true)), .write, 0⟩, ⟨(some 17), .arith .leq (.t 14) (.t 16), (some (12, true)), .write, 0⟩, ⟨(some 18), .pick (.t 12) (.t 17) (.c (.bool false)), none, .write, 0⟩, ⟨(some 19), .move (.t 18), none, .write, 0⟩, ⟨(some 20), .fieldAddr 3 (.t 3), (some (19, true)), .write, 0⟩, ⟨(some 21), .load none (.t 20), (some (19, true)), .write, 0⟩, ⟨(some 22), .fieldAddr 3 (.t 2), (some (19, true)), .write, 0⟩, ⟨(some 23), .load none (.t 22), (some (19, true)), .write, 0⟩, ⟨(some 24), .arith .leq (.t 21) (.t 23), (some (19, true)), .write, 0⟩, ⟨(some 25), .pick (.t 19) (.t 24) (.c (.bool false)), none, .write, 0⟩, ⟨(some 4), .move (.t 25), none, .write, 0⟩])
 .ret) (.seq (.region [⟨(some 27), .arith .eql (.t 6) (.c (.int .i64 3)), none, .write, 0⟩, ⟨(some 26), .move (.t 27), none, .write, 0⟩])
 (.cond (.t 26) (.seq (.region [⟨(some 28), .fieldAddr 1 (.t 2), none, .write, 0⟩, ⟨(some 29), .load none (.t 28), none, .write, 0⟩, ⟨(some 30), .arith .eql (.t 29) (.c (.int .i64 3)), none, .write, 0⟩, ⟨(some 31), .move (.t 30), none, .write, 0⟩, ⟨(some 32), .fieldAddr 4 (.t 3), (some (31, true)), .write, 0⟩, ⟨(some 33), .load none (.t 32), (some (31, true)), .write, 0⟩, ⟨(some 34), .fieldAddr 4 (.t 2), (some (31, true)), .write, 0⟩, ⟨(some 35), .load none (.t 34), (some (31, true)), .write, 0⟩, ⟨(some 36), .call (.c (.func 293 [])) [(.t 33), (.t 35)], (some (31, true)), .write, 0⟩, ⟨(some 37), .pick (.t 31) (.t 36) (.c (.bool false)), none, .write, 0⟩, ⟨(some 4), .move (.t 37), none, .write, 0⟩])
 .ret) (.seq (.region [⟨(some 39), .arith .eql (.t 6) (.c (.int .i64 2)), none, .write, 0⟩, ⟨(some 38), .move (.t 39), none, .write, 0⟩])
 (.cond (.t 38) (.seq (.draw [⟨(some 40), .load (some 5) (.t 2), none, .read, 0⟩, ⟨(some 41), .fieldAddr 4 (.t 3), none, .read, 0⟩, ⟨(some 42), .load none (.t 41), none, .read, 0⟩, ⟨(some 43), .call (.c (.func 289 [])) [(.t 42)], none, .create, 0⟩, ⟨(some 44), .call (.c (.func 245 [])) [(.t 40), (.t 43)], none, .write, 1⟩, ⟨(some 4), .move (.t 44), none, .read, 2⟩])
 .ret) .skip))))))))
 (.seq (.region [⟨(some 4), .move (.c (.bool false)), none, .write, 0⟩])
 .ret))) }

theorem c254 : compFunc Tryz.prog Tryz.f254 .full = some t254 := by kernel_rfl

/-- (*broadside/num.Reader).Byte -/
def t258 : DFunc := { ntmps := 12, results := [(.t 2)], mode := .full, body :=
 (.seq (.region [⟨(some 2), .move (.c (.int .u8 0)), none, .write, 0⟩])
 (.seq (.region [⟨(some 4), .move (.t 0), none, .write, 0⟩, ⟨(some 5), .call (.c (.func 295 [])) [(.t 4), (.c (.int .i64 1))], none, .write, 0⟩, ⟨(some 3), .move (.t 5), none, .write, 0⟩])
 (.seq (.seq (.region [⟨(some 6), .move (.t 3), none, .write, 0⟩, ⟨(some 7), .len 1 (.t 6), none, .write, 0⟩, ⟨(some 8), .arith .eql (.t 7) (.c (.int .i64 0)), none, .write, 0⟩])
 (.cond (.t 8) (.seq (.region [⟨(some 2), .move (.c (.int .u8 0)), none, .write, 0⟩])
 .ret) .skip))
 (.seq (.region [⟨(some 9), .move (.t 3), none, .write, 0⟩, ⟨(some 10), .indexAddr 1 (.t 9) (.c (.int .i64 0)), none, .write, 0⟩, ⟨(some 11), .load none (.t 10), none, .write, 0⟩, ⟨(some 2), .move (.t 11), none, .write, 0⟩])
 .ret)))) }

theorem c258 : compFunc Tryz.prog Tryz.f258 .full = some t258 := by kernel_rfl

/-- (*broadside/num.Reader).ID -/
def t259 : DFunc := { ntmps := 15, results := [(.cell 2 (some 2))], mode := .full, body :=
 (.seq (.region [⟨(some 2), .alloc 32 2 (.agg [(.int .i64 0), (.int .i64 0)]), none, .write, 0⟩])
 (.seq (.region [⟨(some 4), .move (.t 0), none, .write, 0⟩, ⟨(some 5), .call (.c (.func 296 [])) [(.t 4)], none, .write, 0⟩, ⟨(some 6), .move (.t 0), none, .write, 0⟩, ⟨(some 7), .call (.c (.func 296 [])) [(.t 6)], none, .write, 0⟩, ⟨(some 8), .build [(.int .i64 0), (.int .i64 0)] [(0, 1, (.t 5)), (1, 1, (.t 7))], none, .write, 0⟩, ⟨(some 3), .alloc 32 2 (.agg [(.int .i64 0), (.int .i64 0)]), none, .write, 0⟩, ⟨none, .store 2 (.t 3) (.t 8), none, .write, 0⟩])
 (.seq (.seq (.region [⟨(some 9), .move (.t 0), none, .write, 0⟩, ⟨(some 10), .nilCheck (.t 9), none, .write, 0⟩, ⟨(some 11), .fieldAddr 1 (.t 10), none, .write, 0⟩, ⟨(some 12), .load none (.t 11), none, .write, 0⟩])
 (.cond (.t 12) (.seq (.region [⟨(some 13), .build [(.int .i64 0), (.int .i64 0)] [], none, .write, 0⟩, ⟨none, .store 2 (.t 2) (.t 13), none, .write, 0⟩])
 .ret) .skip))
 (.seq (.region [⟨(some 14), .load (some 2) (.t 3), none, .write, 0⟩, ⟨none, .store 2 (.t 2) (.t 14), none, .write, 0⟩])
 .ret)))) }

theorem c259 : compFunc Tryz.prog Tryz.f259 .full = some t259 := by kernel_rfl

/-- broadside/wire.parts -/
def t260 : DFunc := { ntmps := 19, results := [(.t 2), (.t 3)], mode := .full, body :=
 (.seq (.region [⟨(some 2), .move (.c (.int .i64 0)), none, .write, 0⟩, ⟨(some 3), .move (.c (.bool false)), none, .write, 0⟩])
 (.seq (.region [⟨(some 4), .move (.c (.int .i64 0)), none, .write, 0⟩])
 (.seq (.seq (.region [⟨(some 5), .move (.t 0), none, .write, 0⟩])
 (.block 0 (.seq (.block 5 (.seq (.block 4 (.seq (.block 3 (.seq (.block 2 (.seq (.block 1 (.seq (.seq (.seq (.region [⟨(some 7), .arith .eql (.t 5) (.c (.int .i64 5)), none, .write, 0⟩, ⟨(some 6), .move (.t 7), none, .write, 0⟩])
 (.cond (.t 6) (.exit 1) .skip))
 (.seq (.seq (.region [⟨(some 9), .arith .eql (.t 5) (.c (.int .i64 3)), none, .write, 0⟩, ⟨(some 8), .move (.t 9), none, .write, 0⟩])
 (.cond (.t 8) (.exit 2) .skip))
 (.seq (.seq (.region [⟨(some 11), .arith .eql (.t 5) (.c (.int .i64 4)), none, .write, 0⟩, ⟨(some 10), .move (.t 11), none, .write, 0⟩])
 (.cond (.t 10) (.exit 3) .skip))
 (.seq (.seq (.region [⟨(some 13), .arith .eql (.t 5) (.c (.int .i64 1)), none, .write, 0⟩, ⟨(some 12), .move (.t 13), none, .write, 0⟩])
 (.cond (.t 12) (.exit 4) .skip))
 (.seq (.region [⟨(some 15), .arith .eql (.t 5) (.c (.int .i64 2)), none, .write, 0⟩, ⟨(some 14), .move (.t 15), none, .write, 0⟩])
 (.cond (.t 14) (.exit 5) .skip))))))
 (.exit 0)))
 (.seq (.seq (.region [⟨(some 2), .move (.c (.int .i64 5)), none, .write, 0⟩, ⟨(some 3), .move (.c (.bool true)), none, .write, 0⟩])
 .ret)
 (.exit 0))))
 (.region [⟨(some 4), .move (.c (.int .i64 2)), none, .write, 0⟩])))
 (.seq (.seq (.region [⟨(some 16), .move (.t 4), none, .write, 0⟩, ⟨(some 17), .arith .or (.t 16) (.c (.int .i64 1)), none, .write, 0⟩, ⟨(some 2), .move (.t 17), none, .write, 0⟩, ⟨(some 3), .move (.c (.bool true)), none, .write, 0⟩])
 .ret)
 (.exit 0))))
 (.region [⟨(some 4), .move (.c (.int .i64 2)), none, .write, 0⟩])))
 (.seq (.seq (.region [⟨(some 18), .move (.t 4), none, .write, 0⟩, ⟨(some 2), .move (.t 18), none, .write, 0⟩, ⟨(some 3), .move (.c (.bool true)), none, .write, 0⟩])
 .ret)
 (.exit 0)))))
 (.seq (.region [⟨(some 2), .move (.c (.int .i64 0)), none, .write, 0⟩, ⟨(some 3), .move (.c (.bool false)), none, .write, 0⟩])
 .ret)))) }

theorem c260 : compFunc Tryz.prog Tryz.f260 .full = some t260 := by kernel_rfl

/-- (*broadside/num.Reader).Good -/
def t261 : DFunc := { ntmps := 8, results := [(.t 2)], mode := .full, body :=
 (.seq (.region [⟨(some 2), .move (.c (.bool false)), none, .write, 0⟩])
 (.seq (.region [⟨(some 3), .move (.t 0), none, .write, 0⟩, ⟨(some 4), .nilCheck (.t 3), none, .write, 0⟩, ⟨(some 5), .fieldAddr 1 (.t 4), none, .write, 0⟩, ⟨(some 6), .load none (.t 5), none, .write, 0⟩, ⟨(some 7), .un .not (.t 6), none, .write, 0⟩, ⟨(some 2), .move (.t 7), none, .write, 0⟩])
 .ret)) }

theorem c261 : compFunc Tryz.prog Tryz.f261 .full = some t261 := by kernel_rfl

/-- broadside/wire.readConstraint -/
def t262 : DFunc := { ntmps := 23, results := [(.cell 2 (some 5))], mode := .full, body :=
 (.seq (.region [⟨(some 2), .alloc 303 5 (.agg [(.str []), (.int .i64 0), (.int .i64 0), (.int .i64 0), (.str [])]), none, .write, 0⟩])
 (.seq (.region [⟨(some 4), .move (.t 0), none, .write, 0⟩, ⟨(some 5), .call (.c (.func 297 [])) [(.t 4)], none, .write, 0⟩, ⟨(some 6), .move (.t 0), none, .write, 0⟩, ⟨(some 7), .call (.c (.func 258 [])) [(.t 6)], none, .write, 0⟩, ⟨(some 8), .conv .i64 (.t 7), none, .write, 0⟩, ⟨(some 9), .build [(.str []), (.int .i64 0), (.int .i64 0), (.int .i64 0), (.str [])] [(0, 1, (.t 5)), (1, 1, (.t 8))], none, .write, 0⟩, ⟨(some 3), .alloc 303 5 (.agg [(.str []), (.int .i64 0), (.int .i64 0), (.int .i64 0), (.str [])]), none, .write, 0⟩, ⟨none, .store 5 (.t 3) (.t 9), none, .write, 0⟩])
 (.seq (.seq (.region [⟨(some 10), .fieldAddr 1 (.t 3), none, .write, 0⟩, ⟨(some 11), .load none (.t 10), none, .write, 0⟩, ⟨(some 12), .arith .eql (.t 11) (.c (.int .i64 1)), none, .write, 0⟩])
 (.cond (.t 12) (.region [⟨(some 13), .move (.t 0), none, .write, 0⟩, ⟨(some 14), .call (.c (.func 296 [])) [(.t 13)], none, .write, 0⟩, ⟨(some 15), .move (.t 0), none, .write, 0⟩, ⟨(some 16), .call (.c (.func 296 [])) [(.t 15)], none, .write, 0⟩, ⟨(some 17), .fieldAddr 2 (.t 3), none, .write, 0⟩, ⟨none, .store 1 (.t 17) (.t 14), none, .write, 0⟩, ⟨(some 18), .fieldAddr 3 (.t 3), none, .write, 0⟩, ⟨none, .store 1 (.t 18) (.t 16), none, .write, 0⟩]) (.region [⟨(some 19), .move (.t 0), none, .write, 0⟩, ⟨(some 20), .call (.c (.func 297 [])) [(.t 19)], none, .write, 0⟩, ⟨(some 21), .fieldAddr 4 (.t 3), none, .write, 0⟩, ⟨none, .store 1 (.t 21) (.t 20), none, .write, 0⟩])))
 (.seq (.region [⟨(some 22), .load (some 5) (.t 3), none, .write, 0⟩, ⟨none, .store 5 (.t 2) (.t 22), none, .write, 0⟩])
 .ret)))) }

theorem c262 : compFunc Tryz.prog Tryz.f262 .full = some t262 := by kernel_rfl

/-- broadside/wire.readAttr -/
def t263 : DFunc := { ntmps := 24, results := [(.cell 2 (some 4))], mode := .full, body :=
 (.seq (.region [⟨(some 2), .alloc 253 4 (.agg [(.str []), (.bool false), (.int .i64 0), (.str [])]), none, .write, 0⟩])
 (.seq (.region [⟨(some 4), .move (.t 0), none, .write, 0⟩, ⟨(some 5), .call (.c (.func 297 [])) [(.t 4)], none, .write, 0⟩, ⟨(some 6), .build [(.str []), (.bool false), (.int .i64 0), (.str [])] [(0, 1, (.t 5))], none, .write, 0⟩, ⟨(some 3), .alloc 253 4 (.agg [(.str []), (.bool false), (.int .i64 0), (.str [])]), none, .write, 0⟩, ⟨none, .store 4 (.t 3) (.t 6), none, .write, 0⟩])
 (.seq (.seq (.region [⟨(some 7), .move (.t 0), none, .write, 0⟩, ⟨(some 8), .call (.c (.func 258 [])) [(.t 7)], none, .write, 0⟩, ⟨(some 9), .arith .eql (.t 8) (.c (.int .u8 1)), none, .write, 0⟩, ⟨(some 10), .fieldAddr 1 (.t 3), none, .write, 0⟩, ⟨(some 11), .fieldAddr 0 (.t 10), none, .write, 0⟩, ⟨none, .store 1 (.t 11) (.t 9), none, .write, 0⟩])
 (.seq (.region [⟨(some 12), .fieldAddr 1 (.t 3), none, .write, 0⟩, ⟨(some 13), .fieldAddr 0 (.t 12), none, .write, 0⟩, ⟨(some 14), .load none (.t 13), none, .write, 0⟩])
 (.cond (.t 14) (.region [⟨(some 15), .move (.t 0), none, .write, 0⟩, ⟨(some 16), .call (.c (.func 297 [])) [(.t 15)], none, .write, 0⟩, ⟨(some 17), .fieldAddr 1 (.t 3), none, .write, 0⟩, ⟨(some 18), .fieldAddr 2 (.t 17), none, .write, 0⟩, ⟨none, .store 1 (.t 18) (.t 16), none, .write, 0⟩]) (.region [⟨(some 19), .move (.t 0), none, .write, 0⟩, ⟨(some 20), .call (.c (.func 296 [])) [(.t 19)], none, .write, 0⟩, ⟨(some 21), .fieldAddr 1 (.t 3), none, .write, 0⟩, ⟨(some 22), .fieldAddr 1 (.t 21), none, .write, 0⟩, ⟨none, .store 1 (.t 22) (.t 20), none, .write, 0⟩]))))
 (.seq (.region [⟨(some 23), .load (some 4) (.t 3), none, .write, 0⟩, ⟨none, .store 4 (.t 2) (.t 23), none, .write, 0⟩])
 .ret)))) }

theorem c263 : compFunc Tryz.prog Tryz.f263 .full = some t263 := by kernel_rfl

/-- broadside/wire.rightID -/
def t264 : DFunc := { ntmps := 16, results := [(.t 2)], mode := .full, body :=
 (.seq (.region [⟨(some 1), .box 32 2 (.t 0), none, .write, 0⟩, ⟨(some 2), .move (.c (.bool false)), none, .write, 0⟩])
 (.seq (.region [⟨(some 3), .fieldAddr 0 (.t 1), none, .write, 0⟩, ⟨(some 4), .load none (.t 3), none, .write, 0⟩, ⟨(some 5), .arith .geq (.t 4) (.c (.int .i64 0)), none, .write, 0⟩, ⟨(some 6), .move (.t 5), none, .write, 0⟩, ⟨(some 7), .fieldAddr 0 (.t 1), (some (6, true)), .write, 0⟩, ⟨(some 8), .load none (.t 7), (some (6, true)), .write, 0⟩, ⟨(some 9), .arith .lss (.t 8) (.c (.int .i64 32)), (some (6, true)), .write, 0⟩, ⟨(some 10), .pick (.t 6) (.t 9) (.c (.bool false)), none, .write, 0⟩, ⟨(some 11), .move (.t 10), none, .write, 0⟩, ⟨(some 12), .fieldAddr 1 (.t 1), (some (11, true)), .write, 0⟩, ⟨(some 13), .load none (.t 12), (some (11, true)), .write, 0⟩, ⟨(some 14), .arith .geq (.t 13) (.c (.int .i64 0)), (some (11, true)), .write, 0⟩, ⟨(some 15), .pick (.t 11) (.t 14) (.c (.bool false)), none, .write, 0⟩, ⟨(some 2), .move (.t 15), none, .write, 0⟩])
 .ret)) }

theorem c264 : compFunc Tryz.prog Tryz.f264 .full = some t264 := by kernel_rfl

/-- broadside/num.ID -/
def t265 : DFunc := { ntmps := 9, results := [(.t 2)], mode := .full, body :=
 (.seq (.region [⟨(some 1), .box 32 2 (.t 0), none, .write, 0⟩, ⟨(some 2), .move (.c .nsl), none, .write, 0⟩])
 (.seq (.region [⟨(some 3), .fieldAddr 0 (.t 1), none, .write, 0⟩, ⟨(some 4), .load none (.t 3), none, .write, 0⟩, ⟨(some 5), .fieldAddr 1 (.t 1), none, .write, 0⟩, ⟨(some 6), .load none (.t 5), none, .write, 0⟩, ⟨(some 7), .buildSlice 3 1 (.int .i64 0) 2 [(0, (.t 4)), (1, (.t 6))], none, .write, 0⟩, ⟨(some 8), .call (.c (.func 298 [])) [(.t 7)], none, .write, 0⟩, ⟨(some 2), .move (.t 8), none, .write, 0⟩])
 .ret)) }

theorem c265 : compFunc Tryz.prog Tryz.f265 .full = some t265 := by kernel_rfl

/-- broadside/wire.constraint -/
def t266 : DFunc := { ntmps := 28, results := [(.t 2)], mode := .full, body :=
 (.seq (.region [⟨(some 1), .box 303 5 (.t 0), none, .write, 0⟩, ⟨(some 2), .move (.c .nsl), none, .write, 0⟩])
 (.seq (.draw [⟨(some 4), .fieldAddr 0 (.t 1), none, .read, 0⟩, ⟨(some 5), .load none (.t 4), none, .read, 0⟩, ⟨(some 6), .call (.c (.func 299 [])) [(.t 5)], none, .create, 0⟩, ⟨(some 7), .fieldAddr 1 (.t 1), none, .read, 0⟩, ⟨(some 8), .load none (.t 7), none, .read, 0⟩, ⟨(some 9), .conv .u8 (.t 8), none, .read, 0⟩, ⟨(some 10), .buildSlice 5 1 (.int .u8 0) 1 [(0, (.t 9))], none, .create, 0⟩, ⟨(some 11), .append 5 1 1 (.t 6) (.t 10), none, .write, 2⟩, ⟨(some 3), .move (.t 11), none, .read, 3⟩])
 (.seq (.seq (.region [⟨(some 12), .fieldAddr 1 (.t 1), none, .write, 0⟩, ⟨(some 13), .load none (.t 12), none, .write, 0⟩, ⟨(some 14), .arith .eql (.t 13) (.c (.int .i64 1)), none, .write, 0⟩])
 (.cond (.t 14) (.seq (.region [⟨(some 15), .move (.t 3), none, .write, 0⟩, ⟨(some 16), .fieldAddr 2 (.t 1), none, .write, 0⟩, ⟨(some 17), .load none (.t 16), none, .write, 0⟩, ⟨(some 18), .fieldAddr 3 (.t 1), none, .write, 0⟩, ⟨(some 19), .load none (.t 18), none, .write, 0⟩, ⟨(some 20), .buildSlice 3 1 (.int .i64 0) 2 [(0, (.t 17)), (1, (.t 19))], none, .write, 0⟩, ⟨(some 21), .call (.c (.func 298 [])) [(.t 20)], none, .write, 0⟩, ⟨(some 22), .append 5 1 1 (.t 15) (.t 21), none, .write, 0⟩, ⟨(some 2), .move (.t 22), none, .write, 0⟩])
 .ret) .skip))
 (.seq (.region [⟨(some 23), .move (.t 3), none, .write, 0⟩, ⟨(some 24), .fieldAddr 4 (.t 1), none, .write, 0⟩, ⟨(some 25), .load none (.t 24), none, .write, 0⟩, ⟨(some 26), .call (.c (.func 299 [])) [(.t 25)], none, .write, 0⟩, ⟨(some 27), .append 5 1 1 (.t 23) (.t 26), none, .write, 0⟩, ⟨(some 2), .move (.t 27), none, .write, 0⟩])
 .ret)))) }

theorem c266 : compFunc Tryz.prog Tryz.f266 .full = some t266 := by kernel_rfl

/-- broadside/wire.attr -/
def t267 : DFunc := { ntmps := 27, results := [(.t 2)], mode := .full, body :=
 (.seq (.region [⟨(some 1), .box 253 4 (.t 0), none, .write, 0⟩, ⟨(some 2), .move (.c .nsl), none, .write, 0⟩])
 (.seq (.region [⟨(some 4), .fieldAddr 0 (.t 1), none, .write, 0⟩, ⟨(some 5), .load none (.t 4), none, .write, 0⟩, ⟨(some 6), .call (.c (.func 299 [])) [(.t 5)], none, .write, 0⟩, ⟨(some 3), .move (.t 6), none, .write, 0⟩])
 (.seq (.seq (.region [⟨(some 7), .fieldAddr 1 (.t 1), none, .write, 0⟩, ⟨(some 8), .fieldAddr 0 (.t 7), none, .write, 0⟩, ⟨(some 9), .load none (.t 8), none, .write, 0⟩])
 (.cond (.t 9) (.seq (.draw [⟨(some 10), .move (.t 3), none, .read, 0⟩, ⟨(some 11), .buildSlice 5 1 (.int .u8 0) 1 [(0, (.c (.int .u8 1)))], none, .create, 0⟩, ⟨(some 12), .append 5 1 1 (.t 10) (.t 11), none, .create, 0⟩, ⟨(some 13), .fieldAddr 1 (.t 1), none, .read, 0⟩, ⟨(some 14), .fieldAddr 2 (.t 13), none, .read, 0⟩, ⟨(some 15), .load none (.t 14), none, .read, 0⟩, ⟨(some 16), .call (.c (.func 299 [])) [(.t 15)], none, .write, 2⟩, ⟨(some 17), .append 5 1 1 (.t 12) (.t 16), none, .write, 3⟩, ⟨(some 2), .move (.t 17), none, .read, 4⟩])
 .ret) .skip))
 (.seq (.draw [⟨(some 18), .move (.t 3), none, .read, 0⟩, ⟨(some 19), .buildSlice 5 1 (.int .u8 0) 1 [(0, (.c (.int .u8 0)))], none, .create, 0⟩, ⟨(some 20), .append 5 1 1 (.t 18) (.t 19), none, .create, 0⟩, ⟨(some 21), .fieldAddr 1 (.t 1), none, .read, 0⟩, ⟨(some 22), .fieldAddr 1 (.t 21), none, .read, 0⟩, ⟨(some 23), .load none (.t 22), none, .read, 0⟩, ⟨(some 24), .buildSlice 3 1 (.int .i64 0) 1 [(0, (.t 23))], none, .create, 0⟩, ⟨(some 25), .call (.c (.func 298 [])) [(.t 24)], none, .write, 3⟩, ⟨(some 26), .append 5 1 1 (.t 20) (.t 25), none, .write, 4⟩, ⟨(some 2), .move (.t 26), none, .read, 5⟩])
 .ret)))) }

theorem c267 : compFunc Tryz.prog Tryz.f267 .full = some t267 := by kernel_rfl

/-- slices.BinarySearchFunc[[]broadside/api.Constraint,broadside/api.Constraint,string] -/
def t268 : DFunc := { ntmps := 49, results := [(.t 6), (.t 7)], mode := .full, body :=
 (.seq (.region [⟨(some 6), .move (.c (.int .i64 0)), none, .write, 0⟩, ⟨(some 7), .move (.c (.bool false)), none, .write, 0⟩])
 (.seq (.region [⟨(some 12), .move (.t 0), none, .write, 0⟩, ⟨(some 13), .len 1 (.t 12), none, .write, 0⟩, ⟨(some 8), .move (.t 13), none, .write, 0⟩])
 (.seq (.region [⟨(some 14), .move (.t 8), none, .write, 0⟩, ⟨(some 9), .move (.c (.int .i64 0)), none, .write, 0⟩, ⟨(some 10), .move (.t 14), none, .write, 0⟩])
 (.seq (.block 0 (.loop (.seq (.seq (.region [⟨(some 15), .move (.t 9), none, .write, 0⟩, ⟨(some 16), .move (.t 10), none, .write, 0⟩, ⟨(some 17), .arith .lss (.t 15) (.t 16), none, .write, 0⟩])
 (.cond (.t 17) .skip (.exit 0)))
 (.block 1 (.seq (.region [⟨(some 18), .move (.t 9), none, .write, 0⟩, ⟨(some 19), .move (.t 10), none, .write, 0⟩, ⟨(some 20), .arith .add (.t 18) (.t 19), none, .write, 0⟩, ⟨(some 21), .conv .u64 (.t 20), none, .write, 0⟩, ⟨(some 22), .arith .shr (.t 21) (.c (.int .u64 1)), none, .write, 0⟩, ⟨(some 23), .conv .i64 (.t 22), none, .write, 0⟩, ⟨(some 11), .move (.t 23), none, .write, 0⟩])
 (.seq (.region [⟨(some 24), .move (.t 2), none, .write, 0⟩, ⟨(some 25), .move (.t 0), none, .write, 0⟩, ⟨(some 26), .move (.t 11), none, .write, 0⟩, ⟨(some 27), .indexAddr 5 (.t 25) (.t 26), none, .write, 0⟩, ⟨(some 28), .load (some 5) (.t 27), none, .write, 0⟩, ⟨(some 29), .move (.t 1), none, .write, 0⟩, ⟨(some 30), .call (.t 24) [(.t 28), (.t 29)], none, .write, 0⟩, ⟨(some 31), .arith .lss (.t 30) (.c (.int .i64 0)), none, .write, 0⟩])
 (.cond (.t 31) (.region [⟨(some 32), .move (.t 11), none, .write, 0⟩, ⟨(some 33), .arith .add (.t 32) (.c (.int .i64 1)), none, .write, 0⟩, ⟨(some 9), .move (.t 33), none, .write, 0⟩]) (.region [⟨(some 34), .move (.t 11), none, .write, 0⟩, ⟨(some 10), .move (.t 34), none, .write, 0⟩]))))))))
 (.seq (.region [⟨(some 35), .move (.t 9), none, .write, 0⟩, ⟨(some 36), .move (.t 9), none, .write, 0⟩, ⟨(some 37), .move (.t 8), none, .write, 0⟩, ⟨(some 38), .arith .lss (.t 36) (.t 37), none, .write, 0⟩, ⟨(some 39), .move (.t 38), none, .write, 0⟩, ⟨(some 40), .move (.t 2), (some (39, true)), .write, 0⟩, ⟨(some 41), .move (.t 0), (some (39, true)), .write, 0⟩, ⟨(some 42), .move (.t 9), (some (39, true)), .write, 0⟩, ⟨(some 43), .indexAddr 5 (.t 41) (.t 42), (some (39, true)), .write, 0⟩, ⟨(some 44), .load (some 5) (.t 43), (some (39, true)), .write, 0⟩, ⟨(some 45), .move (.t 1), (some (39, true)), .write, 0⟩, ⟨(some 46), .call (.t 40) [(.t 44), (.t 45)], (some (39, true)), .write, 0⟩, ⟨(some 47), .arith .eql (.t 46) (.c (.int .i64 0)), (some (39, true)), .write, 0⟩, ⟨(some 48), .pick (.t 39) (.t 47) (.c (.bool false)), none, .write, 0⟩, ⟨(some 6), .move (.t 35), none, .write, 0⟩, ⟨(some 7), .move (.t 48), none, .write, 0⟩])
 .ret))))) }

theorem c268 : compFunc Tryz.prog Tryz.f268 .full = some t268 := by kernel_rfl

/-- broadside/pred.Make$1 -/
def t269 : DFunc := { ntmps := 9, results := [(.t 4)], mode := .full, body :=
 (.seq (.region [⟨(some 2), .box 303 5 (.t 0), none, .write, 0⟩, ⟨(some 4), .move (.c (.int .i64 0)), none, .write, 0⟩])
 (.seq (.region [⟨(some 5), .fieldAddr 0 (.t 2), none, .write, 0⟩, ⟨(some 6), .load none (.t 5), none, .write, 0⟩, ⟨(some 7), .move (.t 1), none, .write, 0⟩, ⟨(some 8), .call (.c (.func 270 [])) [(.t 6), (.t 7)], none, .write, 0⟩, ⟨(some 4), .move (.t 8), none, .write, 0⟩])
 .ret)) }

theorem c269 : compFunc Tryz.prog Tryz.f269 .full = some t269 := by kernel_rfl

/-- strings.Compare -/
def t270 : DFunc := { ntmps := 8, results := [(.t 4)], mode := .full, body :=
 (.seq (.region [⟨(some 4), .move (.c (.int .i64 0)), none, .write, 0⟩])
 (.seq (.region [⟨(some 5), .move (.t 0), none, .write, 0⟩, ⟨(some 6), .move (.t 1), none, .write, 0⟩, ⟨(some 7), .call (.c (.func 300 [])) [(.t 5), (.t 6)], none, .write, 0⟩, ⟨(some 4), .move (.t 7), none, .write, 0⟩])
 .ret)) }

theorem c270 : compFunc Tryz.prog Tryz.f270 .full = some t270 := by kernel_rfl

/-- broadside/pred.Both -/
def t271 : DFunc := { ntmps := 69, results := [(.cell 4 (some 5)), (.t 5)], mode := .full, body :=
 (.seq (.region [⟨(some 2), .box 303 5 (.t 0), none, .write, 0⟩, ⟨(some 3), .box 303 5 (.t 1), none, .write, 0⟩, ⟨(some 4), .alloc 303 5 (.agg [(.str []), (.int .i64 0), (.int .i64 0), (.int .i64 0), (.str [])]), none, .write, 0⟩, ⟨(some 5), .move (.c (.bool false)), none, .write, 0⟩])
 (.seq (.region [⟨(some 7), .build [(.str []), (.int .i64 0), (.int .i64 0), (.int .i64 0), (.str [])] [], none, .write, 0⟩, ⟨(some 6), .alloc 303 5 (.agg [(.str []), (.int .i64 0), (.int .i64 0), (.int .i64 0), (.str [])]), none, .write, 0⟩, ⟨none, .store 5 (.t 6) (.t 7), none, .write, 0⟩])
 (.seq (.seq (.region [⟨(some 8), .fieldAddr 1 (.t 2), none, .write, 0⟩, ⟨(some 9), .load none (.t 8), none, .write, 0⟩, ⟨(some 10), .fieldAddr 1 (.t 3), none, .write, 0⟩, ⟨(some 11), .load none (.t 10), none, .write, 0⟩, ⟨(some 12), .arith .gtr (.t 9) (.t 11), none, .write, 0⟩])
 (.cond (.t 12) (.region [⟨(some 13), .load (some 5) (.t 3), none, .write, 0⟩, ⟨(some 14), .load (some 5) (.t 2), none, .write, 0⟩, ⟨none, .store 5 (.t 2) (.t 13), none, .write, 0⟩, ⟨none, .store 5 (.t 3) (.t 14), none, .write, 0⟩]) .skip))
 (.seq (.seq (.region [⟨(some 15), .fieldAddr 1 (.t 2), none, .write, 0⟩, ⟨(some 16), .load none (.t 15), none, .write, 0⟩])
 (.block 0 (.seq (.block 3 (.seq (.block 2 (.seq (.block 1 (.seq (.seq (.seq (.region [⟨(some 18), .arith .eql (.t 16) (.c (.int .i64 1)), none, .write, 0⟩, ⟨(some 17), .move (.t 18), none, .write, 0⟩])
 (.cond (.t 17) (.exit 1) .skip))
 (.seq (.seq (.region [⟨(some 20), .arith .eql (.t 16) (.c (.int .i64 3)), none, .write, 0⟩, ⟨(some 19), .move (.t 20), none, .write, 0⟩])
 (.cond (.t 19) (.exit 2) .skip))
 (.seq (.region [⟨(some 22), .arith .eql (.t 16) (.c (.int .i64 2)), none, .write, 0⟩, ⟨(some 21), .move (.t 22), none, .write, 0⟩])
 (.cond (.t 21) (.exit 3) .skip))))
 (.exit 0)))
 (.seq (.seq (.seq (.region [⟨(some 23), .fieldAddr 1 (.t 3), none, .write, 0⟩, ⟨(some 24), .load none (.t 23), none, .write, 0⟩, ⟨(some 25), .arith .neq (.t 24) (.c (.int .i64 1)), none, .write, 0⟩, ⟨(some 26), .move (.t 25), none, .write, 0⟩, ⟨(some 27), .fieldAddr 2 (.t 2), (some (26, false)), .write, 0⟩, ⟨(some 28), .load none (.t 27), (some (26, false)), .write, 0⟩, ⟨(some 29), .fieldAddr 2 (.t 3), (some (26, false)), .write, 0⟩, ⟨(some 30), .load none (.t 29), (some (26, false)), .write, 0⟩, ⟨(some 31), .minmax true (.t 28) (.t 30), (some (26, false)), .write, 0⟩, ⟨(some 32), .fieldAddr 3 (.t 2), (some (26, false)), .write, 0⟩, ⟨(some 33), .load none (.t 32), (some (26, false)), .write, 0⟩, ⟨(some 34), .fieldAddr 3 (.t 3), (some (26, false)), .write, 0⟩, ⟨(some 35), .load none (.t 34), (some (26, false)), .write, 0⟩, ⟨(some 36), .minmax false (.t 33) (.t 35), (some (26, false)), .write, 0⟩, ⟨(some 37), .arith .gtr (.t 31) (.t 36), (some (26, false)), .write, 0⟩, ⟨(some 38), .pick (.t 26) (.c (.bool true)) (.t 37), none, .write, 0⟩])
 (.cond (.t 38) (.seq (.region [⟨(some 39), .load (some 5) (.t 6), none, .write, 0⟩, ⟨none, .store 5 (.t 4) (.t 39), none, .write, 0⟩, ⟨(some 5), .move (.c (.bool false)), none, .write, 0⟩])
 .ret) .skip))
 (.seq (.draw [⟨(some 40), .fieldAddr 2 (.t 2), none, .read, 0⟩, ⟨(some 41), .load none (.t 40), none, .read, 0⟩, ⟨(some 42), .fieldAddr 2 (.t 3), none, .read, 0⟩, ⟨(some 43), .load none (.t 42), none, .read, 0⟩, ⟨(some 45), .fieldAddr 3 (.t 2), none, .read, 0⟩, ⟨(some 46), .load none (.t 45), none, .read, 0⟩, ⟨(some 47), .fieldAddr 3 (.t 3), none, .read, 0⟩, ⟨(some 48), .load none (.t 47), none, .read, 0⟩, ⟨(some 44), .minmax true (.t 41) (.t 43), none, .read, 0⟩, ⟨(some 50), .fieldAddr 2 (.t 2), none, .read, 0⟩, ⟨none, .store 1 (.t 50) (.t 44), none, .create, 0⟩, ⟨(some 49), .minmax false (.t 46) (.t 48), none, .read, 0⟩, ⟨(some 51), .fieldAddr 3 (.t 2), none, .read, 1⟩, ⟨none, .store 1 (.t 51) (.t 49), none, .write, 1⟩])
 (.seq (.region [⟨(some 52), .load (some 5) (.t 2), none, .write, 0⟩, ⟨none, .store 5 (.t 4) (.t 52), none, .write, 0⟩, ⟨(some 5), .move (.c (.bool true)), none, .write, 0⟩])
 .ret)))
 (.exit 0))))
 (.seq (.region [⟨(some 53), .fieldAddr 4 (.t 2), none, .write, 0⟩, ⟨(some 54), .load none (.t 53), none, .write, 0⟩, ⟨(some 55), .len 0 (.t 54), none, .write, 0⟩, ⟨(some 56), .fieldAddr 4 (.t 3), none, .write, 0⟩, ⟨(some 57), .load none (.t 56), none, .write, 0⟩, ⟨(some 58), .len 0 (.t 57), none, .write, 0⟩, ⟨(some 59), .arith .lss (.t 55) (.t 58), none, .write, 0⟩])
 (.cond (.t 59) (.region [⟨(some 60), .load (some 5) (.t 3), none, .write, 0⟩, ⟨(some 61), .load (some 5) (.t 2), none, .write, 0⟩, ⟨none, .store 5 (.t 2) (.t 60), none, .write, 0⟩, ⟨none, .store 5 (.t 3) (.t 61), none, .write, 0⟩]) .skip))))
 (.seq (.seq (.draw [⟨(some 62), .load (some 5) (.t 3), none, .read, 0⟩, ⟨(some 63), .fieldAddr 4 (.t 2), none, .read, 0⟩, ⟨(some 64), .load none (.t 63), none, .read, 0⟩, ⟨(some 65), .call (.c (.func 289 [])) [(.t 64)], none, .create, 0⟩, ⟨(some 66), .call (.c (.func 245 [])) [(.t 62), (.t 65)], none, .write, 1⟩])
 (.cond (.t 66) (.seq (.region [⟨(some 67), .load (some 5) (.t 2), none, .write, 0⟩, ⟨none, .store 5 (.t 4) (.t 67), none, .write, 0⟩, ⟨(some 5), .move (.c (.bool true)), none, .write, 0⟩])
 .ret) .skip))
 (.exit 0)))))
 (.seq (.region [⟨(some 68), .load (some 5) (.t 6), none, .write, 0⟩, ⟨none, .store 5 (.t 4) (.t 68), none, .write, 0⟩, ⟨(some 5), .move (.c (.bool false)), none, .write, 0⟩])
 .ret))))) }

theorem c271 : compFunc Tryz.prog Tryz.f271 .full = some t271 := by kernel_rfl

/-- slices.Insert[[]broadside/api.Constraint,broadside/api.Constraint] -/
def t272 : DFunc := { ntmps := 95, results := [(.t 6)], mode := .split, body :=
 (.seq (.region [⟨(some 6), .move (.c .nsl), none, .write, 0⟩])
 (.seq (.region [⟨(some 10), .move (.t 0), none, .write, 0⟩, ⟨(some 11), .move (.t 1), none, .write, 0⟩, ⟨(some 12), .sliceSl 5 (.t 10) (some (.t 11)) none, none, .write, 0⟩])
 (.seq (.region [⟨(some 13), .move (.t 2), none, .write, 0⟩, ⟨(some 14), .len 1 (.t 13), none, .write, 0⟩, ⟨(some 7), .move (.t 14), none, .write, 0⟩])
 (.seq (.seq (.region [⟨(some 15), .move (.t 7), none, .write, 0⟩, ⟨(some 16), .arith .eql (.t 15) (.c (.int .i64 0)), none, .write, 0⟩])
 (.cond (.t 16) (.seq (.region [⟨(some 17), .move (.t 0), none, .write, 0⟩, ⟨(some 6), .move (.t 17), none, .write, 0⟩])
 .ret) .skip))
 (.seq (.region [⟨(some 18), .move (.t 0), none, .write, 0⟩, ⟨(some 19), .len 1 (.t 18), none, .write, 0⟩, ⟨(some 8), .move (.t 19), none, .write, 0⟩])
 (.seq (.seq (.region [⟨(some 20), .move (.t 1), none, .write, 0⟩, ⟨(some 21), .move (.t 8), none, .write, 0⟩, ⟨(some 22), .arith .eql (.t 20) (.t 21), none, .write, 0⟩])
 (.cond (.t 22) (.seq (.region [⟨(some 23), .move (.t 0), none, .write, 0⟩, ⟨(some 24), .move (.t 2), none, .write, 0⟩, ⟨(some 25), .append 303 5 56 (.t 23) (.t 24), none, .write, 0⟩, ⟨(some 6), .move (.t 25), none, .write, 0⟩])
 .ret) .skip))
 (.seq (.seq (.region [⟨(some 26), .move (.t 8), none, .write, 0⟩, ⟨(some 27), .move (.t 7), none, .write, 0⟩, ⟨(some 28), .arith .add (.t 26) (.t 27), none, .write, 0⟩, ⟨(some 29), .move (.t 0), none, .write, 0⟩, ⟨(some 30), .cap (.t 29), none, .write, 0⟩, ⟨(some 31), .arith .gtr (.t 28) (.t 30), none, .write, 0⟩])
 (.cond (.t 31) (.seq (.region [⟨(some 32), .move (.t 0), none, .write, 0⟩, ⟨(some 33), .move (.t 1), none, .write, 0⟩, ⟨(some 34), .sliceSl 5 (.t 32) none (some (.t 33)), none, .write, 0⟩, ⟨(some 35), .move (.t 8), none, .write, 0⟩, ⟨(some 36), .move (.t 7), none, .write, 0⟩, ⟨(some 37), .arith .add (.t 35) (.t 36), none, .write, 0⟩, ⟨(some 38), .move (.t 1), none, .write, 0⟩, ⟨(some 39), .arith .sub (.t 37) (.t 38), none, .write, 0⟩, ⟨(some 40), .appendZ 303 5 56 (.agg [(.str []), (.int .i64 0), (.int .i64 0), (.int .i64 0), (.str [])]) (.t 34) (.t 39), none, .write, 0⟩, ⟨(some 9), .move (.t 40), none, .write, 0⟩])
 (.seq (.region [⟨(some 41), .move (.t 9), none, .write, 0⟩, ⟨(some 42), .move (.t 1), none, .write, 0⟩, ⟨(some 43), .sliceSl 5 (.t 41) (some (.t 42)) none, none, .write, 0⟩, ⟨(some 44), .move (.t 2), none, .write, 0⟩, ⟨(some 45), .copy 5 (.t 43) (.t 44), none, .write, 0⟩])
 (.seq (.draw [⟨(some 46), .move (.t 9), none, .read, 0⟩, ⟨(some 47), .move (.t 1), none, .read, 0⟩, ⟨(some 48), .move (.t 7), none, .read, 0⟩, ⟨(some 49), .arith .add (.t 47) (.t 48), none, .read, 0⟩, ⟨(some 50), .sliceSl 5 (.t 46) (some (.t 49)) none, none, .read, 0⟩, ⟨(some 51), .move (.t 0), none, .read, 0⟩, ⟨(some 52), .move (.t 1), none, .read, 0⟩, ⟨(some 53), .sliceSl 5 (.t 51) (some (.t 52)) none, none, .read, 0⟩, ⟨(some 54), .copy 5 (.t 50) (.t 53), none, .write, 0⟩])
 (.seq (.region [⟨(some 55), .move (.t 9), none, .write, 0⟩, ⟨(some 6), .move (.t 55), none, .write, 0⟩])
 .ret)))) .skip))
 (.seq (.region [⟨(some 56), .move (.t 0), none, .write, 0⟩, ⟨(some 57), .move (.t 8), none, .write, 0⟩, ⟨(some 58), .move (.t 7), none, .write, 0⟩, ⟨(some 59), .arith .add (.t 57) (.t 58), none, .write, 0⟩, ⟨(some 60), .sliceSl 5 (.t 56) none (some (.t 59)), none, .write, 0⟩, ⟨(some 0), .move (.t 60), none, .write, 0⟩])
 (.seq (.seq (.region [⟨(some 61), .move (.t 2), none, .write, 0⟩, ⟨(some 62), .move (.t 0), none, .write, 0⟩, ⟨(some 63), .move (.t 1), none, .write, 0⟩, ⟨(some 64), .move (.t 7), none, .write, 0⟩, ⟨(some 65), .arith .add (.t 63) (.t 64), none, .write, 0⟩, ⟨(some 66), .sliceSl 5 (.t 62) (some (.t 65)) none, none, .write, 0⟩, ⟨(some 67), .call (.c (.func 301 [])) [(.t 61), (.t 66)], none, .write, 0⟩, ⟨(some 68), .un .not (.t 67), none, .write, 0⟩])
 (.cond (.t 68) (.seq (.draw [⟨(some 69), .move (.t 0), none, .read, 0⟩, ⟨(some 70), .move (.t 1), none, .read, 0⟩, ⟨(some 71), .move (.t 7), none, .read, 0⟩, ⟨(some 72), .arith .add (.t 70) (.t 71), none, .read, 0⟩, ⟨(some 73), .sliceSl 5 (.t 69) (some (.t 72)) none, none, .read, 0⟩, ⟨(some 74), .move (.t 0), none, .read, 0⟩, ⟨(some 75), .move (.t 1), none, .read, 0⟩, ⟨(some 76), .sliceSl 5 (.t 74) (some (.t 75)) none, none, .read, 0⟩, ⟨(some 77), .copy 5 (.t 73) (.t 76), none, .write, 0⟩])
 (.seq (.region [⟨(some 78), .move (.t 0), none, .write, 0⟩, ⟨(some 79), .move (.t 1), none, .write, 0⟩, ⟨(some 80), .sliceSl 5 (.t 78) (some (.t 79)) none, none, .write, 0⟩, ⟨(some 81), .move (.t 2), none, .write, 0⟩, ⟨(some 82), .copy 5 (.t 80) (.t 81), none, .write, 0⟩])
 (.seq (.region [⟨(some 83), .move (.t 0), none, .write, 0⟩, ⟨(some 6), .move (.t 83), none, .write, 0⟩])
 .ret))) .skip))
 (.seq (.region [⟨(some 84), .move (.t 0), none, .write, 0⟩, ⟨(some 85), .move (.t 8), none, .write, 0⟩, ⟨(some 86), .sliceSl 5 (.t 84) (some (.t 85)) none, none, .write, 0⟩, ⟨(some 87), .move (.t 2), none, .write, 0⟩, ⟨(some 88), .copy 5 (.t 86) (.t 87), none, .write, 0⟩])
 (.seq (.region [⟨(some 89), .move (.t 0), none, .write, 0⟩, ⟨(some 90), .move (.t 1), none, .write, 0⟩, ⟨(some 91), .sliceSl 5 (.t 89) (some (.t 90)) none, none, .write, 0⟩, ⟨(some 92), .move (.t 7), none, .write, 0⟩, ⟨(some 93), .call (.c (.func 302 [])) [(.t 91), (.t 92)], none, .write, 0⟩])
 (.seq (.region [⟨(some 94), .move (.t 0), none, .write, 0⟩, ⟨(some 6), .move (.t 94), none, .write, 0⟩])
 .ret)))))))))))) }

theorem c272 : compFunc Tryz.prog Tryz.f272 .split = some t272 := by kernel_rfl

/-- slices.IndexFunc[[]broadside/world.live,broadside/world.live] -/
def t273 : DFunc := { ntmps := 19, results := [(.t 4)], mode := .full, body :=
 (.seq (.region [⟨(some 4), .move (.c (.int .i64 0)), none, .write, 0⟩])
 (.seq (.seq (.region [⟨(some 6), .move (.t 0), none, .write, 0⟩, ⟨(some 7), .len 1 (.t 6), none, .write, 0⟩, ⟨(some 8), .move (.c (.int .i64 0)), none, .write, 0⟩])
 (.block 0 (.loop (.seq (.region [⟨(some 9), .arith .lss (.t 8) (.t 7), none, .write, 0⟩])
 (.seq (.cond (.t 9) .skip (.exit 0))
 (.seq (.block 1 (.seq (.region [⟨(some 10), .move (.t 8), none, .write, 0⟩, ⟨(some 5), .move (.t 10), none, .write, 0⟩])
 (.seq (.region [⟨(some 11), .move (.t 1), none, .write, 0⟩, ⟨(some 12), .move (.t 0), none, .write, 0⟩, ⟨(some 13), .move (.t 5), none, .write, 0⟩, ⟨(some 14), .indexAddr 2 (.t 12) (.t 13), none, .write, 0⟩, ⟨(some 15), .load (some 2) (.t 14), none, .write, 0⟩, ⟨(some 16), .call (.t 11) [(.t 15)], none, .write, 0⟩])
 (.cond (.t 16) (.seq (.region [⟨(some 17), .move (.t 5), none, .write, 0⟩, ⟨(some 4), .move (.t 17), none, .write, 0⟩])
 .ret) .skip))))
 (.region [⟨(some 18), .arith .add (.t 8) (.c (.int .i64 1)), none, .write, 0⟩, ⟨(some 8), .move (.t 18), none, .write, 0⟩])))))))
 (.seq (.region [⟨(some 4), .move (.c (.int .i64 (-1))), none, .write, 0⟩])
 .ret))) }

theorem c273 : compFunc Tryz.prog Tryz.f273 .full = some t273 := by kernel_rfl

/-- broadside/world.place$1 -/
def t274 : DFunc := { ntmps := 8, results := [(.t 3)], mode := .full, body :=
 (.seq (.region [⟨(some 2), .box 325 2 (.t 0), none, .write, 0⟩, ⟨(some 3), .move (.c (.bool false)), none, .write, 0⟩])
 (.seq (.region [⟨(some 4), .fieldAddr 0 (.t 2), none, .write, 0⟩, ⟨(some 5), .load none (.t 4), none, .write, 0⟩, ⟨(some 6), .load none (.t 1), none, .write, 0⟩, ⟨(some 7), .arith .eql (.t 5) (.t 6), none, .write, 0⟩, ⟨(some 3), .move (.t 7), none, .write, 0⟩])
 .ret)) }

theorem c274 : compFunc Tryz.prog Tryz.f274 .full = some t274 := by kernel_rfl

/-- broadside/value.Right -/
def t275 : DFunc := { ntmps := 17, results := [(.t 2)], mode := .full, body :=
 (.seq (.region [⟨(some 1), .box 251 3 (.t 0), none, .write, 0⟩, ⟨(some 2), .move (.c (.bool false)), none, .write, 0⟩])
 (.seq (.seq (.region [⟨(some 3), .fieldAddr 0 (.t 1), none, .write, 0⟩, ⟨(some 4), .load none (.t 3), none, .write, 0⟩])
 (.cond (.t 4) (.seq (.region [⟨(some 5), .fieldAddr 1 (.t 1), none, .write, 0⟩, ⟨(some 6), .load none (.t 5), none, .write, 0⟩, ⟨(some 7), .arith .eql (.t 6) (.c (.int .i64 0)), none, .write, 0⟩, ⟨(some 8), .move (.t 7), none, .write, 0⟩, ⟨(some 9), .fieldAddr 2 (.t 1), (some (8, true)), .write, 0⟩, ⟨(some 10), .load none (.t 9), (some (8, true)), .write, 0⟩, ⟨(some 11), .len 0 (.t 10), (some (8, true)), .write, 0⟩, ⟨(some 12), .arith .leq (.t 11) (.c (.int .i64 12)), (some (8, true)), .write, 0⟩, ⟨(some 13), .pick (.t 8) (.t 12) (.c (.bool false)), none, .write, 0⟩, ⟨(some 2), .move (.t 13), none, .write, 0⟩])
 .ret) .skip))
 (.seq (.region [⟨(some 14), .fieldAddr 2 (.t 1), none, .write, 0⟩, ⟨(some 15), .load none (.t 14), none, .write, 0⟩, ⟨(some 16), .arith .eql (.t 15) (.c (.str [])), none, .write, 0⟩, ⟨(some 2), .move (.t 16), none, .write, 0⟩])
 .ret))) }

theorem c275 : compFunc Tryz.prog Tryz.f275 .full = some t275 := by kernel_rfl

end Go.Dm.TabW
