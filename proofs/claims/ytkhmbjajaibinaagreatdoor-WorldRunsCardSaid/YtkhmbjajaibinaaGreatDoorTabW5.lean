/-
The table of functions, brought into the machine's form (TabW, part 5). Written by program (wip/tools/table.lean.txt).
-/
import Derived.Test.YtkhmbjajaibinaaGreatDoorDm32
import Derived.Test.YtkhmbjajaibinaaGreatDoorRows
import Derived.KernelRfl
namespace Go.Dm.TabW
open Go.Proofs

/-- slices.DeleteFunc[[]broadside/world.live,broadside/world.live] -/
def t276 : DFunc := { ntmps := 42, results := [(.t 4)], mode := .full, body :=
 (.seq (.region [⟨(some 4), .move (.c .nsl), none, .write, 0⟩])
 (.seq (.region [⟨(some 8), .move (.t 0), none, .write, 0⟩, ⟨(some 9), .move (.t 1), none, .write, 0⟩, ⟨(some 10), .call (.c (.func 273 [])) [(.t 8), (.t 9)], none, .write, 0⟩, ⟨(some 5), .move (.t 10), none, .write, 0⟩])
 (.seq (.seq (.region [⟨(some 11), .move (.t 5), none, .write, 0⟩, ⟨(some 12), .arith .eql (.t 11) (.c (.int .i64 (-1))), none, .write, 0⟩])
 (.cond (.t 12) (.seq (.region [⟨(some 13), .move (.t 0), none, .write, 0⟩, ⟨(some 4), .move (.t 13), none, .write, 0⟩])
 .ret) .skip))
 (.seq (.seq (.region [⟨(some 14), .move (.t 5), none, .write, 0⟩, ⟨(some 15), .arith .add (.t 14) (.c (.int .i64 1)), none, .write, 0⟩, ⟨(some 6), .move (.t 15), none, .write, 0⟩])
 (.block 0 (.loop (.seq (.seq (.region [⟨(some 16), .move (.t 6), none, .write, 0⟩, ⟨(some 17), .move (.t 0), none, .write, 0⟩, ⟨(some 18), .len 1 (.t 17), none, .write, 0⟩, ⟨(some 19), .arith .lss (.t 16) (.t 18), none, .write, 0⟩])
 (.cond (.t 19) .skip (.exit 0)))
 (.seq (.block 1 (.seq (.region [⟨(some 22), .move (.t 0), none, .write, 0⟩, ⟨(some 23), .move (.t 6), none, .write, 0⟩, ⟨(some 24), .indexAddr 2 (.t 22) (.t 23), none, .write, 0⟩, ⟨(some 25), .load (some 2) (.t 24), none, .write, 0⟩, ⟨(some 7), .alloc 325 2 (.agg [(.int .i64 0), .nsl]), none, .write, 0⟩, ⟨none, .store 2 (.t 7) (.t 25), none, .write, 0⟩])
 (.seq (.region [⟨(some 26), .move (.t 1), none, .write, 0⟩, ⟨(some 27), .load (some 2) (.t 7), none, .write, 0⟩, ⟨(some 28), .call (.t 26) [(.t 27)], none, .write, 0⟩, ⟨(some 29), .un .not (.t 28), none, .write, 0⟩])
 (.cond (.t 29) (.seq (.region [⟨(some 30), .move (.t 0), none, .write, 0⟩, ⟨(some 31), .move (.t 5), none, .write, 0⟩, ⟨(some 32), .load (some 2) (.t 7), none, .write, 0⟩, ⟨(some 33), .indexAddr 2 (.t 30) (.t 31), none, .write, 0⟩, ⟨none, .store 2 (.t 33) (.t 32), none, .write, 0⟩])
 (.region [⟨(some 34), .move (.t 5), none, .write, 0⟩, ⟨(some 35), .arith .add (.t 34) (.c (.int .i64 1)), none, .write, 0⟩, ⟨(some 5), .move (.t 35), none, .write, 0⟩])) .skip))))
 (.region [⟨(some 20), .move (.t 6), none, .write, 0⟩, ⟨(some 21), .arith .add (.t 20) (.c (.int .i64 1)), none, .write, 0⟩, ⟨(some 6), .move (.t 21), none, .write, 0⟩]))))))
 (.seq (.region [⟨(some 36), .move (.t 0), none, .write, 0⟩, ⟨(some 37), .move (.t 5), none, .write, 0⟩, ⟨(some 38), .sliceSl 2 (.t 36) (some (.t 37)) none, none, .write, 0⟩, ⟨none, .clear 2 (.agg [(.int .i64 0), .nsl]) (.t 38), none, .write, 0⟩])
 (.seq (.region [⟨(some 39), .move (.t 0), none, .write, 0⟩, ⟨(some 40), .move (.t 5), none, .write, 0⟩, ⟨(some 41), .sliceSl 2 (.t 39) none (some (.t 40)), none, .write, 0⟩, ⟨(some 4), .move (.t 41), none, .write, 0⟩])
 .ret)))))) }

theorem c276 : compFunc Tryz.prog Tryz.f276 .full = some t276 := by kernel_rfl

/-- broadside/world.without$1 -/
def t278 : DFunc := { ntmps := 8, results := [(.t 3)], mode := .full, body :=
 (.seq (.region [⟨(some 2), .box 325 2 (.t 0), none, .write, 0⟩, ⟨(some 3), .move (.c (.bool false)), none, .write, 0⟩])
 (.seq (.region [⟨(some 4), .fieldAddr 0 (.t 2), none, .write, 0⟩, ⟨(some 5), .load none (.t 4), none, .write, 0⟩, ⟨(some 6), .load none (.t 1), none, .write, 0⟩, ⟨(some 7), .arith .eql (.t 5) (.t 6), none, .write, 0⟩, ⟨(some 3), .move (.t 7), none, .write, 0⟩])
 .ret)) }

theorem c278 : compFunc Tryz.prog Tryz.f278 .full = some t278 := by kernel_rfl

/-- (*broadside/net.Net).Unadvertise$1 -/
def t279 : DFunc := { ntmps := 10, results := [(.cell 3 (some 6)), (.t 4)], mode := .full, body :=
 (.seq (.region [⟨(some 2), .box 79 6 (.t 0), none, .write, 0⟩, ⟨(some 3), .alloc 79 6 (.agg [(.int .i64 0), .nsl, .nsl, .nsl, .nsl, .nsl]), none, .write, 0⟩, ⟨(some 4), .move (.c .nsl), none, .write, 0⟩])
 (.seq (.region [⟨(some 5), .load (some 6) (.t 2), none, .write, 0⟩, ⟨(some 6), .load (some 2) (.t 1), none, .write, 0⟩, ⟨(some 7), .call (.c (.func 90 [])) [(.t 5), (.c (.int .i64 (-1))), (.t 6)], none, .write, 0⟩, ⟨(some 8), .extract (.t 7) 0, none, .write, 0⟩, ⟨(some 9), .extract (.t 7) 1, none, .write, 0⟩, ⟨none, .store 6 (.t 3) (.t 8), none, .write, 0⟩, ⟨(some 4), .move (.t 9), none, .write, 0⟩])
 .ret)) }

theorem c279 : compFunc Tryz.prog Tryz.f279 .full = some t279 := by kernel_rfl

/-- (*broadside/net.Net).Unsubscribe$1 -/
def t280 : DFunc := { ntmps := 10, results := [(.cell 3 (some 6)), (.t 4)], mode := .full, body :=
 (.seq (.region [⟨(some 2), .box 79 6 (.t 0), none, .write, 0⟩, ⟨(some 3), .alloc 79 6 (.agg [(.int .i64 0), .nsl, .nsl, .nsl, .nsl, .nsl]), none, .write, 0⟩, ⟨(some 4), .move (.c .nsl), none, .write, 0⟩])
 (.seq (.region [⟨(some 5), .load (some 6) (.t 2), none, .write, 0⟩, ⟨(some 6), .load (some 2) (.t 1), none, .write, 0⟩, ⟨(some 7), .call (.c (.func 281 [])) [(.t 5), (.t 6)], none, .write, 0⟩, ⟨(some 8), .extract (.t 7) 0, none, .write, 0⟩, ⟨(some 9), .extract (.t 7) 1, none, .write, 0⟩, ⟨none, .store 6 (.t 3) (.t 8), none, .write, 0⟩, ⟨(some 4), .move (.t 9), none, .write, 0⟩])
 .ret)) }

theorem c280 : compFunc Tryz.prog Tryz.f280 .full = some t280 := by kernel_rfl

/-- broadside/route.Unsubscribe -/
def t281 : DFunc := { ntmps := 52, results := [(.cell 4 (some 6)), (.t 5)], mode := .full, body :=
 (.seq (.region [⟨(some 2), .box 79 6 (.t 0), none, .write, 0⟩, ⟨(some 3), .box 32 2 (.t 1), none, .write, 0⟩, ⟨(some 4), .alloc 79 6 (.agg [(.int .i64 0), .nsl, .nsl, .nsl, .nsl, .nsl]), none, .write, 0⟩, ⟨(some 5), .move (.c .nsl), none, .write, 0⟩])
 (.seq (.region [⟨(some 14), .load (some 6) (.t 2), none, .write, 0⟩, ⟨(some 15), .load (some 2) (.t 3), none, .write, 0⟩, ⟨(some 16), .call (.c (.func 100 [])) [(.t 14), (.t 15)], none, .write, 0⟩, ⟨(some 13), .move (.t 16), none, .write, 0⟩, ⟨(some 17), .extract (.t 13) 0, none, .write, 0⟩, ⟨(some 18), .extract (.t 13) 1, none, .write, 0⟩, ⟨(some 6), .move (.t 17), none, .write, 0⟩, ⟨(some 7), .move (.t 18), none, .write, 0⟩])
 (.seq (.seq (.region [⟨(some 19), .move (.t 7), none, .write, 0⟩, ⟨(some 20), .un .not (.t 19), none, .write, 0⟩])
 (.cond (.t 20) (.seq (.region [⟨(some 21), .load (some 6) (.t 2), none, .write, 0⟩, ⟨none, .store 6 (.t 4) (.t 21), none, .write, 0⟩, ⟨(some 5), .move (.c .nsl), none, .write, 0⟩])
 .ret) .skip))
 (.seq (.region [⟨(some 22), .fieldAddr 5 (.t 2), none, .write, 0⟩, ⟨(some 23), .load none (.t 22), none, .write, 0⟩, ⟨(some 24), .call (.c (.func 102 [])) [(.t 23)], none, .write, 0⟩, ⟨(some 25), .move (.t 6), none, .write, 0⟩, ⟨(some 26), .move (.t 6), none, .write, 0⟩, ⟨(some 27), .arith .add (.t 26) (.c (.int .i64 1)), none, .write, 0⟩, ⟨(some 28), .call (.c (.func 303 [])) [(.t 24), (.t 25), (.t 27)], none, .write, 0⟩, ⟨(some 29), .fieldAddr 5 (.t 2), none, .write, 0⟩, ⟨none, .store 1 (.t 29) (.t 28), none, .write, 0⟩])
 (.seq (.region [⟨(some 8), .move (.c .nsl), none, .write, 0⟩])
 (.seq (.seq (.region [⟨(some 30), .fieldAddr 2 (.t 2), none, .write, 0⟩, ⟨(some 31), .load none (.t 30), none, .write, 0⟩, ⟨(some 32), .len 1 (.t 31), none, .write, 0⟩, ⟨(some 33), .move (.c (.int .i64 0)), none, .write, 0⟩])
 (.block 0 (.loop (.seq (.region [⟨(some 34), .arith .lss (.t 33) (.t 32), none, .write, 0⟩])
 (.seq (.cond (.t 34) .skip (.exit 0))
 (.seq (.block 1 (.seq (.region [⟨(some 35), .indexAddr 4 (.t 31) (.t 33), none, .write, 0⟩, ⟨(some 36), .load (some 4) (.t 35), none, .write, 0⟩, ⟨(some 10), .alloc 120 4 (.agg [(.int .i64 0), (.int .i64 0), .nsl, (.int .i64 0)]), none, .write, 0⟩, ⟨none, .store 4 (.t 10) (.t 36), none, .write, 0⟩])
 (.seq (.region [⟨(some 38), .load (some 6) (.t 2), none, .write, 0⟩, ⟨(some 39), .fieldAddr 0 (.t 10), none, .write, 0⟩, ⟨(some 40), .load (some 2) (.t 39), none, .write, 0⟩, ⟨(some 41), .load (some 2) (.t 3), none, .write, 0⟩, ⟨(some 42), .call (.c (.func 158 [])) [(.t 38), (.t 40), (.t 41), (.c (.int .i64 (-1)))], none, .write, 0⟩, ⟨(some 37), .move (.t 42), none, .write, 0⟩, ⟨(some 43), .extract (.t 37) 0, none, .write, 0⟩, ⟨(some 44), .extract (.t 37) 1, none, .write, 0⟩, ⟨(some 11), .alloc 79 6 (.agg [(.int .i64 0), .nsl, .nsl, .nsl, .nsl, .nsl]), none, .write, 0⟩, ⟨none, .store 6 (.t 11) (.t 43), none, .write, 0⟩, ⟨(some 12), .move (.t 44), none, .write, 0⟩])
 (.draw [⟨(some 45), .load (some 6) (.t 11), none, .read, 0⟩, ⟨(some 46), .move (.t 8), none, .read, 0⟩, ⟨(some 47), .move (.t 12), none, .read, 0⟩, ⟨(some 48), .append 182 8 96 (.t 46) (.t 47), none, .create, 0⟩, ⟨none, .store 6 (.t 2) (.t 45), none, .write, 1⟩, ⟨(some 8), .move (.t 48), none, .read, 2⟩]))))
 (.region [⟨(some 49), .arith .add (.t 33) (.c (.int .i64 1)), none, .write, 0⟩, ⟨(some 33), .move (.t 49), none, .write, 0⟩])))))))
 (.seq (.region [⟨(some 50), .load (some 6) (.t 2), none, .write, 0⟩, ⟨(some 51), .move (.t 8), none, .write, 0⟩, ⟨none, .store 6 (.t 4) (.t 50), none, .write, 0⟩, ⟨(some 5), .move (.t 51), none, .write, 0⟩])
 .ret))))))) }

theorem c281 : compFunc Tryz.prog Tryz.f281 .full = some t281 := by kernel_rfl

/-- slices.siftDownOrdered[int] -/
def t282 : DFunc := { ntmps := 76, results := [], mode := .full, body :=
 (.seq (.region [⟨(some 10), .move (.t 1), none, .write, 0⟩, ⟨(some 8), .move (.t 10), none, .write, 0⟩])
 (.block 0 (.loop (.block 1 (.seq (.region [⟨(some 11), .move (.t 8), none, .write, 0⟩, ⟨(some 12), .arith .mul (.c (.int .i64 2)) (.t 11), none, .write, 0⟩, ⟨(some 13), .arith .add (.t 12) (.c (.int .i64 1)), none, .write, 0⟩, ⟨(some 9), .move (.t 13), none, .write, 0⟩])
 (.seq (.seq (.region [⟨(some 14), .move (.t 9), none, .write, 0⟩, ⟨(some 15), .move (.t 2), none, .write, 0⟩, ⟨(some 16), .arith .geq (.t 14) (.t 15), none, .write, 0⟩])
 (.cond (.t 16) (.exit 0) .skip))
 (.seq (.seq (.draw [⟨(some 17), .move (.t 9), none, .read, 0⟩, ⟨(some 18), .arith .add (.t 17) (.c (.int .i64 1)), none, .read, 0⟩, ⟨(some 19), .move (.t 2), none, .read, 0⟩, ⟨(some 20), .arith .lss (.t 18) (.t 19), none, .read, 0⟩, ⟨(some 21), .move (.t 20), none, .read, 0⟩, ⟨(some 22), .move (.t 0), (some (21, true)), .read, 0⟩, ⟨(some 23), .move (.t 3), (some (21, true)), .read, 0⟩, ⟨(some 24), .move (.t 9), (some (21, true)), .read, 0⟩, ⟨(some 25), .arith .add (.t 23) (.t 24), (some (21, true)), .read, 0⟩, ⟨(some 26), .indexAddr 1 (.t 22) (.t 25), (some (21, true)), .read, 0⟩, ⟨(some 27), .load none (.t 26), (some (21, true)), .read, 0⟩, ⟨(some 28), .move (.t 0), (some (21, true)), .read, 0⟩, ⟨(some 29), .move (.t 3), (some (21, true)), .read, 0⟩, ⟨(some 30), .move (.t 9), (some (21, true)), .read, 0⟩, ⟨(some 31), .arith .add (.t 29) (.t 30), (some (21, true)), .read, 0⟩, ⟨(some 32), .arith .add (.t 31) (.c (.int .i64 1)), (some (21, true)), .read, 0⟩, ⟨(some 33), .indexAddr 1 (.t 28) (.t 32), (some (21, true)), .read, 0⟩, ⟨(some 34), .load none (.t 33), (some (21, true)), .read, 0⟩, ⟨(some 35), .call (.c (.func 224 [])) [(.t 27), (.t 34)], (some (21, true)), .write, 0⟩, ⟨(some 36), .pick (.t 21) (.t 35) (.c (.bool false)), none, .read, 1⟩])
 (.cond (.t 36) (.region [⟨(some 37), .move (.t 9), none, .write, 0⟩, ⟨(some 38), .arith .add (.t 37) (.c (.int .i64 1)), none, .write, 0⟩, ⟨(some 9), .move (.t 38), none, .write, 0⟩]) .skip))
 (.seq (.seq (.draw [⟨(some 39), .move (.t 0), none, .read, 0⟩, ⟨(some 40), .move (.t 3), none, .read, 0⟩, ⟨(some 41), .move (.t 8), none, .read, 0⟩, ⟨(some 42), .arith .add (.t 40) (.t 41), none, .read, 0⟩, ⟨(some 43), .indexAddr 1 (.t 39) (.t 42), none, .read, 0⟩, ⟨(some 44), .load none (.t 43), none, .read, 0⟩, ⟨(some 45), .move (.t 0), none, .read, 0⟩, ⟨(some 46), .move (.t 3), none, .read, 0⟩, ⟨(some 47), .move (.t 9), none, .read, 0⟩, ⟨(some 48), .arith .add (.t 46) (.t 47), none, .read, 0⟩, ⟨(some 49), .indexAddr 1 (.t 45) (.t 48), none, .read, 0⟩, ⟨(some 50), .load none (.t 49), none, .read, 0⟩, ⟨(some 51), .call (.c (.func 224 [])) [(.t 44), (.t 50)], none, .write, 0⟩, ⟨(some 52), .un .not (.t 51), none, .read, 1⟩])
 (.cond (.t 52) .ret .skip))
 (.seq (.draw [⟨(some 61), .move (.t 0), none, .read, 0⟩, ⟨(some 62), .move (.t 3), none, .read, 0⟩, ⟨(some 63), .move (.t 9), none, .read, 0⟩, ⟨(some 64), .arith .add (.t 62) (.t 63), none, .read, 0⟩, ⟨(some 65), .indexAddr 1 (.t 61) (.t 64), none, .read, 0⟩, ⟨(some 66), .load none (.t 65), none, .read, 0⟩, ⟨(some 67), .move (.t 0), none, .read, 0⟩, ⟨(some 68), .move (.t 3), none, .read, 0⟩, ⟨(some 69), .move (.t 8), none, .read, 0⟩, ⟨(some 70), .arith .add (.t 68) (.t 69), none, .read, 0⟩, ⟨(some 71), .indexAddr 1 (.t 67) (.t 70), none, .read, 0⟩, ⟨(some 72), .load none (.t 71), none, .read, 0⟩, ⟨(some 53), .move (.t 0), none, .read, 0⟩, ⟨(some 54), .move (.t 3), none, .read, 0⟩, ⟨(some 55), .move (.t 8), none, .read, 0⟩, ⟨(some 56), .arith .add (.t 54) (.t 55), none, .read, 0⟩, ⟨(some 73), .indexAddr 1 (.t 53) (.t 56), none, .read, 0⟩, ⟨none, .store 1 (.t 73) (.t 66), none, .write, 0⟩, ⟨(some 57), .move (.t 0), none, .read, 0⟩, ⟨(some 58), .move (.t 3), none, .read, 0⟩, ⟨(some 59), .move (.t 9), none, .read, 0⟩, ⟨(some 60), .arith .add (.t 58) (.t 59), none, .read, 0⟩, ⟨(some 74), .indexAddr 1 (.t 57) (.t 60), none, .read, 1⟩, ⟨none, .store 1 (.t 74) (.t 72), none, .write, 1⟩])
 (.region [⟨(some 75), .move (.t 9), none, .write, 0⟩, ⟨(some 8), .move (.t 75), none, .write, 0⟩])))))))))) }

theorem c282 : compFunc Tryz.prog Tryz.f282 .full = some t282 := by kernel_rfl

/-- slices.medianAdjacentOrdered[int] -/
def t283 : DFunc := { ntmps := 15, results := [(.t 6)], mode := .full, body :=
 (.seq (.region [⟨(some 6), .move (.c (.int .i64 0)), none, .write, 0⟩])
 (.seq (.region [⟨(some 7), .move (.t 0), none, .write, 0⟩, ⟨(some 8), .move (.t 1), none, .write, 0⟩, ⟨(some 9), .arith .sub (.t 8) (.c (.int .i64 1)), none, .write, 0⟩, ⟨(some 10), .move (.t 1), none, .write, 0⟩, ⟨(some 11), .move (.t 1), none, .write, 0⟩, ⟨(some 12), .arith .add (.t 11) (.c (.int .i64 1)), none, .write, 0⟩, ⟨(some 13), .move (.t 2), none, .write, 0⟩, ⟨(some 14), .call (.c (.func 284 [])) [(.t 7), (.t 9), (.t 10), (.t 12), (.t 13)], none, .write, 0⟩, ⟨(some 6), .move (.t 14), none, .write, 0⟩])
 .ret)) }

theorem c283 : compFunc Tryz.prog Tryz.f283 .full = some t283 := by kernel_rfl

/-- slices.medianOrdered[int] -/
def t284 : DFunc := { ntmps := 36, results := [(.t 10)], mode := .full, body :=
 (.seq (.region [⟨(some 10), .move (.c (.int .i64 0)), none, .write, 0⟩])
 (.seq (.region [⟨(some 12), .move (.t 0), none, .write, 0⟩, ⟨(some 13), .move (.t 1), none, .write, 0⟩, ⟨(some 14), .move (.t 2), none, .write, 0⟩, ⟨(some 15), .move (.t 4), none, .write, 0⟩, ⟨(some 16), .call (.c (.func 304 [])) [(.t 12), (.t 13), (.t 14), (.t 15)], none, .write, 0⟩, ⟨(some 11), .move (.t 16), none, .write, 0⟩, ⟨(some 17), .extract (.t 11) 0, none, .write, 0⟩, ⟨(some 18), .extract (.t 11) 1, none, .write, 0⟩, ⟨(some 1), .move (.t 17), none, .write, 0⟩, ⟨(some 2), .move (.t 18), none, .write, 0⟩])
 (.seq (.region [⟨(some 20), .move (.t 0), none, .write, 0⟩, ⟨(some 21), .move (.t 2), none, .write, 0⟩, ⟨(some 22), .move (.t 3), none, .write, 0⟩, ⟨(some 23), .move (.t 4), none, .write, 0⟩, ⟨(some 24), .call (.c (.func 304 [])) [(.t 20), (.t 21), (.t 22), (.t 23)], none, .write, 0⟩, ⟨(some 19), .move (.t 24), none, .write, 0⟩, ⟨(some 25), .extract (.t 19) 0, none, .write, 0⟩, ⟨(some 26), .extract (.t 19) 1, none, .write, 0⟩, ⟨(some 2), .move (.t 25), none, .write, 0⟩, ⟨(some 3), .move (.t 26), none, .write, 0⟩])
 (.seq (.region [⟨(some 28), .move (.t 0), none, .write, 0⟩, ⟨(some 29), .move (.t 1), none, .write, 0⟩, ⟨(some 30), .move (.t 2), none, .write, 0⟩, ⟨(some 31), .move (.t 4), none, .write, 0⟩, ⟨(some 32), .call (.c (.func 304 [])) [(.t 28), (.t 29), (.t 30), (.t 31)], none, .write, 0⟩, ⟨(some 27), .move (.t 32), none, .write, 0⟩, ⟨(some 33), .extract (.t 27) 0, none, .write, 0⟩, ⟨(some 34), .extract (.t 27) 1, none, .write, 0⟩, ⟨(some 1), .move (.t 33), none, .write, 0⟩, ⟨(some 2), .move (.t 34), none, .write, 0⟩])
 (.seq (.region [⟨(some 35), .move (.t 2), none, .write, 0⟩, ⟨(some 10), .move (.t 35), none, .write, 0⟩])
 .ret))))) }

theorem c284 : compFunc Tryz.prog Tryz.f284 .full = some t284 := by kernel_rfl

/-- slices.Delete[[]broadside/api.Entry,broadside/api.Entry] -/
def t285 : DFunc := { ntmps := 33, results := [(.t 6)], mode := .full, body :=
 (.seq (.region [⟨(some 6), .move (.c .nsl), none, .write, 0⟩])
 (.seq (.region [⟨(some 8), .move (.t 0), none, .write, 0⟩, ⟨(some 9), .move (.t 1), none, .write, 0⟩, ⟨(some 10), .move (.t 2), none, .write, 0⟩, ⟨(some 11), .move (.t 0), none, .write, 0⟩, ⟨(some 12), .len 1 (.t 11), none, .write, 0⟩, ⟨(some 13), .slice3 (.t 8) (.t 9) (.t 10) (.t 12), none, .write, 0⟩])
 (.seq (.seq (.region [⟨(some 14), .move (.t 1), none, .write, 0⟩, ⟨(some 15), .move (.t 2), none, .write, 0⟩, ⟨(some 16), .arith .eql (.t 14) (.t 15), none, .write, 0⟩])
 (.cond (.t 16) (.seq (.region [⟨(some 17), .move (.t 0), none, .write, 0⟩, ⟨(some 6), .move (.t 17), none, .write, 0⟩])
 .ret) .skip))
 (.seq (.region [⟨(some 18), .move (.t 0), none, .write, 0⟩, ⟨(some 19), .len 1 (.t 18), none, .write, 0⟩, ⟨(some 7), .move (.t 19), none, .write, 0⟩])
 (.seq (.draw [⟨(some 20), .move (.t 0), none, .read, 0⟩, ⟨(some 21), .move (.t 1), none, .read, 0⟩, ⟨(some 22), .sliceSl 7 (.t 20) none (some (.t 21)), none, .read, 0⟩, ⟨(some 23), .move (.t 0), none, .read, 0⟩, ⟨(some 24), .move (.t 2), none, .read, 0⟩, ⟨(some 25), .sliceSl 7 (.t 23) (some (.t 24)) none, none, .read, 0⟩, ⟨(some 26), .append 192 7 72 (.t 22) (.t 25), none, .write, 0⟩, ⟨(some 0), .move (.t 26), none, .read, 1⟩])
 (.seq (.region [⟨(some 27), .move (.t 0), none, .write, 0⟩, ⟨(some 28), .move (.t 0), none, .write, 0⟩, ⟨(some 29), .len 1 (.t 28), none, .write, 0⟩, ⟨(some 30), .move (.t 7), none, .write, 0⟩, ⟨(some 31), .sliceSl 7 (.t 27) (some (.t 29)) (some (.t 30)), none, .write, 0⟩, ⟨none, .clear 7 (.agg [(.int .i64 0), (.int .i64 0), (.int .i64 0), (.int .i64 0), .nsl, (.int .i64 0), (.bool false)]) (.t 31), none, .write, 0⟩])
 (.seq (.region [⟨(some 32), .move (.t 0), none, .write, 0⟩, ⟨(some 6), .move (.t 32), none, .write, 0⟩])
 .ret))))))) }

theorem c285 : compFunc Tryz.prog Tryz.f285 .full = some t285 := by kernel_rfl

/-- slices.Index[[][2]int,[2]int] -/
def t286 : DFunc := { ntmps := 19, results := [(.t 4)], mode := .full, body :=
 (.seq (.region [⟨(some 3), .box 48 2 (.t 1), none, .write, 0⟩, ⟨(some 4), .move (.c (.int .i64 0)), none, .write, 0⟩])
 (.seq (.seq (.region [⟨(some 6), .move (.t 0), none, .write, 0⟩, ⟨(some 7), .len 1 (.t 6), none, .write, 0⟩, ⟨(some 8), .move (.c (.int .i64 0)), none, .write, 0⟩])
 (.block 0 (.loop (.seq (.region [⟨(some 9), .arith .lss (.t 8) (.t 7), none, .write, 0⟩])
 (.seq (.cond (.t 9) .skip (.exit 0))
 (.seq (.block 1 (.seq (.region [⟨(some 10), .move (.t 8), none, .write, 0⟩, ⟨(some 5), .move (.t 10), none, .write, 0⟩])
 (.seq (.draw [⟨(some 11), .load (some 2) (.t 3), none, .read, 0⟩, ⟨(some 12), .move (.t 0), none, .read, 0⟩, ⟨(some 13), .move (.t 5), none, .read, 0⟩, ⟨(some 14), .indexAddr 2 (.t 12) (.t 13), none, .read, 0⟩, ⟨(some 15), .load (some 2) (.t 14), none, .read, 0⟩, ⟨(some 16), .eqa false [1, 1] (.t 11) (.t 15), none, .read, 0⟩])
 (.cond (.t 16) (.seq (.region [⟨(some 17), .move (.t 5), none, .write, 0⟩, ⟨(some 4), .move (.t 17), none, .write, 0⟩])
 .ret) .skip))))
 (.region [⟨(some 18), .arith .add (.t 8) (.c (.int .i64 1)), none, .write, 0⟩, ⟨(some 8), .move (.t 18), none, .write, 0⟩])))))))
 (.seq (.region [⟨(some 4), .move (.c (.int .i64 (-1))), none, .write, 0⟩])
 .ret))) }

theorem c286 : compFunc Tryz.prog Tryz.f286 .full = some t286 := by kernel_rfl

/-- slices.rotateLeft[broadside/api.Advert] -/
def t287 : DFunc := { ntmps := 14, results := [], mode := .full, body :=
 (.seq (.region [⟨(some 4), .move (.t 0), none, .write, 0⟩, ⟨(some 5), .move (.t 1), none, .write, 0⟩, ⟨(some 6), .sliceSl 4 (.t 4) none (some (.t 5)), none, .write, 0⟩, ⟨(some 7), .call (.c (.func 305 [])) [(.t 6)], none, .write, 0⟩])
 (.seq (.region [⟨(some 8), .move (.t 0), none, .write, 0⟩, ⟨(some 9), .move (.t 1), none, .write, 0⟩, ⟨(some 10), .sliceSl 4 (.t 8) (some (.t 9)) none, none, .write, 0⟩, ⟨(some 11), .call (.c (.func 305 [])) [(.t 10)], none, .write, 0⟩])
 (.region [⟨(some 12), .move (.t 0), none, .write, 0⟩, ⟨(some 13), .call (.c (.func 305 [])) [(.t 12)], none, .write, 0⟩]))) }

theorem c287 : compFunc Tryz.prog Tryz.f287 .full = some t287 := by kernel_rfl

/-- slices.rotateLeft[broadside/api.ID] -/
def t288 : DFunc := { ntmps := 14, results := [], mode := .full, body :=
 (.seq (.region [⟨(some 4), .move (.t 0), none, .write, 0⟩, ⟨(some 5), .move (.t 1), none, .write, 0⟩, ⟨(some 6), .sliceSl 2 (.t 4) none (some (.t 5)), none, .write, 0⟩, ⟨(some 7), .call (.c (.func 306 [])) [(.t 6)], none, .write, 0⟩])
 (.seq (.region [⟨(some 8), .move (.t 0), none, .write, 0⟩, ⟨(some 9), .move (.t 1), none, .write, 0⟩, ⟨(some 10), .sliceSl 2 (.t 8) (some (.t 9)) none, none, .write, 0⟩, ⟨(some 11), .call (.c (.func 306 [])) [(.t 10)], none, .write, 0⟩])
 (.region [⟨(some 12), .move (.t 0), none, .write, 0⟩, ⟨(some 13), .call (.c (.func 306 [])) [(.t 12)], none, .write, 0⟩]))) }

theorem c288 : compFunc Tryz.prog Tryz.f288 .full = some t288 := by kernel_rfl

/-- broadside/value.Text -/
def t289 : DFunc := { ntmps := 5, results := [(.cell 2 (some 3))], mode := .full, body :=
 (.seq (.region [⟨(some 2), .alloc 251 3 (.agg [(.bool false), (.int .i64 0), (.str [])]), none, .write, 0⟩])
 (.seq (.region [⟨(some 3), .move (.t 0), none, .write, 0⟩, ⟨(some 4), .build [(.bool false), (.int .i64 0), (.str [])] [(0, 1, (.c (.bool true))), (2, 1, (.t 3))], none, .write, 0⟩, ⟨none, .store 3 (.t 2) (.t 4), none, .write, 0⟩])
 .ret)) }

theorem c289 : compFunc Tryz.prog Tryz.f289 .full = some t289 := by kernel_rfl

/-- broadside/value.Number -/
def t290 : DFunc := { ntmps := 5, results := [(.cell 2 (some 3))], mode := .full, body :=
 (.seq (.region [⟨(some 2), .alloc 251 3 (.agg [(.bool false), (.int .i64 0), (.str [])]), none, .write, 0⟩])
 (.seq (.region [⟨(some 3), .move (.t 0), none, .write, 0⟩, ⟨(some 4), .build [(.bool false), (.int .i64 0), (.str [])] [(1, 1, (.t 3))], none, .write, 0⟩, ⟨none, .store 3 (.t 2) (.t 4), none, .write, 0⟩])
 .ret)) }

theorem c290 : compFunc Tryz.prog Tryz.f290 .full = some t290 := by kernel_rfl

/-- slices.rotateLeft[broadside/api.Entry] -/
def t291 : DFunc := { ntmps := 14, results := [], mode := .full, body :=
 (.seq (.region [⟨(some 4), .move (.t 0), none, .write, 0⟩, ⟨(some 5), .move (.t 1), none, .write, 0⟩, ⟨(some 6), .sliceSl 7 (.t 4) none (some (.t 5)), none, .write, 0⟩, ⟨(some 7), .call (.c (.func 307 [])) [(.t 6)], none, .write, 0⟩])
 (.seq (.region [⟨(some 8), .move (.t 0), none, .write, 0⟩, ⟨(some 9), .move (.t 1), none, .write, 0⟩, ⟨(some 10), .sliceSl 7 (.t 8) (some (.t 9)) none, none, .write, 0⟩, ⟨(some 11), .call (.c (.func 307 [])) [(.t 10)], none, .write, 0⟩])
 (.region [⟨(some 12), .move (.t 0), none, .write, 0⟩, ⟨(some 13), .call (.c (.func 307 [])) [(.t 12)], none, .write, 0⟩]))) }

theorem c291 : compFunc Tryz.prog Tryz.f291 .full = some t291 := by kernel_rfl

/-- slices.Reverse[[]broadside/api.Own,broadside/api.Own] -/
def t292 : DFunc := { ntmps := 28, results := [], mode := .full, body :=
 (.seq (.region [⟨(some 4), .move (.t 0), none, .write, 0⟩, ⟨(some 5), .len 1 (.t 4), none, .write, 0⟩, ⟨(some 6), .arith .sub (.t 5) (.c (.int .i64 1)), none, .write, 0⟩, ⟨(some 2), .move (.c (.int .i64 0)), none, .write, 0⟩, ⟨(some 3), .move (.t 6), none, .write, 0⟩])
 (.block 0 (.loop (.seq (.seq (.region [⟨(some 7), .move (.t 2), none, .write, 0⟩, ⟨(some 8), .move (.t 3), none, .write, 0⟩, ⟨(some 9), .arith .lss (.t 7) (.t 8), none, .write, 0⟩])
 (.cond (.t 9) .skip (.exit 0)))
 (.seq (.block 1 (.draw [⟨(some 18), .move (.t 0), none, .read, 0⟩, ⟨(some 19), .move (.t 3), none, .read, 0⟩, ⟨(some 20), .indexAddr 3 (.t 18) (.t 19), none, .read, 0⟩, ⟨(some 21), .load (some 3) (.t 20), none, .read, 0⟩, ⟨(some 22), .move (.t 0), none, .read, 0⟩, ⟨(some 23), .move (.t 2), none, .read, 0⟩, ⟨(some 24), .indexAddr 3 (.t 22) (.t 23), none, .read, 0⟩, ⟨(some 25), .load (some 3) (.t 24), none, .read, 0⟩, ⟨(some 14), .move (.t 0), none, .read, 0⟩, ⟨(some 15), .move (.t 2), none, .read, 0⟩, ⟨(some 26), .indexAddr 3 (.t 14) (.t 15), none, .read, 0⟩, ⟨none, .store 3 (.t 26) (.t 21), none, .write, 0⟩, ⟨(some 16), .move (.t 0), none, .read, 0⟩, ⟨(some 17), .move (.t 3), none, .read, 0⟩, ⟨(some 27), .indexAddr 3 (.t 16) (.t 17), none, .read, 1⟩, ⟨none, .store 3 (.t 27) (.t 25), none, .write, 1⟩]))
 (.region [⟨(some 10), .move (.t 2), none, .write, 0⟩, ⟨(some 11), .arith .add (.t 10) (.c (.int .i64 1)), none, .write, 0⟩, ⟨(some 12), .move (.t 3), none, .write, 0⟩, ⟨(some 13), .arith .sub (.t 12) (.c (.int .i64 1)), none, .write, 0⟩, ⟨(some 2), .move (.t 11), none, .write, 0⟩, ⟨(some 3), .move (.t 13), none, .write, 0⟩])))))) }

theorem c292 : compFunc Tryz.prog Tryz.f292 .full = some t292 := by kernel_rfl

/-- strings.HasPrefix -/
def t293 : DFunc := { ntmps := 8, results := [(.t 4)], mode := .full, body :=
 (.seq (.region [⟨(some 4), .move (.c (.bool false)), none, .write, 0⟩])
 (.seq (.region [⟨(some 5), .move (.t 0), none, .write, 0⟩, ⟨(some 6), .move (.t 1), none, .write, 0⟩, ⟨(some 7), .call (.c (.func 308 [])) [(.t 5), (.t 6)], none, .write, 0⟩, ⟨(some 4), .move (.t 7), none, .write, 0⟩])
 .ret)) }

theorem c293 : compFunc Tryz.prog Tryz.f293 .full = some t293 := by kernel_rfl

/-- slices.order2CmpFunc[[2]int] -/
def t294 : DFunc := { ntmps := 32, results := [(.t 10), (.t 11)], mode := .full, body :=
 (.seq (.region [⟨(some 10), .move (.c (.int .i64 0)), none, .write, 0⟩, ⟨(some 11), .move (.c (.int .i64 0)), none, .write, 0⟩])
 (.seq (.seq (.draw [⟨(some 13), .move (.t 0), none, .read, 0⟩, ⟨(some 14), .move (.t 2), none, .read, 0⟩, ⟨(some 15), .indexAddr 2 (.t 13) (.t 14), none, .read, 0⟩, ⟨(some 16), .load (some 2) (.t 15), none, .read, 0⟩, ⟨(some 17), .move (.t 0), none, .read, 0⟩, ⟨(some 18), .move (.t 1), none, .read, 0⟩, ⟨(some 19), .indexAddr 2 (.t 17) (.t 18), none, .read, 0⟩, ⟨(some 20), .load (some 2) (.t 19), none, .read, 0⟩, ⟨(some 12), .move (.t 4), none, .read, 0⟩, ⟨(some 21), .call (.t 12) [(.t 16), (.t 20)], none, .write, 0⟩, ⟨(some 22), .arith .lss (.t 21) (.c (.int .i64 0)), none, .read, 1⟩])
 (.cond (.t 22) (.seq (.region [⟨(some 23), .move (.t 3), none, .write, 0⟩, ⟨(some 24), .nilCheck (.t 23), none, .write, 0⟩, ⟨(some 25), .load none (.t 24), none, .write, 0⟩, ⟨(some 26), .arith .add (.t 25) (.c (.int .i64 1)), none, .write, 0⟩, ⟨(some 27), .nilCheck (.t 23), none, .write, 0⟩, ⟨none, .store 1 (.t 27) (.t 26), none, .write, 0⟩])
 (.seq (.region [⟨(some 28), .move (.t 2), none, .write, 0⟩, ⟨(some 29), .move (.t 1), none, .write, 0⟩, ⟨(some 10), .move (.t 28), none, .write, 0⟩, ⟨(some 11), .move (.t 29), none, .write, 0⟩])
 .ret)) .skip))
 (.seq (.region [⟨(some 30), .move (.t 1), none, .write, 0⟩, ⟨(some 31), .move (.t 2), none, .write, 0⟩, ⟨(some 10), .move (.t 30), none, .write, 0⟩, ⟨(some 11), .move (.t 31), none, .write, 0⟩])
 .ret))) }

theorem c294 : compFunc Tryz.prog Tryz.f294 .full = some t294 := by kernel_rfl

/-- (*broadside/num.Reader).take -/
def t295 : DFunc := { ntmps := 38, results := [(.t 4)], mode := .full, body :=
 (.seq (.region [⟨(some 4), .move (.c .nsl), none, .write, 0⟩])
 (.seq (.seq (.region [⟨(some 6), .move (.t 0), none, .write, 0⟩, ⟨(some 7), .nilCheck (.t 6), none, .write, 0⟩, ⟨(some 8), .fieldAddr 1 (.t 7), none, .write, 0⟩, ⟨(some 9), .load none (.t 8), none, .write, 0⟩, ⟨(some 10), .move (.t 9), none, .write, 0⟩, ⟨(some 11), .move (.t 1), (some (10, false)), .write, 0⟩, ⟨(some 12), .move (.t 0), (some (10, false)), .write, 0⟩, ⟨(some 13), .nilCheck (.t 12), (some (10, false)), .write, 0⟩, ⟨(some 14), .fieldAddr 0 (.t 13), (some (10, false)), .write, 0⟩, ⟨(some 15), .load none (.t 14), (some (10, false)), .write, 0⟩, ⟨(some 16), .len 1 (.t 15), (some (10, false)), .write, 0⟩, ⟨(some 17), .arith .gtr (.t 11) (.t 16), (some (10, false)), .write, 0⟩, ⟨(some 18), .pick (.t 10) (.c (.bool true)) (.t 17), none, .write, 0⟩])
 (.cond (.t 18) (.seq (.region [⟨(some 19), .move (.t 0), none, .write, 0⟩, ⟨(some 20), .nilCheck (.t 19), none, .write, 0⟩, ⟨(some 21), .fieldAddr 1 (.t 20), none, .write, 0⟩, ⟨none, .store 1 (.t 21) (.c (.bool true)), none, .write, 0⟩])
 (.seq (.region [⟨(some 4), .move (.c .nsl), none, .write, 0⟩])
 .ret)) .skip))
 (.seq (.region [⟨(some 22), .move (.t 0), none, .write, 0⟩, ⟨(some 23), .nilCheck (.t 22), none, .write, 0⟩, ⟨(some 24), .fieldAddr 0 (.t 23), none, .write, 0⟩, ⟨(some 25), .load none (.t 24), none, .write, 0⟩, ⟨(some 26), .move (.t 1), none, .write, 0⟩, ⟨(some 27), .sliceSl 1 (.t 25) none (some (.t 26)), none, .write, 0⟩, ⟨(some 5), .move (.t 27), none, .write, 0⟩])
 (.seq (.region [⟨(some 28), .move (.t 0), none, .write, 0⟩, ⟨(some 29), .move (.t 0), none, .write, 0⟩, ⟨(some 30), .nilCheck (.t 29), none, .write, 0⟩, ⟨(some 31), .fieldAddr 0 (.t 30), none, .write, 0⟩, ⟨(some 32), .load none (.t 31), none, .write, 0⟩, ⟨(some 33), .move (.t 1), none, .write, 0⟩, ⟨(some 34), .sliceSl 1 (.t 32) (some (.t 33)) none, none, .write, 0⟩, ⟨(some 35), .nilCheck (.t 28), none, .write, 0⟩, ⟨(some 36), .fieldAddr 0 (.t 35), none, .write, 0⟩, ⟨none, .store 1 (.t 36) (.t 34), none, .write, 0⟩])
 (.seq (.region [⟨(some 37), .move (.t 5), none, .write, 0⟩, ⟨(some 4), .move (.t 37), none, .write, 0⟩])
 .ret))))) }

theorem c295 : compFunc Tryz.prog Tryz.f295 .full = some t295 := by kernel_rfl

/-- (*broadside/num.Reader).Number -/
def t296 : DFunc := { ntmps := 21, results := [(.t 2)], mode := .full, body :=
 (.seq (.region [⟨(some 2), .move (.c (.int .i64 0)), none, .write, 0⟩])
 (.seq (.region [⟨(some 3), .move (.c (.int .u64 0)), none, .write, 0⟩])
 (.seq (.seq (.region [⟨(some 6), .move (.t 0), none, .write, 0⟩, ⟨(some 7), .call (.c (.func 295 [])) [(.t 6), (.c (.int .i64 8))], none, .write, 0⟩, ⟨(some 8), .len 1 (.t 7), none, .write, 0⟩, ⟨(some 9), .move (.c (.int .i64 0)), none, .write, 0⟩])
 (.block 0 (.loop (.seq (.region [⟨(some 10), .arith .lss (.t 9) (.t 8), none, .write, 0⟩])
 (.seq (.cond (.t 10) .skip (.exit 0))
 (.seq (.block 1 (.seq (.region [⟨(some 11), .indexAddr 1 (.t 7) (.t 9), none, .write, 0⟩, ⟨(some 12), .load none (.t 11), none, .write, 0⟩, ⟨(some 5), .move (.t 12), none, .write, 0⟩])
 (.region [⟨(some 13), .move (.t 3), none, .write, 0⟩, ⟨(some 14), .arith .shl (.t 13) (.c (.int .u64 8)), none, .write, 0⟩, ⟨(some 15), .move (.t 5), none, .write, 0⟩, ⟨(some 16), .conv .u64 (.t 15), none, .write, 0⟩, ⟨(some 17), .arith .or (.t 14) (.t 16), none, .write, 0⟩, ⟨(some 3), .move (.t 17), none, .write, 0⟩])))
 (.region [⟨(some 18), .arith .add (.t 9) (.c (.int .i64 1)), none, .write, 0⟩, ⟨(some 9), .move (.t 18), none, .write, 0⟩])))))))
 (.seq (.region [⟨(some 19), .move (.t 3), none, .write, 0⟩, ⟨(some 20), .conv .i64 (.t 19), none, .write, 0⟩, ⟨(some 2), .move (.t 20), none, .write, 0⟩])
 .ret)))) }

theorem c296 : compFunc Tryz.prog Tryz.f296 .full = some t296 := by kernel_rfl

/-- (*broadside/num.Reader).Text -/
def t297 : DFunc := { ntmps := 9, results := [(.t 2)], mode := .full, body :=
 (.seq (.region [⟨(some 2), .move (.c (.str [])), none, .write, 0⟩])
 (.seq (.region [⟨(some 3), .move (.t 0), none, .write, 0⟩, ⟨(some 4), .move (.t 0), none, .write, 0⟩, ⟨(some 5), .call (.c (.func 258 [])) [(.t 4)], none, .write, 0⟩, ⟨(some 6), .conv .i64 (.t 5), none, .write, 0⟩, ⟨(some 7), .call (.c (.func 295 [])) [(.t 3), (.t 6)], none, .write, 0⟩, ⟨(some 8), .extract (.c .nilp) 0, none, .write, 0⟩, ⟨(some 2), .move (.t 8), none, .write, 0⟩])
 .ret)) }

theorem c297 : compFunc Tryz.prog Tryz.f297 .full = some t297 := by kernel_rfl

/-- broadside/num.Number -/
def t298 : DFunc := { ntmps := 27, results := [(.t 2)], mode := .full, body :=
 (.seq (.region [⟨(some 2), .move (.c .nsl), none, .write, 0⟩])
 (.seq (.region [⟨(some 3), .move (.c .nsl), none, .write, 0⟩])
 (.seq (.seq (.region [⟨(some 7), .move (.t 0), none, .write, 0⟩, ⟨(some 8), .len 1 (.t 7), none, .write, 0⟩, ⟨(some 9), .move (.c (.int .i64 0)), none, .write, 0⟩])
 (.block 0 (.loop (.seq (.region [⟨(some 10), .arith .lss (.t 9) (.t 8), none, .write, 0⟩])
 (.seq (.cond (.t 10) .skip (.exit 0))
 (.seq (.block 1 (.seq (.region [⟨(some 11), .indexAddr 1 (.t 7) (.t 9), none, .write, 0⟩, ⟨(some 12), .load none (.t 11), none, .write, 0⟩, ⟨(some 5), .move (.t 12), none, .write, 0⟩])
 (.seq (.region [⟨(some 6), .move (.c (.int .i64 7)), none, .write, 0⟩])
 (.block 2 (.loop (.seq (.seq (.region [⟨(some 13), .move (.t 6), none, .write, 0⟩, ⟨(some 14), .arith .geq (.t 13) (.c (.int .i64 0)), none, .write, 0⟩])
 (.cond (.t 14) .skip (.exit 2)))
 (.seq (.block 3 (.region [⟨(some 17), .move (.t 3), none, .write, 0⟩, ⟨(some 18), .move (.t 5), none, .write, 0⟩, ⟨(some 19), .move (.t 6), none, .write, 0⟩, ⟨(some 20), .arith .mul (.c (.int .i64 8)) (.t 19), none, .write, 0⟩, ⟨(some 21), .arith .shr (.t 18) (.t 20), none, .write, 0⟩, ⟨(some 22), .conv .u8 (.t 21), none, .write, 0⟩, ⟨(some 23), .buildSlice 5 1 (.int .u8 0) 1 [(0, (.t 22))], none, .write, 0⟩, ⟨(some 24), .append 5 1 1 (.t 17) (.t 23), none, .write, 0⟩, ⟨(some 3), .move (.t 24), none, .write, 0⟩]))
 (.region [⟨(some 15), .move (.t 6), none, .write, 0⟩, ⟨(some 16), .arith .sub (.t 15) (.c (.int .i64 1)), none, .write, 0⟩, ⟨(some 6), .move (.t 16), none, .write, 0⟩]))))))))
 (.region [⟨(some 25), .arith .add (.t 9) (.c (.int .i64 1)), none, .write, 0⟩, ⟨(some 9), .move (.t 25), none, .write, 0⟩])))))))
 (.seq (.region [⟨(some 26), .move (.t 3), none, .write, 0⟩, ⟨(some 2), .move (.t 26), none, .write, 0⟩])
 .ret)))) }

theorem c298 : compFunc Tryz.prog Tryz.f298 .full = some t298 := by kernel_rfl

/-- internal/bytealg.CompareString -/
def t300 : DFunc := { ntmps := 8, results := [(.t 4)], mode := .full, body :=
 (.seq (.region [⟨(some 4), .move (.c (.int .i64 0)), none, .write, 0⟩])
 (.seq (.region [⟨(some 5), .move (.t 0), none, .write, 0⟩, ⟨(some 6), .move (.t 1), none, .write, 0⟩, ⟨(some 7), .call (.c (.func 309 [])) [(.t 5), (.t 6)], none, .write, 0⟩, ⟨(some 4), .move (.t 7), none, .write, 0⟩])
 .ret)) }

theorem c300 : compFunc Tryz.prog Tryz.f300 .full = some t300 := by kernel_rfl

/-- slices.rotateRight[broadside/api.Constraint] -/
def t302 : DFunc := { ntmps := 10, results := [], mode := .full, body :=
 (.region [⟨(some 4), .move (.t 0), none, .write, 0⟩, ⟨(some 5), .move (.t 0), none, .write, 0⟩, ⟨(some 6), .len 1 (.t 5), none, .write, 0⟩, ⟨(some 7), .move (.t 1), none, .write, 0⟩, ⟨(some 8), .arith .sub (.t 6) (.t 7), none, .write, 0⟩, ⟨(some 9), .call (.c (.func 310 [])) [(.t 4), (.t 8)], none, .write, 0⟩]) }

theorem c302 : compFunc Tryz.prog Tryz.f302 .full = some t302 := by kernel_rfl

/-- slices.Delete[[]broadside/api.Own,broadside/api.Own] -/
def t303 : DFunc := { ntmps := 33, results := [(.t 6)], mode := .full, body :=
 (.seq (.region [⟨(some 6), .move (.c .nsl), none, .write, 0⟩])
 (.seq (.region [⟨(some 8), .move (.t 0), none, .write, 0⟩, ⟨(some 9), .move (.t 1), none, .write, 0⟩, ⟨(some 10), .move (.t 2), none, .write, 0⟩, ⟨(some 11), .move (.t 0), none, .write, 0⟩, ⟨(some 12), .len 1 (.t 11), none, .write, 0⟩, ⟨(some 13), .slice3 (.t 8) (.t 9) (.t 10) (.t 12), none, .write, 0⟩])
 (.seq (.seq (.region [⟨(some 14), .move (.t 1), none, .write, 0⟩, ⟨(some 15), .move (.t 2), none, .write, 0⟩, ⟨(some 16), .arith .eql (.t 14) (.t 15), none, .write, 0⟩])
 (.cond (.t 16) (.seq (.region [⟨(some 17), .move (.t 0), none, .write, 0⟩, ⟨(some 6), .move (.t 17), none, .write, 0⟩])
 .ret) .skip))
 (.seq (.region [⟨(some 18), .move (.t 0), none, .write, 0⟩, ⟨(some 19), .len 1 (.t 18), none, .write, 0⟩, ⟨(some 7), .move (.t 19), none, .write, 0⟩])
 (.seq (.draw [⟨(some 20), .move (.t 0), none, .read, 0⟩, ⟨(some 21), .move (.t 1), none, .read, 0⟩, ⟨(some 22), .sliceSl 3 (.t 20) none (some (.t 21)), none, .read, 0⟩, ⟨(some 23), .move (.t 0), none, .read, 0⟩, ⟨(some 24), .move (.t 2), none, .read, 0⟩, ⟨(some 25), .sliceSl 3 (.t 23) (some (.t 24)) none, none, .read, 0⟩, ⟨(some 26), .append 189 3 40 (.t 22) (.t 25), none, .write, 0⟩, ⟨(some 0), .move (.t 26), none, .read, 1⟩])
 (.seq (.region [⟨(some 27), .move (.t 0), none, .write, 0⟩, ⟨(some 28), .move (.t 0), none, .write, 0⟩, ⟨(some 29), .len 1 (.t 28), none, .write, 0⟩, ⟨(some 30), .move (.t 7), none, .write, 0⟩, ⟨(some 31), .sliceSl 3 (.t 27) (some (.t 29)) (some (.t 30)), none, .write, 0⟩, ⟨none, .clear 3 (.agg [(.int .i64 0), (.int .i64 0), .nsl]) (.t 31), none, .write, 0⟩])
 (.seq (.region [⟨(some 32), .move (.t 0), none, .write, 0⟩, ⟨(some 6), .move (.t 32), none, .write, 0⟩])
 .ret))))))) }

theorem c303 : compFunc Tryz.prog Tryz.f303 .full = some t303 := by kernel_rfl

/-- slices.order2Ordered[int] -/
def t304 : DFunc := { ntmps := 28, results := [(.t 8), (.t 9)], mode := .full, body :=
 (.seq (.region [⟨(some 8), .move (.c (.int .i64 0)), none, .write, 0⟩, ⟨(some 9), .move (.c (.int .i64 0)), none, .write, 0⟩])
 (.seq (.seq (.draw [⟨(some 10), .move (.t 0), none, .read, 0⟩, ⟨(some 11), .move (.t 2), none, .read, 0⟩, ⟨(some 12), .indexAddr 1 (.t 10) (.t 11), none, .read, 0⟩, ⟨(some 13), .load none (.t 12), none, .read, 0⟩, ⟨(some 14), .move (.t 0), none, .read, 0⟩, ⟨(some 15), .move (.t 1), none, .read, 0⟩, ⟨(some 16), .indexAddr 1 (.t 14) (.t 15), none, .read, 0⟩, ⟨(some 17), .load none (.t 16), none, .read, 0⟩, ⟨(some 18), .call (.c (.func 224 [])) [(.t 13), (.t 17)], none, .write, 0⟩])
 (.cond (.t 18) (.seq (.region [⟨(some 19), .move (.t 3), none, .write, 0⟩, ⟨(some 20), .nilCheck (.t 19), none, .write, 0⟩, ⟨(some 21), .load none (.t 20), none, .write, 0⟩, ⟨(some 22), .arith .add (.t 21) (.c (.int .i64 1)), none, .write, 0⟩, ⟨(some 23), .nilCheck (.t 19), none, .write, 0⟩, ⟨none, .store 1 (.t 23) (.t 22), none, .write, 0⟩])
 (.seq (.region [⟨(some 24), .move (.t 2), none, .write, 0⟩, ⟨(some 25), .move (.t 1), none, .write, 0⟩, ⟨(some 8), .move (.t 24), none, .write, 0⟩, ⟨(some 9), .move (.t 25), none, .write, 0⟩])
 .ret)) .skip))
 (.seq (.region [⟨(some 26), .move (.t 1), none, .write, 0⟩, ⟨(some 27), .move (.t 2), none, .write, 0⟩, ⟨(some 8), .move (.t 26), none, .write, 0⟩, ⟨(some 9), .move (.t 27), none, .write, 0⟩])
 .ret))) }

theorem c304 : compFunc Tryz.prog Tryz.f304 .full = some t304 := by kernel_rfl

/-- slices.Reverse[[]broadside/api.Advert,broadside/api.Advert] -/
def t305 : DFunc := { ntmps := 28, results := [], mode := .full, body :=
 (.seq (.region [⟨(some 4), .move (.t 0), none, .write, 0⟩, ⟨(some 5), .len 1 (.t 4), none, .write, 0⟩, ⟨(some 6), .arith .sub (.t 5) (.c (.int .i64 1)), none, .write, 0⟩, ⟨(some 2), .move (.c (.int .i64 0)), none, .write, 0⟩, ⟨(some 3), .move (.t 6), none, .write, 0⟩])
 (.block 0 (.loop (.seq (.seq (.region [⟨(some 7), .move (.t 2), none, .write, 0⟩, ⟨(some 8), .move (.t 3), none, .write, 0⟩, ⟨(some 9), .arith .lss (.t 7) (.t 8), none, .write, 0⟩])
 (.cond (.t 9) .skip (.exit 0)))
 (.seq (.block 1 (.draw [⟨(some 18), .move (.t 0), none, .read, 0⟩, ⟨(some 19), .move (.t 3), none, .read, 0⟩, ⟨(some 20), .indexAddr 4 (.t 18) (.t 19), none, .read, 0⟩, ⟨(some 21), .load (some 4) (.t 20), none, .read, 0⟩, ⟨(some 22), .move (.t 0), none, .read, 0⟩, ⟨(some 23), .move (.t 2), none, .read, 0⟩, ⟨(some 24), .indexAddr 4 (.t 22) (.t 23), none, .read, 0⟩, ⟨(some 25), .load (some 4) (.t 24), none, .read, 0⟩, ⟨(some 14), .move (.t 0), none, .read, 0⟩, ⟨(some 15), .move (.t 2), none, .read, 0⟩, ⟨(some 26), .indexAddr 4 (.t 14) (.t 15), none, .read, 0⟩, ⟨none, .store 4 (.t 26) (.t 21), none, .write, 0⟩, ⟨(some 16), .move (.t 0), none, .read, 0⟩, ⟨(some 17), .move (.t 3), none, .read, 0⟩, ⟨(some 27), .indexAddr 4 (.t 16) (.t 17), none, .read, 1⟩, ⟨none, .store 4 (.t 27) (.t 25), none, .write, 1⟩]))
 (.region [⟨(some 10), .move (.t 2), none, .write, 0⟩, ⟨(some 11), .arith .add (.t 10) (.c (.int .i64 1)), none, .write, 0⟩, ⟨(some 12), .move (.t 3), none, .write, 0⟩, ⟨(some 13), .arith .sub (.t 12) (.c (.int .i64 1)), none, .write, 0⟩, ⟨(some 2), .move (.t 11), none, .write, 0⟩, ⟨(some 3), .move (.t 13), none, .write, 0⟩])))))) }

theorem c305 : compFunc Tryz.prog Tryz.f305 .full = some t305 := by kernel_rfl

/-- slices.Reverse[[]broadside/api.ID,broadside/api.ID] -/
def t306 : DFunc := { ntmps := 28, results := [], mode := .full, body :=
 (.seq (.region [⟨(some 4), .move (.t 0), none, .write, 0⟩, ⟨(some 5), .len 1 (.t 4), none, .write, 0⟩, ⟨(some 6), .arith .sub (.t 5) (.c (.int .i64 1)), none, .write, 0⟩, ⟨(some 2), .move (.c (.int .i64 0)), none, .write, 0⟩, ⟨(some 3), .move (.t 6), none, .write, 0⟩])
 (.block 0 (.loop (.seq (.seq (.region [⟨(some 7), .move (.t 2), none, .write, 0⟩, ⟨(some 8), .move (.t 3), none, .write, 0⟩, ⟨(some 9), .arith .lss (.t 7) (.t 8), none, .write, 0⟩])
 (.cond (.t 9) .skip (.exit 0)))
 (.seq (.block 1 (.draw [⟨(some 18), .move (.t 0), none, .read, 0⟩, ⟨(some 19), .move (.t 3), none, .read, 0⟩, ⟨(some 20), .indexAddr 2 (.t 18) (.t 19), none, .read, 0⟩, ⟨(some 21), .load (some 2) (.t 20), none, .read, 0⟩, ⟨(some 22), .move (.t 0), none, .read, 0⟩, ⟨(some 23), .move (.t 2), none, .read, 0⟩, ⟨(some 24), .indexAddr 2 (.t 22) (.t 23), none, .read, 0⟩, ⟨(some 25), .load (some 2) (.t 24), none, .read, 0⟩, ⟨(some 14), .move (.t 0), none, .read, 0⟩, ⟨(some 15), .move (.t 2), none, .read, 0⟩, ⟨(some 26), .indexAddr 2 (.t 14) (.t 15), none, .read, 0⟩, ⟨none, .store 2 (.t 26) (.t 21), none, .write, 0⟩, ⟨(some 16), .move (.t 0), none, .read, 0⟩, ⟨(some 17), .move (.t 3), none, .read, 0⟩, ⟨(some 27), .indexAddr 2 (.t 16) (.t 17), none, .read, 1⟩, ⟨none, .store 2 (.t 27) (.t 25), none, .write, 1⟩]))
 (.region [⟨(some 10), .move (.t 2), none, .write, 0⟩, ⟨(some 11), .arith .add (.t 10) (.c (.int .i64 1)), none, .write, 0⟩, ⟨(some 12), .move (.t 3), none, .write, 0⟩, ⟨(some 13), .arith .sub (.t 12) (.c (.int .i64 1)), none, .write, 0⟩, ⟨(some 2), .move (.t 11), none, .write, 0⟩, ⟨(some 3), .move (.t 13), none, .write, 0⟩])))))) }

theorem c306 : compFunc Tryz.prog Tryz.f306 .full = some t306 := by kernel_rfl

/-- slices.Reverse[[]broadside/api.Entry,broadside/api.Entry] -/
def t307 : DFunc := { ntmps := 28, results := [], mode := .full, body :=
 (.seq (.region [⟨(some 4), .move (.t 0), none, .write, 0⟩, ⟨(some 5), .len 1 (.t 4), none, .write, 0⟩, ⟨(some 6), .arith .sub (.t 5) (.c (.int .i64 1)), none, .write, 0⟩, ⟨(some 2), .move (.c (.int .i64 0)), none, .write, 0⟩, ⟨(some 3), .move (.t 6), none, .write, 0⟩])
 (.block 0 (.loop (.seq (.seq (.region [⟨(some 7), .move (.t 2), none, .write, 0⟩, ⟨(some 8), .move (.t 3), none, .write, 0⟩, ⟨(some 9), .arith .lss (.t 7) (.t 8), none, .write, 0⟩])
 (.cond (.t 9) .skip (.exit 0)))
 (.seq (.block 1 (.draw [⟨(some 18), .move (.t 0), none, .read, 0⟩, ⟨(some 19), .move (.t 3), none, .read, 0⟩, ⟨(some 20), .indexAddr 7 (.t 18) (.t 19), none, .read, 0⟩, ⟨(some 21), .load (some 7) (.t 20), none, .read, 0⟩, ⟨(some 22), .move (.t 0), none, .read, 0⟩, ⟨(some 23), .move (.t 2), none, .read, 0⟩, ⟨(some 24), .indexAddr 7 (.t 22) (.t 23), none, .read, 0⟩, ⟨(some 25), .load (some 7) (.t 24), none, .read, 0⟩, ⟨(some 14), .move (.t 0), none, .read, 0⟩, ⟨(some 15), .move (.t 2), none, .read, 0⟩, ⟨(some 26), .indexAddr 7 (.t 14) (.t 15), none, .read, 0⟩, ⟨none, .store 7 (.t 26) (.t 21), none, .write, 0⟩, ⟨(some 16), .move (.t 0), none, .read, 0⟩, ⟨(some 17), .move (.t 3), none, .read, 0⟩, ⟨(some 27), .indexAddr 7 (.t 16) (.t 17), none, .read, 1⟩, ⟨none, .store 7 (.t 27) (.t 25), none, .write, 1⟩]))
 (.region [⟨(some 10), .move (.t 2), none, .write, 0⟩, ⟨(some 11), .arith .add (.t 10) (.c (.int .i64 1)), none, .write, 0⟩, ⟨(some 12), .move (.t 3), none, .write, 0⟩, ⟨(some 13), .arith .sub (.t 12) (.c (.int .i64 1)), none, .write, 0⟩, ⟨(some 2), .move (.t 11), none, .write, 0⟩, ⟨(some 3), .move (.t 13), none, .write, 0⟩])))))) }

theorem c307 : compFunc Tryz.prog Tryz.f307 .full = some t307 := by kernel_rfl

/-- internal/stringslite.HasPrefix -/
def t308 : DFunc := { ntmps := 18, results := [(.t 4)], mode := .full, body :=
 (.seq (.region [⟨(some 4), .move (.c (.bool false)), none, .write, 0⟩])
 (.seq (.region [⟨(some 5), .move (.t 0), none, .write, 0⟩, ⟨(some 6), .len 0 (.t 5), none, .write, 0⟩, ⟨(some 7), .move (.t 1), none, .write, 0⟩, ⟨(some 8), .len 0 (.t 7), none, .write, 0⟩, ⟨(some 9), .arith .geq (.t 6) (.t 8), none, .write, 0⟩, ⟨(some 10), .move (.t 9), none, .write, 0⟩, ⟨(some 11), .move (.t 0), (some (10, true)), .write, 0⟩, ⟨(some 12), .move (.t 1), (some (10, true)), .write, 0⟩, ⟨(some 13), .len 0 (.t 12), (some (10, true)), .write, 0⟩, ⟨(some 14), .sliceStr (.t 11) none (some (.t 13)), (some (10, true)), .write, 0⟩, ⟨(some 15), .move (.t 1), (some (10, true)), .write, 0⟩, ⟨(some 16), .arith .eql (.t 14) (.t 15), (some (10, true)), .write, 0⟩, ⟨(some 17), .pick (.t 10) (.t 16) (.c (.bool false)), none, .write, 0⟩, ⟨(some 4), .move (.t 17), none, .write, 0⟩])
 .ret)) }

theorem c308 : compFunc Tryz.prog Tryz.f308 .full = some t308 := by kernel_rfl

/-- slices.rotateLeft[broadside/api.Constraint] -/
def t310 : DFunc := { ntmps := 14, results := [], mode := .full, body :=
 (.seq (.region [⟨(some 4), .move (.t 0), none, .write, 0⟩, ⟨(some 5), .move (.t 1), none, .write, 0⟩, ⟨(some 6), .sliceSl 5 (.t 4) none (some (.t 5)), none, .write, 0⟩, ⟨(some 7), .call (.c (.func 311 [])) [(.t 6)], none, .write, 0⟩])
 (.seq (.region [⟨(some 8), .move (.t 0), none, .write, 0⟩, ⟨(some 9), .move (.t 1), none, .write, 0⟩, ⟨(some 10), .sliceSl 5 (.t 8) (some (.t 9)) none, none, .write, 0⟩, ⟨(some 11), .call (.c (.func 311 [])) [(.t 10)], none, .write, 0⟩])
 (.region [⟨(some 12), .move (.t 0), none, .write, 0⟩, ⟨(some 13), .call (.c (.func 311 [])) [(.t 12)], none, .write, 0⟩]))) }

theorem c310 : compFunc Tryz.prog Tryz.f310 .full = some t310 := by kernel_rfl

/-- slices.Reverse[[]broadside/api.Constraint,broadside/api.Constraint] -/
def t311 : DFunc := { ntmps := 28, results := [], mode := .full, body :=
 (.seq (.region [⟨(some 4), .move (.t 0), none, .write, 0⟩, ⟨(some 5), .len 1 (.t 4), none, .write, 0⟩, ⟨(some 6), .arith .sub (.t 5) (.c (.int .i64 1)), none, .write, 0⟩, ⟨(some 2), .move (.c (.int .i64 0)), none, .write, 0⟩, ⟨(some 3), .move (.t 6), none, .write, 0⟩])
 (.block 0 (.loop (.seq (.seq (.region [⟨(some 7), .move (.t 2), none, .write, 0⟩, ⟨(some 8), .move (.t 3), none, .write, 0⟩, ⟨(some 9), .arith .lss (.t 7) (.t 8), none, .write, 0⟩])
 (.cond (.t 9) .skip (.exit 0)))
 (.seq (.block 1 (.draw [⟨(some 18), .move (.t 0), none, .read, 0⟩, ⟨(some 19), .move (.t 3), none, .read, 0⟩, ⟨(some 20), .indexAddr 5 (.t 18) (.t 19), none, .read, 0⟩, ⟨(some 21), .load (some 5) (.t 20), none, .read, 0⟩, ⟨(some 22), .move (.t 0), none, .read, 0⟩, ⟨(some 23), .move (.t 2), none, .read, 0⟩, ⟨(some 24), .indexAddr 5 (.t 22) (.t 23), none, .read, 0⟩, ⟨(some 25), .load (some 5) (.t 24), none, .read, 0⟩, ⟨(some 14), .move (.t 0), none, .read, 0⟩, ⟨(some 15), .move (.t 2), none, .read, 0⟩, ⟨(some 26), .indexAddr 5 (.t 14) (.t 15), none, .read, 0⟩, ⟨none, .store 5 (.t 26) (.t 21), none, .write, 0⟩, ⟨(some 16), .move (.t 0), none, .read, 0⟩, ⟨(some 17), .move (.t 3), none, .read, 0⟩, ⟨(some 27), .indexAddr 5 (.t 16) (.t 17), none, .read, 1⟩, ⟨none, .store 5 (.t 27) (.t 25), none, .write, 1⟩]))
 (.region [⟨(some 10), .move (.t 2), none, .write, 0⟩, ⟨(some 11), .arith .add (.t 10) (.c (.int .i64 1)), none, .write, 0⟩, ⟨(some 12), .move (.t 3), none, .write, 0⟩, ⟨(some 13), .arith .sub (.t 12) (.c (.int .i64 1)), none, .write, 0⟩, ⟨(some 2), .move (.t 11), none, .write, 0⟩, ⟨(some 3), .move (.t 13), none, .write, 0⟩])))))) }

theorem c311 : compFunc Tryz.prog Tryz.f311 .full = some t311 := by kernel_rfl

end Go.Dm.TabW
