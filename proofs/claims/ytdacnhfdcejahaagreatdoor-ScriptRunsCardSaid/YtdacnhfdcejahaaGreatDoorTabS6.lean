/-
The table of functions, brought into the machine's form (TabS, part 6). Written by program (wip/tools/table.lean.txt).
-/
import Derived.Test.YtdacnhfdcejahaaGreatDoorDm32
import Derived.Test.YtdacnhfdcejahaaGreatDoorRows
import Derived.KernelRfl
namespace Go.Dm.TabS
open Go.Proofs

/-- slices.rotateLeft[broadside/api.ID] -/
def t328 : DFunc := { ntmps := 14, results := [], mode := .full, body :=
 (.seq (.region [⟨(some 4), .move (.t 0), none, .write, 0⟩, ⟨(some 5), .move (.t 1), none, .write, 0⟩, ⟨(some 6), .sliceSl 2 (.t 4) none (some (.t 5)), none, .write, 0⟩, ⟨(some 7), .call (.c (.func 349 [])) [(.t 6)], none, .write, 0⟩])
 (.seq (.region [⟨(some 8), .move (.t 0), none, .write, 0⟩, ⟨(some 9), .move (.t 1), none, .write, 0⟩, ⟨(some 10), .sliceSl 2 (.t 8) (some (.t 9)) none, none, .write, 0⟩, ⟨(some 11), .call (.c (.func 349 [])) [(.t 10)], none, .write, 0⟩])
 (.region [⟨(some 12), .move (.t 0), none, .write, 0⟩, ⟨(some 13), .call (.c (.func 349 [])) [(.t 12)], none, .write, 0⟩]))) }

theorem c328 : compFunc Tryz.prog Tryz.f328 .full = some t328 := by kernel_rfl

/-- slices.rotateLeft[broadside/api.Entry] -/
def t329 : DFunc := { ntmps := 14, results := [], mode := .full, body :=
 (.seq (.region [⟨(some 4), .move (.t 0), none, .write, 0⟩, ⟨(some 5), .move (.t 1), none, .write, 0⟩, ⟨(some 6), .sliceSl 7 (.t 4) none (some (.t 5)), none, .write, 0⟩, ⟨(some 7), .call (.c (.func 350 [])) [(.t 6)], none, .write, 0⟩])
 (.seq (.region [⟨(some 8), .move (.t 0), none, .write, 0⟩, ⟨(some 9), .move (.t 1), none, .write, 0⟩, ⟨(some 10), .sliceSl 7 (.t 8) (some (.t 9)) none, none, .write, 0⟩, ⟨(some 11), .call (.c (.func 350 [])) [(.t 10)], none, .write, 0⟩])
 (.region [⟨(some 12), .move (.t 0), none, .write, 0⟩, ⟨(some 13), .call (.c (.func 350 [])) [(.t 12)], none, .write, 0⟩]))) }

theorem c329 : compFunc Tryz.prog Tryz.f329 .full = some t329 := by kernel_rfl

/-- slices.Index[[][2]int,[2]int] -/
def t330 : DFunc := { ntmps := 19, results := [(.t 4)], mode := .full, body :=
 (.seq (.region [⟨(some 3), .box 64 2 (.t 1), none, .write, 0⟩, ⟨(some 4), .move (.c (.int .i64 0)), none, .write, 0⟩])
 (.seq (.seq (.region [⟨(some 6), .move (.t 0), none, .write, 0⟩, ⟨(some 7), .len 1 (.t 6), none, .write, 0⟩, ⟨(some 8), .move (.c (.int .i64 0)), none, .write, 0⟩])
 (.block 0 (.loop (.seq (.region [⟨(some 9), .arith .lss (.t 8) (.t 7), none, .write, 0⟩])
 (.seq (.cond (.t 9) .skip (.exit 0))
 (.seq (.block 1 (.seq (.region [⟨(some 10), .move (.t 8), none, .write, 0⟩, ⟨(some 5), .move (.t 10), none, .write, 0⟩])
 (.seq (.draw [⟨(some 11), .load (some 2) (.t 3), none, .read, 0⟩, ⟨(some 12), .move (.t 0), none, .read, 0⟩, ⟨(some 13), .move (.t 5), none, .read, 0⟩, ⟨(some 14), .indexAddr 2 (.t 12) (.t 13), none, .read, 0⟩, ⟨(some 15), .load (some 2) (.t 14), none, .read, 0⟩, ⟨(some 16), .eqa false [1, 1] (.t 11) (.t 15), none, .read, 0⟩])
 (.cond (.t 16) (.seq (.region [⟨(some 17), .move (.t 5), none, .write, 0⟩, ⟨(some 4), .move (.t 17), none, .write, 0⟩])
 .ret) .skip))))
 (.region [⟨(some 18), .arith .add (.t 8) (.c (.int .i64 1)), none, .write, 0⟩, ⟨(some 8), .move (.t 18), none, .write, 0⟩])))))))
 (.seq (.region [⟨(some 4), .move (.c (.int .i64 (-1))), none, .write, 0⟩])
 .ret))) }

theorem c330 : compFunc Tryz.prog Tryz.f330 .full = some t330 := by kernel_rfl

/-- slices.Reverse[[]broadside/api.Own,broadside/api.Own] -/
def t331 : DFunc := { ntmps := 28, results := [], mode := .full, body :=
 (.seq (.region [⟨(some 4), .move (.t 0), none, .write, 0⟩, ⟨(some 5), .len 1 (.t 4), none, .write, 0⟩, ⟨(some 6), .arith .sub (.t 5) (.c (.int .i64 1)), none, .write, 0⟩, ⟨(some 2), .move (.c (.int .i64 0)), none, .write, 0⟩, ⟨(some 3), .move (.t 6), none, .write, 0⟩])
 (.block 0 (.loop (.seq (.seq (.region [⟨(some 7), .move (.t 2), none, .write, 0⟩, ⟨(some 8), .move (.t 3), none, .write, 0⟩, ⟨(some 9), .arith .lss (.t 7) (.t 8), none, .write, 0⟩])
 (.cond (.t 9) .skip (.exit 0)))
 (.seq (.block 1 (.draw [⟨(some 18), .move (.t 0), none, .read, 0⟩, ⟨(some 19), .move (.t 3), none, .read, 0⟩, ⟨(some 20), .indexAddr 3 (.t 18) (.t 19), none, .read, 0⟩, ⟨(some 21), .load (some 3) (.t 20), none, .read, 0⟩, ⟨(some 22), .move (.t 0), none, .read, 0⟩, ⟨(some 23), .move (.t 2), none, .read, 0⟩, ⟨(some 24), .indexAddr 3 (.t 22) (.t 23), none, .read, 0⟩, ⟨(some 25), .load (some 3) (.t 24), none, .read, 0⟩, ⟨(some 14), .move (.t 0), none, .read, 0⟩, ⟨(some 15), .move (.t 2), none, .read, 0⟩, ⟨(some 26), .indexAddr 3 (.t 14) (.t 15), none, .read, 0⟩, ⟨none, .store 3 (.t 26) (.t 21), none, .write, 0⟩, ⟨(some 16), .move (.t 0), none, .read, 0⟩, ⟨(some 17), .move (.t 3), none, .read, 0⟩, ⟨(some 27), .indexAddr 3 (.t 16) (.t 17), none, .read, 1⟩, ⟨none, .store 3 (.t 27) (.t 25), none, .write, 1⟩]))
 (.region [⟨(some 10), .move (.t 2), none, .write, 0⟩, ⟨(some 11), .arith .add (.t 10) (.c (.int .i64 1)), none, .write, 0⟩, ⟨(some 12), .move (.t 3), none, .write, 0⟩, ⟨(some 13), .arith .sub (.t 12) (.c (.int .i64 1)), none, .write, 0⟩, ⟨(some 2), .move (.t 11), none, .write, 0⟩, ⟨(some 3), .move (.t 13), none, .write, 0⟩])))))) }

theorem c331 : compFunc Tryz.prog Tryz.f331 .full = some t331 := by kernel_rfl

/-- slices.IndexFunc[[]broadside/world.live,broadside/world.live] -/
def t332 : DFunc := { ntmps := 19, results := [(.t 4)], mode := .full, body :=
 (.seq (.region [⟨(some 4), .move (.c (.int .i64 0)), none, .write, 0⟩])
 (.seq (.seq (.region [⟨(some 6), .move (.t 0), none, .write, 0⟩, ⟨(some 7), .len 1 (.t 6), none, .write, 0⟩, ⟨(some 8), .move (.c (.int .i64 0)), none, .write, 0⟩])
 (.block 0 (.loop (.seq (.region [⟨(some 9), .arith .lss (.t 8) (.t 7), none, .write, 0⟩])
 (.seq (.cond (.t 9) .skip (.exit 0))
 (.seq (.block 1 (.seq (.region [⟨(some 10), .move (.t 8), none, .write, 0⟩, ⟨(some 5), .move (.t 10), none, .write, 0⟩])
 (.seq (.region [⟨(some 11), .move (.t 1), none, .write, 0⟩, ⟨(some 12), .move (.t 0), none, .write, 0⟩, ⟨(some 13), .move (.t 5), none, .write, 0⟩, ⟨(some 14), .indexAddr 2 (.t 12) (.t 13), none, .write, 0⟩, ⟨(some 15), .load (some 2) (.t 14), none, .write, 0⟩, ⟨(some 16), .call (.t 11) [(.t 15)], none, .write, 0⟩])
 (.cond (.t 16) (.seq (.region [⟨(some 17), .move (.t 5), none, .write, 0⟩, ⟨(some 4), .move (.t 17), none, .write, 0⟩])
 .ret) .skip))))
 (.region [⟨(some 18), .arith .add (.t 8) (.c (.int .i64 1)), none, .write, 0⟩, ⟨(some 8), .move (.t 18), none, .write, 0⟩])))))))
 (.seq (.region [⟨(some 4), .move (.c (.int .i64 (-1))), none, .write, 0⟩])
 .ret))) }

theorem c332 : compFunc Tryz.prog Tryz.f332 .full = some t332 := by kernel_rfl

/-- broadside/world.place$1 -/
def t333 : DFunc := { ntmps := 8, results := [(.t 3)], mode := .full, body :=
 (.seq (.region [⟨(some 2), .box 414 2 (.t 0), none, .write, 0⟩, ⟨(some 3), .move (.c (.bool false)), none, .write, 0⟩])
 (.seq (.region [⟨(some 4), .fieldAddr 0 (.t 2), none, .write, 0⟩, ⟨(some 5), .load none (.t 4), none, .write, 0⟩, ⟨(some 6), .load none (.t 1), none, .write, 0⟩, ⟨(some 7), .arith .eql (.t 5) (.t 6), none, .write, 0⟩, ⟨(some 3), .move (.t 7), none, .write, 0⟩])
 .ret)) }

theorem c333 : compFunc Tryz.prog Tryz.f333 .full = some t333 := by kernel_rfl

/-- slices.DeleteFunc[[]broadside/world.live,broadside/world.live] -/
def t334 : DFunc := { ntmps := 42, results := [(.t 4)], mode := .full, body :=
 (.seq (.region [⟨(some 4), .move (.c .nsl), none, .write, 0⟩])
 (.seq (.region [⟨(some 8), .move (.t 0), none, .write, 0⟩, ⟨(some 9), .move (.t 1), none, .write, 0⟩, ⟨(some 10), .call (.c (.func 332 [])) [(.t 8), (.t 9)], none, .write, 0⟩, ⟨(some 5), .move (.t 10), none, .write, 0⟩])
 (.seq (.seq (.region [⟨(some 11), .move (.t 5), none, .write, 0⟩, ⟨(some 12), .arith .eql (.t 11) (.c (.int .i64 (-1))), none, .write, 0⟩])
 (.cond (.t 12) (.seq (.region [⟨(some 13), .move (.t 0), none, .write, 0⟩, ⟨(some 4), .move (.t 13), none, .write, 0⟩])
 .ret) .skip))
 (.seq (.seq (.region [⟨(some 14), .move (.t 5), none, .write, 0⟩, ⟨(some 15), .arith .add (.t 14) (.c (.int .i64 1)), none, .write, 0⟩, ⟨(some 6), .move (.t 15), none, .write, 0⟩])
 (.block 0 (.loop (.seq (.seq (.region [⟨(some 16), .move (.t 6), none, .write, 0⟩, ⟨(some 17), .move (.t 0), none, .write, 0⟩, ⟨(some 18), .len 1 (.t 17), none, .write, 0⟩, ⟨(some 19), .arith .lss (.t 16) (.t 18), none, .write, 0⟩])
 (.cond (.t 19) .skip (.exit 0)))
 (.seq (.block 1 (.seq (.region [⟨(some 22), .move (.t 0), none, .write, 0⟩, ⟨(some 23), .move (.t 6), none, .write, 0⟩, ⟨(some 24), .indexAddr 2 (.t 22) (.t 23), none, .write, 0⟩, ⟨(some 25), .load (some 2) (.t 24), none, .write, 0⟩, ⟨(some 7), .alloc 414 2 (.agg [(.int .i64 0), .nsl]), none, .write, 0⟩, ⟨none, .store 2 (.t 7) (.t 25), none, .write, 0⟩])
 (.seq (.region [⟨(some 26), .move (.t 1), none, .write, 0⟩, ⟨(some 27), .load (some 2) (.t 7), none, .write, 0⟩, ⟨(some 28), .call (.t 26) [(.t 27)], none, .write, 0⟩, ⟨(some 29), .un .not (.t 28), none, .write, 0⟩])
 (.cond (.t 29) (.seq (.region [⟨(some 30), .move (.t 0), none, .write, 0⟩, ⟨(some 31), .move (.t 5), none, .write, 0⟩, ⟨(some 32), .load (some 2) (.t 7), none, .write, 0⟩, ⟨(some 33), .indexAddr 2 (.t 30) (.t 31), none, .write, 0⟩, ⟨none, .store 2 (.t 33) (.t 32), none, .write, 0⟩])
 (.region [⟨(some 34), .move (.t 5), none, .write, 0⟩, ⟨(some 35), .arith .add (.t 34) (.c (.int .i64 1)), none, .write, 0⟩, ⟨(some 5), .move (.t 35), none, .write, 0⟩])) .skip))))
 (.region [⟨(some 20), .move (.t 6), none, .write, 0⟩, ⟨(some 21), .arith .add (.t 20) (.c (.int .i64 1)), none, .write, 0⟩, ⟨(some 6), .move (.t 21), none, .write, 0⟩]))))))
 (.seq (.region [⟨(some 36), .move (.t 0), none, .write, 0⟩, ⟨(some 37), .move (.t 5), none, .write, 0⟩, ⟨(some 38), .sliceSl 2 (.t 36) (some (.t 37)) none, none, .write, 0⟩, ⟨none, .clear 2 (.agg [(.int .i64 0), .nsl]) (.t 38), none, .write, 0⟩])
 (.seq (.region [⟨(some 39), .move (.t 0), none, .write, 0⟩, ⟨(some 40), .move (.t 5), none, .write, 0⟩, ⟨(some 41), .sliceSl 2 (.t 39) none (some (.t 40)), none, .write, 0⟩, ⟨(some 4), .move (.t 41), none, .write, 0⟩])
 .ret)))))) }

theorem c334 : compFunc Tryz.prog Tryz.f334 .full = some t334 := by kernel_rfl

/-- broadside/world.without$1 -/
def t336 : DFunc := { ntmps := 8, results := [(.t 3)], mode := .full, body :=
 (.seq (.region [⟨(some 2), .box 414 2 (.t 0), none, .write, 0⟩, ⟨(some 3), .move (.c (.bool false)), none, .write, 0⟩])
 (.seq (.region [⟨(some 4), .fieldAddr 0 (.t 2), none, .write, 0⟩, ⟨(some 5), .load none (.t 4), none, .write, 0⟩, ⟨(some 6), .load none (.t 1), none, .write, 0⟩, ⟨(some 7), .arith .eql (.t 5) (.t 6), none, .write, 0⟩, ⟨(some 3), .move (.t 7), none, .write, 0⟩])
 .ret)) }

theorem c336 : compFunc Tryz.prog Tryz.f336 .full = some t336 := by kernel_rfl

/-- (*broadside/net.Net).Unadvertise$1 -/
def t337 : DFunc := { ntmps := 10, results := [(.cell 3 (some 6)), (.t 4)], mode := .full, body :=
 (.seq (.region [⟨(some 2), .box 28 6 (.t 0), none, .write, 0⟩, ⟨(some 3), .alloc 28 6 (.agg [(.int .i64 0), .nsl, .nsl, .nsl, .nsl, .nsl]), none, .write, 0⟩, ⟨(some 4), .move (.c .nsl), none, .write, 0⟩])
 (.seq (.region [⟨(some 5), .load (some 6) (.t 2), none, .write, 0⟩, ⟨(some 6), .load (some 2) (.t 1), none, .write, 0⟩, ⟨(some 7), .call (.c (.func 103 [])) [(.t 5), (.c (.int .i64 (-1))), (.t 6)], none, .write, 0⟩, ⟨(some 8), .extract (.t 7) 0, none, .write, 0⟩, ⟨(some 9), .extract (.t 7) 1, none, .write, 0⟩, ⟨none, .store 6 (.t 3) (.t 8), none, .write, 0⟩, ⟨(some 4), .move (.t 9), none, .write, 0⟩])
 .ret)) }

theorem c337 : compFunc Tryz.prog Tryz.f337 .full = some t337 := by kernel_rfl

/-- (*broadside/net.Net).Unsubscribe$1 -/
def t338 : DFunc := { ntmps := 10, results := [(.cell 3 (some 6)), (.t 4)], mode := .full, body :=
 (.seq (.region [⟨(some 2), .box 28 6 (.t 0), none, .write, 0⟩, ⟨(some 3), .alloc 28 6 (.agg [(.int .i64 0), .nsl, .nsl, .nsl, .nsl, .nsl]), none, .write, 0⟩, ⟨(some 4), .move (.c .nsl), none, .write, 0⟩])
 (.seq (.region [⟨(some 5), .load (some 6) (.t 2), none, .write, 0⟩, ⟨(some 6), .load (some 2) (.t 1), none, .write, 0⟩, ⟨(some 7), .call (.c (.func 339 [])) [(.t 5), (.t 6)], none, .write, 0⟩, ⟨(some 8), .extract (.t 7) 0, none, .write, 0⟩, ⟨(some 9), .extract (.t 7) 1, none, .write, 0⟩, ⟨none, .store 6 (.t 3) (.t 8), none, .write, 0⟩, ⟨(some 4), .move (.t 9), none, .write, 0⟩])
 .ret)) }

theorem c338 : compFunc Tryz.prog Tryz.f338 .full = some t338 := by kernel_rfl

/-- broadside/route.Unsubscribe -/
def t339 : DFunc := { ntmps := 52, results := [(.cell 4 (some 6)), (.t 5)], mode := .full, body :=
 (.seq (.region [⟨(some 2), .box 28 6 (.t 0), none, .write, 0⟩, ⟨(some 3), .box 45 2 (.t 1), none, .write, 0⟩, ⟨(some 4), .alloc 28 6 (.agg [(.int .i64 0), .nsl, .nsl, .nsl, .nsl, .nsl]), none, .write, 0⟩, ⟨(some 5), .move (.c .nsl), none, .write, 0⟩])
 (.seq (.region [⟨(some 14), .load (some 6) (.t 2), none, .write, 0⟩, ⟨(some 15), .load (some 2) (.t 3), none, .write, 0⟩, ⟨(some 16), .call (.c (.func 162 [])) [(.t 14), (.t 15)], none, .write, 0⟩, ⟨(some 13), .move (.t 16), none, .write, 0⟩, ⟨(some 17), .extract (.t 13) 0, none, .write, 0⟩, ⟨(some 18), .extract (.t 13) 1, none, .write, 0⟩, ⟨(some 6), .move (.t 17), none, .write, 0⟩, ⟨(some 7), .move (.t 18), none, .write, 0⟩])
 (.seq (.seq (.region [⟨(some 19), .move (.t 7), none, .write, 0⟩, ⟨(some 20), .un .not (.t 19), none, .write, 0⟩])
 (.cond (.t 20) (.seq (.region [⟨(some 21), .load (some 6) (.t 2), none, .write, 0⟩, ⟨none, .store 6 (.t 4) (.t 21), none, .write, 0⟩, ⟨(some 5), .move (.c .nsl), none, .write, 0⟩])
 .ret) .skip))
 (.seq (.region [⟨(some 22), .fieldAddr 5 (.t 2), none, .write, 0⟩, ⟨(some 23), .load none (.t 22), none, .write, 0⟩, ⟨(some 24), .call (.c (.func 78 [])) [(.t 23)], none, .write, 0⟩, ⟨(some 25), .move (.t 6), none, .write, 0⟩, ⟨(some 26), .move (.t 6), none, .write, 0⟩, ⟨(some 27), .arith .add (.t 26) (.c (.int .i64 1)), none, .write, 0⟩, ⟨(some 28), .call (.c (.func 351 [])) [(.t 24), (.t 25), (.t 27)], none, .write, 0⟩, ⟨(some 29), .fieldAddr 5 (.t 2), none, .write, 0⟩, ⟨none, .store 1 (.t 29) (.t 28), none, .write, 0⟩])
 (.seq (.region [⟨(some 8), .move (.c .nsl), none, .write, 0⟩])
 (.seq (.seq (.region [⟨(some 30), .fieldAddr 2 (.t 2), none, .write, 0⟩, ⟨(some 31), .load none (.t 30), none, .write, 0⟩, ⟨(some 32), .len 1 (.t 31), none, .write, 0⟩, ⟨(some 33), .move (.c (.int .i64 0)), none, .write, 0⟩])
 (.block 0 (.loop (.seq (.region [⟨(some 34), .arith .lss (.t 33) (.t 32), none, .write, 0⟩])
 (.seq (.cond (.t 34) .skip (.exit 0))
 (.seq (.block 1 (.seq (.region [⟨(some 35), .indexAddr 4 (.t 31) (.t 33), none, .write, 0⟩, ⟨(some 36), .load (some 4) (.t 35), none, .write, 0⟩, ⟨(some 10), .alloc 70 4 (.agg [(.int .i64 0), (.int .i64 0), .nsl, (.int .i64 0)]), none, .write, 0⟩, ⟨none, .store 4 (.t 10) (.t 36), none, .write, 0⟩])
 (.seq (.region [⟨(some 38), .load (some 6) (.t 2), none, .write, 0⟩, ⟨(some 39), .fieldAddr 0 (.t 10), none, .write, 0⟩, ⟨(some 40), .load (some 2) (.t 39), none, .write, 0⟩, ⟨(some 41), .load (some 2) (.t 3), none, .write, 0⟩, ⟨(some 42), .call (.c (.func 195 [])) [(.t 38), (.t 40), (.t 41), (.c (.int .i64 (-1)))], none, .write, 0⟩, ⟨(some 37), .move (.t 42), none, .write, 0⟩, ⟨(some 43), .extract (.t 37) 0, none, .write, 0⟩, ⟨(some 44), .extract (.t 37) 1, none, .write, 0⟩, ⟨(some 11), .alloc 28 6 (.agg [(.int .i64 0), .nsl, .nsl, .nsl, .nsl, .nsl]), none, .write, 0⟩, ⟨none, .store 6 (.t 11) (.t 43), none, .write, 0⟩, ⟨(some 12), .move (.t 44), none, .write, 0⟩])
 (.draw [⟨(some 45), .load (some 6) (.t 11), none, .read, 0⟩, ⟨(some 46), .move (.t 8), none, .read, 0⟩, ⟨(some 47), .move (.t 12), none, .read, 0⟩, ⟨(some 48), .append 254 8 96 (.t 46) (.t 47), none, .create, 0⟩, ⟨none, .store 6 (.t 2) (.t 45), none, .write, 1⟩, ⟨(some 8), .move (.t 48), none, .read, 2⟩]))))
 (.region [⟨(some 49), .arith .add (.t 33) (.c (.int .i64 1)), none, .write, 0⟩, ⟨(some 33), .move (.t 49), none, .write, 0⟩])))))))
 (.seq (.region [⟨(some 50), .load (some 6) (.t 2), none, .write, 0⟩, ⟨(some 51), .move (.t 8), none, .write, 0⟩, ⟨none, .store 6 (.t 4) (.t 50), none, .write, 0⟩, ⟨(some 5), .move (.t 51), none, .write, 0⟩])
 .ret))))))) }

theorem c339 : compFunc Tryz.prog Tryz.f339 .full = some t339 := by kernel_rfl

/-- slices.order2CmpFunc[[2]int] -/
def t340 : DFunc := { ntmps := 32, results := [(.t 10), (.t 11)], mode := .full, body :=
 (.seq (.region [⟨(some 10), .move (.c (.int .i64 0)), none, .write, 0⟩, ⟨(some 11), .move (.c (.int .i64 0)), none, .write, 0⟩])
 (.seq (.seq (.draw [⟨(some 13), .move (.t 0), none, .read, 0⟩, ⟨(some 14), .move (.t 2), none, .read, 0⟩, ⟨(some 15), .indexAddr 2 (.t 13) (.t 14), none, .read, 0⟩, ⟨(some 16), .load (some 2) (.t 15), none, .read, 0⟩, ⟨(some 17), .move (.t 0), none, .read, 0⟩, ⟨(some 18), .move (.t 1), none, .read, 0⟩, ⟨(some 19), .indexAddr 2 (.t 17) (.t 18), none, .read, 0⟩, ⟨(some 20), .load (some 2) (.t 19), none, .read, 0⟩, ⟨(some 12), .move (.t 4), none, .read, 0⟩, ⟨(some 21), .call (.t 12) [(.t 16), (.t 20)], none, .write, 0⟩, ⟨(some 22), .arith .lss (.t 21) (.c (.int .i64 0)), none, .read, 1⟩])
 (.cond (.t 22) (.seq (.region [⟨(some 23), .move (.t 3), none, .write, 0⟩, ⟨(some 24), .nilCheck (.t 23), none, .write, 0⟩, ⟨(some 25), .load none (.t 24), none, .write, 0⟩, ⟨(some 26), .arith .add (.t 25) (.c (.int .i64 1)), none, .write, 0⟩, ⟨(some 27), .nilCheck (.t 23), none, .write, 0⟩, ⟨none, .store 1 (.t 27) (.t 26), none, .write, 0⟩])
 (.seq (.region [⟨(some 28), .move (.t 2), none, .write, 0⟩, ⟨(some 29), .move (.t 1), none, .write, 0⟩, ⟨(some 10), .move (.t 28), none, .write, 0⟩, ⟨(some 11), .move (.t 29), none, .write, 0⟩])
 .ret)) .skip))
 (.seq (.region [⟨(some 30), .move (.t 1), none, .write, 0⟩, ⟨(some 31), .move (.t 2), none, .write, 0⟩, ⟨(some 10), .move (.t 30), none, .write, 0⟩, ⟨(some 11), .move (.t 31), none, .write, 0⟩])
 .ret))) }

theorem c340 : compFunc Tryz.prog Tryz.f340 .full = some t340 := by kernel_rfl

/-- slices.rotateLeft[broadside/api.Constraint] -/
def t342 : DFunc := { ntmps := 14, results := [], mode := .full, body :=
 (.seq (.region [⟨(some 4), .move (.t 0), none, .write, 0⟩, ⟨(some 5), .move (.t 1), none, .write, 0⟩, ⟨(some 6), .sliceSl 5 (.t 4) none (some (.t 5)), none, .write, 0⟩, ⟨(some 7), .call (.c (.func 352 [])) [(.t 6)], none, .write, 0⟩])
 (.seq (.region [⟨(some 8), .move (.t 0), none, .write, 0⟩, ⟨(some 9), .move (.t 1), none, .write, 0⟩, ⟨(some 10), .sliceSl 5 (.t 8) (some (.t 9)) none, none, .write, 0⟩, ⟨(some 11), .call (.c (.func 352 [])) [(.t 10)], none, .write, 0⟩])
 (.region [⟨(some 12), .move (.t 0), none, .write, 0⟩, ⟨(some 13), .call (.c (.func 352 [])) [(.t 12)], none, .write, 0⟩]))) }

theorem c342 : compFunc Tryz.prog Tryz.f342 .full = some t342 := by kernel_rfl

/-- slices.Reverse[[]broadside/api.Advert,broadside/api.Advert] -/
def t343 : DFunc := { ntmps := 28, results := [], mode := .full, body :=
 (.seq (.region [⟨(some 4), .move (.t 0), none, .write, 0⟩, ⟨(some 5), .len 1 (.t 4), none, .write, 0⟩, ⟨(some 6), .arith .sub (.t 5) (.c (.int .i64 1)), none, .write, 0⟩, ⟨(some 2), .move (.c (.int .i64 0)), none, .write, 0⟩, ⟨(some 3), .move (.t 6), none, .write, 0⟩])
 (.block 0 (.loop (.seq (.seq (.region [⟨(some 7), .move (.t 2), none, .write, 0⟩, ⟨(some 8), .move (.t 3), none, .write, 0⟩, ⟨(some 9), .arith .lss (.t 7) (.t 8), none, .write, 0⟩])
 (.cond (.t 9) .skip (.exit 0)))
 (.seq (.block 1 (.draw [⟨(some 18), .move (.t 0), none, .read, 0⟩, ⟨(some 19), .move (.t 3), none, .read, 0⟩, ⟨(some 20), .indexAddr 4 (.t 18) (.t 19), none, .read, 0⟩, ⟨(some 21), .load (some 4) (.t 20), none, .read, 0⟩, ⟨(some 22), .move (.t 0), none, .read, 0⟩, ⟨(some 23), .move (.t 2), none, .read, 0⟩, ⟨(some 24), .indexAddr 4 (.t 22) (.t 23), none, .read, 0⟩, ⟨(some 25), .load (some 4) (.t 24), none, .read, 0⟩, ⟨(some 14), .move (.t 0), none, .read, 0⟩, ⟨(some 15), .move (.t 2), none, .read, 0⟩, ⟨(some 26), .indexAddr 4 (.t 14) (.t 15), none, .read, 0⟩, ⟨none, .store 4 (.t 26) (.t 21), none, .write, 0⟩, ⟨(some 16), .move (.t 0), none, .read, 0⟩, ⟨(some 17), .move (.t 3), none, .read, 0⟩, ⟨(some 27), .indexAddr 4 (.t 16) (.t 17), none, .read, 1⟩, ⟨none, .store 4 (.t 27) (.t 25), none, .write, 1⟩]))
 (.region [⟨(some 10), .move (.t 2), none, .write, 0⟩, ⟨(some 11), .arith .add (.t 10) (.c (.int .i64 1)), none, .write, 0⟩, ⟨(some 12), .move (.t 3), none, .write, 0⟩, ⟨(some 13), .arith .sub (.t 12) (.c (.int .i64 1)), none, .write, 0⟩, ⟨(some 2), .move (.t 11), none, .write, 0⟩, ⟨(some 3), .move (.t 13), none, .write, 0⟩])))))) }

theorem c343 : compFunc Tryz.prog Tryz.f343 .full = some t343 := by kernel_rfl

/-- slices.Reverse[[]broadside/model.sub,broadside/model.sub] -/
def t344 : DFunc := { ntmps := 28, results := [], mode := .full, body :=
 (.seq (.region [⟨(some 4), .move (.t 0), none, .write, 0⟩, ⟨(some 5), .len 1 (.t 4), none, .write, 0⟩, ⟨(some 6), .arith .sub (.t 5) (.c (.int .i64 1)), none, .write, 0⟩, ⟨(some 2), .move (.c (.int .i64 0)), none, .write, 0⟩, ⟨(some 3), .move (.t 6), none, .write, 0⟩])
 (.block 0 (.loop (.seq (.seq (.region [⟨(some 7), .move (.t 2), none, .write, 0⟩, ⟨(some 8), .move (.t 3), none, .write, 0⟩, ⟨(some 9), .arith .lss (.t 7) (.t 8), none, .write, 0⟩])
 (.cond (.t 9) .skip (.exit 0)))
 (.seq (.block 1 (.draw [⟨(some 18), .move (.t 0), none, .read, 0⟩, ⟨(some 19), .move (.t 3), none, .read, 0⟩, ⟨(some 20), .indexAddr 4 (.t 18) (.t 19), none, .read, 0⟩, ⟨(some 21), .load (some 4) (.t 20), none, .read, 0⟩, ⟨(some 22), .move (.t 0), none, .read, 0⟩, ⟨(some 23), .move (.t 2), none, .read, 0⟩, ⟨(some 24), .indexAddr 4 (.t 22) (.t 23), none, .read, 0⟩, ⟨(some 25), .load (some 4) (.t 24), none, .read, 0⟩, ⟨(some 14), .move (.t 0), none, .read, 0⟩, ⟨(some 15), .move (.t 2), none, .read, 0⟩, ⟨(some 26), .indexAddr 4 (.t 14) (.t 15), none, .read, 0⟩, ⟨none, .store 4 (.t 26) (.t 21), none, .write, 0⟩, ⟨(some 16), .move (.t 0), none, .read, 0⟩, ⟨(some 17), .move (.t 3), none, .read, 0⟩, ⟨(some 27), .indexAddr 4 (.t 16) (.t 17), none, .read, 1⟩, ⟨none, .store 4 (.t 27) (.t 25), none, .write, 1⟩]))
 (.region [⟨(some 10), .move (.t 2), none, .write, 0⟩, ⟨(some 11), .arith .add (.t 10) (.c (.int .i64 1)), none, .write, 0⟩, ⟨(some 12), .move (.t 3), none, .write, 0⟩, ⟨(some 13), .arith .sub (.t 12) (.c (.int .i64 1)), none, .write, 0⟩, ⟨(some 2), .move (.t 11), none, .write, 0⟩, ⟨(some 3), .move (.t 13), none, .write, 0⟩])))))) }

theorem c344 : compFunc Tryz.prog Tryz.f344 .full = some t344 := by kernel_rfl

/-- broadside/code.asks -/
def t345 : DFunc := { ntmps := 58, results := [(.cell 2 (some 9)), (.t 3)], mode := .full, body :=
 (.seq (.region [⟨(some 1), .box 85 9 (.t 0), none, .write, 0⟩, ⟨(some 2), .alloc 85 9 (.agg [(.int .i64 0), (.int .i64 0), (.int .i64 0), (.int .i64 0), (.int .i64 0), (.int .i64 0), .nsl, .nsl, .nsl]), none, .write, 0⟩, ⟨(some 3), .move (.c (.bool false)), none, .write, 0⟩])
 (.seq (.region [⟨(some 5), .fieldAddr 0 (.t 1), none, .write, 0⟩, ⟨(some 6), .load none (.t 5), none, .write, 0⟩, ⟨(some 7), .build [(.int .i64 0), (.int .i64 0), (.int .i64 0), (.int .i64 0), (.int .i64 0), (.int .i64 0), .nsl, .nsl, .nsl] [(0, 1, (.t 6))], none, .write, 0⟩, ⟨(some 4), .alloc 85 9 (.agg [(.int .i64 0), (.int .i64 0), (.int .i64 0), (.int .i64 0), (.int .i64 0), (.int .i64 0), .nsl, .nsl, .nsl]), none, .write, 0⟩, ⟨none, .store 9 (.t 4) (.t 7), none, .write, 0⟩])
 (.seq (.seq (.region [⟨(some 8), .fieldAddr 0 (.t 1), none, .write, 0⟩, ⟨(some 9), .load none (.t 8), none, .write, 0⟩])
 (.block 0 (.seq (.block 8 (.seq (.block 7 (.seq (.block 6 (.seq (.block 5 (.seq (.block 4 (.seq (.block 3 (.seq (.block 2 (.seq (.block 1 (.seq (.seq (.seq (.region [⟨(some 11), .arith .eql (.t 9) (.c (.int .i64 9)), none, .write, 0⟩, ⟨(some 10), .move (.t 11), none, .write, 0⟩])
 (.cond (.t 10) (.exit 1) .skip))
 (.seq (.seq (.region [⟨(some 13), .arith .eql (.t 9) (.c (.int .i64 8)), none, .write, 0⟩, ⟨(some 12), .move (.t 13), none, .write, 0⟩])
 (.cond (.t 12) (.exit 2) .skip))
 (.seq (.seq (.region [⟨(some 15), .arith .eql (.t 9) (.c (.int .i64 1)), none, .write, 0⟩, ⟨(some 14), .move (.t 15), none, .write, 0⟩])
 (.cond (.t 14) (.exit 3) .skip))
 (.seq (.seq (.seq (.region [⟨(some 17), .arith .eql (.t 9) (.c (.int .i64 2)), none, .write, 0⟩, ⟨(some 16), .move (.t 17), none, .write, 0⟩])
 (.cond (.t 16) .skip (.region [⟨(some 18), .arith .eql (.t 9) (.c (.int .i64 4)), none, .write, 0⟩, ⟨(some 16), .move (.t 18), none, .write, 0⟩])))
 (.cond (.t 16) (.exit 4) .skip))
 (.seq (.seq (.seq (.region [⟨(some 20), .arith .eql (.t 9) (.c (.int .i64 3)), none, .write, 0⟩, ⟨(some 19), .move (.t 20), none, .write, 0⟩])
 (.cond (.t 19) .skip (.region [⟨(some 21), .arith .eql (.t 9) (.c (.int .i64 5)), none, .write, 0⟩, ⟨(some 19), .move (.t 21), none, .write, 0⟩])))
 (.cond (.t 19) (.exit 5) .skip))
 (.seq (.seq (.region [⟨(some 23), .arith .eql (.t 9) (.c (.int .i64 7)), none, .write, 0⟩, ⟨(some 22), .move (.t 23), none, .write, 0⟩])
 (.cond (.t 22) (.exit 6) .skip))
 (.seq (.region [⟨(some 25), .arith .eql (.t 9) (.c (.int .i64 6)), none, .write, 0⟩, ⟨(some 24), .move (.t 25), none, .write, 0⟩])
 (.cond (.t 24) (.exit 7) .skip))))))))
 (.exit 8)))
 (.region [⟨(some 26), .fieldAddr 8 (.t 1), none, .write, 0⟩, ⟨(some 27), .load none (.t 26), none, .write, 0⟩, ⟨(some 28), .fieldAddr 8 (.t 4), none, .write, 0⟩, ⟨none, .store 1 (.t 28) (.t 27), none, .write, 0⟩])))
 (.region [⟨(some 29), .fieldAddr 5 (.t 1), none, .write, 0⟩, ⟨(some 30), .load none (.t 29), none, .write, 0⟩, ⟨(some 31), .fieldAddr 5 (.t 4), none, .write, 0⟩, ⟨none, .store 1 (.t 31) (.t 30), none, .write, 0⟩])))
 (.seq (.region [⟨(some 32), .fieldAddr 4 (.t 1), none, .write, 0⟩, ⟨(some 33), .load none (.t 32), none, .write, 0⟩, ⟨(some 34), .fieldAddr 4 (.t 4), none, .write, 0⟩, ⟨none, .store 1 (.t 34) (.t 33), none, .write, 0⟩])
 (.exit 0))))
 (.seq (.draw [⟨(some 35), .fieldAddr 1 (.t 1), none, .read, 0⟩, ⟨(some 36), .load none (.t 35), none, .read, 0⟩, ⟨(some 37), .fieldAddr 6 (.t 1), none, .read, 0⟩, ⟨(some 38), .load none (.t 37), none, .read, 0⟩, ⟨(some 39), .fieldAddr 1 (.t 4), none, .read, 0⟩, ⟨none, .store 1 (.t 39) (.t 36), none, .create, 0⟩, ⟨(some 40), .fieldAddr 6 (.t 4), none, .read, 1⟩, ⟨none, .store 1 (.t 40) (.t 38), none, .write, 1⟩])
 (.exit 0))))
 (.region [⟨(some 41), .fieldAddr 2 (.t 1), none, .write, 0⟩, ⟨(some 42), .load none (.t 41), none, .write, 0⟩, ⟨(some 43), .fieldAddr 2 (.t 4), none, .write, 0⟩, ⟨none, .store 1 (.t 43) (.t 42), none, .write, 0⟩])))
 (.seq (.region [⟨(some 44), .fieldAddr 1 (.t 1), none, .write, 0⟩, ⟨(some 45), .load none (.t 44), none, .write, 0⟩, ⟨(some 46), .fieldAddr 1 (.t 4), none, .write, 0⟩, ⟨none, .store 1 (.t 46) (.t 45), none, .write, 0⟩])
 (.exit 0))))
 (.seq (.draw [⟨(some 47), .fieldAddr 1 (.t 1), none, .read, 0⟩, ⟨(some 48), .load none (.t 47), none, .read, 0⟩, ⟨(some 49), .fieldAddr 7 (.t 1), none, .read, 0⟩, ⟨(some 50), .load none (.t 49), none, .read, 0⟩, ⟨(some 51), .fieldAddr 3 (.t 1), none, .read, 0⟩, ⟨(some 52), .load none (.t 51), none, .read, 0⟩, ⟨(some 53), .fieldAddr 1 (.t 4), none, .read, 0⟩, ⟨none, .store 1 (.t 53) (.t 48), none, .create, 0⟩, ⟨(some 54), .fieldAddr 7 (.t 4), none, .read, 1⟩, ⟨none, .store 1 (.t 54) (.t 50), none, .create, 0⟩, ⟨(some 55), .fieldAddr 3 (.t 4), none, .read, 2⟩, ⟨none, .store 1 (.t 55) (.t 52), none, .write, 2⟩])
 (.exit 0))))
 (.seq (.seq (.region [⟨(some 56), .load (some 9) (.t 4), none, .write, 0⟩, ⟨none, .store 9 (.t 2) (.t 56), none, .write, 0⟩, ⟨(some 3), .move (.c (.bool false)), none, .write, 0⟩])
 .ret)
 (.exit 0)))))
 (.seq (.region [⟨(some 57), .load (some 9) (.t 4), none, .write, 0⟩, ⟨none, .store 9 (.t 2) (.t 57), none, .write, 0⟩, ⟨(some 3), .move (.c (.bool true)), none, .write, 0⟩])
 .ret)))) }

theorem c345 : compFunc Tryz.prog Tryz.f345 .full = some t345 := by kernel_rfl

/-- broadside/code.Same -/
def t346 : DFunc := { ntmps := 66, results := [(.t 4)], mode := .full, body :=
 (.seq (.region [⟨(some 2), .box 85 9 (.t 0), none, .write, 0⟩, ⟨(some 3), .box 85 9 (.t 1), none, .write, 0⟩, ⟨(some 4), .move (.c (.bool false)), none, .write, 0⟩])
 (.seq (.region [⟨(some 5), .fieldAddr 0 (.t 2), none, .write, 0⟩, ⟨(some 6), .load none (.t 5), none, .write, 0⟩, ⟨(some 7), .fieldAddr 0 (.t 3), none, .write, 0⟩, ⟨(some 8), .load none (.t 7), none, .write, 0⟩, ⟨(some 9), .arith .eql (.t 6) (.t 8), none, .write, 0⟩, ⟨(some 10), .move (.t 9), none, .write, 0⟩, ⟨(some 11), .fieldAddr 1 (.t 2), (some (10, true)), .write, 0⟩, ⟨(some 12), .load none (.t 11), (some (10, true)), .write, 0⟩, ⟨(some 13), .fieldAddr 1 (.t 3), (some (10, true)), .write, 0⟩, ⟨(some 14), .load none (.t 13), (some (10, true)), .write, 0⟩, ⟨(some 15), .arith .eql (.t 12) (.t 14), (some (10, true)), .write, 0⟩, ⟨(some 16), .pick (.t 10) (.t 15) (.c (.bool false)), none, .write, 0⟩, ⟨(some 17), .move (.t 16), none, .write, 0⟩, ⟨(some 18), .fieldAddr 2 (.t 2), (some (17, true)), .write, 0⟩, ⟨(some 19), .load none (.t 18), (some (17, true)), .write, 0⟩, ⟨(some 20), .fieldAddr 2 (.t 3), (some (17, true)), .write, 0⟩, ⟨(some 21), .load none (.t 20), (some (17, true)), .write, 0⟩, ⟨(some 22), .arith .eql (.t 19) (.t 21), (some (17, true)), .write, 0⟩, ⟨(some 23), .pick (.t 17) (.t 22) (.c (.bool false)), none, .write, 0⟩, ⟨(some 24), .move (.t 23), none, .write, 0⟩, ⟨(some 25), .fieldAddr 3 (.t 2), (some (24, true)), .write, 0⟩, ⟨(some 26), .load none (.t 25), (some (24, true)), .write, 0⟩, ⟨(some 27), .fieldAddr 3 (.t 3), (some (24, true)), .write, 0⟩, ⟨(some 28), .load none (.t 27), (some (24, true)), .write, 0⟩, ⟨(some 29), .arith .eql (.t 26) (.t 28), (some (24, true)), .write, 0⟩, ⟨(some 30), .pick (.t 24) (.t 29) (.c (.bool false)), none, .write, 0⟩, ⟨(some 31), .move (.t 30), none, .write, 0⟩, ⟨(some 32), .fieldAddr 4 (.t 2), (some (31, true)), .write, 0⟩, ⟨(some 33), .load none (.t 32), (some (31, true)), .write, 0⟩, ⟨(some 34), .fieldAddr 4 (.t 3), (some (31, true)), .write, 0⟩, ⟨(some 35), .load none (.t 34), (some (31, true)), .write, 0⟩, ⟨(some 36), .arith .eql (.t 33) (.t 35), (some (31, true)), .write, 0⟩, ⟨(some 37), .pick (.t 31) (.t 36) (.c (.bool false)), none, .write, 0⟩, ⟨(some 38), .move (.t 37), none, .write, 0⟩, ⟨(some 39), .fieldAddr 5 (.t 2), (some (38, true)), .write, 0⟩, ⟨(some 40), .load none (.t 39), (some (38, true)), .write, 0⟩, ⟨(some 41), .fieldAddr 5 (.t 3), (some (38, true)), .write, 0⟩, ⟨(some 42), .load none (.t 41), (some (38, true)), .write, 0⟩, ⟨(some 43), .arith .eql (.t 40) (.t 42), (some (38, true)), .write, 0⟩, ⟨(some 44), .pick (.t 38) (.t 43) (.c (.bool false)), none, .write, 0⟩, ⟨(some 45), .move (.t 44), none, .write, 0⟩, ⟨(some 46), .fieldAddr 6 (.t 2), (some (45, true)), .write, 0⟩, ⟨(some 47), .load none (.t 46), (some (45, true)), .write, 0⟩, ⟨(some 48), .fieldAddr 6 (.t 3), (some (45, true)), .write, 0⟩, ⟨(some 49), .load none (.t 48), (some (45, true)), .write, 0⟩, ⟨(some 50), .call (.c (.func 210 [])) [(.t 47), (.t 49)], (some (45, true)), .write, 0⟩, ⟨(some 51), .pick (.t 45) (.t 50) (.c (.bool false)), none, .write, 0⟩, ⟨(some 52), .move (.t 51), none, .write, 0⟩, ⟨(some 53), .fieldAddr 7 (.t 2), (some (52, true)), .write, 0⟩, ⟨(some 54), .load none (.t 53), (some (52, true)), .write, 0⟩, ⟨(some 55), .fieldAddr 7 (.t 3), (some (52, true)), .write, 0⟩, ⟨(some 56), .load none (.t 55), (some (52, true)), .write, 0⟩, ⟨(some 57), .call (.c (.func 353 [])) [(.t 54), (.t 56)], (some (52, true)), .write, 0⟩, ⟨(some 58), .pick (.t 52) (.t 57) (.c (.bool false)), none, .write, 0⟩, ⟨(some 59), .move (.t 58), none, .write, 0⟩, ⟨(some 60), .fieldAddr 8 (.t 2), (some (59, true)), .write, 0⟩, ⟨(some 61), .load none (.t 60), (some (59, true)), .write, 0⟩, ⟨(some 62), .fieldAddr 8 (.t 3), (some (59, true)), .write, 0⟩, ⟨(some 63), .load none (.t 62), (some (59, true)), .write, 0⟩, ⟨(some 64), .call (.c (.func 101 [])) [(.t 61), (.t 63)], (some (59, true)), .write, 0⟩, ⟨(some 65), .pick (.t 59) (.t 64) (.c (.bool false)), none, .write, 0⟩, ⟨(some 4), .move (.t 65), none, .write, 0⟩])
 .ret)) }

theorem c346 : compFunc Tryz.prog Tryz.f346 .full = some t346 := by kernel_rfl

/-- broadside/code.flag -/
def t347 : DFunc := { ntmps := 4, results := [(.t 2)], mode := .full, body :=
 (.seq (.region [⟨(some 2), .move (.c (.int .u8 0)), none, .write, 0⟩])
 (.seq (.seq (.region [⟨(some 3), .move (.t 0), none, .write, 0⟩])
 (.cond (.t 3) (.seq (.region [⟨(some 2), .move (.c (.int .u8 1)), none, .write, 0⟩])
 .ret) .skip))
 (.seq (.region [⟨(some 2), .move (.c (.int .u8 0)), none, .write, 0⟩])
 .ret))) }

theorem c347 : compFunc Tryz.prog Tryz.f347 .full = some t347 := by kernel_rfl

/-- internal/stringslite.HasPrefix -/
def t348 : DFunc := { ntmps := 18, results := [(.t 4)], mode := .full, body :=
 (.seq (.region [⟨(some 4), .move (.c (.bool false)), none, .write, 0⟩])
 (.seq (.region [⟨(some 5), .move (.t 0), none, .write, 0⟩, ⟨(some 6), .len 0 (.t 5), none, .write, 0⟩, ⟨(some 7), .move (.t 1), none, .write, 0⟩, ⟨(some 8), .len 0 (.t 7), none, .write, 0⟩, ⟨(some 9), .arith .geq (.t 6) (.t 8), none, .write, 0⟩, ⟨(some 10), .move (.t 9), none, .write, 0⟩, ⟨(some 11), .move (.t 0), (some (10, true)), .write, 0⟩, ⟨(some 12), .move (.t 1), (some (10, true)), .write, 0⟩, ⟨(some 13), .len 0 (.t 12), (some (10, true)), .write, 0⟩, ⟨(some 14), .sliceStr (.t 11) none (some (.t 13)), (some (10, true)), .write, 0⟩, ⟨(some 15), .move (.t 1), (some (10, true)), .write, 0⟩, ⟨(some 16), .arith .eql (.t 14) (.t 15), (some (10, true)), .write, 0⟩, ⟨(some 17), .pick (.t 10) (.t 16) (.c (.bool false)), none, .write, 0⟩, ⟨(some 4), .move (.t 17), none, .write, 0⟩])
 .ret)) }

theorem c348 : compFunc Tryz.prog Tryz.f348 .full = some t348 := by kernel_rfl

/-- slices.Reverse[[]broadside/api.ID,broadside/api.ID] -/
def t349 : DFunc := { ntmps := 28, results := [], mode := .full, body :=
 (.seq (.region [⟨(some 4), .move (.t 0), none, .write, 0⟩, ⟨(some 5), .len 1 (.t 4), none, .write, 0⟩, ⟨(some 6), .arith .sub (.t 5) (.c (.int .i64 1)), none, .write, 0⟩, ⟨(some 2), .move (.c (.int .i64 0)), none, .write, 0⟩, ⟨(some 3), .move (.t 6), none, .write, 0⟩])
 (.block 0 (.loop (.seq (.seq (.region [⟨(some 7), .move (.t 2), none, .write, 0⟩, ⟨(some 8), .move (.t 3), none, .write, 0⟩, ⟨(some 9), .arith .lss (.t 7) (.t 8), none, .write, 0⟩])
 (.cond (.t 9) .skip (.exit 0)))
 (.seq (.block 1 (.draw [⟨(some 18), .move (.t 0), none, .read, 0⟩, ⟨(some 19), .move (.t 3), none, .read, 0⟩, ⟨(some 20), .indexAddr 2 (.t 18) (.t 19), none, .read, 0⟩, ⟨(some 21), .load (some 2) (.t 20), none, .read, 0⟩, ⟨(some 22), .move (.t 0), none, .read, 0⟩, ⟨(some 23), .move (.t 2), none, .read, 0⟩, ⟨(some 24), .indexAddr 2 (.t 22) (.t 23), none, .read, 0⟩, ⟨(some 25), .load (some 2) (.t 24), none, .read, 0⟩, ⟨(some 14), .move (.t 0), none, .read, 0⟩, ⟨(some 15), .move (.t 2), none, .read, 0⟩, ⟨(some 26), .indexAddr 2 (.t 14) (.t 15), none, .read, 0⟩, ⟨none, .store 2 (.t 26) (.t 21), none, .write, 0⟩, ⟨(some 16), .move (.t 0), none, .read, 0⟩, ⟨(some 17), .move (.t 3), none, .read, 0⟩, ⟨(some 27), .indexAddr 2 (.t 16) (.t 17), none, .read, 1⟩, ⟨none, .store 2 (.t 27) (.t 25), none, .write, 1⟩]))
 (.region [⟨(some 10), .move (.t 2), none, .write, 0⟩, ⟨(some 11), .arith .add (.t 10) (.c (.int .i64 1)), none, .write, 0⟩, ⟨(some 12), .move (.t 3), none, .write, 0⟩, ⟨(some 13), .arith .sub (.t 12) (.c (.int .i64 1)), none, .write, 0⟩, ⟨(some 2), .move (.t 11), none, .write, 0⟩, ⟨(some 3), .move (.t 13), none, .write, 0⟩])))))) }

theorem c349 : compFunc Tryz.prog Tryz.f349 .full = some t349 := by kernel_rfl

/-- slices.Reverse[[]broadside/api.Entry,broadside/api.Entry] -/
def t350 : DFunc := { ntmps := 28, results := [], mode := .full, body :=
 (.seq (.region [⟨(some 4), .move (.t 0), none, .write, 0⟩, ⟨(some 5), .len 1 (.t 4), none, .write, 0⟩, ⟨(some 6), .arith .sub (.t 5) (.c (.int .i64 1)), none, .write, 0⟩, ⟨(some 2), .move (.c (.int .i64 0)), none, .write, 0⟩, ⟨(some 3), .move (.t 6), none, .write, 0⟩])
 (.block 0 (.loop (.seq (.seq (.region [⟨(some 7), .move (.t 2), none, .write, 0⟩, ⟨(some 8), .move (.t 3), none, .write, 0⟩, ⟨(some 9), .arith .lss (.t 7) (.t 8), none, .write, 0⟩])
 (.cond (.t 9) .skip (.exit 0)))
 (.seq (.block 1 (.draw [⟨(some 18), .move (.t 0), none, .read, 0⟩, ⟨(some 19), .move (.t 3), none, .read, 0⟩, ⟨(some 20), .indexAddr 7 (.t 18) (.t 19), none, .read, 0⟩, ⟨(some 21), .load (some 7) (.t 20), none, .read, 0⟩, ⟨(some 22), .move (.t 0), none, .read, 0⟩, ⟨(some 23), .move (.t 2), none, .read, 0⟩, ⟨(some 24), .indexAddr 7 (.t 22) (.t 23), none, .read, 0⟩, ⟨(some 25), .load (some 7) (.t 24), none, .read, 0⟩, ⟨(some 14), .move (.t 0), none, .read, 0⟩, ⟨(some 15), .move (.t 2), none, .read, 0⟩, ⟨(some 26), .indexAddr 7 (.t 14) (.t 15), none, .read, 0⟩, ⟨none, .store 7 (.t 26) (.t 21), none, .write, 0⟩, ⟨(some 16), .move (.t 0), none, .read, 0⟩, ⟨(some 17), .move (.t 3), none, .read, 0⟩, ⟨(some 27), .indexAddr 7 (.t 16) (.t 17), none, .read, 1⟩, ⟨none, .store 7 (.t 27) (.t 25), none, .write, 1⟩]))
 (.region [⟨(some 10), .move (.t 2), none, .write, 0⟩, ⟨(some 11), .arith .add (.t 10) (.c (.int .i64 1)), none, .write, 0⟩, ⟨(some 12), .move (.t 3), none, .write, 0⟩, ⟨(some 13), .arith .sub (.t 12) (.c (.int .i64 1)), none, .write, 0⟩, ⟨(some 2), .move (.t 11), none, .write, 0⟩, ⟨(some 3), .move (.t 13), none, .write, 0⟩])))))) }

theorem c350 : compFunc Tryz.prog Tryz.f350 .full = some t350 := by kernel_rfl

/-- slices.Delete[[]broadside/api.Own,broadside/api.Own] -/
def t351 : DFunc := { ntmps := 33, results := [(.t 6)], mode := .full, body :=
 (.seq (.region [⟨(some 6), .move (.c .nsl), none, .write, 0⟩])
 (.seq (.region [⟨(some 8), .move (.t 0), none, .write, 0⟩, ⟨(some 9), .move (.t 1), none, .write, 0⟩, ⟨(some 10), .move (.t 2), none, .write, 0⟩, ⟨(some 11), .move (.t 0), none, .write, 0⟩, ⟨(some 12), .len 1 (.t 11), none, .write, 0⟩, ⟨(some 13), .slice3 (.t 8) (.t 9) (.t 10) (.t 12), none, .write, 0⟩])
 (.seq (.seq (.region [⟨(some 14), .move (.t 1), none, .write, 0⟩, ⟨(some 15), .move (.t 2), none, .write, 0⟩, ⟨(some 16), .arith .eql (.t 14) (.t 15), none, .write, 0⟩])
 (.cond (.t 16) (.seq (.region [⟨(some 17), .move (.t 0), none, .write, 0⟩, ⟨(some 6), .move (.t 17), none, .write, 0⟩])
 .ret) .skip))
 (.seq (.region [⟨(some 18), .move (.t 0), none, .write, 0⟩, ⟨(some 19), .len 1 (.t 18), none, .write, 0⟩, ⟨(some 7), .move (.t 19), none, .write, 0⟩])
 (.seq (.draw [⟨(some 20), .move (.t 0), none, .read, 0⟩, ⟨(some 21), .move (.t 1), none, .read, 0⟩, ⟨(some 22), .sliceSl 3 (.t 20) none (some (.t 21)), none, .read, 0⟩, ⟨(some 23), .move (.t 0), none, .read, 0⟩, ⟨(some 24), .move (.t 2), none, .read, 0⟩, ⟨(some 25), .sliceSl 3 (.t 23) (some (.t 24)) none, none, .read, 0⟩, ⟨(some 26), .append 159 3 40 (.t 22) (.t 25), none, .write, 0⟩, ⟨(some 0), .move (.t 26), none, .read, 1⟩])
 (.seq (.region [⟨(some 27), .move (.t 0), none, .write, 0⟩, ⟨(some 28), .move (.t 0), none, .write, 0⟩, ⟨(some 29), .len 1 (.t 28), none, .write, 0⟩, ⟨(some 30), .move (.t 7), none, .write, 0⟩, ⟨(some 31), .sliceSl 3 (.t 27) (some (.t 29)) (some (.t 30)), none, .write, 0⟩, ⟨none, .clear 3 (.agg [(.int .i64 0), (.int .i64 0), .nsl]) (.t 31), none, .write, 0⟩])
 (.seq (.region [⟨(some 32), .move (.t 0), none, .write, 0⟩, ⟨(some 6), .move (.t 32), none, .write, 0⟩])
 .ret))))))) }

theorem c351 : compFunc Tryz.prog Tryz.f351 .full = some t351 := by kernel_rfl

/-- slices.Reverse[[]broadside/api.Constraint,broadside/api.Constraint] -/
def t352 : DFunc := { ntmps := 28, results := [], mode := .full, body :=
 (.seq (.region [⟨(some 4), .move (.t 0), none, .write, 0⟩, ⟨(some 5), .len 1 (.t 4), none, .write, 0⟩, ⟨(some 6), .arith .sub (.t 5) (.c (.int .i64 1)), none, .write, 0⟩, ⟨(some 2), .move (.c (.int .i64 0)), none, .write, 0⟩, ⟨(some 3), .move (.t 6), none, .write, 0⟩])
 (.block 0 (.loop (.seq (.seq (.region [⟨(some 7), .move (.t 2), none, .write, 0⟩, ⟨(some 8), .move (.t 3), none, .write, 0⟩, ⟨(some 9), .arith .lss (.t 7) (.t 8), none, .write, 0⟩])
 (.cond (.t 9) .skip (.exit 0)))
 (.seq (.block 1 (.draw [⟨(some 18), .move (.t 0), none, .read, 0⟩, ⟨(some 19), .move (.t 3), none, .read, 0⟩, ⟨(some 20), .indexAddr 5 (.t 18) (.t 19), none, .read, 0⟩, ⟨(some 21), .load (some 5) (.t 20), none, .read, 0⟩, ⟨(some 22), .move (.t 0), none, .read, 0⟩, ⟨(some 23), .move (.t 2), none, .read, 0⟩, ⟨(some 24), .indexAddr 5 (.t 22) (.t 23), none, .read, 0⟩, ⟨(some 25), .load (some 5) (.t 24), none, .read, 0⟩, ⟨(some 14), .move (.t 0), none, .read, 0⟩, ⟨(some 15), .move (.t 2), none, .read, 0⟩, ⟨(some 26), .indexAddr 5 (.t 14) (.t 15), none, .read, 0⟩, ⟨none, .store 5 (.t 26) (.t 21), none, .write, 0⟩, ⟨(some 16), .move (.t 0), none, .read, 0⟩, ⟨(some 17), .move (.t 3), none, .read, 0⟩, ⟨(some 27), .indexAddr 5 (.t 16) (.t 17), none, .read, 1⟩, ⟨none, .store 5 (.t 27) (.t 25), none, .write, 1⟩]))
 (.region [⟨(some 10), .move (.t 2), none, .write, 0⟩, ⟨(some 11), .arith .add (.t 10) (.c (.int .i64 1)), none, .write, 0⟩, ⟨(some 12), .move (.t 3), none, .write, 0⟩, ⟨(some 13), .arith .sub (.t 12) (.c (.int .i64 1)), none, .write, 0⟩, ⟨(some 2), .move (.t 11), none, .write, 0⟩, ⟨(some 3), .move (.t 13), none, .write, 0⟩])))))) }

theorem c352 : compFunc Tryz.prog Tryz.f352 .full = some t352 := by kernel_rfl

/-- slices.Equal[[]broadside/api.Attr,broadside/api.Attr] -/
def t353 : DFunc := { ntmps := 26, results := [(.t 4)], mode := .full, body :=
 (.seq (.region [⟨(some 4), .move (.c (.bool false)), none, .write, 0⟩])
 (.seq (.seq (.region [⟨(some 6), .move (.t 0), none, .write, 0⟩, ⟨(some 7), .len 1 (.t 6), none, .write, 0⟩, ⟨(some 8), .move (.t 1), none, .write, 0⟩, ⟨(some 9), .len 1 (.t 8), none, .write, 0⟩, ⟨(some 10), .arith .neq (.t 7) (.t 9), none, .write, 0⟩])
 (.cond (.t 10) (.seq (.region [⟨(some 4), .move (.c (.bool false)), none, .write, 0⟩])
 .ret) .skip))
 (.seq (.seq (.region [⟨(some 11), .move (.t 0), none, .write, 0⟩, ⟨(some 12), .len 1 (.t 11), none, .write, 0⟩, ⟨(some 13), .move (.c (.int .i64 0)), none, .write, 0⟩])
 (.block 0 (.loop (.seq (.region [⟨(some 14), .arith .lss (.t 13) (.t 12), none, .write, 0⟩])
 (.seq (.cond (.t 14) .skip (.exit 0))
 (.seq (.block 1 (.seq (.region [⟨(some 15), .move (.t 13), none, .write, 0⟩, ⟨(some 5), .move (.t 15), none, .write, 0⟩])
 (.seq (.draw [⟨(some 16), .move (.t 0), none, .read, 0⟩, ⟨(some 17), .move (.t 5), none, .read, 0⟩, ⟨(some 18), .indexAddr 4 (.t 16) (.t 17), none, .read, 0⟩, ⟨(some 19), .load (some 4) (.t 18), none, .read, 0⟩, ⟨(some 20), .move (.t 1), none, .read, 0⟩, ⟨(some 21), .move (.t 5), none, .read, 0⟩, ⟨(some 22), .indexAddr 4 (.t 20) (.t 21), none, .read, 0⟩, ⟨(some 23), .load (some 4) (.t 22), none, .read, 0⟩, ⟨(some 24), .eqa true [2, 0, 1, 2] (.t 19) (.t 23), none, .read, 0⟩])
 (.cond (.t 24) (.seq (.region [⟨(some 4), .move (.c (.bool false)), none, .write, 0⟩])
 .ret) .skip))))
 (.region [⟨(some 25), .arith .add (.t 13) (.c (.int .i64 1)), none, .write, 0⟩, ⟨(some 13), .move (.t 25), none, .write, 0⟩])))))))
 (.seq (.region [⟨(some 4), .move (.c (.bool true)), none, .write, 0⟩])
 .ret)))) }

theorem c353 : compFunc Tryz.prog Tryz.f353 .full = some t353 := by kernel_rfl

end Go.Dm.TabS
