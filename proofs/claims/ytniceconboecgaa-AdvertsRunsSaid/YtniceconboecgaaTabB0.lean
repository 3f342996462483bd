/-
The table of functions, brought into the machine's form (TabB, part 0). Written by program (wip/tools/table.lean.txt).
-/
import Derived.Test.YtniceconboecgaaDm28
import Derived.Test.YtniceconboecgaaRows
import Derived.KernelRfl
namespace Go.Dm.TabB
open Go.Proofs

/-- broadside/broadsidelaw9.AdvertsRuns -/
def t6 : DFunc := { ntmps := 55, results := [(.t 0)], mode := .full, body :=
 (.seq (.region [⟨(some 0), .move (.c (.bool false)), none, .write, 0⟩])
 (.seq (.region [⟨(some 8), .build [(.int .i64 0), (.int .i64 0)] [(0, 1, (.c (.int .i64 1)))], none, .write, 0⟩, ⟨(some 9), .build [(.int .i64 0), (.int .i64 0), .nsl, (.int .i64 0)] [(0, 2, (.t 8)), (3, 1, (.c (.int .i64 2)))], none, .write, 0⟩, ⟨(some 1), .alloc 45 4 (.agg [(.int .i64 0), (.int .i64 0), .nsl, (.int .i64 0)]), none, .write, 0⟩, ⟨none, .store 4 (.t 1) (.t 9), none, .write, 0⟩])
 (.seq (.draw [⟨(some 11), .buildSlice 3 1 (.int .i64 0) 3 [(0, (.c (.int .i64 3))), (1, (.c (.int .i64 2))), (2, (.c (.int .i64 3)))], none, .create, 0⟩, ⟨(some 12), .call (.c (.func 23 [])) [(.c (.int .i64 0)), (.t 11)], none, .create, 0⟩, ⟨(some 13), .load (some 4) (.t 1), none, .read, 0⟩, ⟨(some 14), .call (.c (.func 22 [])) [(.t 12), (.t 13)], none, .write, 2⟩, ⟨(some 10), .move (.t 14), none, .read, 3⟩, ⟨(some 15), .extract (.t 10) 0, none, .read, 3⟩, ⟨(some 2), .alloc 51 6 (.agg [(.int .i64 0), .nsl, .nsl, .nsl, .nsl, .nsl]), none, .create, 0⟩, ⟨none, .store 6 (.t 2) (.t 15), none, .write, 4⟩, ⟨(some 16), .extract (.t 10) 1, none, .read, 3⟩, ⟨(some 3), .move (.t 16), none, .read, 5⟩])
 (.seq (.region [⟨(some 18), .load (some 6) (.t 2), none, .write, 0⟩, ⟨(some 19), .load (some 4) (.t 1), none, .write, 0⟩, ⟨(some 20), .call (.c (.func 22 [])) [(.t 18), (.t 19)], none, .write, 0⟩, ⟨(some 17), .move (.t 20), none, .write, 0⟩, ⟨(some 21), .extract (.t 17) 0, none, .write, 0⟩, ⟨(some 22), .extract (.t 17) 1, none, .write, 0⟩, ⟨(some 4), .alloc 51 6 (.agg [(.int .i64 0), .nsl, .nsl, .nsl, .nsl, .nsl]), none, .write, 0⟩, ⟨none, .store 6 (.t 4) (.t 21), none, .write, 0⟩, ⟨(some 5), .move (.t 22), none, .write, 0⟩])
 (.seq (.region [⟨(some 24), .load (some 6) (.t 2), none, .write, 0⟩, ⟨(some 25), .fieldAddr 0 (.t 1), none, .write, 0⟩, ⟨(some 26), .load (some 2) (.t 25), none, .write, 0⟩, ⟨(some 27), .call (.c (.func 24 [])) [(.t 24), (.t 26), (.c (.int .i64 3))], none, .write, 0⟩, ⟨(some 23), .move (.t 27), none, .write, 0⟩, ⟨(some 28), .extract (.t 23) 0, none, .write, 0⟩, ⟨(some 29), .extract (.t 23) 1, none, .write, 0⟩, ⟨(some 6), .alloc 51 6 (.agg [(.int .i64 0), .nsl, .nsl, .nsl, .nsl, .nsl]), none, .write, 0⟩, ⟨none, .store 6 (.t 6) (.t 28), none, .write, 0⟩, ⟨(some 7), .move (.t 29), none, .write, 0⟩])
 (.seq (.region [⟨(some 30), .move (.t 3), none, .write, 0⟩, ⟨(some 31), .move (.t 30), none, .write, 0⟩, ⟨(some 32), .move (.t 5), (some (31, true)), .write, 0⟩, ⟨(some 33), .un .not (.t 32), (some (31, true)), .write, 0⟩, ⟨(some 34), .pick (.t 31) (.t 33) (.c (.bool false)), none, .write, 0⟩, ⟨(some 35), .move (.t 34), none, .write, 0⟩, ⟨(some 36), .move (.t 7), (some (35, true)), .write, 0⟩, ⟨(some 37), .un .not (.t 36), (some (35, true)), .write, 0⟩, ⟨(some 38), .pick (.t 35) (.t 37) (.c (.bool false)), none, .write, 0⟩, ⟨(some 39), .move (.t 38), none, .write, 0⟩, ⟨(some 40), .fieldAddr 1 (.t 2), (some (39, true)), .write, 0⟩, ⟨(some 41), .load none (.t 40), (some (39, true)), .write, 0⟩, ⟨(some 42), .buildSlice 3 1 (.int .i64 0) 2 [(0, (.c (.int .i64 2))), (1, (.c (.int .i64 3)))], (some (39, true)), .write, 0⟩, ⟨(some 43), .call (.c (.func 12 [])) [(.t 41), (.t 42)], (some (39, true)), .write, 0⟩, ⟨(some 44), .pick (.t 39) (.t 43) (.c (.bool false)), none, .write, 0⟩, ⟨(some 45), .move (.t 44), none, .write, 0⟩, ⟨(some 46), .load (some 6) (.t 2), (some (45, true)), .write, 0⟩, ⟨(some 47), .fieldAddr 0 (.t 1), (some (45, true)), .write, 0⟩, ⟨(some 48), .load (some 2) (.t 47), (some (45, true)), .write, 0⟩, ⟨(some 49), .call (.c (.func 25 [])) [(.t 46), (.t 48)], (some (45, true)), .write, 0⟩, ⟨(some 50), .pick (.t 45) (.t 49) (.c (.bool false)), none, .write, 0⟩, ⟨(some 51), .move (.t 50), none, .write, 0⟩, ⟨(some 52), .load (some 6) (.t 2), (some (51, true)), .write, 0⟩, ⟨(some 53), .call (.c (.func 26 [])) [(.t 52)], (some (51, true)), .write, 0⟩, ⟨(some 54), .pick (.t 51) (.t 53) (.c (.bool false)), none, .write, 0⟩, ⟨(some 0), .move (.t 54), none, .write, 0⟩])
 .ret)))))) }

theorem c6 : compFunc Try.prog Try.f6 .full = some t6 := by kernel_rfl

/-- broadside/broadsidebook.Same[int] -/
def t12 : DFunc := { ntmps := 26, results := [(.t 4)], mode := .full, body :=
 (.seq (.region [⟨(some 4), .move (.c (.bool false)), none, .write, 0⟩])
 (.seq (.seq (.region [⟨(some 6), .move (.t 0), none, .write, 0⟩, ⟨(some 7), .len 1 (.t 6), none, .write, 0⟩, ⟨(some 8), .move (.t 1), none, .write, 0⟩, ⟨(some 9), .len 1 (.t 8), none, .write, 0⟩, ⟨(some 10), .arith .neq (.t 7) (.t 9), none, .write, 0⟩])
 (.cond (.t 10) (.seq (.region [⟨(some 4), .move (.c (.bool false)), none, .write, 0⟩])
 .ret) .skip))
 (.seq (.seq (.region [⟨(some 5), .move (.c (.int .i64 0)), none, .write, 0⟩])
 (.block 0 (.loop (.seq (.seq (.region [⟨(some 11), .move (.t 5), none, .write, 0⟩, ⟨(some 12), .move (.t 0), none, .write, 0⟩, ⟨(some 13), .len 1 (.t 12), none, .write, 0⟩, ⟨(some 14), .arith .lss (.t 11) (.t 13), none, .write, 0⟩])
 (.cond (.t 14) .skip (.exit 0)))
 (.seq (.block 1 (.seq (.draw [⟨(some 17), .move (.t 0), none, .read, 0⟩, ⟨(some 18), .move (.t 5), none, .read, 0⟩, ⟨(some 19), .indexAddr 1 (.t 17) (.t 18), none, .read, 0⟩, ⟨(some 20), .load none (.t 19), none, .read, 0⟩, ⟨(some 21), .move (.t 1), none, .read, 0⟩, ⟨(some 22), .move (.t 5), none, .read, 0⟩, ⟨(some 23), .indexAddr 1 (.t 21) (.t 22), none, .read, 0⟩, ⟨(some 24), .load none (.t 23), none, .read, 0⟩, ⟨(some 25), .arith .neq (.t 20) (.t 24), none, .read, 0⟩])
 (.cond (.t 25) (.seq (.region [⟨(some 4), .move (.c (.bool false)), none, .write, 0⟩])
 .ret) .skip)))
 (.region [⟨(some 15), .move (.t 5), none, .write, 0⟩, ⟨(some 16), .arith .add (.t 15) (.c (.int .i64 1)), none, .write, 0⟩, ⟨(some 5), .move (.t 16), none, .write, 0⟩]))))))
 (.seq (.region [⟨(some 4), .move (.c (.bool true)), none, .write, 0⟩])
 .ret)))) }

theorem c12 : compFunc Try.prog Try.f12 .full = some t12 := by kernel_rfl

/-- broadside/adverts.Learn -/
def t22 : DFunc := { ntmps := 44, results := [(.cell 4 (some 6)), (.t 5)], mode := .full, body :=
 (.seq (.region [⟨(some 2), .box 51 6 (.t 0), none, .write, 0⟩, ⟨(some 3), .box 45 4 (.t 1), none, .write, 0⟩, ⟨(some 4), .alloc 51 6 (.agg [(.int .i64 0), .nsl, .nsl, .nsl, .nsl, .nsl]), none, .write, 0⟩, ⟨(some 5), .move (.c (.bool false)), none, .write, 0⟩])
 (.seq (.region [⟨(some 10), .load (some 6) (.t 2), none, .write, 0⟩, ⟨(some 11), .call (.c (.func 44 [])) [(.t 10)], none, .write, 0⟩, ⟨none, .store 6 (.t 2) (.t 11), none, .write, 0⟩])
 (.seq (.region [⟨(some 13), .load (some 6) (.t 2), none, .write, 0⟩, ⟨(some 14), .fieldAddr 0 (.t 3), none, .write, 0⟩, ⟨(some 15), .load (some 2) (.t 14), none, .write, 0⟩, ⟨(some 16), .call (.c (.func 45 [])) [(.t 13), (.t 15)], none, .write, 0⟩, ⟨(some 12), .move (.t 16), none, .write, 0⟩, ⟨(some 17), .extract (.t 12) 0, none, .write, 0⟩, ⟨(some 18), .extract (.t 12) 1, none, .write, 0⟩, ⟨(some 6), .move (.t 17), none, .write, 0⟩, ⟨(some 7), .move (.t 18), none, .write, 0⟩])
 (.seq (.seq (.region [⟨(some 19), .move (.t 7), none, .write, 0⟩])
 (.cond (.t 19) (.seq (.region [⟨(some 20), .load (some 6) (.t 2), none, .write, 0⟩, ⟨none, .store 6 (.t 4) (.t 20), none, .write, 0⟩, ⟨(some 5), .move (.c (.bool false)), none, .write, 0⟩])
 .ret) .skip))
 (.seq (.region [⟨(some 22), .load (some 6) (.t 2), none, .write, 0⟩, ⟨(some 23), .fieldAddr 0 (.t 3), none, .write, 0⟩, ⟨(some 24), .load (some 2) (.t 23), none, .write, 0⟩, ⟨(some 25), .call (.c (.func 46 [])) [(.t 22), (.t 24)], none, .write, 0⟩, ⟨(some 21), .move (.t 25), none, .write, 0⟩, ⟨(some 26), .extract (.t 21) 0, none, .write, 0⟩, ⟨(some 27), .extract (.t 21) 1, none, .write, 0⟩, ⟨(some 8), .move (.t 26), none, .write, 0⟩, ⟨(some 9), .move (.t 27), none, .write, 0⟩])
 (.seq (.region [⟨(some 28), .fieldAddr 2 (.t 2), none, .write, 0⟩, ⟨(some 29), .load none (.t 28), none, .write, 0⟩, ⟨(some 30), .move (.t 8), none, .write, 0⟩, ⟨(some 31), .load (some 4) (.t 3), none, .write, 0⟩, ⟨(some 32), .buildSlice 45 4 (.agg [(.int .i64 0), (.int .i64 0), .nsl, (.int .i64 0)]) 1 [(0, (.t 31))], none, .write, 0⟩, ⟨(some 33), .call (.c (.func 47 [])) [(.t 29), (.t 30), (.t 32)], none, .write, 0⟩, ⟨(some 34), .fieldAddr 2 (.t 2), none, .write, 0⟩, ⟨none, .store 1 (.t 34) (.t 33), none, .write, 0⟩])
 (.seq (.region [⟨(some 35), .fieldAddr 3 (.t 2), none, .write, 0⟩, ⟨(some 36), .load none (.t 35), none, .write, 0⟩, ⟨(some 37), .move (.t 6), none, .write, 0⟩, ⟨(some 38), .fieldAddr 0 (.t 3), none, .write, 0⟩, ⟨(some 39), .load (some 2) (.t 38), none, .write, 0⟩, ⟨(some 40), .buildSlice 42 2 (.agg [(.int .i64 0), (.int .i64 0)]) 1 [(0, (.t 39))], none, .write, 0⟩, ⟨(some 41), .call (.c (.func 48 [])) [(.t 36), (.t 37), (.t 40)], none, .write, 0⟩, ⟨(some 42), .fieldAddr 3 (.t 2), none, .write, 0⟩, ⟨none, .store 1 (.t 42) (.t 41), none, .write, 0⟩])
 (.seq (.region [⟨(some 43), .load (some 6) (.t 2), none, .write, 0⟩, ⟨none, .store 6 (.t 4) (.t 43), none, .write, 0⟩, ⟨(some 5), .move (.c (.bool true)), none, .write, 0⟩])
 .ret)))))))) }

theorem c22 : compFunc Try.prog Try.f22 .full = some t22 := by kernel_rfl

/-- broadside/adverts.New -/
def t23 : DFunc := { ntmps := 14, results := [(.cell 4 (some 6))], mode := .full, body :=
 (.seq (.region [⟨(some 4), .alloc 51 6 (.agg [(.int .i64 0), .nsl, .nsl, .nsl, .nsl, .nsl]), none, .write, 0⟩])
 (.seq (.region [⟨(some 6), .move (.t 1), none, .write, 0⟩, ⟨(some 7), .call (.c (.func 49 [])) [(.t 6)], none, .write, 0⟩, ⟨(some 5), .move (.t 7), none, .write, 0⟩])
 (.seq (.region [⟨(some 8), .move (.t 5), none, .write, 0⟩, ⟨(some 9), .call (.c (.func 50 [])) [(.t 8)], none, .write, 0⟩])
 (.seq (.region [⟨(some 10), .move (.t 0), none, .write, 0⟩, ⟨(some 11), .move (.t 5), none, .write, 0⟩, ⟨(some 12), .call (.c (.func 51 [])) [(.t 11)], none, .write, 0⟩, ⟨(some 13), .build [(.int .i64 0), .nsl, .nsl, .nsl, .nsl, .nsl] [(0, 1, (.t 10)), (1, 1, (.t 12))], none, .write, 0⟩, ⟨none, .store 6 (.t 4) (.t 13), none, .write, 0⟩])
 .ret)))) }

theorem c23 : compFunc Try.prog Try.f23 .full = some t23 := by kernel_rfl

/-- broadside/adverts.Forget -/
def t24 : DFunc := { ntmps := 44, results := [(.cell 6 (some 6)), (.t 7)], mode := .full, body :=
 (.seq (.region [⟨(some 3), .box 51 6 (.t 0), none, .write, 0⟩, ⟨(some 4), .box 42 2 (.t 1), none, .write, 0⟩, ⟨(some 6), .alloc 51 6 (.agg [(.int .i64 0), .nsl, .nsl, .nsl, .nsl, .nsl]), none, .write, 0⟩, ⟨(some 7), .move (.c (.bool false)), none, .write, 0⟩])
 (.seq (.region [⟨(some 10), .load (some 6) (.t 3), none, .write, 0⟩, ⟨(some 11), .call (.c (.func 44 [])) [(.t 10)], none, .write, 0⟩, ⟨none, .store 6 (.t 3) (.t 11), none, .write, 0⟩])
 (.seq (.region [⟨(some 13), .load (some 6) (.t 3), none, .write, 0⟩, ⟨(some 14), .load (some 2) (.t 4), none, .write, 0⟩, ⟨(some 15), .call (.c (.func 46 [])) [(.t 13), (.t 14)], none, .write, 0⟩, ⟨(some 12), .move (.t 15), none, .write, 0⟩, ⟨(some 16), .extract (.t 12) 0, none, .write, 0⟩, ⟨(some 17), .extract (.t 12) 1, none, .write, 0⟩, ⟨(some 8), .move (.t 16), none, .write, 0⟩, ⟨(some 9), .move (.t 17), none, .write, 0⟩])
 (.seq (.seq (.region [⟨(some 18), .move (.t 9), none, .write, 0⟩, ⟨(some 19), .un .not (.t 18), none, .write, 0⟩, ⟨(some 20), .move (.t 19), none, .write, 0⟩, ⟨(some 21), .fieldAddr 2 (.t 3), (some (20, false)), .write, 0⟩, ⟨(some 22), .load none (.t 21), (some (20, false)), .write, 0⟩, ⟨(some 23), .move (.t 8), (some (20, false)), .write, 0⟩, ⟨(some 24), .indexAddr 4 (.t 22) (.t 23), (some (20, false)), .write, 0⟩, ⟨(some 25), .fieldAddr 3 (.t 24), (some (20, false)), .write, 0⟩, ⟨(some 26), .load none (.t 25), (some (20, false)), .write, 0⟩, ⟨(some 27), .move (.t 2), (some (20, false)), .write, 0⟩, ⟨(some 28), .arith .neq (.t 26) (.t 27), (some (20, false)), .write, 0⟩, ⟨(some 29), .pick (.t 20) (.c (.bool true)) (.t 28), none, .write, 0⟩])
 (.cond (.t 29) (.seq (.region [⟨(some 30), .load (some 6) (.t 3), none, .write, 0⟩, ⟨none, .store 6 (.t 6) (.t 30), none, .write, 0⟩, ⟨(some 7), .move (.c (.bool false)), none, .write, 0⟩])
 .ret) .skip))
 (.seq (.region [⟨(some 31), .fieldAddr 2 (.t 3), none, .write, 0⟩, ⟨(some 32), .load none (.t 31), none, .write, 0⟩, ⟨(some 33), .move (.t 8), none, .write, 0⟩, ⟨(some 34), .move (.t 8), none, .write, 0⟩, ⟨(some 35), .arith .add (.t 34) (.c (.int .i64 1)), none, .write, 0⟩, ⟨(some 36), .call (.c (.func 52 [])) [(.t 32), (.t 33), (.t 35)], none, .write, 0⟩, ⟨(some 37), .fieldAddr 2 (.t 3), none, .write, 0⟩, ⟨none, .store 1 (.t 37) (.t 36), none, .write, 0⟩])
 (.seq (.region [⟨(some 38), .fieldAddr 4 (.t 3), none, .write, 0⟩, ⟨(some 39), .load none (.t 38), none, .write, 0⟩, ⟨(some 40), .makeFunc 54 [(.t 4)], none, .write, 0⟩, ⟨(some 41), .call (.c (.func 53 [])) [(.t 39), (.t 40)], none, .write, 0⟩, ⟨(some 42), .fieldAddr 4 (.t 3), none, .write, 0⟩, ⟨none, .store 1 (.t 42) (.t 41), none, .write, 0⟩])
 (.seq (.region [⟨(some 43), .load (some 6) (.t 3), none, .write, 0⟩, ⟨none, .store 6 (.t 6) (.t 43), none, .write, 0⟩, ⟨(some 7), .move (.c (.bool true)), none, .write, 0⟩])
 .ret))))))) }

theorem c24 : compFunc Try.prog Try.f24 .full = some t24 := by kernel_rfl

/-- broadside/adverts.Seen -/
def t25 : DFunc := { ntmps := 14, results := [(.t 4)], mode := .full, body :=
 (.seq (.region [⟨(some 2), .box 51 6 (.t 0), none, .write, 0⟩, ⟨(some 3), .box 42 2 (.t 1), none, .write, 0⟩, ⟨(some 4), .move (.c (.bool false)), none, .write, 0⟩])
 (.seq (.region [⟨(some 8), .load (some 6) (.t 2), none, .write, 0⟩, ⟨(some 9), .load (some 2) (.t 3), none, .write, 0⟩, ⟨(some 10), .call (.c (.func 45 [])) [(.t 8), (.t 9)], none, .write, 0⟩, ⟨(some 7), .move (.t 10), none, .write, 0⟩, ⟨(some 11), .extract (.t 7) 0, none, .write, 0⟩, ⟨(some 12), .extract (.t 7) 1, none, .write, 0⟩, ⟨(some 5), .move (.t 11), none, .write, 0⟩, ⟨(some 6), .move (.t 12), none, .write, 0⟩])
 (.seq (.region [⟨(some 13), .move (.t 6), none, .write, 0⟩, ⟨(some 4), .move (.t 13), none, .write, 0⟩])
 .ret))) }

theorem c25 : compFunc Try.prog Try.f25 .full = some t25 := by kernel_rfl

/-- broadside/adverts.Right -/
def t26 : DFunc := { ntmps := 48, results := [(.t 2)], mode := .full, body :=
 (.seq (.region [⟨(some 1), .box 51 6 (.t 0), none, .write, 0⟩, ⟨(some 2), .move (.c (.bool false)), none, .write, 0⟩])
 (.seq (.region [⟨(some 4), .fieldAddr 1 (.t 1), none, .write, 0⟩, ⟨(some 5), .load none (.t 4), none, .write, 0⟩, ⟨(some 6), .call (.c (.func 55 [])) [(.t 5), (.c (.func 56 []))], none, .write, 0⟩, ⟨(some 7), .move (.t 6), none, .write, 0⟩, ⟨(some 8), .fieldAddr 3 (.t 1), (some (7, true)), .write, 0⟩, ⟨(some 9), .load none (.t 8), (some (7, true)), .write, 0⟩, ⟨(some 10), .call (.c (.func 57 [])) [(.t 9), (.c (.func 29 []))], (some (7, true)), .write, 0⟩, ⟨(some 11), .pick (.t 7) (.t 10) (.c (.bool false)), none, .write, 0⟩, ⟨(some 12), .move (.t 11), none, .write, 0⟩, ⟨(some 13), .fieldAddr 2 (.t 1), (some (12, true)), .write, 0⟩, ⟨(some 14), .load none (.t 13), (some (12, true)), .write, 0⟩, ⟨(some 15), .call (.c (.func 58 [])) [(.t 14), (.c (.func 59 []))], (some (12, true)), .write, 0⟩, ⟨(some 16), .pick (.t 12) (.t 15) (.c (.bool false)), none, .write, 0⟩, ⟨(some 17), .move (.t 16), none, .write, 0⟩, ⟨(some 18), .fieldAddr 5 (.t 1), (some (17, true)), .write, 0⟩, ⟨(some 19), .load none (.t 18), (some (17, true)), .write, 0⟩, ⟨(some 20), .call (.c (.func 60 [])) [(.t 19), (.c (.func 61 []))], (some (17, true)), .write, 0⟩, ⟨(some 21), .pick (.t 17) (.t 20) (.c (.bool false)), none, .write, 0⟩, ⟨(some 22), .move (.t 21), none, .write, 0⟩, ⟨(some 23), .fieldAddr 4 (.t 1), (some (22, true)), .write, 0⟩, ⟨(some 24), .load none (.t 23), (some (22, true)), .write, 0⟩, ⟨(some 25), .call (.c (.func 62 [])) [(.t 24), (.c (.func 63 []))], (some (22, true)), .write, 0⟩, ⟨(some 26), .pick (.t 22) (.t 25) (.c (.bool false)), none, .write, 0⟩, ⟨(some 3), .move (.t 26), none, .write, 0⟩])
 (.seq (.region [⟨(some 27), .move (.t 3), none, .write, 0⟩, ⟨(some 28), .move (.t 27), none, .write, 0⟩, ⟨(some 29), .fieldAddr 2 (.t 1), (some (28, true)), .write, 0⟩, ⟨(some 30), .load none (.t 29), (some (28, true)), .write, 0⟩, ⟨(some 31), .makeFunc 67 [(.t 1)], (some (28, true)), .write, 0⟩, ⟨(some 32), .call (.c (.func 66 [])) [(.t 30), (.t 31)], (some (28, true)), .write, 0⟩, ⟨(some 33), .un .not (.t 32), (some (28, true)), .write, 0⟩, ⟨(some 34), .pick (.t 28) (.t 33) (.c (.bool false)), none, .write, 0⟩, ⟨(some 35), .move (.t 34), none, .write, 0⟩, ⟨(some 36), .fieldAddr 4 (.t 1), (some (35, true)), .write, 0⟩, ⟨(some 37), .load none (.t 36), (some (35, true)), .write, 0⟩, ⟨(some 38), .makeFunc 71 [(.t 1)], (some (35, true)), .write, 0⟩, ⟨(some 39), .call (.c (.func 70 [])) [(.t 37), (.t 38)], (some (35, true)), .write, 0⟩, ⟨(some 40), .un .not (.t 39), (some (35, true)), .write, 0⟩, ⟨(some 41), .pick (.t 35) (.t 40) (.c (.bool false)), none, .write, 0⟩, ⟨(some 42), .move (.t 41), none, .write, 0⟩, ⟨(some 43), .fieldAddr 5 (.t 1), (some (42, true)), .write, 0⟩, ⟨(some 44), .load none (.t 43), (some (42, true)), .write, 0⟩, ⟨(some 45), .call (.c (.func 73 [])) [(.t 44), (.c (.func 74 []))], (some (42, true)), .write, 0⟩, ⟨(some 46), .un .not (.t 45), (some (42, true)), .write, 0⟩, ⟨(some 47), .pick (.t 42) (.t 46) (.c (.bool false)), none, .write, 0⟩, ⟨(some 2), .move (.t 47), none, .write, 0⟩])
 .ret))) }

theorem c26 : compFunc Try.prog Try.f26 .full = some t26 := by kernel_rfl

/-- broadside/adverts.Find -/
def t28 : DFunc := { ntmps := 22, results := [(.cell 4 (some 4)), (.t 5)], mode := .full, body :=
 (.seq (.region [⟨(some 2), .box 51 6 (.t 0), none, .write, 0⟩, ⟨(some 3), .box 42 2 (.t 1), none, .write, 0⟩, ⟨(some 4), .alloc 45 4 (.agg [(.int .i64 0), (.int .i64 0), .nsl, (.int .i64 0)]), none, .write, 0⟩, ⟨(some 5), .move (.c (.bool false)), none, .write, 0⟩])
 (.seq (.region [⟨(some 9), .load (some 6) (.t 2), none, .write, 0⟩, ⟨(some 10), .load (some 2) (.t 3), none, .write, 0⟩, ⟨(some 11), .call (.c (.func 46 [])) [(.t 9), (.t 10)], none, .write, 0⟩, ⟨(some 8), .move (.t 11), none, .write, 0⟩, ⟨(some 12), .extract (.t 8) 0, none, .write, 0⟩, ⟨(some 13), .extract (.t 8) 1, none, .write, 0⟩, ⟨(some 6), .move (.t 12), none, .write, 0⟩, ⟨(some 7), .move (.t 13), none, .write, 0⟩])
 (.seq (.seq (.region [⟨(some 14), .move (.t 7), none, .write, 0⟩, ⟨(some 15), .un .not (.t 14), none, .write, 0⟩])
 (.cond (.t 15) (.seq (.region [⟨(some 16), .build [(.int .i64 0), (.int .i64 0), .nsl, (.int .i64 0)] [], none, .write, 0⟩, ⟨none, .store 4 (.t 4) (.t 16), none, .write, 0⟩, ⟨(some 5), .move (.c (.bool false)), none, .write, 0⟩])
 .ret) .skip))
 (.seq (.region [⟨(some 17), .fieldAddr 2 (.t 2), none, .write, 0⟩, ⟨(some 18), .load none (.t 17), none, .write, 0⟩, ⟨(some 19), .move (.t 6), none, .write, 0⟩, ⟨(some 20), .indexAddr 4 (.t 18) (.t 19), none, .write, 0⟩, ⟨(some 21), .load (some 4) (.t 20), none, .write, 0⟩, ⟨none, .store 4 (.t 4) (.t 21), none, .write, 0⟩, ⟨(some 5), .move (.c (.bool true)), none, .write, 0⟩])
 .ret)))) }

theorem c28 : compFunc Try.prog Try.f28 .full = some t28 := by kernel_rfl

/-- broadside/adverts.Less -/
def t29 : DFunc := { ntmps := 9, results := [(.t 4)], mode := .full, body :=
 (.seq (.region [⟨(some 2), .box 42 2 (.t 0), none, .write, 0⟩, ⟨(some 3), .box 42 2 (.t 1), none, .write, 0⟩, ⟨(some 4), .move (.c (.bool false)), none, .write, 0⟩])
 (.seq (.region [⟨(some 5), .load (some 2) (.t 2), none, .write, 0⟩, ⟨(some 6), .load (some 2) (.t 3), none, .write, 0⟩, ⟨(some 7), .call (.c (.func 65 [])) [(.t 5), (.t 6)], none, .write, 0⟩, ⟨(some 8), .arith .lss (.t 7) (.c (.int .i64 0)), none, .write, 0⟩, ⟨(some 4), .move (.t 8), none, .write, 0⟩])
 .ret)) }

theorem c29 : compFunc Try.prog Try.f29 .full = some t29 := by kernel_rfl

/-- slices.Contains[[]int,int] -/
def t40 : DFunc := { ntmps := 9, results := [(.t 4)], mode := .full, body :=
 (.seq (.region [⟨(some 4), .move (.c (.bool false)), none, .write, 0⟩])
 (.seq (.region [⟨(some 5), .move (.t 0), none, .write, 0⟩, ⟨(some 6), .move (.t 1), none, .write, 0⟩, ⟨(some 7), .call (.c (.func 92 [])) [(.t 5), (.t 6)], none, .write, 0⟩, ⟨(some 8), .arith .geq (.t 7) (.c (.int .i64 0)), none, .write, 0⟩, ⟨(some 4), .move (.t 8), none, .write, 0⟩])
 .ret)) }

theorem c40 : compFunc Try.prog Try.f40 .full = some t40 := by kernel_rfl

/-- broadside/adverts.copied -/
def t44 : DFunc := { ntmps := 24, results := [(.cell 2 (some 6))], mode := .full, body :=
 (.seq (.region [⟨(some 1), .box 51 6 (.t 0), none, .write, 0⟩, ⟨(some 2), .alloc 51 6 (.agg [(.int .i64 0), .nsl, .nsl, .nsl, .nsl, .nsl]), none, .write, 0⟩])
 (.seq (.draw [⟨(some 3), .fieldAddr 1 (.t 1), none, .read, 0⟩, ⟨(some 4), .load none (.t 3), none, .read, 0⟩, ⟨(some 5), .call (.c (.func 49 [])) [(.t 4)], none, .create, 0⟩, ⟨(some 6), .fieldAddr 2 (.t 1), none, .read, 0⟩, ⟨(some 7), .load none (.t 6), none, .read, 0⟩, ⟨(some 8), .call (.c (.func 94 [])) [(.t 7)], none, .create, 0⟩, ⟨(some 9), .fieldAddr 3 (.t 1), none, .read, 0⟩, ⟨(some 10), .load none (.t 9), none, .read, 0⟩, ⟨(some 11), .call (.c (.func 95 [])) [(.t 10)], none, .create, 0⟩, ⟨(some 12), .fieldAddr 4 (.t 1), none, .read, 0⟩, ⟨(some 13), .load none (.t 12), none, .read, 0⟩, ⟨(some 14), .call (.c (.func 77 [])) [(.t 13)], none, .create, 0⟩, ⟨(some 15), .fieldAddr 5 (.t 1), none, .read, 0⟩, ⟨(some 16), .load none (.t 15), none, .read, 0⟩, ⟨(some 17), .call (.c (.func 96 [])) [(.t 16)], none, .write, 4⟩, ⟨(some 18), .fieldAddr 1 (.t 1), none, .read, 1⟩, ⟨none, .store 1 (.t 18) (.t 5), none, .write, 5⟩, ⟨(some 19), .fieldAddr 2 (.t 1), none, .read, 6⟩, ⟨none, .store 1 (.t 19) (.t 8), none, .write, 6⟩, ⟨(some 20), .fieldAddr 3 (.t 1), none, .read, 7⟩, ⟨none, .store 1 (.t 20) (.t 11), none, .write, 7⟩, ⟨(some 21), .fieldAddr 4 (.t 1), none, .read, 8⟩, ⟨none, .store 1 (.t 21) (.t 14), none, .write, 8⟩, ⟨(some 22), .fieldAddr 5 (.t 1), none, .read, 9⟩, ⟨none, .store 1 (.t 22) (.t 17), none, .write, 9⟩])
 (.seq (.region [⟨(some 23), .load (some 6) (.t 1), none, .write, 0⟩, ⟨none, .store 6 (.t 2) (.t 23), none, .write, 0⟩])
 .ret))) }

theorem c44 : compFunc Try.prog Try.f44 .full = some t44 := by kernel_rfl

/-- broadside/adverts.seen -/
def t45 : DFunc := { ntmps := 12, results := [(.t 4), (.t 5)], mode := .full, body :=
 (.seq (.region [⟨(some 2), .box 51 6 (.t 0), none, .write, 0⟩, ⟨(some 3), .box 42 2 (.t 1), none, .write, 0⟩, ⟨(some 4), .move (.c (.int .i64 0)), none, .write, 0⟩, ⟨(some 5), .move (.c (.bool false)), none, .write, 0⟩])
 (.seq (.region [⟨(some 6), .fieldAddr 3 (.t 2), none, .write, 0⟩, ⟨(some 7), .load none (.t 6), none, .write, 0⟩, ⟨(some 8), .load (some 2) (.t 3), none, .write, 0⟩, ⟨(some 9), .call (.c (.func 97 [])) [(.t 7), (.t 8), (.c (.func 65 []))], none, .write, 0⟩, ⟨(some 10), .extract (.t 9) 0, none, .write, 0⟩, ⟨(some 11), .extract (.t 9) 1, none, .write, 0⟩, ⟨(some 4), .move (.t 10), none, .write, 0⟩, ⟨(some 5), .move (.t 11), none, .write, 0⟩])
 .ret)) }

theorem c45 : compFunc Try.prog Try.f45 .full = some t45 := by kernel_rfl

end Go.Dm.TabB
