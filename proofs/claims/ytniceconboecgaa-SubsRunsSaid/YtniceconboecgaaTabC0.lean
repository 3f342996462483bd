/-
The table of functions, brought into the machine's form (TabC, part 0). Written by program (wip/tools/table.lean.txt).
-/
import Derived.Test.YtniceconboecgaaDm32
import Derived.Test.YtniceconboecgaaRows
import Derived.KernelRfl
namespace Go.Dm.TabC
open Go.Proofs

/-- broadside/broadsidelaw10.SubsRuns -/
def t8 : DFunc := { ntmps := 78, results := [(.t 0)], mode := .full, body :=
 (.seq (.region [⟨(some 0), .move (.c (.bool false)), none, .write, 0⟩])
 (.seq (.region [⟨(some 10), .build [(.int .i64 0), (.int .i64 0)] [(0, 1, (.c (.int .i64 1)))], none, .write, 0⟩, ⟨(some 1), .alloc 42 2 (.agg [(.int .i64 0), (.int .i64 0)]), none, .write, 0⟩, ⟨none, .store 2 (.t 1) (.t 10), none, .write, 0⟩])
 (.seq (.region [⟨(some 2), .move (.c (.func 30 [])), none, .write, 0⟩])
 (.seq (.draw [⟨(some 12), .buildSlice 3 1 (.int .i64 0) 2 [(0, (.c (.int .i64 1))), (1, (.c (.int .i64 2)))], none, .create, 0⟩, ⟨(some 13), .call (.c (.func 23 [])) [(.c (.int .i64 0)), (.t 12)], none, .create, 0⟩, ⟨(some 14), .load (some 2) (.t 1), none, .read, 0⟩, ⟨(some 15), .build [(.int .i64 0), (.int .i64 0), .nsl, (.int .i64 0)] [(0, 2, (.t 14)), (3, 1, (.c (.int .i64 1)))], none, .read, 0⟩, ⟨(some 16), .call (.c (.func 22 [])) [(.t 13), (.t 15)], none, .write, 2⟩, ⟨(some 11), .move (.t 16), none, .read, 3⟩, ⟨(some 17), .extract (.t 11) 0, none, .read, 3⟩, ⟨(some 3), .alloc 51 6 (.agg [(.int .i64 0), .nsl, .nsl, .nsl, .nsl, .nsl]), none, .create, 0⟩, ⟨none, .store 6 (.t 3) (.t 17), none, .write, 4⟩, ⟨(some 18), .extract (.t 11) 1, none, .read, 3⟩, ⟨(some 4), .move (.t 18), none, .read, 5⟩])
 (.seq (.draw [⟨(some 20), .load (some 6) (.t 3), none, .read, 0⟩, ⟨(some 21), .load (some 2) (.t 1), none, .read, 0⟩, ⟨(some 23), .move (.t 2), none, .read, 0⟩, ⟨(some 24), .call (.t 23) [(.c (.int .i64 1)), (.c (.int .i64 9))], none, .create, 0⟩, ⟨(some 22), .build [(.int .i64 0), (.int .i64 0)] [(0, 1, (.c (.int .i64 2)))], none, .read, 0⟩, ⟨(some 25), .build [(.int .i64 0), (.int .i64 0), (.int .i64 0), (.int .i64 0), .nsl, (.int .i64 0), (.bool false)] [(0, 2, (.t 21)), (2, 2, (.t 22)), (4, 1, (.t 24)), (5, 1, (.c (.int .i64 2)))], none, .read, 1⟩, ⟨(some 26), .call (.c (.func 31 [])) [(.t 20), (.t 25)], none, .write, 1⟩, ⟨(some 19), .move (.t 26), none, .read, 2⟩, ⟨(some 27), .extract (.t 19) 0, none, .read, 2⟩, ⟨none, .store 6 (.t 3) (.t 27), none, .write, 2⟩, ⟨(some 28), .extract (.t 19) 1, none, .read, 2⟩, ⟨(some 5), .move (.t 28), none, .read, 3⟩])
 (.seq (.draw [⟨(some 30), .load (some 6) (.t 3), none, .read, 0⟩, ⟨(some 31), .load (some 2) (.t 1), none, .read, 0⟩, ⟨(some 33), .move (.t 2), none, .read, 0⟩, ⟨(some 34), .call (.t 33) [(.c (.int .i64 2)), (.c (.int .i64 3))], none, .create, 0⟩, ⟨(some 32), .build [(.int .i64 0), (.int .i64 0)] [(0, 1, (.c (.int .i64 3)))], none, .read, 0⟩, ⟨(some 35), .build [(.int .i64 0), (.int .i64 0), (.int .i64 0), (.int .i64 0), .nsl, (.int .i64 0), (.bool false)] [(0, 2, (.t 31)), (2, 2, (.t 32)), (4, 1, (.t 34)), (5, 1, (.c (.int .i64 2)))], none, .read, 1⟩, ⟨(some 36), .call (.c (.func 31 [])) [(.t 30), (.t 35)], none, .write, 1⟩, ⟨(some 29), .move (.t 36), none, .read, 2⟩, ⟨(some 37), .extract (.t 29) 0, none, .read, 2⟩, ⟨none, .store 6 (.t 3) (.t 37), none, .write, 2⟩, ⟨(some 38), .extract (.t 29) 1, none, .read, 2⟩, ⟨(some 6), .move (.t 38), none, .read, 3⟩])
 (.seq (.region [⟨(some 40), .load (some 6) (.t 3), none, .write, 0⟩, ⟨(some 41), .load (some 2) (.t 1), none, .write, 0⟩, ⟨(some 42), .build [(.int .i64 0), (.int .i64 0)] [(0, 1, (.c (.int .i64 2)))], none, .write, 0⟩, ⟨(some 43), .call (.c (.func 32 [])) [(.t 40), (.t 41), (.t 42), (.c (.int .i64 2))], none, .write, 0⟩, ⟨(some 39), .move (.t 43), none, .write, 0⟩, ⟨(some 44), .extract (.t 39) 0, none, .write, 0⟩, ⟨(some 45), .extract (.t 39) 1, none, .write, 0⟩, ⟨(some 46), .extract (.t 39) 2, none, .write, 0⟩, ⟨(some 7), .alloc 51 6 (.agg [(.int .i64 0), .nsl, .nsl, .nsl, .nsl, .nsl]), none, .write, 0⟩, ⟨none, .store 6 (.t 7) (.t 44), none, .write, 0⟩, ⟨(some 8), .move (.t 45), none, .write, 0⟩, ⟨(some 9), .move (.t 46), none, .write, 0⟩])
 (.seq (.region [⟨(some 47), .move (.t 5), none, .write, 0⟩, ⟨(some 48), .move (.t 47), none, .write, 0⟩, ⟨(some 49), .move (.t 6), (some (48, true)), .write, 0⟩, ⟨(some 50), .un .not (.t 49), (some (48, true)), .write, 0⟩, ⟨(some 51), .pick (.t 48) (.t 50) (.c (.bool false)), none, .write, 0⟩, ⟨(some 52), .move (.t 51), none, .write, 0⟩, ⟨(some 53), .move (.t 9), (some (52, true)), .write, 0⟩, ⟨(some 54), .pick (.t 52) (.t 53) (.c (.bool false)), none, .write, 0⟩, ⟨(some 55), .move (.t 54), none, .write, 0⟩, ⟨(some 56), .move (.t 8), (some (55, true)), .write, 0⟩, ⟨(some 57), .len 1 (.t 56), (some (55, true)), .write, 0⟩, ⟨(some 58), .arith .eql (.t 57) (.c (.int .i64 1)), (some (55, true)), .write, 0⟩, ⟨(some 59), .pick (.t 55) (.t 58) (.c (.bool false)), none, .write, 0⟩, ⟨(some 60), .move (.t 59), none, .write, 0⟩, ⟨(some 61), .move (.t 8), (some (60, true)), .write, 0⟩, ⟨(some 62), .indexAddr 7 (.t 61) (.c (.int .i64 0)), (some (60, true)), .write, 0⟩, ⟨(some 63), .fieldAddr 2 (.t 62), (some (60, true)), .write, 0⟩, ⟨(some 64), .load (some 2) (.t 63), (some (60, true)), .write, 0⟩, ⟨(some 65), .build [(.int .i64 0), (.int .i64 0)] [(0, 1, (.c (.int .i64 3)))], (some (60, true)), .write, 0⟩, ⟨(some 66), .eqa false [1, 1] (.t 64) (.t 65), (some (60, true)), .write, 0⟩, ⟨(some 67), .pick (.t 60) (.t 66) (.c (.bool false)), none, .write, 0⟩, ⟨(some 68), .move (.t 67), none, .write, 0⟩, ⟨(some 69), .move (.t 8), (some (68, true)), .write, 0⟩, ⟨(some 70), .indexAddr 7 (.t 69) (.c (.int .i64 0)), (some (68, true)), .write, 0⟩, ⟨(some 71), .fieldAddr 6 (.t 70), (some (68, true)), .write, 0⟩, ⟨(some 72), .load none (.t 71), (some (68, true)), .write, 0⟩, ⟨(some 73), .pick (.t 68) (.t 72) (.c (.bool false)), none, .write, 0⟩, ⟨(some 74), .move (.t 73), none, .write, 0⟩, ⟨(some 75), .load (some 6) (.t 3), (some (74, true)), .write, 0⟩, ⟨(some 76), .call (.c (.func 33 [])) [(.t 75)], (some (74, true)), .write, 0⟩, ⟨(some 77), .pick (.t 74) (.t 76) (.c (.bool false)), none, .write, 0⟩, ⟨(some 0), .move (.t 77), none, .write, 0⟩])
 .ret)))))))) }

theorem c8 : compFunc Try.prog Try.f8 .full = some t8 := by kernel_rfl

/-- broadside/adverts.Learn -/
def t22 : DFunc := { ntmps := 44, results := [(.cell 4 (some 6)), (.t 5)], mode := .full, body :=
 (.seq (.region [⟨(some 2), .box 51 6 (.t 0), none, .write, 0⟩, ⟨(some 3), .box 45 4 (.t 1), none, .write, 0⟩, ⟨(some 4), .alloc 51 6 (.agg [(.int .i64 0), .nsl, .nsl, .nsl, .nsl, .nsl]), none, .write, 0⟩, ⟨(some 5), .move (.c (.bool false)), none, .write, 0⟩])
 (.seq (.region [⟨(some 10), .load (some 6) (.t 2), none, .write, 0⟩, ⟨(some 11), .call (.c (.func 44 [])) [(.t 10)], none, .write, 0⟩, ⟨none, .store 6 (.t 2) (.t 11), none, .write, 0⟩])
 (.seq (.region [⟨(some 13), .load (some 6) (.t 2), none, .write, 0⟩, ⟨(some 14), .fieldAddr 0 (.t 3), none, .write, 0⟩, ⟨(some 15), .load (some 2) (.t 14), none, .write, 0⟩, ⟨(some 16), .call (.c (.func 45 [])) [(.t 13), (.t 15)], none, .write, 0⟩, ⟨(some 12), .move (.t 16), none, .write, 0⟩, ⟨(some 17), .extract (.t 12) 0, none, .write, 0⟩, ⟨(some 18), .extract (.t 12) 1, none, .write, 0⟩, ⟨(some 6), .move (.t 17), none, .write, 0⟩, ⟨(some 7), .move (.t 18), none, .write, 0⟩])
 (.seq (.seq (.region [⟨(some 19), .move (.t 7), none, .write, 0⟩])
 (.cond (.t 19) (.seq (.region [⟨(some 20), .load (some 6) (.t 2), none, .write, 0⟩, ⟨none, .store 6 (.t 4) (.t 20), none, .write, 0⟩, ⟨(some 5), .move (.c (.bool false)), none, .write, 0⟩])
 .ret) .skip))
 (.seq (.region [⟨(some 22), .load (some 6) (.t 2), none, .write, 0⟩, ⟨(some 23), .fieldAddr 0 (.t 3), none, .write, 0⟩, ⟨(some 24), .load (some 2) (.t 23), none, .write, 0⟩, ⟨(some 25), .call (.c (.func 46 [])) [(.t 22), (.t 24)], none, .write, 0⟩, ⟨(some 21), .move (.t 25), none, .write, 0⟩, ⟨(some 26), .extract (.t 21) 0, none, .write, 0⟩, ⟨(some 27), .extract (.t 21) 1, none, .write, 0⟩, ⟨(some 8), .move (.t 26), none, .write, 0⟩, ⟨(some 9), .move (.t 27), none, .write, 0⟩])
 (.seq (.region [⟨(some 28), .fieldAddr 2 (.t 2), none, .write, 0⟩, ⟨(some 29), .load none (.t 28), none, .write, 0⟩, ⟨(some 30), .move (.t 8), none, .write, 0⟩, ⟨(some 31), .load (some 4) (.t 3), none, .write, 0⟩, ⟨(some 32), .buildSlice 45 4 (.agg [(.int .i64 0), (.int .i64 0), .nsl, (.int .i64 0)]) 1 [(0, (.t 31))], none, .write, 0⟩, ⟨(some 33), .call (.c (.func 47 [])) [(.t 29), (.t 30), (.t 32)], none, .write, 0⟩, ⟨(some 34), .fieldAddr 2 (.t 2), none, .write, 0⟩, ⟨none, .store 1 (.t 34) (.t 33), none, .write, 0⟩])
 (.seq (.region [⟨(some 35), .fieldAddr 3 (.t 2), none, .write, 0⟩, ⟨(some 36), .load none (.t 35), none, .write, 0⟩, ⟨(some 37), .move (.t 6), none, .write, 0⟩, ⟨(some 38), .fieldAddr 0 (.t 3), none, .write, 0⟩, ⟨(some 39), .load (some 2) (.t 38), none, .write, 0⟩, ⟨(some 40), .buildSlice 42 2 (.agg [(.int .i64 0), (.int .i64 0)]) 1 [(0, (.t 39))], none, .write, 0⟩, ⟨(some 41), .call (.c (.func 48 [])) [(.t 36), (.t 37), (.t 40)], none, .write, 0⟩, ⟨(some 42), .fieldAddr 3 (.t 2), none, .write, 0⟩, ⟨none, .store 1 (.t 42) (.t 41), none, .write, 0⟩])
 (.seq (.region [⟨(some 43), .load (some 6) (.t 2), none, .write, 0⟩, ⟨none, .store 6 (.t 4) (.t 43), none, .write, 0⟩, ⟨(some 5), .move (.c (.bool true)), none, .write, 0⟩])
 .ret)))))))) }

theorem c22 : compFunc Try.prog Try.f22 .full = some t22 := by kernel_rfl

/-- broadside/adverts.New -/
def t23 : DFunc := { ntmps := 14, results := [(.cell 4 (some 6))], mode := .full, body :=
 (.seq (.region [⟨(some 4), .alloc 51 6 (.agg [(.int .i64 0), .nsl, .nsl, .nsl, .nsl, .nsl]), none, .write, 0⟩])
 (.seq (.region [⟨(some 6), .move (.t 1), none, .write, 0⟩, ⟨(some 7), .call (.c (.func 49 [])) [(.t 6)], none, .write, 0⟩, ⟨(some 5), .move (.t 7), none, .write, 0⟩])
 (.seq (.region [⟨(some 8), .move (.t 5), none, .write, 0⟩, ⟨(some 9), .call (.c (.func 50 [])) [(.t 8)], none, .write, 0⟩])
 (.seq (.region [⟨(some 10), .move (.t 0), none, .write, 0⟩, ⟨(some 11), .move (.t 5), none, .write, 0⟩, ⟨(some 12), .call (.c (.func 51 [])) [(.t 11)], none, .write, 0⟩, ⟨(some 13), .build [(.int .i64 0), .nsl, .nsl, .nsl, .nsl, .nsl] [(0, 1, (.t 10)), (1, 1, (.t 12))], none, .write, 0⟩, ⟨none, .store 6 (.t 4) (.t 13), none, .write, 0⟩])
 .ret)))) }

theorem c23 : compFunc Try.prog Try.f23 .full = some t23 := by kernel_rfl

/-- broadside/adverts.Find -/
def t28 : DFunc := { ntmps := 22, results := [(.cell 4 (some 4)), (.t 5)], mode := .full, body :=
 (.seq (.region [⟨(some 2), .box 51 6 (.t 0), none, .write, 0⟩, ⟨(some 3), .box 42 2 (.t 1), none, .write, 0⟩, ⟨(some 4), .alloc 45 4 (.agg [(.int .i64 0), (.int .i64 0), .nsl, (.int .i64 0)]), none, .write, 0⟩, ⟨(some 5), .move (.c (.bool false)), none, .write, 0⟩])
 (.seq (.region [⟨(some 9), .load (some 6) (.t 2), none, .write, 0⟩, ⟨(some 10), .load (some 2) (.t 3), none, .write, 0⟩, ⟨(some 11), .call (.c (.func 46 [])) [(.t 9), (.t 10)], none, .write, 0⟩, ⟨(some 8), .move (.t 11), none, .write, 0⟩, ⟨(some 12), .extract (.t 8) 0, none, .write, 0⟩, ⟨(some 13), .extract (.t 8) 1, none, .write, 0⟩, ⟨(some 6), .move (.t 12), none, .write, 0⟩, ⟨(some 7), .move (.t 13), none, .write, 0⟩])
 (.seq (.seq (.region [⟨(some 14), .move (.t 7), none, .write, 0⟩, ⟨(some 15), .un .not (.t 14), none, .write, 0⟩])
 (.cond (.t 15) (.seq (.region [⟨(some 16), .build [(.int .i64 0), (.int .i64 0), .nsl, (.int .i64 0)] [], none, .write, 0⟩, ⟨none, .store 4 (.t 4) (.t 16), none, .write, 0⟩, ⟨(some 5), .move (.c (.bool false)), none, .write, 0⟩])
 .ret) .skip))
 (.seq (.region [⟨(some 17), .fieldAddr 2 (.t 2), none, .write, 0⟩, ⟨(some 18), .load none (.t 17), none, .write, 0⟩, ⟨(some 19), .move (.t 6), none, .write, 0⟩, ⟨(some 20), .indexAddr 4 (.t 18) (.t 19), none, .write, 0⟩, ⟨(some 21), .load (some 4) (.t 20), none, .write, 0⟩, ⟨none, .store 4 (.t 4) (.t 21), none, .write, 0⟩, ⟨(some 5), .move (.c (.bool true)), none, .write, 0⟩])
 .ret)))) }

theorem c28 : compFunc Try.prog Try.f28 .full = some t28 := by kernel_rfl

/-- broadside/adverts.Less -/
def t29 : DFunc := { ntmps := 9, results := [(.t 4)], mode := .full, body :=
 (.seq (.region [⟨(some 2), .box 42 2 (.t 0), none, .write, 0⟩, ⟨(some 3), .box 42 2 (.t 1), none, .write, 0⟩, ⟨(some 4), .move (.c (.bool false)), none, .write, 0⟩])
 (.seq (.region [⟨(some 5), .load (some 2) (.t 2), none, .write, 0⟩, ⟨(some 6), .load (some 2) (.t 3), none, .write, 0⟩, ⟨(some 7), .call (.c (.func 65 [])) [(.t 5), (.t 6)], none, .write, 0⟩, ⟨(some 8), .arith .lss (.t 7) (.c (.int .i64 0)), none, .write, 0⟩, ⟨(some 4), .move (.t 8), none, .write, 0⟩])
 .ret)) }

theorem c29 : compFunc Try.prog Try.f29 .full = some t29 := by kernel_rfl

/-- broadside/broadsidelaw10.SubsRuns$1 -/
def t30 : DFunc := { ntmps := 9, results := [(.t 4)], mode := .full, body :=
 (.seq (.region [⟨(some 4), .move (.c .nsl), none, .write, 0⟩])
 (.seq (.region [⟨(some 5), .move (.t 0), none, .write, 0⟩, ⟨(some 6), .move (.t 1), none, .write, 0⟩, ⟨(some 7), .build [(.str []), (.int .i64 0), (.int .i64 0), (.int .i64 0), (.str [])] [(0, 1, (.c (.str [97]))), (1, 1, (.c (.int .i64 1))), (2, 1, (.t 5)), (3, 1, (.t 6))], none, .write, 0⟩, ⟨(some 8), .buildSlice 67 5 (.agg [(.str []), (.int .i64 0), (.int .i64 0), (.int .i64 0), (.str [])]) 1 [(0, (.t 7))], none, .write, 0⟩, ⟨(some 4), .move (.t 8), none, .write, 0⟩])
 .ret)) }

theorem c30 : compFunc Try.prog Try.f30 .full = some t30 := by kernel_rfl

/-- broadside/subs.Add -/
def t31 : DFunc := { ntmps := 73, results := [(.cell 4 (some 6)), (.t 5)], mode := .full, body :=
 (.seq (.region [⟨(some 2), .box 51 6 (.t 0), none, .write, 0⟩, ⟨(some 3), .box 71 7 (.t 1), none, .write, 0⟩, ⟨(some 4), .alloc 51 6 (.agg [(.int .i64 0), .nsl, .nsl, .nsl, .nsl, .nsl]), none, .write, 0⟩, ⟨(some 5), .move (.c (.bool false)), none, .write, 0⟩])
 (.seq (.region [⟨(some 11), .fieldAddr 4 (.t 2), none, .write, 0⟩, ⟨(some 12), .load none (.t 11), none, .write, 0⟩, ⟨(some 13), .call (.c (.func 77 [])) [(.t 12)], none, .write, 0⟩, ⟨(some 14), .fieldAddr 4 (.t 2), none, .write, 0⟩, ⟨none, .store 1 (.t 14) (.t 13), none, .write, 0⟩])
 (.seq (.region [⟨(some 16), .load (some 6) (.t 2), none, .write, 0⟩, ⟨(some 17), .fieldAddr 0 (.t 3), none, .write, 0⟩, ⟨(some 18), .load (some 2) (.t 17), none, .write, 0⟩, ⟨(some 19), .call (.c (.func 28 [])) [(.t 16), (.t 18)], none, .write, 0⟩, ⟨(some 15), .move (.t 19), none, .write, 0⟩, ⟨(some 20), .extract (.t 15) 0, none, .write, 0⟩, ⟨(some 21), .extract (.t 15) 1, none, .write, 0⟩, ⟨(some 6), .alloc 45 4 (.agg [(.int .i64 0), (.int .i64 0), .nsl, (.int .i64 0)]), none, .write, 0⟩, ⟨none, .store 4 (.t 6) (.t 20), none, .write, 0⟩, ⟨(some 7), .move (.t 21), none, .write, 0⟩])
 (.seq (.region [⟨(some 23), .load (some 6) (.t 2), none, .write, 0⟩, ⟨(some 24), .fieldAddr 0 (.t 3), none, .write, 0⟩, ⟨(some 25), .load (some 2) (.t 24), none, .write, 0⟩, ⟨(some 26), .fieldAddr 2 (.t 3), none, .write, 0⟩, ⟨(some 27), .load (some 2) (.t 26), none, .write, 0⟩, ⟨(some 28), .call (.c (.func 78 [])) [(.t 23), (.t 25), (.t 27)], none, .write, 0⟩, ⟨(some 22), .move (.t 28), none, .write, 0⟩, ⟨(some 29), .extract (.t 22) 0, none, .write, 0⟩, ⟨(some 30), .extract (.t 22) 1, none, .write, 0⟩, ⟨(some 8), .move (.t 29), none, .write, 0⟩, ⟨(some 9), .move (.t 30), none, .write, 0⟩])
 (.seq (.region [⟨(some 31), .fieldAddr 3 (.t 6), none, .write, 0⟩, ⟨(some 32), .load none (.t 31), none, .write, 0⟩, ⟨(some 33), .arith .eql (.t 32) (.c (.int .i64 (-1))), none, .write, 0⟩, ⟨(some 10), .move (.t 33), none, .write, 0⟩])
 (.seq (.seq (.region [⟨(some 34), .move (.t 7), none, .write, 0⟩, ⟨(some 35), .un .not (.t 34), none, .write, 0⟩, ⟨(some 36), .move (.t 35), none, .write, 0⟩, ⟨(some 37), .move (.t 9), (some (36, false)), .write, 0⟩, ⟨(some 38), .pick (.t 36) (.c (.bool true)) (.t 37), none, .write, 0⟩, ⟨(some 39), .move (.t 38), none, .write, 0⟩, ⟨(some 40), .fieldAddr 5 (.t 3), (some (39, false)), .write, 0⟩, ⟨(some 41), .load none (.t 40), (some (39, false)), .write, 0⟩, ⟨(some 42), .fieldAddr 3 (.t 6), (some (39, false)), .write, 0⟩, ⟨(some 43), .load none (.t 42), (some (39, false)), .write, 0⟩, ⟨(some 44), .arith .eql (.t 41) (.t 43), (some (39, false)), .write, 0⟩, ⟨(some 45), .move (.t 44), (some (39, false)), .write, 0⟩, ⟨(some 46), .move (.t 10), (some (45, true)), .write, 0⟩, ⟨(some 47), .un .not (.t 46), (some (45, true)), .write, 0⟩, ⟨(some 48), .pick (.t 45) (.t 47) (.c (.bool false)), (some (39, false)), .write, 0⟩, ⟨(some 49), .pick (.t 39) (.c (.bool true)) (.t 48), none, .write, 0⟩])
 (.cond (.t 49) (.seq (.region [⟨(some 50), .load (some 6) (.t 2), none, .write, 0⟩, ⟨none, .store 6 (.t 4) (.t 50), none, .write, 0⟩, ⟨(some 5), .move (.c (.bool false)), none, .write, 0⟩])
 .ret) .skip))
 (.seq (.region [⟨(some 51), .move (.t 10), none, .write, 0⟩, ⟨(some 52), .un .not (.t 51), none, .write, 0⟩, ⟨(some 53), .move (.t 52), none, .write, 0⟩, ⟨(some 54), .load (some 6) (.t 2), (some (53, true)), .write, 0⟩, ⟨(some 55), .fieldAddr 0 (.t 3), (some (53, true)), .write, 0⟩, ⟨(some 56), .load (some 2) (.t 55), (some (53, true)), .write, 0⟩, ⟨(some 57), .fieldAddr 4 (.t 3), (some (53, true)), .write, 0⟩, ⟨(some 58), .load none (.t 57), (some (53, true)), .write, 0⟩, ⟨(some 59), .call (.c (.func 34 [])) [(.t 54), (.t 56), (.t 58)], (some (53, true)), .write, 0⟩, ⟨(some 60), .un .not (.t 59), (some (53, true)), .write, 0⟩, ⟨(some 61), .pick (.t 53) (.t 60) (.c (.bool false)), none, .write, 0⟩, ⟨(some 62), .fieldAddr 6 (.t 3), none, .write, 0⟩, ⟨none, .store 1 (.t 62) (.t 61), none, .write, 0⟩])
 (.seq (.region [⟨(some 63), .fieldAddr 4 (.t 2), none, .write, 0⟩, ⟨(some 64), .load none (.t 63), none, .write, 0⟩, ⟨(some 65), .move (.t 8), none, .write, 0⟩, ⟨(some 66), .load (some 7) (.t 3), none, .write, 0⟩, ⟨(some 67), .buildSlice 71 7 (.agg [(.int .i64 0), (.int .i64 0), (.int .i64 0), (.int .i64 0), .nsl, (.int .i64 0), (.bool false)]) 1 [(0, (.t 66))], none, .write, 0⟩, ⟨(some 68), .call (.c (.func 79 [])) [(.t 64), (.t 65), (.t 67)], none, .write, 0⟩, ⟨(some 69), .fieldAddr 4 (.t 2), none, .write, 0⟩, ⟨none, .store 1 (.t 69) (.t 68), none, .write, 0⟩])
 (.seq (.draw [⟨(some 70), .load (some 6) (.t 2), none, .read, 0⟩, ⟨(some 71), .fieldAddr 6 (.t 3), none, .read, 0⟩, ⟨(some 72), .load none (.t 71), none, .read, 0⟩, ⟨none, .store 6 (.t 4) (.t 70), none, .create, 0⟩, ⟨(some 5), .move (.t 72), none, .read, 1⟩])
 .ret))))))))) }

theorem c31 : compFunc Try.prog Try.f31 .full = some t31 := by kernel_rfl

/-- broadside/subs.Take -/
def t32 : DFunc := { ntmps := 96, results := [(.cell 8 (some 6)), (.t 9), (.t 10)], mode := .full, body :=
 (.seq (.region [⟨(some 4), .box 51 6 (.t 0), none, .write, 0⟩, ⟨(some 5), .box 42 2 (.t 1), none, .write, 0⟩, ⟨(some 6), .box 42 2 (.t 2), none, .write, 0⟩, ⟨(some 8), .alloc 51 6 (.agg [(.int .i64 0), .nsl, .nsl, .nsl, .nsl, .nsl]), none, .write, 0⟩, ⟨(some 9), .move (.c .nsl), none, .write, 0⟩, ⟨(some 10), .move (.c (.bool false)), none, .write, 0⟩])
 (.seq (.region [⟨(some 15), .fieldAddr 4 (.t 4), none, .write, 0⟩, ⟨(some 16), .load none (.t 15), none, .write, 0⟩, ⟨(some 17), .call (.c (.func 77 [])) [(.t 16)], none, .write, 0⟩, ⟨(some 18), .fieldAddr 4 (.t 4), none, .write, 0⟩, ⟨none, .store 1 (.t 18) (.t 17), none, .write, 0⟩])
 (.seq (.region [⟨(some 20), .load (some 6) (.t 4), none, .write, 0⟩, ⟨(some 21), .load (some 2) (.t 5), none, .write, 0⟩, ⟨(some 22), .load (some 2) (.t 6), none, .write, 0⟩, ⟨(some 23), .call (.c (.func 78 [])) [(.t 20), (.t 21), (.t 22)], none, .write, 0⟩, ⟨(some 19), .move (.t 23), none, .write, 0⟩, ⟨(some 24), .extract (.t 19) 0, none, .write, 0⟩, ⟨(some 25), .extract (.t 19) 1, none, .write, 0⟩, ⟨(some 11), .move (.t 24), none, .write, 0⟩, ⟨(some 12), .move (.t 25), none, .write, 0⟩])
 (.seq (.seq (.region [⟨(some 26), .move (.t 12), none, .write, 0⟩, ⟨(some 27), .un .not (.t 26), none, .write, 0⟩, ⟨(some 28), .move (.t 27), none, .write, 0⟩, ⟨(some 29), .fieldAddr 4 (.t 4), (some (28, false)), .write, 0⟩, ⟨(some 30), .load none (.t 29), (some (28, false)), .write, 0⟩, ⟨(some 31), .move (.t 11), (some (28, false)), .write, 0⟩, ⟨(some 32), .indexAddr 7 (.t 30) (.t 31), (some (28, false)), .write, 0⟩, ⟨(some 33), .fieldAddr 5 (.t 32), (some (28, false)), .write, 0⟩, ⟨(some 34), .load none (.t 33), (some (28, false)), .write, 0⟩, ⟨(some 35), .move (.t 3), (some (28, false)), .write, 0⟩, ⟨(some 36), .arith .neq (.t 34) (.t 35), (some (28, false)), .write, 0⟩, ⟨(some 37), .pick (.t 28) (.c (.bool true)) (.t 36), none, .write, 0⟩])
 (.cond (.t 37) (.seq (.region [⟨(some 38), .load (some 6) (.t 4), none, .write, 0⟩, ⟨none, .store 6 (.t 8) (.t 38), none, .write, 0⟩, ⟨(some 9), .move (.c .nsl), none, .write, 0⟩, ⟨(some 10), .move (.c (.bool false)), none, .write, 0⟩])
 .ret) .skip))
 (.seq (.region [⟨(some 39), .fieldAddr 4 (.t 4), none, .write, 0⟩, ⟨(some 40), .load none (.t 39), none, .write, 0⟩, ⟨(some 41), .move (.t 11), none, .write, 0⟩, ⟨(some 42), .indexAddr 7 (.t 40) (.t 41), none, .write, 0⟩, ⟨(some 43), .fieldAddr 6 (.t 42), none, .write, 0⟩, ⟨(some 44), .load none (.t 43), none, .write, 0⟩, ⟨(some 10), .move (.t 44), none, .write, 0⟩])
 (.seq (.region [⟨(some 45), .fieldAddr 4 (.t 4), none, .write, 0⟩, ⟨(some 46), .load none (.t 45), none, .write, 0⟩, ⟨(some 47), .move (.t 11), none, .write, 0⟩, ⟨(some 48), .move (.t 11), none, .write, 0⟩, ⟨(some 49), .arith .add (.t 48) (.c (.int .i64 1)), none, .write, 0⟩, ⟨(some 50), .call (.c (.func 80 [])) [(.t 46), (.t 47), (.t 49)], none, .write, 0⟩, ⟨(some 51), .fieldAddr 4 (.t 4), none, .write, 0⟩, ⟨none, .store 1 (.t 51) (.t 50), none, .write, 0⟩])
 (.seq (.seq (.region [⟨(some 52), .move (.t 10), none, .write, 0⟩, ⟨(some 53), .un .not (.t 52), none, .write, 0⟩])
 (.cond (.t 53) (.seq (.region [⟨(some 54), .load (some 6) (.t 4), none, .write, 0⟩, ⟨none, .store 6 (.t 8) (.t 54), none, .write, 0⟩, ⟨(some 9), .move (.c .nsl), none, .write, 0⟩, ⟨(some 10), .move (.c (.bool false)), none, .write, 0⟩])
 .ret) .skip))
 (.seq (.seq (.region [⟨(some 55), .fieldAddr 4 (.t 4), none, .write, 0⟩, ⟨(some 56), .load none (.t 55), none, .write, 0⟩, ⟨(some 57), .len 1 (.t 56), none, .write, 0⟩, ⟨(some 58), .move (.c (.int .i64 0)), none, .write, 0⟩])
 (.block 0 (.loop (.seq (.region [⟨(some 59), .arith .lss (.t 58) (.t 57), none, .write, 0⟩])
 (.seq (.cond (.t 59) .skip (.exit 0))
 (.seq (.block 1 (.seq (.region [⟨(some 60), .move (.t 58), none, .write, 0⟩, ⟨(some 61), .indexAddr 7 (.t 56) (.t 58), none, .write, 0⟩, ⟨(some 62), .load (some 7) (.t 61), none, .write, 0⟩, ⟨(some 14), .alloc 71 7 (.agg [(.int .i64 0), (.int .i64 0), (.int .i64 0), (.int .i64 0), .nsl, (.int .i64 0), (.bool false)]), none, .write, 0⟩, ⟨(some 13), .move (.t 60), none, .write, 0⟩, ⟨none, .store 7 (.t 14) (.t 62), none, .write, 0⟩])
 (.seq (.region [⟨(some 63), .fieldAddr 0 (.t 14), none, .write, 0⟩, ⟨(some 64), .load (some 2) (.t 63), none, .write, 0⟩, ⟨(some 65), .load (some 2) (.t 5), none, .write, 0⟩, ⟨(some 66), .eqa false [1, 1] (.t 64) (.t 65), none, .write, 0⟩, ⟨(some 67), .move (.t 66), none, .write, 0⟩, ⟨(some 68), .fieldAddr 6 (.t 14), (some (67, true)), .write, 0⟩, ⟨(some 69), .load none (.t 68), (some (67, true)), .write, 0⟩, ⟨(some 70), .un .not (.t 69), (some (67, true)), .write, 0⟩, ⟨(some 71), .pick (.t 67) (.t 70) (.c (.bool false)), none, .write, 0⟩, ⟨(some 72), .move (.t 71), none, .write, 0⟩, ⟨(some 73), .load (some 6) (.t 4), (some (72, true)), .write, 0⟩, ⟨(some 74), .load (some 2) (.t 5), (some (72, true)), .write, 0⟩, ⟨(some 75), .fieldAddr 4 (.t 14), (some (72, true)), .write, 0⟩, ⟨(some 76), .load none (.t 75), (some (72, true)), .write, 0⟩, ⟨(some 77), .call (.c (.func 34 [])) [(.t 73), (.t 74), (.t 76)], (some (72, true)), .write, 0⟩, ⟨(some 78), .un .not (.t 77), (some (72, true)), .write, 0⟩, ⟨(some 79), .pick (.t 72) (.t 78) (.c (.bool false)), none, .write, 0⟩])
 (.cond (.t 79) (.seq (.region [⟨(some 80), .fieldAddr 4 (.t 4), none, .write, 0⟩, ⟨(some 81), .load none (.t 80), none, .write, 0⟩, ⟨(some 82), .move (.t 13), none, .write, 0⟩, ⟨(some 83), .indexAddr 7 (.t 81) (.t 82), none, .write, 0⟩, ⟨(some 84), .fieldAddr 6 (.t 83), none, .write, 0⟩, ⟨none, .store 1 (.t 84) (.c (.bool true)), none, .write, 0⟩])
 (.region [⟨(some 85), .move (.t 9), none, .write, 0⟩, ⟨(some 86), .fieldAddr 4 (.t 4), none, .write, 0⟩, ⟨(some 87), .load none (.t 86), none, .write, 0⟩, ⟨(some 88), .move (.t 13), none, .write, 0⟩, ⟨(some 89), .indexAddr 7 (.t 87) (.t 88), none, .write, 0⟩, ⟨(some 90), .load (some 7) (.t 89), none, .write, 0⟩, ⟨(some 91), .buildSlice 71 7 (.agg [(.int .i64 0), (.int .i64 0), (.int .i64 0), (.int .i64 0), .nsl, (.int .i64 0), (.bool false)]) 1 [(0, (.t 90))], none, .write, 0⟩, ⟨(some 92), .append 71 7 72 (.t 85) (.t 91), none, .write, 0⟩, ⟨(some 9), .move (.t 92), none, .write, 0⟩])) .skip))))
 (.region [⟨(some 93), .arith .add (.t 58) (.c (.int .i64 1)), none, .write, 0⟩, ⟨(some 58), .move (.t 93), none, .write, 0⟩])))))))
 (.seq (.region [⟨(some 94), .load (some 6) (.t 4), none, .write, 0⟩, ⟨(some 95), .move (.t 9), none, .write, 0⟩, ⟨none, .store 6 (.t 8) (.t 94), none, .write, 0⟩, ⟨(some 9), .move (.t 95), none, .write, 0⟩, ⟨(some 10), .move (.c (.bool true)), none, .write, 0⟩])
 .ret))))))))) }

theorem c32 : compFunc Try.prog Try.f32 .full = some t32 := by kernel_rfl

/-- broadside/subs.Tight -/
def t33 : DFunc := { ntmps := 39, results := [(.t 2)], mode := .full, body :=
 (.seq (.region [⟨(some 1), .box 51 6 (.t 0), none, .write, 0⟩, ⟨(some 2), .move (.c (.bool false)), none, .write, 0⟩])
 (.seq (.seq (.region [⟨(some 7), .fieldAddr 4 (.t 1), none, .write, 0⟩, ⟨(some 8), .load none (.t 7), none, .write, 0⟩, ⟨(some 9), .len 1 (.t 8), none, .write, 0⟩, ⟨(some 10), .move (.c (.int .i64 0)), none, .write, 0⟩])
 (.block 0 (.loop (.seq (.region [⟨(some 11), .arith .lss (.t 10) (.t 9), none, .write, 0⟩])
 (.seq (.cond (.t 11) .skip (.exit 0))
 (.seq (.block 1 (.seq (.region [⟨(some 12), .indexAddr 7 (.t 8) (.t 10), none, .write, 0⟩, ⟨(some 13), .load (some 7) (.t 12), none, .write, 0⟩, ⟨(some 4), .alloc 71 7 (.agg [(.int .i64 0), (.int .i64 0), (.int .i64 0), (.int .i64 0), .nsl, (.int .i64 0), (.bool false)]), none, .write, 0⟩, ⟨none, .store 7 (.t 4) (.t 13), none, .write, 0⟩])
 (.seq (.region [⟨(some 15), .load (some 6) (.t 1), none, .write, 0⟩, ⟨(some 16), .fieldAddr 0 (.t 4), none, .write, 0⟩, ⟨(some 17), .load (some 2) (.t 16), none, .write, 0⟩, ⟨(some 18), .call (.c (.func 28 [])) [(.t 15), (.t 17)], none, .write, 0⟩, ⟨(some 14), .move (.t 18), none, .write, 0⟩, ⟨(some 19), .extract (.t 14) 0, none, .write, 0⟩, ⟨(some 20), .extract (.t 14) 1, none, .write, 0⟩, ⟨(some 5), .alloc 45 4 (.agg [(.int .i64 0), (.int .i64 0), .nsl, (.int .i64 0)]), none, .write, 0⟩, ⟨none, .store 4 (.t 5) (.t 19), none, .write, 0⟩, ⟨(some 6), .move (.t 20), none, .write, 0⟩])
 (.seq (.region [⟨(some 21), .fieldAddr 6 (.t 4), none, .write, 0⟩, ⟨(some 22), .load none (.t 21), none, .write, 0⟩, ⟨(some 23), .un .not (.t 22), none, .write, 0⟩, ⟨(some 24), .move (.t 23), none, .write, 0⟩, ⟨(some 25), .fieldAddr 3 (.t 5), (some (24, true)), .write, 0⟩, ⟨(some 26), .load none (.t 25), (some (24, true)), .write, 0⟩, ⟨(some 27), .arith .neq (.t 26) (.c (.int .i64 (-1))), (some (24, true)), .write, 0⟩, ⟨(some 28), .pick (.t 24) (.t 27) (.c (.bool false)), none, .write, 0⟩, ⟨(some 29), .move (.t 28), none, .write, 0⟩, ⟨(some 30), .load (some 6) (.t 1), (some (29, true)), .write, 0⟩, ⟨(some 31), .fieldAddr 0 (.t 4), (some (29, true)), .write, 0⟩, ⟨(some 32), .load (some 2) (.t 31), (some (29, true)), .write, 0⟩, ⟨(some 33), .fieldAddr 4 (.t 4), (some (29, true)), .write, 0⟩, ⟨(some 34), .load none (.t 33), (some (29, true)), .write, 0⟩, ⟨(some 35), .call (.c (.func 34 [])) [(.t 30), (.t 32), (.t 34)], (some (29, true)), .write, 0⟩, ⟨(some 36), .un .not (.t 35), (some (29, true)), .write, 0⟩, ⟨(some 37), .pick (.t 29) (.t 36) (.c (.bool false)), none, .write, 0⟩])
 (.cond (.t 37) (.seq (.region [⟨(some 2), .move (.c (.bool false)), none, .write, 0⟩])
 .ret) .skip)))))
 (.region [⟨(some 38), .arith .add (.t 10) (.c (.int .i64 1)), none, .write, 0⟩, ⟨(some 10), .move (.t 38), none, .write, 0⟩])))))))
 (.seq (.region [⟨(some 2), .move (.c (.bool true)), none, .write, 0⟩])
 .ret))) }

theorem c33 : compFunc Try.prog Try.f33 .full = some t33 := by kernel_rfl

/-- broadside/subs.Covered -/
def t34 : DFunc := { ntmps := 12, results := [(.t 6)], mode := .full, body :=
 (.seq (.region [⟨(some 3), .box 51 6 (.t 0), none, .write, 0⟩, ⟨(some 4), .box 42 2 (.t 1), none, .write, 0⟩, ⟨(some 5), .box 43 1 (.t 2), none, .write, 0⟩, ⟨(some 6), .move (.c (.bool false)), none, .write, 0⟩])
 (.seq (.region [⟨(some 7), .load (some 6) (.t 3), none, .write, 0⟩, ⟨(some 8), .load (some 2) (.t 4), none, .write, 0⟩, ⟨(some 9), .call (.c (.func 36 [])) [(.t 7), (.t 8)], none, .write, 0⟩, ⟨(some 10), .makeFunc 81 [(.t 5)], none, .write, 0⟩, ⟨(some 11), .call (.c (.func 70 [])) [(.t 9), (.t 10)], none, .write, 0⟩, ⟨(some 6), .move (.t 11), none, .write, 0⟩])
 .ret)) }

theorem c34 : compFunc Try.prog Try.f34 .full = some t34 := by kernel_rfl

/-- broadside/subs.Of -/
def t36 : DFunc := { ntmps := 25, results := [(.t 4)], mode := .full, body :=
 (.seq (.region [⟨(some 2), .box 51 6 (.t 0), none, .write, 0⟩, ⟨(some 3), .box 42 2 (.t 1), none, .write, 0⟩, ⟨(some 4), .move (.c .nsl), none, .write, 0⟩])
 (.seq (.region [⟨(some 5), .move (.c .nsl), none, .write, 0⟩])
 (.seq (.seq (.region [⟨(some 8), .fieldAddr 4 (.t 2), none, .write, 0⟩, ⟨(some 9), .load none (.t 8), none, .write, 0⟩, ⟨(some 10), .len 1 (.t 9), none, .write, 0⟩, ⟨(some 11), .move (.c (.int .i64 0)), none, .write, 0⟩])
 (.block 0 (.loop (.seq (.region [⟨(some 12), .arith .lss (.t 11) (.t 10), none, .write, 0⟩])
 (.seq (.cond (.t 12) .skip (.exit 0))
 (.seq (.block 1 (.seq (.region [⟨(some 13), .indexAddr 7 (.t 9) (.t 11), none, .write, 0⟩, ⟨(some 14), .load (some 7) (.t 13), none, .write, 0⟩, ⟨(some 7), .alloc 71 7 (.agg [(.int .i64 0), (.int .i64 0), (.int .i64 0), (.int .i64 0), .nsl, (.int .i64 0), (.bool false)]), none, .write, 0⟩, ⟨none, .store 7 (.t 7) (.t 14), none, .write, 0⟩])
 (.seq (.region [⟨(some 15), .fieldAddr 0 (.t 7), none, .write, 0⟩, ⟨(some 16), .load (some 2) (.t 15), none, .write, 0⟩, ⟨(some 17), .load (some 2) (.t 3), none, .write, 0⟩, ⟨(some 18), .eqa false [1, 1] (.t 16) (.t 17), none, .write, 0⟩])
 (.cond (.t 18) (.region [⟨(some 19), .move (.t 5), none, .write, 0⟩, ⟨(some 20), .load (some 7) (.t 7), none, .write, 0⟩, ⟨(some 21), .buildSlice 71 7 (.agg [(.int .i64 0), (.int .i64 0), (.int .i64 0), (.int .i64 0), .nsl, (.int .i64 0), (.bool false)]) 1 [(0, (.t 20))], none, .write, 0⟩, ⟨(some 22), .append 71 7 72 (.t 19) (.t 21), none, .write, 0⟩, ⟨(some 5), .move (.t 22), none, .write, 0⟩]) .skip))))
 (.region [⟨(some 23), .arith .add (.t 11) (.c (.int .i64 1)), none, .write, 0⟩, ⟨(some 11), .move (.t 23), none, .write, 0⟩])))))))
 (.seq (.region [⟨(some 24), .move (.t 5), none, .write, 0⟩, ⟨(some 4), .move (.t 24), none, .write, 0⟩])
 .ret)))) }

theorem c36 : compFunc Try.prog Try.f36 .full = some t36 := by kernel_rfl

/-- broadside/rel.Covers -/
def t37 : DFunc := { ntmps := 46, results := [(.t 4)], mode := .full, body :=
 (.seq (.region [⟨(some 4), .move (.c (.bool false)), none, .write, 0⟩])
 (.seq (.region [⟨(some 12), .makeMap, none, .write, 0⟩, ⟨(some 5), .move (.t 12), none, .write, 0⟩])
 (.seq (.seq (.region [⟨(some 13), .move (.t 1), none, .write, 0⟩, ⟨(some 14), .len 1 (.t 13), none, .write, 0⟩, ⟨(some 15), .move (.c (.int .i64 0)), none, .write, 0⟩])
 (.block 0 (.loop (.seq (.region [⟨(some 16), .arith .lss (.t 15) (.t 14), none, .write, 0⟩])
 (.seq (.cond (.t 16) .skip (.exit 0))
 (.seq (.block 1 (.seq (.region [⟨(some 17), .indexAddr 5 (.t 13) (.t 15), none, .write, 0⟩, ⟨(some 18), .load (some 5) (.t 17), none, .write, 0⟩, ⟨(some 7), .alloc 67 5 (.agg [(.str []), (.int .i64 0), (.int .i64 0), (.int .i64 0), (.str [])]), none, .write, 0⟩, ⟨none, .store 5 (.t 7) (.t 18), none, .write, 0⟩])
 (.region [⟨(some 19), .move (.t 5), none, .write, 0⟩, ⟨(some 20), .fieldAddr 0 (.t 7), none, .write, 0⟩, ⟨(some 21), .load none (.t 20), none, .write, 0⟩, ⟨(some 22), .load (some 5) (.t 7), none, .write, 0⟩, ⟨none, .mapUpdate (.prim 2) (.t 19) (.t 21) (.t 22), none, .write, 0⟩])))
 (.region [⟨(some 23), .arith .add (.t 15) (.c (.int .i64 1)), none, .write, 0⟩, ⟨(some 15), .move (.t 23), none, .write, 0⟩])))))))
 (.seq (.seq (.region [⟨(some 24), .move (.t 0), none, .write, 0⟩, ⟨(some 25), .len 1 (.t 24), none, .write, 0⟩, ⟨(some 26), .move (.c (.int .i64 0)), none, .write, 0⟩])
 (.block 2 (.loop (.seq (.region [⟨(some 27), .arith .lss (.t 26) (.t 25), none, .write, 0⟩])
 (.seq (.cond (.t 27) .skip (.exit 2))
 (.seq (.block 3 (.seq (.region [⟨(some 28), .indexAddr 5 (.t 24) (.t 26), none, .write, 0⟩, ⟨(some 29), .load (some 5) (.t 28), none, .write, 0⟩, ⟨(some 9), .alloc 67 5 (.agg [(.str []), (.int .i64 0), (.int .i64 0), (.int .i64 0), (.str [])]), none, .write, 0⟩, ⟨none, .store 5 (.t 9) (.t 29), none, .write, 0⟩])
 (.seq (.region [⟨(some 31), .move (.t 5), none, .write, 0⟩, ⟨(some 32), .fieldAddr 0 (.t 9), none, .write, 0⟩, ⟨(some 33), .load none (.t 32), none, .write, 0⟩, ⟨(some 34), .lookup (.prim 2) (.agg [(.str []), (.int .i64 0), (.int .i64 0), (.int .i64 0), (.str [])]) true (.t 31) (.t 33), none, .write, 0⟩, ⟨(some 30), .move (.t 34), none, .write, 0⟩, ⟨(some 35), .extract (.t 30) 0, none, .write, 0⟩, ⟨(some 36), .extract (.t 30) 1, none, .write, 0⟩, ⟨(some 10), .alloc 67 5 (.agg [(.str []), (.int .i64 0), (.int .i64 0), (.int .i64 0), (.str [])]), none, .write, 0⟩, ⟨none, .store 5 (.t 10) (.t 35), none, .write, 0⟩, ⟨(some 11), .move (.t 36), none, .write, 0⟩])
 (.seq (.region [⟨(some 37), .move (.t 11), none, .write, 0⟩, ⟨(some 38), .un .not (.t 37), none, .write, 0⟩, ⟨(some 39), .move (.t 38), none, .write, 0⟩, ⟨(some 40), .load (some 5) (.t 9), (some (39, false)), .write, 0⟩, ⟨(some 41), .load (some 5) (.t 10), (some (39, false)), .write, 0⟩, ⟨(some 42), .call (.c (.func 82 [])) [(.t 40), (.t 41)], (some (39, false)), .write, 0⟩, ⟨(some 43), .un .not (.t 42), (some (39, false)), .write, 0⟩, ⟨(some 44), .pick (.t 39) (.c (.bool true)) (.t 43), none, .write, 0⟩])
 (.cond (.t 44) (.seq (.region [⟨(some 4), .move (.c (.bool false)), none, .write, 0⟩])
 .ret) .skip)))))
 (.region [⟨(some 45), .arith .add (.t 26) (.c (.int .i64 1)), none, .write, 0⟩, ⟨(some 26), .move (.t 45), none, .write, 0⟩])))))))
 (.seq (.region [⟨(some 4), .move (.c (.bool true)), none, .write, 0⟩])
 .ret))))) }

theorem c37 : compFunc Try.prog Try.f37 .full = some t37 := by kernel_rfl

end Go.Dm.TabC
