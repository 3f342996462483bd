/-
The table of functions, brought into the machine's form (TabR, part 0). Written by program (wip/tools/table.lean.txt).
-/
import Derived.Test.YtdacnhfdcejahaaGreatDm32
import Derived.Test.YtdacnhfdcejahaaGreatRows
import Derived.KernelRfl
namespace Go.Dm.TabR
open Go.Proofs

/-- broadside/broadsidelaw12.RouteRuns -/
def t3 : DFunc := { ntmps := 95, results := [(.t 0)], mode := .full, body :=
 (.seq (.region [⟨(some 0), .move (.c (.bool false)), none, .write, 0⟩])
 (.seq (.region [⟨(some 10), .build [(.int .i64 0), (.int .i64 0)] [(0, 1, (.c (.int .i64 3)))], none, .write, 0⟩, ⟨(some 11), .build [(.int .i64 0), (.int .i64 0)] [(0, 1, (.c (.int .i64 4)))], none, .write, 0⟩, ⟨(some 12), .build [(.int .i64 0), (.int .i64 0)] [(0, 1, (.c (.int .i64 5)))], none, .write, 0⟩, ⟨(some 1), .alloc 23 2 (.agg [(.int .i64 0), (.int .i64 0)]), none, .write, 0⟩, ⟨(some 2), .alloc 23 2 (.agg [(.int .i64 0), (.int .i64 0)]), none, .write, 0⟩, ⟨(some 3), .alloc 23 2 (.agg [(.int .i64 0), (.int .i64 0)]), none, .write, 0⟩, ⟨none, .store 2 (.t 1) (.t 10), none, .write, 0⟩, ⟨none, .store 2 (.t 2) (.t 11), none, .write, 0⟩, ⟨none, .store 2 (.t 3) (.t 12), none, .write, 0⟩])
 (.seq (.draw [⟨(some 14), .buildSlice 3 1 (.int .i64 0) 2 [(0, (.c (.int .i64 1))), (1, (.c (.int .i64 2)))], none, .create, 0⟩, ⟨(some 15), .call (.c (.func 5 [])) [(.c (.int .i64 0)), (.t 14)], none, .create, 0⟩, ⟨(some 16), .load (some 2) (.t 1), none, .read, 0⟩, ⟨(some 17), .build [(.int .i64 0), (.int .i64 0), .nsl, (.int .i64 0)] [(0, 2, (.t 16)), (3, 1, (.c (.int .i64 1)))], none, .read, 0⟩, ⟨(some 18), .call (.c (.func 4 [])) [(.t 15), (.t 17)], none, .write, 2⟩, ⟨(some 13), .move (.t 18), none, .read, 3⟩, ⟨(some 19), .extract (.t 13) 0, none, .read, 3⟩, ⟨(some 4), .alloc 30 6 (.agg [(.int .i64 0), .nsl, .nsl, .nsl, .nsl, .nsl]), none, .create, 0⟩, ⟨none, .store 6 (.t 4) (.t 19), none, .write, 4⟩, ⟨(some 20), .extract (.t 13) 1, none, .read, 3⟩, ⟨(some 5), .move (.t 20), none, .read, 5⟩])
 (.seq (.region [⟨(some 22), .load (some 6) (.t 4), none, .write, 0⟩, ⟨(some 23), .load (some 2) (.t 2), none, .write, 0⟩, ⟨(some 24), .call (.c (.func 6 [])) [(.t 22), (.t 23), (.c .nsl)], none, .write, 0⟩, ⟨(some 21), .move (.t 24), none, .write, 0⟩, ⟨(some 25), .extract (.t 21) 0, none, .write, 0⟩, ⟨(some 26), .extract (.t 21) 1, none, .write, 0⟩, ⟨none, .store 6 (.t 4) (.t 25), none, .write, 0⟩, ⟨(some 6), .move (.t 26), none, .write, 0⟩])
 (.seq (.region [⟨(some 28), .load (some 6) (.t 4), none, .write, 0⟩, ⟨(some 29), .load (some 2) (.t 1), none, .write, 0⟩, ⟨(some 30), .load (some 2) (.t 3), none, .write, 0⟩, ⟨(some 31), .build [(.int .i64 0), (.int .i64 0), (.int .i64 0), (.int .i64 0), (.int .i64 0), .nsl, .nsl] [(0, 1, (.c (.int .i64 3))), (1, 2, (.t 29)), (3, 2, (.t 30))], none, .write, 0⟩, ⟨(some 32), .call (.c (.func 7 [])) [(.t 28), (.c (.int .i64 2)), (.t 31)], none, .write, 0⟩, ⟨(some 27), .move (.t 32), none, .write, 0⟩, ⟨(some 33), .extract (.t 27) 0, none, .write, 0⟩, ⟨(some 34), .extract (.t 27) 1, none, .write, 0⟩, ⟨none, .store 6 (.t 4) (.t 33), none, .write, 0⟩, ⟨(some 7), .move (.t 34), none, .write, 0⟩])
 (.seq (.region [⟨(some 36), .load (some 6) (.t 4), none, .write, 0⟩, ⟨(some 37), .load (some 2) (.t 2), none, .write, 0⟩, ⟨(some 38), .call (.c (.func 8 [])) [(.t 36), (.t 37)], none, .write, 0⟩, ⟨(some 35), .move (.t 38), none, .write, 0⟩, ⟨(some 39), .extract (.t 35) 0, none, .write, 0⟩, ⟨(some 40), .extract (.t 35) 1, none, .write, 0⟩, ⟨(some 8), .alloc 30 6 (.agg [(.int .i64 0), .nsl, .nsl, .nsl, .nsl, .nsl]), none, .write, 0⟩, ⟨none, .store 6 (.t 8) (.t 39), none, .write, 0⟩, ⟨(some 9), .move (.t 40), none, .write, 0⟩])
 (.seq (.draw [⟨(some 41), .move (.t 6), none, .read, 0⟩, ⟨(some 42), .len 1 (.t 41), none, .read, 0⟩, ⟨(some 43), .arith .eql (.t 42) (.c (.int .i64 1)), none, .read, 0⟩, ⟨(some 44), .move (.t 43), none, .read, 0⟩, ⟨(some 45), .move (.t 6), (some (44, true)), .read, 0⟩, ⟨(some 46), .indexAddr 8 (.t 45) (.c (.int .i64 0)), (some (44, true)), .read, 0⟩, ⟨(some 47), .fieldAddr 0 (.t 46), (some (44, true)), .read, 0⟩, ⟨(some 48), .load none (.t 47), (some (44, true)), .read, 0⟩, ⟨(some 49), .arith .eql (.t 48) (.c (.int .i64 1)), (some (44, true)), .read, 0⟩, ⟨(some 50), .pick (.t 44) (.t 49) (.c (.bool false)), none, .read, 0⟩, ⟨(some 51), .move (.t 50), none, .read, 0⟩, ⟨(some 52), .move (.t 7), (some (51, true)), .read, 0⟩, ⟨(some 53), .len 1 (.t 52), (some (51, true)), .read, 0⟩, ⟨(some 54), .arith .eql (.t 53) (.c (.int .i64 0)), (some (51, true)), .read, 0⟩, ⟨(some 55), .pick (.t 51) (.t 54) (.c (.bool false)), none, .read, 0⟩, ⟨(some 56), .move (.t 55), none, .read, 0⟩, ⟨(some 57), .move (.t 9), (some (56, true)), .read, 0⟩, ⟨(some 58), .len 1 (.t 57), (some (56, true)), .read, 0⟩, ⟨(some 59), .arith .eql (.t 58) (.c (.int .i64 2)), (some (56, true)), .read, 0⟩, ⟨(some 60), .pick (.t 56) (.t 59) (.c (.bool false)), none, .read, 0⟩, ⟨(some 61), .move (.t 60), none, .read, 0⟩, ⟨(some 62), .move (.t 9), (some (61, true)), .read, 0⟩, ⟨(some 63), .indexAddr 8 (.t 62) (.c (.int .i64 0)), (some (61, true)), .read, 0⟩, ⟨(some 64), .fieldAddr 1 (.t 63), (some (61, true)), .read, 0⟩, ⟨(some 65), .fieldAddr 0 (.t 64), (some (61, true)), .read, 0⟩, ⟨(some 66), .load none (.t 65), (some (61, true)), .read, 0⟩, ⟨(some 67), .arith .eql (.t 66) (.c (.int .i64 3)), (some (61, true)), .read, 0⟩, ⟨(some 68), .pick (.t 61) (.t 67) (.c (.bool false)), none, .read, 0⟩, ⟨(some 69), .move (.t 68), none, .read, 0⟩, ⟨(some 70), .move (.t 9), (some (69, true)), .read, 0⟩, ⟨(some 71), .indexAddr 8 (.t 70) (.c (.int .i64 0)), (some (69, true)), .read, 0⟩, ⟨(some 72), .fieldAddr 1 (.t 71), (some (69, true)), .read, 0⟩, ⟨(some 73), .fieldAddr 3 (.t 72), (some (69, true)), .read, 0⟩, ⟨(some 74), .load (some 2) (.t 73), (some (69, true)), .read, 0⟩, ⟨(some 75), .load (some 2) (.t 3), (some (69, true)), .read, 0⟩, ⟨(some 76), .eqa false [1, 1] (.t 74) (.t 75), (some (69, true)), .read, 0⟩, ⟨(some 77), .pick (.t 69) (.t 76) (.c (.bool false)), none, .read, 0⟩, ⟨(some 78), .move (.t 77), none, .read, 0⟩, ⟨(some 79), .move (.t 9), (some (78, true)), .read, 0⟩, ⟨(some 80), .indexAddr 8 (.t 79) (.c (.int .i64 1)), (some (78, true)), .read, 0⟩, ⟨(some 81), .fieldAddr 1 (.t 80), (some (78, true)), .read, 0⟩, ⟨(some 82), .fieldAddr 0 (.t 81), (some (78, true)), .read, 0⟩, ⟨(some 83), .load none (.t 82), (some (78, true)), .read, 0⟩, ⟨(some 84), .arith .eql (.t 83) (.c (.int .i64 4)), (some (78, true)), .read, 0⟩, ⟨(some 85), .pick (.t 78) (.t 84) (.c (.bool false)), none, .read, 0⟩, ⟨(some 86), .move (.t 85), none, .read, 0⟩, ⟨(some 87), .move (.t 9), (some (86, true)), .read, 0⟩, ⟨(some 88), .indexAddr 8 (.t 87) (.c (.int .i64 1)), (some (86, true)), .read, 0⟩, ⟨(some 89), .fieldAddr 1 (.t 88), (some (86, true)), .read, 0⟩, ⟨(some 90), .fieldAddr 3 (.t 89), (some (86, true)), .read, 0⟩, ⟨(some 91), .load (some 2) (.t 90), (some (86, true)), .read, 0⟩, ⟨(some 92), .load (some 2) (.t 2), (some (86, true)), .read, 0⟩, ⟨(some 93), .eqa false [1, 1] (.t 91) (.t 92), (some (86, true)), .read, 0⟩, ⟨(some 94), .pick (.t 86) (.t 93) (.c (.bool false)), none, .read, 0⟩, ⟨(some 0), .move (.t 94), none, .read, 0⟩])
 .ret))))))) }

theorem c3 : compFunc Tryz.prog Tryz.f3 .full = some t3 := by kernel_rfl

/-- broadside/adverts.Learn -/
def t4 : DFunc := { ntmps := 44, results := [(.cell 4 (some 6)), (.t 5)], mode := .full, body :=
 (.seq (.region [⟨(some 2), .box 30 6 (.t 0), none, .write, 0⟩, ⟨(some 3), .box 36 4 (.t 1), none, .write, 0⟩, ⟨(some 4), .alloc 30 6 (.agg [(.int .i64 0), .nsl, .nsl, .nsl, .nsl, .nsl]), none, .write, 0⟩, ⟨(some 5), .move (.c (.bool false)), none, .write, 0⟩])
 (.seq (.region [⟨(some 10), .load (some 6) (.t 2), none, .write, 0⟩, ⟨(some 11), .call (.c (.func 9 [])) [(.t 10)], none, .write, 0⟩, ⟨none, .store 6 (.t 2) (.t 11), none, .write, 0⟩])
 (.seq (.region [⟨(some 13), .load (some 6) (.t 2), none, .write, 0⟩, ⟨(some 14), .fieldAddr 0 (.t 3), none, .write, 0⟩, ⟨(some 15), .load (some 2) (.t 14), none, .write, 0⟩, ⟨(some 16), .call (.c (.func 10 [])) [(.t 13), (.t 15)], none, .write, 0⟩, ⟨(some 12), .move (.t 16), none, .write, 0⟩, ⟨(some 17), .extract (.t 12) 0, none, .write, 0⟩, ⟨(some 18), .extract (.t 12) 1, none, .write, 0⟩, ⟨(some 6), .move (.t 17), none, .write, 0⟩, ⟨(some 7), .move (.t 18), none, .write, 0⟩])
 (.seq (.seq (.region [⟨(some 19), .move (.t 7), none, .write, 0⟩])
 (.cond (.t 19) (.seq (.region [⟨(some 20), .load (some 6) (.t 2), none, .write, 0⟩, ⟨none, .store 6 (.t 4) (.t 20), none, .write, 0⟩, ⟨(some 5), .move (.c (.bool false)), none, .write, 0⟩])
 .ret) .skip))
 (.seq (.region [⟨(some 22), .load (some 6) (.t 2), none, .write, 0⟩, ⟨(some 23), .fieldAddr 0 (.t 3), none, .write, 0⟩, ⟨(some 24), .load (some 2) (.t 23), none, .write, 0⟩, ⟨(some 25), .call (.c (.func 11 [])) [(.t 22), (.t 24)], none, .write, 0⟩, ⟨(some 21), .move (.t 25), none, .write, 0⟩, ⟨(some 26), .extract (.t 21) 0, none, .write, 0⟩, ⟨(some 27), .extract (.t 21) 1, none, .write, 0⟩, ⟨(some 8), .move (.t 26), none, .write, 0⟩, ⟨(some 9), .move (.t 27), none, .write, 0⟩])
 (.seq (.region [⟨(some 28), .fieldAddr 2 (.t 2), none, .write, 0⟩, ⟨(some 29), .load none (.t 28), none, .write, 0⟩, ⟨(some 30), .move (.t 8), none, .write, 0⟩, ⟨(some 31), .load (some 4) (.t 3), none, .write, 0⟩, ⟨(some 32), .buildSlice 36 4 (.agg [(.int .i64 0), (.int .i64 0), .nsl, (.int .i64 0)]) 1 [(0, (.t 31))], none, .write, 0⟩, ⟨(some 33), .call (.c (.func 12 [])) [(.t 29), (.t 30), (.t 32)], none, .write, 0⟩, ⟨(some 34), .fieldAddr 2 (.t 2), none, .write, 0⟩, ⟨none, .store 1 (.t 34) (.t 33), none, .write, 0⟩])
 (.seq (.region [⟨(some 35), .fieldAddr 3 (.t 2), none, .write, 0⟩, ⟨(some 36), .load none (.t 35), none, .write, 0⟩, ⟨(some 37), .move (.t 6), none, .write, 0⟩, ⟨(some 38), .fieldAddr 0 (.t 3), none, .write, 0⟩, ⟨(some 39), .load (some 2) (.t 38), none, .write, 0⟩, ⟨(some 40), .buildSlice 23 2 (.agg [(.int .i64 0), (.int .i64 0)]) 1 [(0, (.t 39))], none, .write, 0⟩, ⟨(some 41), .call (.c (.func 13 [])) [(.t 36), (.t 37), (.t 40)], none, .write, 0⟩, ⟨(some 42), .fieldAddr 3 (.t 2), none, .write, 0⟩, ⟨none, .store 1 (.t 42) (.t 41), none, .write, 0⟩])
 (.seq (.region [⟨(some 43), .load (some 6) (.t 2), none, .write, 0⟩, ⟨none, .store 6 (.t 4) (.t 43), none, .write, 0⟩, ⟨(some 5), .move (.c (.bool true)), none, .write, 0⟩])
 .ret)))))))) }

theorem c4 : compFunc Tryz.prog Tryz.f4 .full = some t4 := by kernel_rfl

/-- broadside/adverts.New -/
def t5 : DFunc := { ntmps := 14, results := [(.cell 4 (some 6))], mode := .full, body :=
 (.seq (.region [⟨(some 4), .alloc 30 6 (.agg [(.int .i64 0), .nsl, .nsl, .nsl, .nsl, .nsl]), none, .write, 0⟩])
 (.seq (.region [⟨(some 6), .move (.t 1), none, .write, 0⟩, ⟨(some 7), .call (.c (.func 14 [])) [(.t 6)], none, .write, 0⟩, ⟨(some 5), .move (.t 7), none, .write, 0⟩])
 (.seq (.region [⟨(some 8), .move (.t 5), none, .write, 0⟩, ⟨(some 9), .call (.c (.func 15 [])) [(.t 8)], none, .write, 0⟩])
 (.seq (.region [⟨(some 10), .move (.t 0), none, .write, 0⟩, ⟨(some 11), .move (.t 5), none, .write, 0⟩, ⟨(some 12), .call (.c (.func 16 [])) [(.t 11)], none, .write, 0⟩, ⟨(some 13), .build [(.int .i64 0), .nsl, .nsl, .nsl, .nsl, .nsl] [(0, 1, (.t 10)), (1, 1, (.t 12))], none, .write, 0⟩, ⟨none, .store 6 (.t 4) (.t 13), none, .write, 0⟩])
 .ret)))) }

theorem c5 : compFunc Tryz.prog Tryz.f5 .full = some t5 := by kernel_rfl

/-- broadside/route.Subscribe -/
def t6 : DFunc := { ntmps := 62, results := [(.cell 6 (some 6)), (.t 7)], mode := .full, body :=
 (.seq (.region [⟨(some 3), .box 30 6 (.t 0), none, .write, 0⟩, ⟨(some 4), .box 23 2 (.t 1), none, .write, 0⟩, ⟨(some 6), .alloc 30 6 (.agg [(.int .i64 0), .nsl, .nsl, .nsl, .nsl, .nsl]), none, .write, 0⟩, ⟨(some 7), .move (.c .nsl), none, .write, 0⟩])
 (.seq (.region [⟨(some 16), .load (some 6) (.t 3), none, .write, 0⟩, ⟨(some 17), .load (some 2) (.t 4), none, .write, 0⟩, ⟨(some 18), .call (.c (.func 17 [])) [(.t 16), (.t 17)], none, .write, 0⟩, ⟨(some 15), .move (.t 18), none, .write, 0⟩, ⟨(some 19), .extract (.t 15) 0, none, .write, 0⟩, ⟨(some 20), .extract (.t 15) 1, none, .write, 0⟩, ⟨(some 8), .move (.t 19), none, .write, 0⟩, ⟨(some 9), .move (.t 20), none, .write, 0⟩])
 (.seq (.seq (.region [⟨(some 21), .move (.t 9), none, .write, 0⟩])
 (.cond (.t 21) (.seq (.region [⟨(some 22), .load (some 6) (.t 3), none, .write, 0⟩, ⟨none, .store 6 (.t 6) (.t 22), none, .write, 0⟩, ⟨(some 7), .move (.c .nsl), none, .write, 0⟩])
 .ret) .skip))
 (.seq (.draw [⟨(some 23), .fieldAddr 5 (.t 3), none, .read, 0⟩, ⟨(some 24), .load none (.t 23), none, .read, 0⟩, ⟨(some 25), .call (.c (.func 19 [])) [(.t 24)], none, .create, 0⟩, ⟨(some 27), .load (some 2) (.t 4), none, .read, 0⟩, ⟨(some 26), .move (.t 8), none, .read, 0⟩, ⟨(some 28), .move (.t 2), none, .read, 0⟩, ⟨(some 29), .build [(.int .i64 0), (.int .i64 0), .nsl] [(0, 2, (.t 27)), (2, 1, (.t 28))], none, .read, 0⟩, ⟨(some 30), .buildSlice 57 3 (.agg [(.int .i64 0), (.int .i64 0), .nsl]) 1 [(0, (.t 29))], none, .create, 0⟩, ⟨(some 31), .call (.c (.func 18 [])) [(.t 25), (.t 26), (.t 30)], none, .write, 2⟩, ⟨(some 32), .fieldAddr 5 (.t 3), none, .read, 3⟩, ⟨none, .store 1 (.t 32) (.t 31), none, .write, 3⟩])
 (.seq (.region [⟨(some 10), .move (.c .nsl), none, .write, 0⟩])
 (.seq (.seq (.region [⟨(some 33), .fieldAddr 2 (.t 3), none, .write, 0⟩, ⟨(some 34), .load none (.t 33), none, .write, 0⟩, ⟨(some 35), .len 1 (.t 34), none, .write, 0⟩, ⟨(some 36), .move (.c (.int .i64 0)), none, .write, 0⟩])
 (.block 0 (.loop (.seq (.region [⟨(some 37), .arith .lss (.t 36) (.t 35), none, .write, 0⟩])
 (.seq (.cond (.t 37) .skip (.exit 0))
 (.seq (.block 1 (.seq (.region [⟨(some 38), .indexAddr 4 (.t 34) (.t 36), none, .write, 0⟩, ⟨(some 39), .load (some 4) (.t 38), none, .write, 0⟩, ⟨(some 12), .alloc 36 4 (.agg [(.int .i64 0), (.int .i64 0), .nsl, (.int .i64 0)]), none, .write, 0⟩, ⟨none, .store 4 (.t 12) (.t 39), none, .write, 0⟩])
 (.seq (.seq (.region [⟨(some 40), .move (.t 2), none, .write, 0⟩, ⟨(some 41), .fieldAddr 2 (.t 12), none, .write, 0⟩, ⟨(some 42), .load none (.t 41), none, .write, 0⟩, ⟨(some 43), .call (.c (.func 20 [])) [(.t 40), (.t 42)], none, .write, 0⟩, ⟨(some 44), .un .not (.t 43), none, .write, 0⟩])
 (.cond (.t 44) (.exit 1) .skip))
 (.seq (.region [⟨(some 46), .load (some 6) (.t 3), none, .write, 0⟩, ⟨(some 47), .fieldAddr 0 (.t 12), none, .write, 0⟩, ⟨(some 48), .load (some 2) (.t 47), none, .write, 0⟩, ⟨(some 49), .load (some 2) (.t 4), none, .write, 0⟩, ⟨(some 50), .move (.t 2), none, .write, 0⟩, ⟨(some 51), .build [(.int .i64 0), (.int .i64 0), (.int .i64 0), (.int .i64 0), .nsl, (.int .i64 0), (.bool false)] [(0, 2, (.t 48)), (2, 2, (.t 49)), (4, 1, (.t 50)), (5, 1, (.c (.int .i64 (-1))))], none, .write, 0⟩, ⟨(some 52), .call (.c (.func 21 [])) [(.t 46), (.t 51)], none, .write, 0⟩, ⟨(some 45), .move (.t 52), none, .write, 0⟩, ⟨(some 53), .extract (.t 45) 0, none, .write, 0⟩, ⟨(some 54), .extract (.t 45) 1, none, .write, 0⟩, ⟨(some 13), .alloc 30 6 (.agg [(.int .i64 0), .nsl, .nsl, .nsl, .nsl, .nsl]), none, .write, 0⟩, ⟨none, .store 6 (.t 13) (.t 53), none, .write, 0⟩, ⟨(some 14), .move (.t 54), none, .write, 0⟩])
 (.draw [⟨(some 55), .load (some 6) (.t 13), none, .read, 0⟩, ⟨(some 56), .move (.t 10), none, .read, 0⟩, ⟨(some 57), .move (.t 14), none, .read, 0⟩, ⟨(some 58), .append 46 8 96 (.t 56) (.t 57), none, .create, 0⟩, ⟨none, .store 6 (.t 3) (.t 55), none, .write, 1⟩, ⟨(some 10), .move (.t 58), none, .read, 2⟩])))))
 (.region [⟨(some 59), .arith .add (.t 36) (.c (.int .i64 1)), none, .write, 0⟩, ⟨(some 36), .move (.t 59), none, .write, 0⟩])))))))
 (.seq (.region [⟨(some 60), .load (some 6) (.t 3), none, .write, 0⟩, ⟨(some 61), .move (.t 10), none, .write, 0⟩, ⟨none, .store 6 (.t 6) (.t 60), none, .write, 0⟩, ⟨(some 7), .move (.t 61), none, .write, 0⟩])
 .ret))))))) }

theorem c6 : compFunc Tryz.prog Tryz.f6 .full = some t6 := by kernel_rfl

/-- broadside/route.OnSub -/
def t7 : DFunc := { ntmps := 20, results := [(.cell 6 (some 6)), (.t 7)], mode := .full, body :=
 (.seq (.region [⟨(some 3), .box 30 6 (.t 0), none, .write, 0⟩, ⟨(some 5), .box 43 7 (.t 2), none, .write, 0⟩, ⟨(some 6), .alloc 30 6 (.agg [(.int .i64 0), .nsl, .nsl, .nsl, .nsl, .nsl]), none, .write, 0⟩, ⟨(some 7), .move (.c .nsl), none, .write, 0⟩])
 (.seq (.region [⟨(some 8), .load (some 6) (.t 3), none, .write, 0⟩, ⟨(some 9), .fieldAddr 1 (.t 5), none, .write, 0⟩, ⟨(some 10), .load (some 2) (.t 9), none, .write, 0⟩, ⟨(some 11), .fieldAddr 3 (.t 5), none, .write, 0⟩, ⟨(some 12), .load (some 2) (.t 11), none, .write, 0⟩, ⟨(some 13), .fieldAddr 5 (.t 5), none, .write, 0⟩, ⟨(some 14), .load none (.t 13), none, .write, 0⟩, ⟨(some 15), .move (.t 1), none, .write, 0⟩, ⟨(some 16), .build [(.int .i64 0), (.int .i64 0), (.int .i64 0), (.int .i64 0), .nsl, (.int .i64 0), (.bool false)] [(0, 2, (.t 10)), (2, 2, (.t 12)), (4, 1, (.t 14)), (5, 1, (.t 15))], none, .write, 0⟩, ⟨(some 17), .call (.c (.func 21 [])) [(.t 8), (.t 16)], none, .write, 0⟩, ⟨(some 18), .extract (.t 17) 0, none, .write, 0⟩, ⟨(some 19), .extract (.t 17) 1, none, .write, 0⟩, ⟨none, .store 6 (.t 6) (.t 18), none, .write, 0⟩, ⟨(some 7), .move (.t 19), none, .write, 0⟩])
 .ret)) }

theorem c7 : compFunc Tryz.prog Tryz.f7 .full = some t7 := by kernel_rfl

/-- broadside/route.Unsubscribe -/
def t8 : DFunc := { ntmps := 52, results := [(.cell 4 (some 6)), (.t 5)], mode := .full, body :=
 (.seq (.region [⟨(some 2), .box 30 6 (.t 0), none, .write, 0⟩, ⟨(some 3), .box 23 2 (.t 1), none, .write, 0⟩, ⟨(some 4), .alloc 30 6 (.agg [(.int .i64 0), .nsl, .nsl, .nsl, .nsl, .nsl]), none, .write, 0⟩, ⟨(some 5), .move (.c .nsl), none, .write, 0⟩])
 (.seq (.region [⟨(some 14), .load (some 6) (.t 2), none, .write, 0⟩, ⟨(some 15), .load (some 2) (.t 3), none, .write, 0⟩, ⟨(some 16), .call (.c (.func 17 [])) [(.t 14), (.t 15)], none, .write, 0⟩, ⟨(some 13), .move (.t 16), none, .write, 0⟩, ⟨(some 17), .extract (.t 13) 0, none, .write, 0⟩, ⟨(some 18), .extract (.t 13) 1, none, .write, 0⟩, ⟨(some 6), .move (.t 17), none, .write, 0⟩, ⟨(some 7), .move (.t 18), none, .write, 0⟩])
 (.seq (.seq (.region [⟨(some 19), .move (.t 7), none, .write, 0⟩, ⟨(some 20), .un .not (.t 19), none, .write, 0⟩])
 (.cond (.t 20) (.seq (.region [⟨(some 21), .load (some 6) (.t 2), none, .write, 0⟩, ⟨none, .store 6 (.t 4) (.t 21), none, .write, 0⟩, ⟨(some 5), .move (.c .nsl), none, .write, 0⟩])
 .ret) .skip))
 (.seq (.region [⟨(some 22), .fieldAddr 5 (.t 2), none, .write, 0⟩, ⟨(some 23), .load none (.t 22), none, .write, 0⟩, ⟨(some 24), .call (.c (.func 19 [])) [(.t 23)], none, .write, 0⟩, ⟨(some 25), .move (.t 6), none, .write, 0⟩, ⟨(some 26), .move (.t 6), none, .write, 0⟩, ⟨(some 27), .arith .add (.t 26) (.c (.int .i64 1)), none, .write, 0⟩, ⟨(some 28), .call (.c (.func 22 [])) [(.t 24), (.t 25), (.t 27)], none, .write, 0⟩, ⟨(some 29), .fieldAddr 5 (.t 2), none, .write, 0⟩, ⟨none, .store 1 (.t 29) (.t 28), none, .write, 0⟩])
 (.seq (.region [⟨(some 8), .move (.c .nsl), none, .write, 0⟩])
 (.seq (.seq (.region [⟨(some 30), .fieldAddr 2 (.t 2), none, .write, 0⟩, ⟨(some 31), .load none (.t 30), none, .write, 0⟩, ⟨(some 32), .len 1 (.t 31), none, .write, 0⟩, ⟨(some 33), .move (.c (.int .i64 0)), none, .write, 0⟩])
 (.block 0 (.loop (.seq (.region [⟨(some 34), .arith .lss (.t 33) (.t 32), none, .write, 0⟩])
 (.seq (.cond (.t 34) .skip (.exit 0))
 (.seq (.block 1 (.seq (.region [⟨(some 35), .indexAddr 4 (.t 31) (.t 33), none, .write, 0⟩, ⟨(some 36), .load (some 4) (.t 35), none, .write, 0⟩, ⟨(some 10), .alloc 36 4 (.agg [(.int .i64 0), (.int .i64 0), .nsl, (.int .i64 0)]), none, .write, 0⟩, ⟨none, .store 4 (.t 10) (.t 36), none, .write, 0⟩])
 (.seq (.region [⟨(some 38), .load (some 6) (.t 2), none, .write, 0⟩, ⟨(some 39), .fieldAddr 0 (.t 10), none, .write, 0⟩, ⟨(some 40), .load (some 2) (.t 39), none, .write, 0⟩, ⟨(some 41), .load (some 2) (.t 3), none, .write, 0⟩, ⟨(some 42), .call (.c (.func 23 [])) [(.t 38), (.t 40), (.t 41), (.c (.int .i64 (-1)))], none, .write, 0⟩, ⟨(some 37), .move (.t 42), none, .write, 0⟩, ⟨(some 43), .extract (.t 37) 0, none, .write, 0⟩, ⟨(some 44), .extract (.t 37) 1, none, .write, 0⟩, ⟨(some 11), .alloc 30 6 (.agg [(.int .i64 0), .nsl, .nsl, .nsl, .nsl, .nsl]), none, .write, 0⟩, ⟨none, .store 6 (.t 11) (.t 43), none, .write, 0⟩, ⟨(some 12), .move (.t 44), none, .write, 0⟩])
 (.draw [⟨(some 45), .load (some 6) (.t 11), none, .read, 0⟩, ⟨(some 46), .move (.t 8), none, .read, 0⟩, ⟨(some 47), .move (.t 12), none, .read, 0⟩, ⟨(some 48), .append 46 8 96 (.t 46) (.t 47), none, .create, 0⟩, ⟨none, .store 6 (.t 2) (.t 45), none, .write, 1⟩, ⟨(some 8), .move (.t 48), none, .read, 2⟩]))))
 (.region [⟨(some 49), .arith .add (.t 33) (.c (.int .i64 1)), none, .write, 0⟩, ⟨(some 33), .move (.t 49), none, .write, 0⟩])))))))
 (.seq (.region [⟨(some 50), .load (some 6) (.t 2), none, .write, 0⟩, ⟨(some 51), .move (.t 8), none, .write, 0⟩, ⟨none, .store 6 (.t 4) (.t 50), none, .write, 0⟩, ⟨(some 5), .move (.t 51), none, .write, 0⟩])
 .ret))))))) }

theorem c8 : compFunc Tryz.prog Tryz.f8 .full = some t8 := by kernel_rfl

/-- broadside/adverts.copied -/
def t9 : DFunc := { ntmps := 24, results := [(.cell 2 (some 6))], mode := .full, body :=
 (.seq (.region [⟨(some 1), .box 30 6 (.t 0), none, .write, 0⟩, ⟨(some 2), .alloc 30 6 (.agg [(.int .i64 0), .nsl, .nsl, .nsl, .nsl, .nsl]), none, .write, 0⟩])
 (.seq (.draw [⟨(some 3), .fieldAddr 1 (.t 1), none, .read, 0⟩, ⟨(some 4), .load none (.t 3), none, .read, 0⟩, ⟨(some 5), .call (.c (.func 14 [])) [(.t 4)], none, .create, 0⟩, ⟨(some 6), .fieldAddr 2 (.t 1), none, .read, 0⟩, ⟨(some 7), .load none (.t 6), none, .read, 0⟩, ⟨(some 8), .call (.c (.func 24 [])) [(.t 7)], none, .create, 0⟩, ⟨(some 9), .fieldAddr 3 (.t 1), none, .read, 0⟩, ⟨(some 10), .load none (.t 9), none, .read, 0⟩, ⟨(some 11), .call (.c (.func 25 [])) [(.t 10)], none, .create, 0⟩, ⟨(some 12), .fieldAddr 4 (.t 1), none, .read, 0⟩, ⟨(some 13), .load none (.t 12), none, .read, 0⟩, ⟨(some 14), .call (.c (.func 26 [])) [(.t 13)], none, .create, 0⟩, ⟨(some 15), .fieldAddr 5 (.t 1), none, .read, 0⟩, ⟨(some 16), .load none (.t 15), none, .read, 0⟩, ⟨(some 17), .call (.c (.func 19 [])) [(.t 16)], none, .write, 4⟩, ⟨(some 18), .fieldAddr 1 (.t 1), none, .read, 1⟩, ⟨none, .store 1 (.t 18) (.t 5), none, .write, 5⟩, ⟨(some 19), .fieldAddr 2 (.t 1), none, .read, 6⟩, ⟨none, .store 1 (.t 19) (.t 8), none, .write, 6⟩, ⟨(some 20), .fieldAddr 3 (.t 1), none, .read, 7⟩, ⟨none, .store 1 (.t 20) (.t 11), none, .write, 7⟩, ⟨(some 21), .fieldAddr 4 (.t 1), none, .read, 8⟩, ⟨none, .store 1 (.t 21) (.t 14), none, .write, 8⟩, ⟨(some 22), .fieldAddr 5 (.t 1), none, .read, 9⟩, ⟨none, .store 1 (.t 22) (.t 17), none, .write, 9⟩])
 (.seq (.region [⟨(some 23), .load (some 6) (.t 1), none, .write, 0⟩, ⟨none, .store 6 (.t 2) (.t 23), none, .write, 0⟩])
 .ret))) }

theorem c9 : compFunc Tryz.prog Tryz.f9 .full = some t9 := by kernel_rfl

/-- broadside/adverts.seen -/
def t10 : DFunc := { ntmps := 12, results := [(.t 4), (.t 5)], mode := .full, body :=
 (.seq (.region [⟨(some 2), .box 30 6 (.t 0), none, .write, 0⟩, ⟨(some 3), .box 23 2 (.t 1), none, .write, 0⟩, ⟨(some 4), .move (.c (.int .i64 0)), none, .write, 0⟩, ⟨(some 5), .move (.c (.bool false)), none, .write, 0⟩])
 (.seq (.region [⟨(some 6), .fieldAddr 3 (.t 2), none, .write, 0⟩, ⟨(some 7), .load none (.t 6), none, .write, 0⟩, ⟨(some 8), .load (some 2) (.t 3), none, .write, 0⟩, ⟨(some 9), .call (.c (.func 27 [])) [(.t 7), (.t 8), (.c (.func 28 []))], none, .write, 0⟩, ⟨(some 10), .extract (.t 9) 0, none, .write, 0⟩, ⟨(some 11), .extract (.t 9) 1, none, .write, 0⟩, ⟨(some 4), .move (.t 10), none, .write, 0⟩, ⟨(some 5), .move (.t 11), none, .write, 0⟩])
 .ret)) }

theorem c10 : compFunc Tryz.prog Tryz.f10 .full = some t10 := by kernel_rfl

/-- broadside/adverts.place -/
def t11 : DFunc := { ntmps := 12, results := [(.t 4), (.t 5)], mode := .full, body :=
 (.seq (.region [⟨(some 2), .box 30 6 (.t 0), none, .write, 0⟩, ⟨(some 3), .box 23 2 (.t 1), none, .write, 0⟩, ⟨(some 4), .move (.c (.int .i64 0)), none, .write, 0⟩, ⟨(some 5), .move (.c (.bool false)), none, .write, 0⟩])
 (.seq (.region [⟨(some 6), .fieldAddr 2 (.t 2), none, .write, 0⟩, ⟨(some 7), .load none (.t 6), none, .write, 0⟩, ⟨(some 8), .load (some 2) (.t 3), none, .write, 0⟩, ⟨(some 9), .call (.c (.func 29 [])) [(.t 7), (.t 8), (.c (.func 30 []))], none, .write, 0⟩, ⟨(some 10), .extract (.t 9) 0, none, .write, 0⟩, ⟨(some 11), .extract (.t 9) 1, none, .write, 0⟩, ⟨(some 4), .move (.t 10), none, .write, 0⟩, ⟨(some 5), .move (.t 11), none, .write, 0⟩])
 .ret)) }

theorem c11 : compFunc Tryz.prog Tryz.f11 .full = some t11 := by kernel_rfl

/-- slices.Insert[[]broadside/api.Advert,broadside/api.Advert] -/
def t12 : DFunc := { ntmps := 95, results := [(.t 6)], mode := .split, body :=
 (.seq (.region [⟨(some 6), .move (.c .nsl), none, .write, 0⟩])
 (.seq (.region [⟨(some 10), .move (.t 0), none, .write, 0⟩, ⟨(some 11), .move (.t 1), none, .write, 0⟩, ⟨(some 12), .sliceSl 4 (.t 10) (some (.t 11)) none, none, .write, 0⟩])
 (.seq (.region [⟨(some 13), .move (.t 2), none, .write, 0⟩, ⟨(some 14), .len 1 (.t 13), none, .write, 0⟩, ⟨(some 7), .move (.t 14), none, .write, 0⟩])
 (.seq (.seq (.region [⟨(some 15), .move (.t 7), none, .write, 0⟩, ⟨(some 16), .arith .eql (.t 15) (.c (.int .i64 0)), none, .write, 0⟩])
 (.cond (.t 16) (.seq (.region [⟨(some 17), .move (.t 0), none, .write, 0⟩, ⟨(some 6), .move (.t 17), none, .write, 0⟩])
 .ret) .skip))
 (.seq (.region [⟨(some 18), .move (.t 0), none, .write, 0⟩, ⟨(some 19), .len 1 (.t 18), none, .write, 0⟩, ⟨(some 8), .move (.t 19), none, .write, 0⟩])
 (.seq (.seq (.region [⟨(some 20), .move (.t 1), none, .write, 0⟩, ⟨(some 21), .move (.t 8), none, .write, 0⟩, ⟨(some 22), .arith .eql (.t 20) (.t 21), none, .write, 0⟩])
 (.cond (.t 22) (.seq (.region [⟨(some 23), .move (.t 0), none, .write, 0⟩, ⟨(some 24), .move (.t 2), none, .write, 0⟩, ⟨(some 25), .append 36 4 48 (.t 23) (.t 24), none, .write, 0⟩, ⟨(some 6), .move (.t 25), none, .write, 0⟩])
 .ret) .skip))
 (.seq (.seq (.region [⟨(some 26), .move (.t 8), none, .write, 0⟩, ⟨(some 27), .move (.t 7), none, .write, 0⟩, ⟨(some 28), .arith .add (.t 26) (.t 27), none, .write, 0⟩, ⟨(some 29), .move (.t 0), none, .write, 0⟩, ⟨(some 30), .cap (.t 29), none, .write, 0⟩, ⟨(some 31), .arith .gtr (.t 28) (.t 30), none, .write, 0⟩])
 (.cond (.t 31) (.seq (.region [⟨(some 32), .move (.t 0), none, .write, 0⟩, ⟨(some 33), .move (.t 1), none, .write, 0⟩, ⟨(some 34), .sliceSl 4 (.t 32) none (some (.t 33)), none, .write, 0⟩, ⟨(some 35), .move (.t 8), none, .write, 0⟩, ⟨(some 36), .move (.t 7), none, .write, 0⟩, ⟨(some 37), .arith .add (.t 35) (.t 36), none, .write, 0⟩, ⟨(some 38), .move (.t 1), none, .write, 0⟩, ⟨(some 39), .arith .sub (.t 37) (.t 38), none, .write, 0⟩, ⟨(some 40), .appendZ 36 4 48 (.agg [(.int .i64 0), (.int .i64 0), .nsl, (.int .i64 0)]) (.t 34) (.t 39), none, .write, 0⟩, ⟨(some 9), .move (.t 40), none, .write, 0⟩])
 (.seq (.region [⟨(some 41), .move (.t 9), none, .write, 0⟩, ⟨(some 42), .move (.t 1), none, .write, 0⟩, ⟨(some 43), .sliceSl 4 (.t 41) (some (.t 42)) none, none, .write, 0⟩, ⟨(some 44), .move (.t 2), none, .write, 0⟩, ⟨(some 45), .copy 4 (.t 43) (.t 44), none, .write, 0⟩])
 (.seq (.draw [⟨(some 46), .move (.t 9), none, .read, 0⟩, ⟨(some 47), .move (.t 1), none, .read, 0⟩, ⟨(some 48), .move (.t 7), none, .read, 0⟩, ⟨(some 49), .arith .add (.t 47) (.t 48), none, .read, 0⟩, ⟨(some 50), .sliceSl 4 (.t 46) (some (.t 49)) none, none, .read, 0⟩, ⟨(some 51), .move (.t 0), none, .read, 0⟩, ⟨(some 52), .move (.t 1), none, .read, 0⟩, ⟨(some 53), .sliceSl 4 (.t 51) (some (.t 52)) none, none, .read, 0⟩, ⟨(some 54), .copy 4 (.t 50) (.t 53), none, .write, 0⟩])
 (.seq (.region [⟨(some 55), .move (.t 9), none, .write, 0⟩, ⟨(some 6), .move (.t 55), none, .write, 0⟩])
 .ret)))) .skip))
 (.seq (.region [⟨(some 56), .move (.t 0), none, .write, 0⟩, ⟨(some 57), .move (.t 8), none, .write, 0⟩, ⟨(some 58), .move (.t 7), none, .write, 0⟩, ⟨(some 59), .arith .add (.t 57) (.t 58), none, .write, 0⟩, ⟨(some 60), .sliceSl 4 (.t 56) none (some (.t 59)), none, .write, 0⟩, ⟨(some 0), .move (.t 60), none, .write, 0⟩])
 (.seq (.seq (.region [⟨(some 61), .move (.t 2), none, .write, 0⟩, ⟨(some 62), .move (.t 0), none, .write, 0⟩, ⟨(some 63), .move (.t 1), none, .write, 0⟩, ⟨(some 64), .move (.t 7), none, .write, 0⟩, ⟨(some 65), .arith .add (.t 63) (.t 64), none, .write, 0⟩, ⟨(some 66), .sliceSl 4 (.t 62) (some (.t 65)) none, none, .write, 0⟩, ⟨(some 67), .call (.c (.func 31 [])) [(.t 61), (.t 66)], none, .write, 0⟩, ⟨(some 68), .un .not (.t 67), none, .write, 0⟩])
 (.cond (.t 68) (.seq (.draw [⟨(some 69), .move (.t 0), none, .read, 0⟩, ⟨(some 70), .move (.t 1), none, .read, 0⟩, ⟨(some 71), .move (.t 7), none, .read, 0⟩, ⟨(some 72), .arith .add (.t 70) (.t 71), none, .read, 0⟩, ⟨(some 73), .sliceSl 4 (.t 69) (some (.t 72)) none, none, .read, 0⟩, ⟨(some 74), .move (.t 0), none, .read, 0⟩, ⟨(some 75), .move (.t 1), none, .read, 0⟩, ⟨(some 76), .sliceSl 4 (.t 74) (some (.t 75)) none, none, .read, 0⟩, ⟨(some 77), .copy 4 (.t 73) (.t 76), none, .write, 0⟩])
 (.seq (.region [⟨(some 78), .move (.t 0), none, .write, 0⟩, ⟨(some 79), .move (.t 1), none, .write, 0⟩, ⟨(some 80), .sliceSl 4 (.t 78) (some (.t 79)) none, none, .write, 0⟩, ⟨(some 81), .move (.t 2), none, .write, 0⟩, ⟨(some 82), .copy 4 (.t 80) (.t 81), none, .write, 0⟩])
 (.seq (.region [⟨(some 83), .move (.t 0), none, .write, 0⟩, ⟨(some 6), .move (.t 83), none, .write, 0⟩])
 .ret))) .skip))
 (.seq (.region [⟨(some 84), .move (.t 0), none, .write, 0⟩, ⟨(some 85), .move (.t 8), none, .write, 0⟩, ⟨(some 86), .sliceSl 4 (.t 84) (some (.t 85)) none, none, .write, 0⟩, ⟨(some 87), .move (.t 2), none, .write, 0⟩, ⟨(some 88), .copy 4 (.t 86) (.t 87), none, .write, 0⟩])
 (.seq (.region [⟨(some 89), .move (.t 0), none, .write, 0⟩, ⟨(some 90), .move (.t 1), none, .write, 0⟩, ⟨(some 91), .sliceSl 4 (.t 89) (some (.t 90)) none, none, .write, 0⟩, ⟨(some 92), .move (.t 7), none, .write, 0⟩, ⟨(some 93), .call (.c (.func 32 [])) [(.t 91), (.t 92)], none, .write, 0⟩])
 (.seq (.region [⟨(some 94), .move (.t 0), none, .write, 0⟩, ⟨(some 6), .move (.t 94), none, .write, 0⟩])
 .ret)))))))))))) }

theorem c12 : compFunc Tryz.prog Tryz.f12 .split = some t12 := by kernel_rfl

/-- slices.Insert[[]broadside/api.ID,broadside/api.ID] -/
def t13 : DFunc := { ntmps := 95, results := [(.t 6)], mode := .split, body :=
 (.seq (.region [⟨(some 6), .move (.c .nsl), none, .write, 0⟩])
 (.seq (.region [⟨(some 10), .move (.t 0), none, .write, 0⟩, ⟨(some 11), .move (.t 1), none, .write, 0⟩, ⟨(some 12), .sliceSl 2 (.t 10) (some (.t 11)) none, none, .write, 0⟩])
 (.seq (.region [⟨(some 13), .move (.t 2), none, .write, 0⟩, ⟨(some 14), .len 1 (.t 13), none, .write, 0⟩, ⟨(some 7), .move (.t 14), none, .write, 0⟩])
 (.seq (.seq (.region [⟨(some 15), .move (.t 7), none, .write, 0⟩, ⟨(some 16), .arith .eql (.t 15) (.c (.int .i64 0)), none, .write, 0⟩])
 (.cond (.t 16) (.seq (.region [⟨(some 17), .move (.t 0), none, .write, 0⟩, ⟨(some 6), .move (.t 17), none, .write, 0⟩])
 .ret) .skip))
 (.seq (.region [⟨(some 18), .move (.t 0), none, .write, 0⟩, ⟨(some 19), .len 1 (.t 18), none, .write, 0⟩, ⟨(some 8), .move (.t 19), none, .write, 0⟩])
 (.seq (.seq (.region [⟨(some 20), .move (.t 1), none, .write, 0⟩, ⟨(some 21), .move (.t 8), none, .write, 0⟩, ⟨(some 22), .arith .eql (.t 20) (.t 21), none, .write, 0⟩])
 (.cond (.t 22) (.seq (.region [⟨(some 23), .move (.t 0), none, .write, 0⟩, ⟨(some 24), .move (.t 2), none, .write, 0⟩, ⟨(some 25), .append 23 2 16 (.t 23) (.t 24), none, .write, 0⟩, ⟨(some 6), .move (.t 25), none, .write, 0⟩])
 .ret) .skip))
 (.seq (.seq (.region [⟨(some 26), .move (.t 8), none, .write, 0⟩, ⟨(some 27), .move (.t 7), none, .write, 0⟩, ⟨(some 28), .arith .add (.t 26) (.t 27), none, .write, 0⟩, ⟨(some 29), .move (.t 0), none, .write, 0⟩, ⟨(some 30), .cap (.t 29), none, .write, 0⟩, ⟨(some 31), .arith .gtr (.t 28) (.t 30), none, .write, 0⟩])
 (.cond (.t 31) (.seq (.region [⟨(some 32), .move (.t 0), none, .write, 0⟩, ⟨(some 33), .move (.t 1), none, .write, 0⟩, ⟨(some 34), .sliceSl 2 (.t 32) none (some (.t 33)), none, .write, 0⟩, ⟨(some 35), .move (.t 8), none, .write, 0⟩, ⟨(some 36), .move (.t 7), none, .write, 0⟩, ⟨(some 37), .arith .add (.t 35) (.t 36), none, .write, 0⟩, ⟨(some 38), .move (.t 1), none, .write, 0⟩, ⟨(some 39), .arith .sub (.t 37) (.t 38), none, .write, 0⟩, ⟨(some 40), .appendZ 23 2 16 (.agg [(.int .i64 0), (.int .i64 0)]) (.t 34) (.t 39), none, .write, 0⟩, ⟨(some 9), .move (.t 40), none, .write, 0⟩])
 (.seq (.region [⟨(some 41), .move (.t 9), none, .write, 0⟩, ⟨(some 42), .move (.t 1), none, .write, 0⟩, ⟨(some 43), .sliceSl 2 (.t 41) (some (.t 42)) none, none, .write, 0⟩, ⟨(some 44), .move (.t 2), none, .write, 0⟩, ⟨(some 45), .copy 2 (.t 43) (.t 44), none, .write, 0⟩])
 (.seq (.draw [⟨(some 46), .move (.t 9), none, .read, 0⟩, ⟨(some 47), .move (.t 1), none, .read, 0⟩, ⟨(some 48), .move (.t 7), none, .read, 0⟩, ⟨(some 49), .arith .add (.t 47) (.t 48), none, .read, 0⟩, ⟨(some 50), .sliceSl 2 (.t 46) (some (.t 49)) none, none, .read, 0⟩, ⟨(some 51), .move (.t 0), none, .read, 0⟩, ⟨(some 52), .move (.t 1), none, .read, 0⟩, ⟨(some 53), .sliceSl 2 (.t 51) (some (.t 52)) none, none, .read, 0⟩, ⟨(some 54), .copy 2 (.t 50) (.t 53), none, .write, 0⟩])
 (.seq (.region [⟨(some 55), .move (.t 9), none, .write, 0⟩, ⟨(some 6), .move (.t 55), none, .write, 0⟩])
 .ret)))) .skip))
 (.seq (.region [⟨(some 56), .move (.t 0), none, .write, 0⟩, ⟨(some 57), .move (.t 8), none, .write, 0⟩, ⟨(some 58), .move (.t 7), none, .write, 0⟩, ⟨(some 59), .arith .add (.t 57) (.t 58), none, .write, 0⟩, ⟨(some 60), .sliceSl 2 (.t 56) none (some (.t 59)), none, .write, 0⟩, ⟨(some 0), .move (.t 60), none, .write, 0⟩])
 (.seq (.seq (.region [⟨(some 61), .move (.t 2), none, .write, 0⟩, ⟨(some 62), .move (.t 0), none, .write, 0⟩, ⟨(some 63), .move (.t 1), none, .write, 0⟩, ⟨(some 64), .move (.t 7), none, .write, 0⟩, ⟨(some 65), .arith .add (.t 63) (.t 64), none, .write, 0⟩, ⟨(some 66), .sliceSl 2 (.t 62) (some (.t 65)) none, none, .write, 0⟩, ⟨(some 67), .call (.c (.func 33 [])) [(.t 61), (.t 66)], none, .write, 0⟩, ⟨(some 68), .un .not (.t 67), none, .write, 0⟩])
 (.cond (.t 68) (.seq (.draw [⟨(some 69), .move (.t 0), none, .read, 0⟩, ⟨(some 70), .move (.t 1), none, .read, 0⟩, ⟨(some 71), .move (.t 7), none, .read, 0⟩, ⟨(some 72), .arith .add (.t 70) (.t 71), none, .read, 0⟩, ⟨(some 73), .sliceSl 2 (.t 69) (some (.t 72)) none, none, .read, 0⟩, ⟨(some 74), .move (.t 0), none, .read, 0⟩, ⟨(some 75), .move (.t 1), none, .read, 0⟩, ⟨(some 76), .sliceSl 2 (.t 74) (some (.t 75)) none, none, .read, 0⟩, ⟨(some 77), .copy 2 (.t 73) (.t 76), none, .write, 0⟩])
 (.seq (.region [⟨(some 78), .move (.t 0), none, .write, 0⟩, ⟨(some 79), .move (.t 1), none, .write, 0⟩, ⟨(some 80), .sliceSl 2 (.t 78) (some (.t 79)) none, none, .write, 0⟩, ⟨(some 81), .move (.t 2), none, .write, 0⟩, ⟨(some 82), .copy 2 (.t 80) (.t 81), none, .write, 0⟩])
 (.seq (.region [⟨(some 83), .move (.t 0), none, .write, 0⟩, ⟨(some 6), .move (.t 83), none, .write, 0⟩])
 .ret))) .skip))
 (.seq (.region [⟨(some 84), .move (.t 0), none, .write, 0⟩, ⟨(some 85), .move (.t 8), none, .write, 0⟩, ⟨(some 86), .sliceSl 2 (.t 84) (some (.t 85)) none, none, .write, 0⟩, ⟨(some 87), .move (.t 2), none, .write, 0⟩, ⟨(some 88), .copy 2 (.t 86) (.t 87), none, .write, 0⟩])
 (.seq (.region [⟨(some 89), .move (.t 0), none, .write, 0⟩, ⟨(some 90), .move (.t 1), none, .write, 0⟩, ⟨(some 91), .sliceSl 2 (.t 89) (some (.t 90)) none, none, .write, 0⟩, ⟨(some 92), .move (.t 7), none, .write, 0⟩, ⟨(some 93), .call (.c (.func 34 [])) [(.t 91), (.t 92)], none, .write, 0⟩])
 (.seq (.region [⟨(some 94), .move (.t 0), none, .write, 0⟩, ⟨(some 6), .move (.t 94), none, .write, 0⟩])
 .ret)))))))))))) }

theorem c13 : compFunc Tryz.prog Tryz.f13 .split = some t13 := by kernel_rfl

/-- slices.Sort[[]int,int] -/
def t15 : DFunc := { ntmps := 11, results := [], mode := .full, body :=
 (.seq (.region [⟨(some 3), .move (.t 0), none, .write, 0⟩, ⟨(some 4), .len 1 (.t 3), none, .write, 0⟩, ⟨(some 2), .move (.t 4), none, .write, 0⟩])
 (.region [⟨(some 5), .move (.t 0), none, .write, 0⟩, ⟨(some 6), .move (.t 2), none, .write, 0⟩, ⟨(some 7), .move (.t 2), none, .write, 0⟩, ⟨(some 8), .conv .u64 (.t 7), none, .write, 0⟩, ⟨(some 9), .call (.c (.func 36 [])) [(.t 8)], none, .write, 0⟩, ⟨(some 10), .call (.c (.func 35 [])) [(.t 5), (.c (.int .i64 0)), (.t 6), (.t 9)], none, .write, 0⟩])) }

theorem c15 : compFunc Tryz.prog Tryz.f15 .full = some t15 := by kernel_rfl

end Go.Dm.TabR
