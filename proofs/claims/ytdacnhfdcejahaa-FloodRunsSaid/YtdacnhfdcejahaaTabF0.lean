/-
The table of functions, brought into the machine's form (TabF, part 0). Written by program (wip/tools/table.lean.txt).
-/
import Derived.Test.YtdacnhfdcejahaaDm32
import Derived.Test.YtdacnhfdcejahaaRows
import Derived.KernelRfl
namespace Go.Dm.TabF
open Go.Proofs

/-- broadside/broadsidelaw11.FloodRuns -/
def t3 : DFunc := { ntmps := 82, results := [(.t 0)], mode := .full, body :=
 (.seq (.region [⟨(some 0), .move (.c (.bool false)), none, .write, 0⟩])
 (.seq (.region [⟨(some 8), .buildSlice 3 1 (.int .i64 0) 2 [(0, (.c (.int .i64 1))), (1, (.c (.int .i64 2)))], none, .write, 0⟩, ⟨(some 9), .call (.c (.func 4 [])) [(.c (.int .i64 0)), (.t 8)], none, .write, 0⟩, ⟨(some 1), .alloc 28 6 (.agg [(.int .i64 0), .nsl, .nsl, .nsl, .nsl, .nsl]), none, .write, 0⟩, ⟨none, .store 6 (.t 1) (.t 9), none, .write, 0⟩])
 (.seq (.region [⟨(some 10), .build [(.int .i64 0), (.int .i64 0)] [(0, 1, (.c (.int .i64 4)))], none, .write, 0⟩, ⟨(some 11), .build [(.int .i64 0), (.int .i64 0), .nsl] [(0, 2, (.t 10))], none, .write, 0⟩, ⟨(some 12), .buildSlice 34 3 (.agg [(.int .i64 0), (.int .i64 0), .nsl]) 1 [(0, (.t 11))], none, .write, 0⟩, ⟨(some 13), .fieldAddr 5 (.t 1), none, .write, 0⟩, ⟨none, .store 1 (.t 13) (.t 12), none, .write, 0⟩])
 (.seq (.region [⟨(some 15), .load (some 6) (.t 1), none, .write, 0⟩, ⟨(some 16), .build [(.int .i64 0), (.int .i64 0)] [(0, 1, (.c (.int .i64 3)))], none, .write, 0⟩, ⟨(some 17), .call (.c (.func 5 [])) [(.t 15), (.c (.int .i64 1)), (.t 16), (.c .nsl)], none, .write, 0⟩, ⟨(some 14), .move (.t 17), none, .write, 0⟩, ⟨(some 18), .extract (.t 14) 0, none, .write, 0⟩, ⟨(some 19), .extract (.t 14) 1, none, .write, 0⟩, ⟨(some 2), .alloc 28 6 (.agg [(.int .i64 0), .nsl, .nsl, .nsl, .nsl, .nsl]), none, .write, 0⟩, ⟨none, .store 6 (.t 2) (.t 18), none, .write, 0⟩, ⟨(some 3), .move (.t 19), none, .write, 0⟩])
 (.seq (.region [⟨(some 21), .load (some 6) (.t 2), none, .write, 0⟩, ⟨(some 22), .build [(.int .i64 0), (.int .i64 0)] [(0, 1, (.c (.int .i64 3)))], none, .write, 0⟩, ⟨(some 23), .call (.c (.func 5 [])) [(.t 21), (.c (.int .i64 2)), (.t 22), (.c .nsl)], none, .write, 0⟩, ⟨(some 20), .move (.t 23), none, .write, 0⟩, ⟨(some 24), .extract (.t 20) 0, none, .write, 0⟩, ⟨(some 25), .extract (.t 20) 1, none, .write, 0⟩, ⟨(some 4), .alloc 28 6 (.agg [(.int .i64 0), .nsl, .nsl, .nsl, .nsl, .nsl]), none, .write, 0⟩, ⟨none, .store 6 (.t 4) (.t 24), none, .write, 0⟩, ⟨(some 5), .move (.t 25), none, .write, 0⟩])
 (.seq (.region [⟨(some 27), .load (some 6) (.t 2), none, .write, 0⟩, ⟨(some 28), .build [(.int .i64 0), (.int .i64 0)] [(0, 1, (.c (.int .i64 3)))], none, .write, 0⟩, ⟨(some 29), .call (.c (.func 6 [])) [(.t 27), (.c (.int .i64 1)), (.t 28)], none, .write, 0⟩, ⟨(some 26), .move (.t 29), none, .write, 0⟩, ⟨(some 30), .extract (.t 26) 0, none, .write, 0⟩, ⟨(some 31), .extract (.t 26) 1, none, .write, 0⟩, ⟨(some 6), .alloc 28 6 (.agg [(.int .i64 0), .nsl, .nsl, .nsl, .nsl, .nsl]), none, .write, 0⟩, ⟨none, .store 6 (.t 6) (.t 30), none, .write, 0⟩, ⟨(some 7), .move (.t 31), none, .write, 0⟩])
 (.seq (.region [⟨(some 32), .move (.t 3), none, .write, 0⟩, ⟨(some 33), .len 1 (.t 32), none, .write, 0⟩, ⟨(some 34), .arith .eql (.t 33) (.c (.int .i64 2)), none, .write, 0⟩, ⟨(some 35), .move (.t 34), none, .write, 0⟩, ⟨(some 36), .move (.t 3), (some (35, true)), .write, 0⟩, ⟨(some 37), .indexAddr 8 (.t 36) (.c (.int .i64 0)), (some (35, true)), .write, 0⟩, ⟨(some 38), .fieldAddr 0 (.t 37), (some (35, true)), .write, 0⟩, ⟨(some 39), .load none (.t 38), (some (35, true)), .write, 0⟩, ⟨(some 40), .arith .eql (.t 39) (.c (.int .i64 2)), (some (35, true)), .write, 0⟩, ⟨(some 41), .pick (.t 35) (.t 40) (.c (.bool false)), none, .write, 0⟩, ⟨(some 42), .move (.t 41), none, .write, 0⟩, ⟨(some 43), .move (.t 3), (some (42, true)), .write, 0⟩, ⟨(some 44), .indexAddr 8 (.t 43) (.c (.int .i64 0)), (some (42, true)), .write, 0⟩, ⟨(some 45), .fieldAddr 1 (.t 44), (some (42, true)), .write, 0⟩, ⟨(some 46), .fieldAddr 0 (.t 45), (some (42, true)), .write, 0⟩, ⟨(some 47), .load none (.t 46), (some (42, true)), .write, 0⟩, ⟨(some 48), .arith .eql (.t 47) (.c (.int .i64 1)), (some (42, true)), .write, 0⟩, ⟨(some 49), .pick (.t 42) (.t 48) (.c (.bool false)), none, .write, 0⟩, ⟨(some 50), .move (.t 49), none, .write, 0⟩, ⟨(some 51), .move (.t 3), (some (50, true)), .write, 0⟩, ⟨(some 52), .indexAddr 8 (.t 51) (.c (.int .i64 1)), (some (50, true)), .write, 0⟩, ⟨(some 53), .fieldAddr 0 (.t 52), (some (50, true)), .write, 0⟩, ⟨(some 54), .load none (.t 53), (some (50, true)), .write, 0⟩, ⟨(some 55), .arith .eql (.t 54) (.c (.int .i64 1)), (some (50, true)), .write, 0⟩, ⟨(some 56), .pick (.t 50) (.t 55) (.c (.bool false)), none, .write, 0⟩, ⟨(some 57), .move (.t 56), none, .write, 0⟩, ⟨(some 58), .move (.t 3), (some (57, true)), .write, 0⟩, ⟨(some 59), .indexAddr 8 (.t 58) (.c (.int .i64 1)), (some (57, true)), .write, 0⟩, ⟨(some 60), .fieldAddr 1 (.t 59), (some (57, true)), .write, 0⟩, ⟨(some 61), .fieldAddr 0 (.t 60), (some (57, true)), .write, 0⟩, ⟨(some 62), .load none (.t 61), (some (57, true)), .write, 0⟩, ⟨(some 63), .arith .eql (.t 62) (.c (.int .i64 3)), (some (57, true)), .write, 0⟩, ⟨(some 64), .pick (.t 57) (.t 63) (.c (.bool false)), none, .write, 0⟩, ⟨(some 65), .move (.t 64), none, .write, 0⟩, ⟨(some 66), .move (.t 5), (some (65, true)), .write, 0⟩, ⟨(some 67), .len 1 (.t 66), (some (65, true)), .write, 0⟩, ⟨(some 68), .arith .eql (.t 67) (.c (.int .i64 0)), (some (65, true)), .write, 0⟩, ⟨(some 69), .pick (.t 65) (.t 68) (.c (.bool false)), none, .write, 0⟩, ⟨(some 70), .move (.t 69), none, .write, 0⟩, ⟨(some 71), .move (.t 7), (some (70, true)), .write, 0⟩, ⟨(some 72), .len 1 (.t 71), (some (70, true)), .write, 0⟩, ⟨(some 73), .arith .eql (.t 72) (.c (.int .i64 1)), (some (70, true)), .write, 0⟩, ⟨(some 74), .pick (.t 70) (.t 73) (.c (.bool false)), none, .write, 0⟩, ⟨(some 75), .move (.t 74), none, .write, 0⟩, ⟨(some 76), .move (.t 7), (some (75, true)), .write, 0⟩, ⟨(some 77), .indexAddr 8 (.t 76) (.c (.int .i64 0)), (some (75, true)), .write, 0⟩, ⟨(some 78), .fieldAddr 0 (.t 77), (some (75, true)), .write, 0⟩, ⟨(some 79), .load none (.t 78), (some (75, true)), .write, 0⟩, ⟨(some 80), .arith .eql (.t 79) (.c (.int .i64 2)), (some (75, true)), .write, 0⟩, ⟨(some 81), .pick (.t 75) (.t 80) (.c (.bool false)), none, .write, 0⟩, ⟨(some 0), .move (.t 81), none, .write, 0⟩])
 .ret))))))) }

theorem c3 : compFunc Try.prog Try.f3 .full = some t3 := by kernel_rfl

/-- broadside/adverts.New -/
def t4 : DFunc := { ntmps := 14, results := [(.cell 4 (some 6))], mode := .full, body :=
 (.seq (.region [⟨(some 4), .alloc 28 6 (.agg [(.int .i64 0), .nsl, .nsl, .nsl, .nsl, .nsl]), none, .write, 0⟩])
 (.seq (.region [⟨(some 6), .move (.t 1), none, .write, 0⟩, ⟨(some 7), .call (.c (.func 7 [])) [(.t 6)], none, .write, 0⟩, ⟨(some 5), .move (.t 7), none, .write, 0⟩])
 (.seq (.region [⟨(some 8), .move (.t 5), none, .write, 0⟩, ⟨(some 9), .call (.c (.func 8 [])) [(.t 8)], none, .write, 0⟩])
 (.seq (.region [⟨(some 10), .move (.t 0), none, .write, 0⟩, ⟨(some 11), .move (.t 5), none, .write, 0⟩, ⟨(some 12), .call (.c (.func 9 [])) [(.t 11)], none, .write, 0⟩, ⟨(some 13), .build [(.int .i64 0), .nsl, .nsl, .nsl, .nsl, .nsl] [(0, 1, (.t 10)), (1, 1, (.t 12))], none, .write, 0⟩, ⟨none, .store 6 (.t 4) (.t 13), none, .write, 0⟩])
 .ret)))) }

theorem c4 : compFunc Try.prog Try.f4 .full = some t4 := by kernel_rfl

/-- broadside/flood.Advertise -/
def t5 : DFunc := { ntmps := 70, results := [(.cell 8 (some 6)), (.t 9)], mode := .full, body :=
 (.seq (.region [⟨(some 4), .box 28 6 (.t 0), none, .write, 0⟩, ⟨(some 6), .box 31 2 (.t 2), none, .write, 0⟩, ⟨(some 8), .alloc 28 6 (.agg [(.int .i64 0), .nsl, .nsl, .nsl, .nsl, .nsl]), none, .write, 0⟩, ⟨(some 9), .move (.c .nsl), none, .write, 0⟩])
 (.seq (.region [⟨(some 18), .load (some 6) (.t 4), none, .write, 0⟩, ⟨(some 19), .load (some 2) (.t 6), none, .write, 0⟩, ⟨(some 20), .move (.t 3), none, .write, 0⟩, ⟨(some 21), .move (.t 1), none, .write, 0⟩, ⟨(some 22), .build [(.int .i64 0), (.int .i64 0), .nsl, (.int .i64 0)] [(0, 2, (.t 19)), (2, 1, (.t 20)), (3, 1, (.t 21))], none, .write, 0⟩, ⟨(some 23), .call (.c (.func 10 [])) [(.t 18), (.t 22)], none, .write, 0⟩, ⟨(some 17), .move (.t 23), none, .write, 0⟩, ⟨(some 24), .extract (.t 17) 0, none, .write, 0⟩, ⟨(some 25), .extract (.t 17) 1, none, .write, 0⟩, ⟨(some 10), .alloc 28 6 (.agg [(.int .i64 0), .nsl, .nsl, .nsl, .nsl, .nsl]), none, .write, 0⟩, ⟨none, .store 6 (.t 10) (.t 24), none, .write, 0⟩, ⟨(some 11), .move (.t 25), none, .write, 0⟩])
 (.seq (.seq (.region [⟨(some 26), .move (.t 11), none, .write, 0⟩, ⟨(some 27), .un .not (.t 26), none, .write, 0⟩])
 (.cond (.t 27) (.seq (.region [⟨(some 28), .load (some 6) (.t 4), none, .write, 0⟩, ⟨none, .store 6 (.t 8) (.t 28), none, .write, 0⟩, ⟨(some 9), .move (.c .nsl), none, .write, 0⟩])
 .ret) .skip))
 (.seq (.region [⟨(some 29), .load (some 6) (.t 4), none, .write, 0⟩, ⟨(some 30), .move (.t 1), none, .write, 0⟩, ⟨(some 31), .load (some 2) (.t 6), none, .write, 0⟩, ⟨(some 32), .move (.t 3), none, .write, 0⟩, ⟨(some 33), .build [(.int .i64 0), (.int .i64 0), (.int .i64 0), (.int .i64 0), (.int .i64 0), .nsl, .nsl] [(0, 1, (.c (.int .i64 1))), (1, 2, (.t 31)), (5, 1, (.t 32))], none, .write, 0⟩, ⟨(some 34), .call (.c (.func 11 [])) [(.t 29), (.t 30), (.t 33)], none, .write, 0⟩, ⟨(some 12), .move (.t 34), none, .write, 0⟩])
 (.seq (.seq (.region [⟨(some 35), .fieldAddr 5 (.t 4), none, .write, 0⟩, ⟨(some 36), .load none (.t 35), none, .write, 0⟩, ⟨(some 37), .len 1 (.t 36), none, .write, 0⟩, ⟨(some 38), .move (.c (.int .i64 0)), none, .write, 0⟩])
 (.block 0 (.loop (.seq (.region [⟨(some 39), .arith .lss (.t 38) (.t 37), none, .write, 0⟩])
 (.seq (.cond (.t 39) .skip (.exit 0))
 (.seq (.block 1 (.seq (.region [⟨(some 40), .indexAddr 3 (.t 36) (.t 38), none, .write, 0⟩, ⟨(some 41), .load (some 3) (.t 40), none, .write, 0⟩, ⟨(some 14), .alloc 34 3 (.agg [(.int .i64 0), (.int .i64 0), .nsl]), none, .write, 0⟩, ⟨none, .store 3 (.t 14) (.t 41), none, .write, 0⟩])
 (.seq (.seq (.region [⟨(some 42), .fieldAddr 2 (.t 14), none, .write, 0⟩, ⟨(some 43), .load none (.t 42), none, .write, 0⟩, ⟨(some 44), .move (.t 3), none, .write, 0⟩, ⟨(some 45), .call (.c (.func 12 [])) [(.t 43), (.t 44)], none, .write, 0⟩, ⟨(some 46), .un .not (.t 45), none, .write, 0⟩])
 (.cond (.t 46) (.exit 1) .skip))
 (.seq (.region [⟨(some 47), .load (some 2) (.t 6), none, .write, 0⟩, ⟨(some 48), .fieldAddr 0 (.t 14), none, .write, 0⟩, ⟨(some 49), .load (some 2) (.t 48), none, .write, 0⟩, ⟨(some 50), .fieldAddr 2 (.t 14), none, .write, 0⟩, ⟨(some 51), .load none (.t 50), none, .write, 0⟩, ⟨(some 52), .build [(.int .i64 0), (.int .i64 0), (.int .i64 0), (.int .i64 0), .nsl, (.int .i64 0), (.bool false)] [(0, 2, (.t 47)), (2, 2, (.t 49)), (4, 1, (.t 51)), (5, 1, (.c (.int .i64 (-1))))], none, .write, 0⟩, ⟨(some 15), .alloc 54 7 (.agg [(.int .i64 0), (.int .i64 0), (.int .i64 0), (.int .i64 0), .nsl, (.int .i64 0), (.bool false)]), none, .write, 0⟩, ⟨none, .store 7 (.t 15) (.t 52), none, .write, 0⟩])
 (.seq (.region [⟨(some 16), .move (.c (.bool false)), none, .write, 0⟩])
 (.seq (.region [⟨(some 54), .load (some 6) (.t 10), none, .write, 0⟩, ⟨(some 55), .load (some 7) (.t 15), none, .write, 0⟩, ⟨(some 56), .call (.c (.func 13 [])) [(.t 54), (.t 55)], none, .write, 0⟩, ⟨(some 53), .move (.t 56), none, .write, 0⟩, ⟨(some 57), .extract (.t 53) 0, none, .write, 0⟩, ⟨(some 58), .extract (.t 53) 1, none, .write, 0⟩, ⟨none, .store 6 (.t 10) (.t 57), none, .write, 0⟩, ⟨(some 16), .move (.t 58), none, .write, 0⟩])
 (.seq (.region [⟨(some 59), .move (.t 16), none, .write, 0⟩])
 (.cond (.t 59) (.region [⟨(some 60), .move (.t 12), none, .write, 0⟩, ⟨(some 61), .move (.t 1), none, .write, 0⟩, ⟨(some 62), .load (some 7) (.t 15), none, .write, 0⟩, ⟨(some 63), .call (.c (.func 14 [])) [(.t 62)], none, .write, 0⟩, ⟨(some 64), .build [(.int .i64 0), (.int .i64 0), (.int .i64 0), (.int .i64 0), (.int .i64 0), (.int .i64 0), .nsl, .nsl] [(0, 1, (.t 61)), (1, 7, (.t 63))], none, .write, 0⟩, ⟨(some 65), .buildSlice 43 8 (.agg [(.int .i64 0), (.int .i64 0), (.int .i64 0), (.int .i64 0), (.int .i64 0), (.int .i64 0), .nsl, .nsl]) 1 [(0, (.t 64))], none, .write, 0⟩, ⟨(some 66), .append 43 8 96 (.t 60) (.t 65), none, .write, 0⟩, ⟨(some 12), .move (.t 66), none, .write, 0⟩]) .skip))))))))
 (.region [⟨(some 67), .arith .add (.t 38) (.c (.int .i64 1)), none, .write, 0⟩, ⟨(some 38), .move (.t 67), none, .write, 0⟩])))))))
 (.seq (.region [⟨(some 68), .load (some 6) (.t 10), none, .write, 0⟩, ⟨(some 69), .move (.t 12), none, .write, 0⟩, ⟨none, .store 6 (.t 8) (.t 68), none, .write, 0⟩, ⟨(some 9), .move (.t 69), none, .write, 0⟩])
 .ret)))))) }

theorem c5 : compFunc Try.prog Try.f5 .full = some t5 := by kernel_rfl

/-- broadside/flood.Unadvertise -/
def t6 : DFunc := { ntmps := 26, results := [(.cell 6 (some 6)), (.t 7)], mode := .full, body :=
 (.seq (.region [⟨(some 3), .box 28 6 (.t 0), none, .write, 0⟩, ⟨(some 5), .box 31 2 (.t 2), none, .write, 0⟩, ⟨(some 6), .alloc 28 6 (.agg [(.int .i64 0), .nsl, .nsl, .nsl, .nsl, .nsl]), none, .write, 0⟩, ⟨(some 7), .move (.c .nsl), none, .write, 0⟩])
 (.seq (.region [⟨(some 11), .load (some 6) (.t 3), none, .write, 0⟩, ⟨(some 12), .load (some 2) (.t 5), none, .write, 0⟩, ⟨(some 13), .move (.t 1), none, .write, 0⟩, ⟨(some 14), .call (.c (.func 15 [])) [(.t 11), (.t 12), (.t 13)], none, .write, 0⟩, ⟨(some 10), .move (.t 14), none, .write, 0⟩, ⟨(some 15), .extract (.t 10) 0, none, .write, 0⟩, ⟨(some 16), .extract (.t 10) 1, none, .write, 0⟩, ⟨(some 8), .alloc 28 6 (.agg [(.int .i64 0), .nsl, .nsl, .nsl, .nsl, .nsl]), none, .write, 0⟩, ⟨none, .store 6 (.t 8) (.t 15), none, .write, 0⟩, ⟨(some 9), .move (.t 16), none, .write, 0⟩])
 (.seq (.seq (.region [⟨(some 17), .move (.t 9), none, .write, 0⟩, ⟨(some 18), .un .not (.t 17), none, .write, 0⟩])
 (.cond (.t 18) (.seq (.region [⟨(some 19), .load (some 6) (.t 3), none, .write, 0⟩, ⟨none, .store 6 (.t 6) (.t 19), none, .write, 0⟩, ⟨(some 7), .move (.c .nsl), none, .write, 0⟩])
 .ret) .skip))
 (.seq (.draw [⟨(some 20), .load (some 6) (.t 8), none, .read, 0⟩, ⟨(some 21), .load (some 6) (.t 3), none, .read, 0⟩, ⟨(some 23), .load (some 2) (.t 5), none, .read, 0⟩, ⟨(some 22), .move (.t 1), none, .read, 0⟩, ⟨(some 24), .build [(.int .i64 0), (.int .i64 0), (.int .i64 0), (.int .i64 0), (.int .i64 0), .nsl, .nsl] [(0, 1, (.c (.int .i64 2))), (1, 2, (.t 23))], none, .read, 0⟩, ⟨(some 25), .call (.c (.func 11 [])) [(.t 21), (.t 22), (.t 24)], none, .create, 0⟩, ⟨none, .store 6 (.t 6) (.t 20), none, .write, 1⟩, ⟨(some 7), .move (.t 25), none, .read, 2⟩])
 .ret)))) }

theorem c6 : compFunc Try.prog Try.f6 .full = some t6 := by kernel_rfl

/-- slices.Sort[[]int,int] -/
def t8 : DFunc := { ntmps := 11, results := [], mode := .full, body :=
 (.seq (.region [⟨(some 3), .move (.t 0), none, .write, 0⟩, ⟨(some 4), .len 1 (.t 3), none, .write, 0⟩, ⟨(some 2), .move (.t 4), none, .write, 0⟩])
 (.region [⟨(some 5), .move (.t 0), none, .write, 0⟩, ⟨(some 6), .move (.t 2), none, .write, 0⟩, ⟨(some 7), .move (.t 2), none, .write, 0⟩, ⟨(some 8), .conv .u64 (.t 7), none, .write, 0⟩, ⟨(some 9), .call (.c (.func 17 [])) [(.t 8)], none, .write, 0⟩, ⟨(some 10), .call (.c (.func 16 [])) [(.t 5), (.c (.int .i64 0)), (.t 6), (.t 9)], none, .write, 0⟩])) }

theorem c8 : compFunc Try.prog Try.f8 .full = some t8 := by kernel_rfl

/-- slices.Compact[[]int,int] -/
def t9 : DFunc := { ntmps := 61, results := [(.t 2)], mode := .full, body :=
 (.seq (.region [⟨(some 2), .move (.c .nsl), none, .write, 0⟩])
 (.seq (.seq (.region [⟨(some 6), .move (.t 0), none, .write, 0⟩, ⟨(some 7), .len 1 (.t 6), none, .write, 0⟩, ⟨(some 8), .arith .lss (.t 7) (.c (.int .i64 2)), none, .write, 0⟩])
 (.cond (.t 8) (.seq (.region [⟨(some 9), .move (.t 0), none, .write, 0⟩, ⟨(some 2), .move (.t 9), none, .write, 0⟩])
 .ret) .skip))
 (.seq (.seq (.region [⟨(some 3), .move (.c (.int .i64 1)), none, .write, 0⟩])
 (.block 0 (.loop (.seq (.seq (.region [⟨(some 10), .move (.t 3), none, .write, 0⟩, ⟨(some 11), .move (.t 0), none, .write, 0⟩, ⟨(some 12), .len 1 (.t 11), none, .write, 0⟩, ⟨(some 13), .arith .lss (.t 10) (.t 12), none, .write, 0⟩])
 (.cond (.t 13) .skip (.exit 0)))
 (.seq (.block 1 (.seq (.draw [⟨(some 16), .move (.t 0), none, .read, 0⟩, ⟨(some 17), .move (.t 3), none, .read, 0⟩, ⟨(some 18), .indexAddr 1 (.t 16) (.t 17), none, .read, 0⟩, ⟨(some 19), .load none (.t 18), none, .read, 0⟩, ⟨(some 20), .move (.t 0), none, .read, 0⟩, ⟨(some 21), .move (.t 3), none, .read, 0⟩, ⟨(some 22), .arith .sub (.t 21) (.c (.int .i64 1)), none, .read, 0⟩, ⟨(some 23), .indexAddr 1 (.t 20) (.t 22), none, .read, 0⟩, ⟨(some 24), .load none (.t 23), none, .read, 0⟩, ⟨(some 25), .arith .eql (.t 19) (.t 24), none, .read, 0⟩])
 (.cond (.t 25) (.seq (.region [⟨(some 26), .move (.t 0), none, .write, 0⟩, ⟨(some 27), .move (.t 3), none, .write, 0⟩, ⟨(some 28), .sliceSl 1 (.t 26) (some (.t 27)) none, none, .write, 0⟩, ⟨(some 4), .move (.t 28), none, .write, 0⟩])
 (.seq (.seq (.region [⟨(some 5), .move (.c (.int .i64 1)), none, .write, 0⟩])
 (.block 2 (.loop (.seq (.seq (.region [⟨(some 29), .move (.t 5), none, .write, 0⟩, ⟨(some 30), .move (.t 4), none, .write, 0⟩, ⟨(some 31), .len 1 (.t 30), none, .write, 0⟩, ⟨(some 32), .arith .lss (.t 29) (.t 31), none, .write, 0⟩])
 (.cond (.t 32) .skip (.exit 2)))
 (.seq (.block 3 (.seq (.draw [⟨(some 35), .move (.t 4), none, .read, 0⟩, ⟨(some 36), .move (.t 5), none, .read, 0⟩, ⟨(some 37), .indexAddr 1 (.t 35) (.t 36), none, .read, 0⟩, ⟨(some 38), .load none (.t 37), none, .read, 0⟩, ⟨(some 39), .move (.t 4), none, .read, 0⟩, ⟨(some 40), .move (.t 5), none, .read, 0⟩, ⟨(some 41), .arith .sub (.t 40) (.c (.int .i64 1)), none, .read, 0⟩, ⟨(some 42), .indexAddr 1 (.t 39) (.t 41), none, .read, 0⟩, ⟨(some 43), .load none (.t 42), none, .read, 0⟩, ⟨(some 44), .arith .neq (.t 38) (.t 43), none, .read, 0⟩])
 (.cond (.t 44) (.seq (.region [⟨(some 45), .move (.t 0), none, .write, 0⟩, ⟨(some 46), .move (.t 3), none, .write, 0⟩, ⟨(some 47), .move (.t 4), none, .write, 0⟩, ⟨(some 48), .move (.t 5), none, .write, 0⟩, ⟨(some 49), .indexAddr 1 (.t 47) (.t 48), none, .write, 0⟩, ⟨(some 50), .load none (.t 49), none, .write, 0⟩, ⟨(some 51), .indexAddr 1 (.t 45) (.t 46), none, .write, 0⟩, ⟨none, .store 1 (.t 51) (.t 50), none, .write, 0⟩])
 (.region [⟨(some 52), .move (.t 3), none, .write, 0⟩, ⟨(some 53), .arith .add (.t 52) (.c (.int .i64 1)), none, .write, 0⟩, ⟨(some 3), .move (.t 53), none, .write, 0⟩])) .skip)))
 (.region [⟨(some 33), .move (.t 5), none, .write, 0⟩, ⟨(some 34), .arith .add (.t 33) (.c (.int .i64 1)), none, .write, 0⟩, ⟨(some 5), .move (.t 34), none, .write, 0⟩]))))))
 (.seq (.region [⟨(some 54), .move (.t 0), none, .write, 0⟩, ⟨(some 55), .move (.t 3), none, .write, 0⟩, ⟨(some 56), .sliceSl 1 (.t 54) (some (.t 55)) none, none, .write, 0⟩, ⟨none, .clear 1 (.int .i64 0) (.t 56), none, .write, 0⟩])
 (.seq (.region [⟨(some 57), .move (.t 0), none, .write, 0⟩, ⟨(some 58), .move (.t 3), none, .write, 0⟩, ⟨(some 59), .sliceSl 1 (.t 57) none (some (.t 58)), none, .write, 0⟩, ⟨(some 2), .move (.t 59), none, .write, 0⟩])
 .ret)))) .skip)))
 (.region [⟨(some 14), .move (.t 3), none, .write, 0⟩, ⟨(some 15), .arith .add (.t 14) (.c (.int .i64 1)), none, .write, 0⟩, ⟨(some 3), .move (.t 15), none, .write, 0⟩]))))))
 (.seq (.region [⟨(some 60), .move (.t 0), none, .write, 0⟩, ⟨(some 2), .move (.t 60), none, .write, 0⟩])
 .ret)))) }

theorem c9 : compFunc Try.prog Try.f9 .full = some t9 := by kernel_rfl

/-- broadside/adverts.Learn -/
def t10 : DFunc := { ntmps := 44, results := [(.cell 4 (some 6)), (.t 5)], mode := .full, body :=
 (.seq (.region [⟨(some 2), .box 28 6 (.t 0), none, .write, 0⟩, ⟨(some 3), .box 50 4 (.t 1), none, .write, 0⟩, ⟨(some 4), .alloc 28 6 (.agg [(.int .i64 0), .nsl, .nsl, .nsl, .nsl, .nsl]), none, .write, 0⟩, ⟨(some 5), .move (.c (.bool false)), none, .write, 0⟩])
 (.seq (.region [⟨(some 10), .load (some 6) (.t 2), none, .write, 0⟩, ⟨(some 11), .call (.c (.func 18 [])) [(.t 10)], none, .write, 0⟩, ⟨none, .store 6 (.t 2) (.t 11), none, .write, 0⟩])
 (.seq (.region [⟨(some 13), .load (some 6) (.t 2), none, .write, 0⟩, ⟨(some 14), .fieldAddr 0 (.t 3), none, .write, 0⟩, ⟨(some 15), .load (some 2) (.t 14), none, .write, 0⟩, ⟨(some 16), .call (.c (.func 19 [])) [(.t 13), (.t 15)], none, .write, 0⟩, ⟨(some 12), .move (.t 16), none, .write, 0⟩, ⟨(some 17), .extract (.t 12) 0, none, .write, 0⟩, ⟨(some 18), .extract (.t 12) 1, none, .write, 0⟩, ⟨(some 6), .move (.t 17), none, .write, 0⟩, ⟨(some 7), .move (.t 18), none, .write, 0⟩])
 (.seq (.seq (.region [⟨(some 19), .move (.t 7), none, .write, 0⟩])
 (.cond (.t 19) (.seq (.region [⟨(some 20), .load (some 6) (.t 2), none, .write, 0⟩, ⟨none, .store 6 (.t 4) (.t 20), none, .write, 0⟩, ⟨(some 5), .move (.c (.bool false)), none, .write, 0⟩])
 .ret) .skip))
 (.seq (.region [⟨(some 22), .load (some 6) (.t 2), none, .write, 0⟩, ⟨(some 23), .fieldAddr 0 (.t 3), none, .write, 0⟩, ⟨(some 24), .load (some 2) (.t 23), none, .write, 0⟩, ⟨(some 25), .call (.c (.func 20 [])) [(.t 22), (.t 24)], none, .write, 0⟩, ⟨(some 21), .move (.t 25), none, .write, 0⟩, ⟨(some 26), .extract (.t 21) 0, none, .write, 0⟩, ⟨(some 27), .extract (.t 21) 1, none, .write, 0⟩, ⟨(some 8), .move (.t 26), none, .write, 0⟩, ⟨(some 9), .move (.t 27), none, .write, 0⟩])
 (.seq (.region [⟨(some 28), .fieldAddr 2 (.t 2), none, .write, 0⟩, ⟨(some 29), .load none (.t 28), none, .write, 0⟩, ⟨(some 30), .move (.t 8), none, .write, 0⟩, ⟨(some 31), .load (some 4) (.t 3), none, .write, 0⟩, ⟨(some 32), .buildSlice 50 4 (.agg [(.int .i64 0), (.int .i64 0), .nsl, (.int .i64 0)]) 1 [(0, (.t 31))], none, .write, 0⟩, ⟨(some 33), .call (.c (.func 21 [])) [(.t 29), (.t 30), (.t 32)], none, .write, 0⟩, ⟨(some 34), .fieldAddr 2 (.t 2), none, .write, 0⟩, ⟨none, .store 1 (.t 34) (.t 33), none, .write, 0⟩])
 (.seq (.region [⟨(some 35), .fieldAddr 3 (.t 2), none, .write, 0⟩, ⟨(some 36), .load none (.t 35), none, .write, 0⟩, ⟨(some 37), .move (.t 6), none, .write, 0⟩, ⟨(some 38), .fieldAddr 0 (.t 3), none, .write, 0⟩, ⟨(some 39), .load (some 2) (.t 38), none, .write, 0⟩, ⟨(some 40), .buildSlice 31 2 (.agg [(.int .i64 0), (.int .i64 0)]) 1 [(0, (.t 39))], none, .write, 0⟩, ⟨(some 41), .call (.c (.func 22 [])) [(.t 36), (.t 37), (.t 40)], none, .write, 0⟩, ⟨(some 42), .fieldAddr 3 (.t 2), none, .write, 0⟩, ⟨none, .store 1 (.t 42) (.t 41), none, .write, 0⟩])
 (.seq (.region [⟨(some 43), .load (some 6) (.t 2), none, .write, 0⟩, ⟨none, .store 6 (.t 4) (.t 43), none, .write, 0⟩, ⟨(some 5), .move (.c (.bool true)), none, .write, 0⟩])
 .ret)))))))) }

theorem c10 : compFunc Try.prog Try.f10 .full = some t10 := by kernel_rfl

/-- broadside/flood.Others -/
def t11 : DFunc := { ntmps := 28, results := [(.t 6)], mode := .full, body :=
 (.seq (.region [⟨(some 3), .box 28 6 (.t 0), none, .write, 0⟩, ⟨(some 5), .box 41 7 (.t 2), none, .write, 0⟩, ⟨(some 6), .move (.c .nsl), none, .write, 0⟩])
 (.seq (.region [⟨(some 7), .move (.c .nsl), none, .write, 0⟩])
 (.seq (.seq (.region [⟨(some 10), .fieldAddr 1 (.t 3), none, .write, 0⟩, ⟨(some 11), .load none (.t 10), none, .write, 0⟩, ⟨(some 12), .len 1 (.t 11), none, .write, 0⟩, ⟨(some 13), .move (.c (.int .i64 0)), none, .write, 0⟩])
 (.block 0 (.loop (.seq (.region [⟨(some 14), .arith .lss (.t 13) (.t 12), none, .write, 0⟩])
 (.seq (.cond (.t 14) .skip (.exit 0))
 (.seq (.block 1 (.seq (.region [⟨(some 15), .indexAddr 1 (.t 11) (.t 13), none, .write, 0⟩, ⟨(some 16), .load none (.t 15), none, .write, 0⟩, ⟨(some 9), .move (.t 16), none, .write, 0⟩])
 (.seq (.region [⟨(some 17), .move (.t 9), none, .write, 0⟩, ⟨(some 18), .move (.t 1), none, .write, 0⟩, ⟨(some 19), .arith .neq (.t 17) (.t 18), none, .write, 0⟩])
 (.cond (.t 19) (.region [⟨(some 20), .move (.t 7), none, .write, 0⟩, ⟨(some 21), .move (.t 9), none, .write, 0⟩, ⟨(some 22), .load (some 7) (.t 5), none, .write, 0⟩, ⟨(some 23), .build [(.int .i64 0), (.int .i64 0), (.int .i64 0), (.int .i64 0), (.int .i64 0), (.int .i64 0), .nsl, .nsl] [(0, 1, (.t 21)), (1, 7, (.t 22))], none, .write, 0⟩, ⟨(some 24), .buildSlice 43 8 (.agg [(.int .i64 0), (.int .i64 0), (.int .i64 0), (.int .i64 0), (.int .i64 0), (.int .i64 0), .nsl, .nsl]) 1 [(0, (.t 23))], none, .write, 0⟩, ⟨(some 25), .append 43 8 96 (.t 20) (.t 24), none, .write, 0⟩, ⟨(some 7), .move (.t 25), none, .write, 0⟩]) .skip))))
 (.region [⟨(some 26), .arith .add (.t 13) (.c (.int .i64 1)), none, .write, 0⟩, ⟨(some 13), .move (.t 26), none, .write, 0⟩])))))))
 (.seq (.region [⟨(some 27), .move (.t 7), none, .write, 0⟩, ⟨(some 6), .move (.t 27), none, .write, 0⟩])
 .ret)))) }

theorem c11 : compFunc Try.prog Try.f11 .full = some t11 := by kernel_rfl

/-- broadside/rel.Meets -/
def t12 : DFunc := { ntmps := 14, results := [(.t 4)], mode := .full, body :=
 (.seq (.region [⟨(some 4), .move (.c (.bool false)), none, .write, 0⟩])
 (.seq (.region [⟨(some 8), .move (.t 0), none, .write, 0⟩, ⟨(some 9), .move (.t 1), none, .write, 0⟩, ⟨(some 10), .call (.c (.func 23 [])) [(.t 8), (.t 9)], none, .write, 0⟩, ⟨(some 7), .move (.t 10), none, .write, 0⟩, ⟨(some 11), .extract (.t 7) 0, none, .write, 0⟩, ⟨(some 12), .extract (.t 7) 1, none, .write, 0⟩, ⟨(some 5), .move (.t 11), none, .write, 0⟩, ⟨(some 6), .move (.t 12), none, .write, 0⟩])
 (.seq (.region [⟨(some 13), .move (.t 6), none, .write, 0⟩, ⟨(some 4), .move (.t 13), none, .write, 0⟩])
 .ret))) }

theorem c12 : compFunc Try.prog Try.f12 .full = some t12 := by kernel_rfl

/-- broadside/subs.Add -/
def t13 : DFunc := { ntmps := 73, results := [(.cell 4 (some 6)), (.t 5)], mode := .full, body :=
 (.seq (.region [⟨(some 2), .box 28 6 (.t 0), none, .write, 0⟩, ⟨(some 3), .box 54 7 (.t 1), none, .write, 0⟩, ⟨(some 4), .alloc 28 6 (.agg [(.int .i64 0), .nsl, .nsl, .nsl, .nsl, .nsl]), none, .write, 0⟩, ⟨(some 5), .move (.c (.bool false)), none, .write, 0⟩])
 (.seq (.region [⟨(some 11), .fieldAddr 4 (.t 2), none, .write, 0⟩, ⟨(some 12), .load none (.t 11), none, .write, 0⟩, ⟨(some 13), .call (.c (.func 24 [])) [(.t 12)], none, .write, 0⟩, ⟨(some 14), .fieldAddr 4 (.t 2), none, .write, 0⟩, ⟨none, .store 1 (.t 14) (.t 13), none, .write, 0⟩])
 (.seq (.region [⟨(some 16), .load (some 6) (.t 2), none, .write, 0⟩, ⟨(some 17), .fieldAddr 0 (.t 3), none, .write, 0⟩, ⟨(some 18), .load (some 2) (.t 17), none, .write, 0⟩, ⟨(some 19), .call (.c (.func 25 [])) [(.t 16), (.t 18)], none, .write, 0⟩, ⟨(some 15), .move (.t 19), none, .write, 0⟩, ⟨(some 20), .extract (.t 15) 0, none, .write, 0⟩, ⟨(some 21), .extract (.t 15) 1, none, .write, 0⟩, ⟨(some 6), .alloc 50 4 (.agg [(.int .i64 0), (.int .i64 0), .nsl, (.int .i64 0)]), none, .write, 0⟩, ⟨none, .store 4 (.t 6) (.t 20), none, .write, 0⟩, ⟨(some 7), .move (.t 21), none, .write, 0⟩])
 (.seq (.region [⟨(some 23), .load (some 6) (.t 2), none, .write, 0⟩, ⟨(some 24), .fieldAddr 0 (.t 3), none, .write, 0⟩, ⟨(some 25), .load (some 2) (.t 24), none, .write, 0⟩, ⟨(some 26), .fieldAddr 2 (.t 3), none, .write, 0⟩, ⟨(some 27), .load (some 2) (.t 26), none, .write, 0⟩, ⟨(some 28), .call (.c (.func 26 [])) [(.t 23), (.t 25), (.t 27)], none, .write, 0⟩, ⟨(some 22), .move (.t 28), none, .write, 0⟩, ⟨(some 29), .extract (.t 22) 0, none, .write, 0⟩, ⟨(some 30), .extract (.t 22) 1, none, .write, 0⟩, ⟨(some 8), .move (.t 29), none, .write, 0⟩, ⟨(some 9), .move (.t 30), none, .write, 0⟩])
 (.seq (.region [⟨(some 31), .fieldAddr 3 (.t 6), none, .write, 0⟩, ⟨(some 32), .load none (.t 31), none, .write, 0⟩, ⟨(some 33), .arith .eql (.t 32) (.c (.int .i64 (-1))), none, .write, 0⟩, ⟨(some 10), .move (.t 33), none, .write, 0⟩])
 (.seq (.seq (.region [⟨(some 34), .move (.t 7), none, .write, 0⟩, ⟨(some 35), .un .not (.t 34), none, .write, 0⟩, ⟨(some 36), .move (.t 35), none, .write, 0⟩, ⟨(some 37), .move (.t 9), (some (36, false)), .write, 0⟩, ⟨(some 38), .pick (.t 36) (.c (.bool true)) (.t 37), none, .write, 0⟩, ⟨(some 39), .move (.t 38), none, .write, 0⟩, ⟨(some 40), .fieldAddr 5 (.t 3), (some (39, false)), .write, 0⟩, ⟨(some 41), .load none (.t 40), (some (39, false)), .write, 0⟩, ⟨(some 42), .fieldAddr 3 (.t 6), (some (39, false)), .write, 0⟩, ⟨(some 43), .load none (.t 42), (some (39, false)), .write, 0⟩, ⟨(some 44), .arith .eql (.t 41) (.t 43), (some (39, false)), .write, 0⟩, ⟨(some 45), .move (.t 44), (some (39, false)), .write, 0⟩, ⟨(some 46), .move (.t 10), (some (45, true)), .write, 0⟩, ⟨(some 47), .un .not (.t 46), (some (45, true)), .write, 0⟩, ⟨(some 48), .pick (.t 45) (.t 47) (.c (.bool false)), (some (39, false)), .write, 0⟩, ⟨(some 49), .pick (.t 39) (.c (.bool true)) (.t 48), none, .write, 0⟩])
 (.cond (.t 49) (.seq (.region [⟨(some 50), .load (some 6) (.t 2), none, .write, 0⟩, ⟨none, .store 6 (.t 4) (.t 50), none, .write, 0⟩, ⟨(some 5), .move (.c (.bool false)), none, .write, 0⟩])
 .ret) .skip))
 (.seq (.region [⟨(some 51), .move (.t 10), none, .write, 0⟩, ⟨(some 52), .un .not (.t 51), none, .write, 0⟩, ⟨(some 53), .move (.t 52), none, .write, 0⟩, ⟨(some 54), .load (some 6) (.t 2), (some (53, true)), .write, 0⟩, ⟨(some 55), .fieldAddr 0 (.t 3), (some (53, true)), .write, 0⟩, ⟨(some 56), .load (some 2) (.t 55), (some (53, true)), .write, 0⟩, ⟨(some 57), .fieldAddr 4 (.t 3), (some (53, true)), .write, 0⟩, ⟨(some 58), .load none (.t 57), (some (53, true)), .write, 0⟩, ⟨(some 59), .call (.c (.func 27 [])) [(.t 54), (.t 56), (.t 58)], (some (53, true)), .write, 0⟩, ⟨(some 60), .un .not (.t 59), (some (53, true)), .write, 0⟩, ⟨(some 61), .pick (.t 53) (.t 60) (.c (.bool false)), none, .write, 0⟩, ⟨(some 62), .fieldAddr 6 (.t 3), none, .write, 0⟩, ⟨none, .store 1 (.t 62) (.t 61), none, .write, 0⟩])
 (.seq (.region [⟨(some 63), .fieldAddr 4 (.t 2), none, .write, 0⟩, ⟨(some 64), .load none (.t 63), none, .write, 0⟩, ⟨(some 65), .move (.t 8), none, .write, 0⟩, ⟨(some 66), .load (some 7) (.t 3), none, .write, 0⟩, ⟨(some 67), .buildSlice 54 7 (.agg [(.int .i64 0), (.int .i64 0), (.int .i64 0), (.int .i64 0), .nsl, (.int .i64 0), (.bool false)]) 1 [(0, (.t 66))], none, .write, 0⟩, ⟨(some 68), .call (.c (.func 28 [])) [(.t 64), (.t 65), (.t 67)], none, .write, 0⟩, ⟨(some 69), .fieldAddr 4 (.t 2), none, .write, 0⟩, ⟨none, .store 1 (.t 69) (.t 68), none, .write, 0⟩])
 (.seq (.draw [⟨(some 70), .load (some 6) (.t 2), none, .read, 0⟩, ⟨(some 71), .fieldAddr 6 (.t 3), none, .read, 0⟩, ⟨(some 72), .load none (.t 71), none, .read, 0⟩, ⟨none, .store 6 (.t 4) (.t 70), none, .create, 0⟩, ⟨(some 5), .move (.t 72), none, .read, 1⟩])
 .ret))))))))) }

theorem c13 : compFunc Try.prog Try.f13 .full = some t13 := by kernel_rfl

/-- broadside/flood.Sub -/
def t14 : DFunc := { ntmps := 10, results := [(.cell 2 (some 7))], mode := .full, body :=
 (.seq (.region [⟨(some 1), .box 54 7 (.t 0), none, .write, 0⟩, ⟨(some 2), .alloc 41 7 (.agg [(.int .i64 0), (.int .i64 0), (.int .i64 0), (.int .i64 0), (.int .i64 0), .nsl, .nsl]), none, .write, 0⟩])
 (.seq (.region [⟨(some 3), .fieldAddr 0 (.t 1), none, .write, 0⟩, ⟨(some 4), .load (some 2) (.t 3), none, .write, 0⟩, ⟨(some 5), .fieldAddr 2 (.t 1), none, .write, 0⟩, ⟨(some 6), .load (some 2) (.t 5), none, .write, 0⟩, ⟨(some 7), .fieldAddr 4 (.t 1), none, .write, 0⟩, ⟨(some 8), .load none (.t 7), none, .write, 0⟩, ⟨(some 9), .build [(.int .i64 0), (.int .i64 0), (.int .i64 0), (.int .i64 0), (.int .i64 0), .nsl, .nsl] [(0, 1, (.c (.int .i64 3))), (1, 2, (.t 4)), (3, 2, (.t 6)), (5, 1, (.t 8))], none, .write, 0⟩, ⟨none, .store 7 (.t 2) (.t 9), none, .write, 0⟩])
 .ret)) }

theorem c14 : compFunc Try.prog Try.f14 .full = some t14 := by kernel_rfl

/-- broadside/adverts.Forget -/
def t15 : DFunc := { ntmps := 44, results := [(.cell 6 (some 6)), (.t 7)], mode := .full, body :=
 (.seq (.region [⟨(some 3), .box 28 6 (.t 0), none, .write, 0⟩, ⟨(some 4), .box 31 2 (.t 1), none, .write, 0⟩, ⟨(some 6), .alloc 28 6 (.agg [(.int .i64 0), .nsl, .nsl, .nsl, .nsl, .nsl]), none, .write, 0⟩, ⟨(some 7), .move (.c (.bool false)), none, .write, 0⟩])
 (.seq (.region [⟨(some 10), .load (some 6) (.t 3), none, .write, 0⟩, ⟨(some 11), .call (.c (.func 18 [])) [(.t 10)], none, .write, 0⟩, ⟨none, .store 6 (.t 3) (.t 11), none, .write, 0⟩])
 (.seq (.region [⟨(some 13), .load (some 6) (.t 3), none, .write, 0⟩, ⟨(some 14), .load (some 2) (.t 4), none, .write, 0⟩, ⟨(some 15), .call (.c (.func 20 [])) [(.t 13), (.t 14)], none, .write, 0⟩, ⟨(some 12), .move (.t 15), none, .write, 0⟩, ⟨(some 16), .extract (.t 12) 0, none, .write, 0⟩, ⟨(some 17), .extract (.t 12) 1, none, .write, 0⟩, ⟨(some 8), .move (.t 16), none, .write, 0⟩, ⟨(some 9), .move (.t 17), none, .write, 0⟩])
 (.seq (.seq (.region [⟨(some 18), .move (.t 9), none, .write, 0⟩, ⟨(some 19), .un .not (.t 18), none, .write, 0⟩, ⟨(some 20), .move (.t 19), none, .write, 0⟩, ⟨(some 21), .fieldAddr 2 (.t 3), (some (20, false)), .write, 0⟩, ⟨(some 22), .load none (.t 21), (some (20, false)), .write, 0⟩, ⟨(some 23), .move (.t 8), (some (20, false)), .write, 0⟩, ⟨(some 24), .indexAddr 4 (.t 22) (.t 23), (some (20, false)), .write, 0⟩, ⟨(some 25), .fieldAddr 3 (.t 24), (some (20, false)), .write, 0⟩, ⟨(some 26), .load none (.t 25), (some (20, false)), .write, 0⟩, ⟨(some 27), .move (.t 2), (some (20, false)), .write, 0⟩, ⟨(some 28), .arith .neq (.t 26) (.t 27), (some (20, false)), .write, 0⟩, ⟨(some 29), .pick (.t 20) (.c (.bool true)) (.t 28), none, .write, 0⟩])
 (.cond (.t 29) (.seq (.region [⟨(some 30), .load (some 6) (.t 3), none, .write, 0⟩, ⟨none, .store 6 (.t 6) (.t 30), none, .write, 0⟩, ⟨(some 7), .move (.c (.bool false)), none, .write, 0⟩])
 .ret) .skip))
 (.seq (.region [⟨(some 31), .fieldAddr 2 (.t 3), none, .write, 0⟩, ⟨(some 32), .load none (.t 31), none, .write, 0⟩, ⟨(some 33), .move (.t 8), none, .write, 0⟩, ⟨(some 34), .move (.t 8), none, .write, 0⟩, ⟨(some 35), .arith .add (.t 34) (.c (.int .i64 1)), none, .write, 0⟩, ⟨(some 36), .call (.c (.func 29 [])) [(.t 32), (.t 33), (.t 35)], none, .write, 0⟩, ⟨(some 37), .fieldAddr 2 (.t 3), none, .write, 0⟩, ⟨none, .store 1 (.t 37) (.t 36), none, .write, 0⟩])
 (.seq (.region [⟨(some 38), .fieldAddr 4 (.t 3), none, .write, 0⟩, ⟨(some 39), .load none (.t 38), none, .write, 0⟩, ⟨(some 40), .makeFunc 31 [(.t 4)], none, .write, 0⟩, ⟨(some 41), .call (.c (.func 30 [])) [(.t 39), (.t 40)], none, .write, 0⟩, ⟨(some 42), .fieldAddr 4 (.t 3), none, .write, 0⟩, ⟨none, .store 1 (.t 42) (.t 41), none, .write, 0⟩])
 (.seq (.region [⟨(some 43), .load (some 6) (.t 3), none, .write, 0⟩, ⟨none, .store 6 (.t 6) (.t 43), none, .write, 0⟩, ⟨(some 7), .move (.c (.bool true)), none, .write, 0⟩])
 .ret))))))) }

theorem c15 : compFunc Try.prog Try.f15 .full = some t15 := by kernel_rfl

end Go.Dm.TabF
