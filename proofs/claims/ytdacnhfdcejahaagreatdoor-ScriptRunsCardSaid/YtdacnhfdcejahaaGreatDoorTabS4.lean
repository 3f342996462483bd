/-
The table of functions, brought into the machine's form (TabS, part 4). Written by program (wip/tools/table.lean.txt).
-/
import Derived.Test.YtdacnhfdcejahaaGreatDoorDm32
import Derived.Test.YtdacnhfdcejahaaGreatDoorRows
import Derived.KernelRfl
namespace Go.Dm.TabS
open Go.Proofs

/-- (*broadside/world.World).is -/
def t245 : DFunc := { ntmps := 16, results := [(.t 4)], mode := .full, body :=
 (.seq (.region [⟨(some 4), .move (.c (.bool false)), none, .write, 0⟩])
 (.seq (.region [⟨(some 5), .move (.t 1), none, .write, 0⟩, ⟨(some 6), .arith .geq (.t 5) (.c (.int .i64 0)), none, .write, 0⟩, ⟨(some 7), .move (.t 6), none, .write, 0⟩, ⟨(some 8), .move (.t 1), (some (7, true)), .write, 0⟩, ⟨(some 9), .move (.t 0), (some (7, true)), .write, 0⟩, ⟨(some 10), .nilCheck (.t 9), (some (7, true)), .write, 0⟩, ⟨(some 11), .fieldAddr 1 (.t 10), (some (7, true)), .write, 0⟩, ⟨(some 12), .load none (.t 11), (some (7, true)), .write, 0⟩, ⟨(some 13), .len 1 (.t 12), (some (7, true)), .write, 0⟩, ⟨(some 14), .arith .lss (.t 8) (.t 13), (some (7, true)), .write, 0⟩, ⟨(some 15), .pick (.t 7) (.t 14) (.c (.bool false)), none, .write, 0⟩, ⟨(some 4), .move (.t 15), none, .write, 0⟩])
 .ret)) }

theorem c245 : compFunc Tryz.prog Tryz.f245 .full = some t245 := by kernel_rfl

/-- (*broadside/inbox.Boxes).Drain -/
def t246 : DFunc := { ntmps := 15, results := [(.t 4)], mode := .full, body :=
 (.seq (.region [⟨(some 4), .move (.c .nsl), none, .write, 0⟩])
 (.seq (.region [⟨(some 6), .move (.t 0), none, .write, 0⟩, ⟨(some 7), .move (.t 1), none, .write, 0⟩, ⟨(some 8), .call (.c (.func 85 [])) [(.t 6), (.t 7)], none, .write, 0⟩, ⟨(some 5), .move (.t 8), none, .write, 0⟩])
 (.seq (.region [⟨(some 9), .move (.t 0), none, .write, 0⟩, ⟨(some 10), .nilCheck (.t 9), none, .write, 0⟩, ⟨(some 11), .fieldAddr 0 (.t 10), none, .write, 0⟩, ⟨(some 12), .load none (.t 11), none, .write, 0⟩, ⟨(some 13), .move (.t 1), none, .write, 0⟩, ⟨none, .extract (.c .nilp) 0, none, .write, 0⟩])
 (.seq (.region [⟨(some 14), .move (.t 5), none, .write, 0⟩, ⟨(some 4), .move (.t 14), none, .write, 0⟩])
 .ret)))) }

theorem c246 : compFunc Tryz.prog Tryz.f246 .full = some t246 := by kernel_rfl

/-- broadside/world.check -/
def t247 : DFunc := { ntmps := 53, results := [(.t 4), (.t 5)], mode := .full, body :=
 (.seq (.region [⟨(some 2), .box 352 6 (.t 0), none, .write, 0⟩, ⟨(some 3), .box 85 9 (.t 1), none, .write, 0⟩, ⟨(some 4), .move (.c .nsl), none, .write, 0⟩, ⟨(some 5), .move (.c .nili), none, .write, 0⟩])
 (.seq (.region [⟨(some 9), .fieldAddr 1 (.t 2), none, .write, 0⟩, ⟨(some 10), .load none (.t 9), none, .write, 0⟩, ⟨(some 6), .move (.t 10), none, .write, 0⟩])
 (.seq (.seq (.region [⟨(some 11), .fieldAddr 0 (.t 3), none, .write, 0⟩, ⟨(some 12), .load none (.t 11), none, .write, 0⟩])
 (.block 0 (.seq (.block 4 (.seq (.block 3 (.seq (.block 2 (.seq (.block 1 (.seq (.seq (.seq (.seq (.region [⟨(some 14), .arith .eql (.t 12) (.c (.int .i64 2)), none, .write, 0⟩, ⟨(some 13), .move (.t 14), none, .write, 0⟩])
 (.cond (.t 13) .skip (.region [⟨(some 15), .arith .eql (.t 12) (.c (.int .i64 4)), none, .write, 0⟩, ⟨(some 13), .move (.t 15), none, .write, 0⟩])))
 (.cond (.t 13) (.exit 1) .skip))
 (.seq (.seq (.region [⟨(some 17), .arith .eql (.t 12) (.c (.int .i64 5)), none, .write, 0⟩, ⟨(some 16), .move (.t 17), none, .write, 0⟩])
 (.cond (.t 16) (.exit 2) .skip))
 (.seq (.seq (.region [⟨(some 19), .arith .eql (.t 12) (.c (.int .i64 3)), none, .write, 0⟩, ⟨(some 18), .move (.t 19), none, .write, 0⟩])
 (.cond (.t 18) (.exit 3) .skip))
 (.seq (.region [⟨(some 21), .arith .eql (.t 12) (.c (.int .i64 6)), none, .write, 0⟩, ⟨(some 20), .move (.t 21), none, .write, 0⟩])
 (.cond (.t 20) (.exit 4) .skip)))))
 (.exit 0)))
 (.seq (.seq (.region [⟨(some 22), .fieldAddr 6 (.t 3), none, .write, 0⟩, ⟨(some 23), .load none (.t 22), none, .write, 0⟩, ⟨(some 24), .call (.c (.func 175 [])) [(.t 23)], none, .write, 0⟩, ⟨(some 25), .extract (.t 24) 0, none, .write, 0⟩, ⟨(some 26), .extract (.t 24) 1, none, .write, 0⟩, ⟨(some 4), .move (.t 25), none, .write, 0⟩, ⟨(some 5), .move (.t 26), none, .write, 0⟩])
 .ret)
 (.exit 0))))
 (.region [⟨(some 27), .fieldAddr 2 (.t 2), none, .write, 0⟩, ⟨(some 28), .load none (.t 27), none, .write, 0⟩, ⟨(some 6), .move (.t 28), none, .write, 0⟩])))
 (.seq (.seq (.region [⟨(some 30), .move (.t 6), none, .write, 0⟩, ⟨(some 31), .fieldAddr 2 (.t 3), none, .write, 0⟩, ⟨(some 32), .load none (.t 31), none, .write, 0⟩, ⟨(some 33), .call (.c (.func 306 [])) [(.t 30), (.t 32)], none, .write, 0⟩, ⟨(some 29), .move (.t 33), none, .write, 0⟩, ⟨(some 34), .extract (.t 29) 0, none, .write, 0⟩, ⟨(some 35), .extract (.t 29) 1, none, .write, 0⟩, ⟨(some 7), .move (.t 34), none, .write, 0⟩, ⟨(some 8), .move (.t 35), none, .write, 0⟩])
 (.seq (.region [⟨(some 36), .move (.t 8), none, .write, 0⟩, ⟨(some 37), .un .not (.t 36), none, .write, 0⟩])
 (.cond (.t 37) (.seq (.region [⟨(some 38), .makeIface 37 (.c (.int .i64 4)), none, .write, 0⟩, ⟨(some 4), .move (.c .nsl), none, .write, 0⟩, ⟨(some 5), .move (.t 38), none, .write, 0⟩])
 .ret) .skip)))
 (.exit 0))))
 (.seq (.block 5 (.seq (.region [⟨(some 40), .fieldAddr 7 (.t 3), none, .write, 0⟩, ⟨(some 41), .load none (.t 40), none, .write, 0⟩, ⟨(some 42), .call (.c (.func 190 [])) [(.t 41)], none, .write, 0⟩, ⟨(some 43), .un .not (.t 42), none, .write, 0⟩, ⟨(some 39), .move (.t 43), none, .write, 0⟩])
 (.cond (.t 39) (.seq (.region [⟨(some 44), .makeIface 37 (.c (.int .i64 1)), none, .write, 0⟩, ⟨(some 4), .move (.c .nsl), none, .write, 0⟩, ⟨(some 5), .move (.t 44), none, .write, 0⟩])
 .ret) (.seq (.region [⟨(some 46), .load (some 6) (.t 2), none, .write, 0⟩, ⟨(some 47), .fieldAddr 7 (.t 3), none, .write, 0⟩, ⟨(some 48), .load none (.t 47), none, .write, 0⟩, ⟨(some 49), .call (.c (.func 307 [])) [(.t 46), (.t 48)], none, .write, 0⟩, ⟨(some 50), .len 1 (.t 49), none, .write, 0⟩, ⟨(some 51), .arith .eql (.t 50) (.c (.int .i64 0)), none, .write, 0⟩, ⟨(some 45), .move (.t 51), none, .write, 0⟩])
 (.cond (.t 45) (.seq (.region [⟨(some 52), .makeIface 37 (.c (.int .i64 6)), none, .write, 0⟩, ⟨(some 4), .move (.c .nsl), none, .write, 0⟩, ⟨(some 5), .move (.t 52), none, .write, 0⟩])
 .ret) .skip)))))
 (.exit 0)))))
 (.seq (.region [⟨(some 4), .move (.c .nsl), none, .write, 0⟩, ⟨(some 5), .move (.c .nili), none, .write, 0⟩])
 .ret)))) }

theorem c247 : compFunc Tryz.prog Tryz.f247 .full = some t247 := by kernel_rfl

/-- (*broadside/world.World).told -/
def t249 : DFunc := { ntmps := 232, results := [(.cell 6 (some 7)), (.t 7)], mode := .full, body :=
 (.seq (.region [⟨(some 4), .box 85 9 (.t 1), none, .write, 0⟩, ⟨(some 6), .alloc 82 7 (.agg [(.int .i64 0), (.int .i64 0), (.int .i64 0), (.int .i64 0), (.int .i64 0), (.int .i64 0), .nsl]), none, .write, 0⟩, ⟨(some 7), .move (.c .nili), none, .write, 0⟩])
 (.seq (.draw [⟨(some 17), .move (.t 0), none, .read, 0⟩, ⟨(some 18), .nilCheck (.t 17), none, .read, 0⟩, ⟨(some 19), .fieldAddr 1 (.t 18), none, .read, 0⟩, ⟨(some 20), .load none (.t 19), none, .read, 0⟩, ⟨(some 21), .fieldAddr 1 (.t 4), none, .read, 0⟩, ⟨(some 22), .load none (.t 21), none, .read, 0⟩, ⟨(some 23), .indexAddr 6 (.t 20) (.t 22), none, .read, 0⟩, ⟨(some 8), .move (.t 23), none, .read, 0⟩])
 (.seq (.region [⟨(some 24), .makeFunc 308 [(.t 4)], none, .write, 0⟩, ⟨(some 9), .move (.t 24), none, .write, 0⟩])
 (.seq (.region [⟨(some 25), .move (.t 0), none, .write, 0⟩, ⟨(some 26), .nilCheck (.t 25), none, .write, 0⟩, ⟨(some 27), .fieldAddr 3 (.t 26), none, .write, 0⟩, ⟨(some 28), .load none (.t 27), none, .write, 0⟩, ⟨(some 29), .arith .add (.t 28) (.c (.int .i64 1)), none, .write, 0⟩, ⟨(some 30), .nilCheck (.t 25), none, .write, 0⟩, ⟨(some 31), .fieldAddr 3 (.t 30), none, .write, 0⟩, ⟨none, .store 1 (.t 31) (.t 29), none, .write, 0⟩])
 (.seq (.seq (.region [⟨(some 32), .fieldAddr 0 (.t 4), none, .write, 0⟩, ⟨(some 33), .load none (.t 32), none, .write, 0⟩])
 (.block 0 (.seq (.region [⟨(some 35), .arith .eql (.t 33) (.c (.int .i64 2)), none, .write, 0⟩, ⟨(some 34), .move (.t 35), none, .write, 0⟩])
 (.cond (.t 34) (.seq (.region [⟨(some 36), .move (.t 9), none, .write, 0⟩, ⟨(some 37), .move (.t 8), none, .write, 0⟩, ⟨(some 38), .nilCheck (.t 37), none, .write, 0⟩, ⟨(some 39), .fieldAddr 3 (.t 38), none, .write, 0⟩, ⟨(some 40), .load none (.t 39), none, .write, 0⟩, ⟨(some 41), .call (.t 36) [(.t 40)], none, .write, 0⟩, ⟨(some 10), .alloc 45 2 (.agg [(.int .i64 0), (.int .i64 0)]), none, .write, 0⟩, ⟨none, .store 2 (.t 10) (.t 41), none, .write, 0⟩])
 (.seq (.draw [⟨(some 44), .move (.t 8), none, .read, 0⟩, ⟨(some 45), .nilCheck (.t 44), none, .read, 0⟩, ⟨(some 46), .fieldAddr 1 (.t 45), none, .read, 0⟩, ⟨(some 47), .load none (.t 46), none, .read, 0⟩, ⟨(some 48), .fieldAddr 1 (.t 10), none, .read, 0⟩, ⟨(some 49), .load none (.t 48), none, .read, 0⟩, ⟨(some 50), .move (.t 2), none, .read, 0⟩, ⟨(some 51), .build [(.int .i64 0), .nsl] [(0, 1, (.t 49)), (1, 1, (.t 50))], none, .read, 0⟩, ⟨(some 52), .buildSlice 414 2 (.agg [(.int .i64 0), .nsl]) 1 [(0, (.t 51))], none, .create, 0⟩, ⟨(some 53), .append 414 2 32 (.t 47) (.t 52), none, .create, 0⟩, ⟨(some 54), .move (.t 8), none, .read, 0⟩, ⟨(some 55), .nilCheck (.t 54), none, .read, 0⟩, ⟨(some 56), .fieldAddr 3 (.t 55), none, .read, 0⟩, ⟨(some 57), .load none (.t 56), none, .read, 0⟩, ⟨(some 42), .move (.t 8), none, .read, 0⟩, ⟨(some 59), .nilCheck (.t 42), none, .read, 2⟩, ⟨(some 60), .fieldAddr 1 (.t 59), none, .read, 2⟩, ⟨none, .store 1 (.t 60) (.t 53), none, .write, 2⟩, ⟨(some 43), .move (.t 8), none, .read, 0⟩, ⟨(some 58), .arith .add (.t 57) (.c (.int .i64 1)), none, .read, 0⟩, ⟨(some 61), .nilCheck (.t 43), none, .read, 3⟩, ⟨(some 62), .fieldAddr 3 (.t 61), none, .read, 3⟩, ⟨none, .store 1 (.t 62) (.t 58), none, .write, 3⟩])
 (.seq (.draw [⟨(some 63), .load (some 2) (.t 10), none, .read, 0⟩, ⟨(some 65), .move (.t 0), none, .read, 0⟩, ⟨(some 66), .nilCheck (.t 65), none, .read, 0⟩, ⟨(some 67), .fieldAddr 0 (.t 66), none, .read, 0⟩, ⟨(some 68), .load none (.t 67), none, .read, 0⟩, ⟨(some 69), .move (.t 8), none, .read, 0⟩, ⟨(some 70), .nilCheck (.t 69), none, .read, 0⟩, ⟨(some 71), .fieldAddr 0 (.t 70), none, .read, 0⟩, ⟨(some 72), .load none (.t 71), none, .read, 0⟩, ⟨(some 73), .load (some 2) (.t 10), none, .read, 0⟩, ⟨(some 74), .move (.t 2), none, .read, 0⟩, ⟨(some 75), .call (.c (.func 23 [])) [(.t 68), (.t 72), (.t 73), (.t 74)], none, .create, 0⟩, ⟨(some 64), .build [(.int .i64 0), (.int .i64 0), (.int .i64 0), (.int .i64 0), (.int .i64 0), (.int .i64 0), .nsl] [(2, 2, (.t 63))], none, .read, 0⟩, ⟨none, .store 7 (.t 6) (.t 64), none, .write, 1⟩, ⟨(some 7), .move (.t 75), none, .read, 2⟩])
 .ret))) (.seq (.region [⟨(some 77), .arith .eql (.t 33) (.c (.int .i64 4)), none, .write, 0⟩, ⟨(some 76), .move (.t 77), none, .write, 0⟩])
 (.cond (.t 76) (.seq (.region [⟨(some 78), .move (.t 9), none, .write, 0⟩, ⟨(some 79), .move (.t 8), none, .write, 0⟩, ⟨(some 80), .nilCheck (.t 79), none, .write, 0⟩, ⟨(some 81), .fieldAddr 4 (.t 80), none, .write, 0⟩, ⟨(some 82), .load none (.t 81), none, .write, 0⟩, ⟨(some 83), .call (.t 78) [(.t 82)], none, .write, 0⟩, ⟨(some 11), .alloc 45 2 (.agg [(.int .i64 0), (.int .i64 0)]), none, .write, 0⟩, ⟨none, .store 2 (.t 11) (.t 83), none, .write, 0⟩])
 (.seq (.draw [⟨(some 86), .move (.t 8), none, .read, 0⟩, ⟨(some 87), .nilCheck (.t 86), none, .read, 0⟩, ⟨(some 88), .fieldAddr 2 (.t 87), none, .read, 0⟩, ⟨(some 89), .load none (.t 88), none, .read, 0⟩, ⟨(some 90), .fieldAddr 1 (.t 11), none, .read, 0⟩, ⟨(some 91), .load none (.t 90), none, .read, 0⟩, ⟨(some 92), .move (.t 2), none, .read, 0⟩, ⟨(some 93), .build [(.int .i64 0), .nsl] [(0, 1, (.t 91)), (1, 1, (.t 92))], none, .read, 0⟩, ⟨(some 94), .buildSlice 414 2 (.agg [(.int .i64 0), .nsl]) 1 [(0, (.t 93))], none, .create, 0⟩, ⟨(some 95), .append 414 2 32 (.t 89) (.t 94), none, .create, 0⟩, ⟨(some 96), .move (.t 8), none, .read, 0⟩, ⟨(some 97), .nilCheck (.t 96), none, .read, 0⟩, ⟨(some 98), .fieldAddr 4 (.t 97), none, .read, 0⟩, ⟨(some 99), .load none (.t 98), none, .read, 0⟩, ⟨(some 84), .move (.t 8), none, .read, 0⟩, ⟨(some 101), .nilCheck (.t 84), none, .read, 2⟩, ⟨(some 102), .fieldAddr 2 (.t 101), none, .read, 2⟩, ⟨none, .store 1 (.t 102) (.t 95), none, .write, 2⟩, ⟨(some 85), .move (.t 8), none, .read, 0⟩, ⟨(some 100), .arith .add (.t 99) (.c (.int .i64 1)), none, .read, 0⟩, ⟨(some 103), .nilCheck (.t 85), none, .read, 3⟩, ⟨(some 104), .fieldAddr 4 (.t 103), none, .read, 3⟩, ⟨none, .store 1 (.t 104) (.t 100), none, .write, 3⟩])
 (.seq (.draw [⟨(some 105), .load (some 2) (.t 11), none, .read, 0⟩, ⟨(some 107), .move (.t 0), none, .read, 0⟩, ⟨(some 108), .nilCheck (.t 107), none, .read, 0⟩, ⟨(some 109), .fieldAddr 0 (.t 108), none, .read, 0⟩, ⟨(some 110), .load none (.t 109), none, .read, 0⟩, ⟨(some 111), .move (.t 8), none, .read, 0⟩, ⟨(some 112), .nilCheck (.t 111), none, .read, 0⟩, ⟨(some 113), .fieldAddr 0 (.t 112), none, .read, 0⟩, ⟨(some 114), .load none (.t 113), none, .read, 0⟩, ⟨(some 115), .load (some 2) (.t 11), none, .read, 0⟩, ⟨(some 116), .move (.t 2), none, .read, 0⟩, ⟨(some 117), .call (.c (.func 30 [])) [(.t 110), (.t 114), (.t 115), (.t 116)], none, .create, 0⟩, ⟨(some 106), .build [(.int .i64 0), (.int .i64 0), (.int .i64 0), (.int .i64 0), (.int .i64 0), (.int .i64 0), .nsl] [(2, 2, (.t 105))], none, .read, 0⟩, ⟨none, .store 7 (.t 6) (.t 106), none, .write, 1⟩, ⟨(some 7), .move (.t 117), none, .read, 2⟩])
 .ret))) (.seq (.region [⟨(some 119), .arith .eql (.t 33) (.c (.int .i64 3)), none, .write, 0⟩, ⟨(some 118), .move (.t 119), none, .write, 0⟩])
 (.cond (.t 118) (.seq (.draw [⟨(some 121), .move (.t 8), none, .read, 0⟩, ⟨(some 122), .nilCheck (.t 121), none, .read, 0⟩, ⟨(some 123), .fieldAddr 1 (.t 122), none, .read, 0⟩, ⟨(some 124), .load none (.t 123), none, .read, 0⟩, ⟨(some 125), .fieldAddr 2 (.t 4), none, .read, 0⟩, ⟨(some 126), .load none (.t 125), none, .read, 0⟩, ⟨(some 127), .call (.c (.func 309 [])) [(.t 124), (.t 126)], none, .write, 0⟩, ⟨(some 120), .move (.t 8), none, .read, 0⟩, ⟨(some 128), .nilCheck (.t 120), none, .read, 1⟩, ⟨(some 129), .fieldAddr 1 (.t 128), none, .read, 1⟩, ⟨none, .store 1 (.t 129) (.t 127), none, .write, 1⟩])
 (.seq (.draw [⟨(some 131), .move (.t 0), none, .read, 0⟩, ⟨(some 132), .nilCheck (.t 131), none, .read, 0⟩, ⟨(some 133), .fieldAddr 0 (.t 132), none, .read, 0⟩, ⟨(some 134), .load none (.t 133), none, .read, 0⟩, ⟨(some 135), .move (.t 8), none, .read, 0⟩, ⟨(some 136), .nilCheck (.t 135), none, .read, 0⟩, ⟨(some 137), .fieldAddr 0 (.t 136), none, .read, 0⟩, ⟨(some 138), .load none (.t 137), none, .read, 0⟩, ⟨(some 140), .fieldAddr 2 (.t 4), none, .read, 0⟩, ⟨(some 141), .load none (.t 140), none, .read, 0⟩, ⟨(some 139), .move (.t 9), none, .read, 0⟩, ⟨(some 142), .call (.t 139) [(.t 141)], none, .create, 0⟩, ⟨(some 143), .call (.c (.func 310 [])) [(.t 134), (.t 138), (.t 142)], none, .write, 1⟩, ⟨(some 130), .build [(.int .i64 0), (.int .i64 0), (.int .i64 0), (.int .i64 0), (.int .i64 0), (.int .i64 0), .nsl] [], none, .read, 0⟩, ⟨none, .store 7 (.t 6) (.t 130), none, .write, 2⟩, ⟨(some 7), .move (.t 143), none, .read, 3⟩])
 .ret)) (.seq (.region [⟨(some 145), .arith .eql (.t 33) (.c (.int .i64 5)), none, .write, 0⟩, ⟨(some 144), .move (.t 145), none, .write, 0⟩])
 (.cond (.t 144) (.seq (.draw [⟨(some 147), .move (.t 8), none, .read, 0⟩, ⟨(some 148), .nilCheck (.t 147), none, .read, 0⟩, ⟨(some 149), .fieldAddr 2 (.t 148), none, .read, 0⟩, ⟨(some 150), .load none (.t 149), none, .read, 0⟩, ⟨(some 151), .fieldAddr 2 (.t 4), none, .read, 0⟩, ⟨(some 152), .load none (.t 151), none, .read, 0⟩, ⟨(some 153), .call (.c (.func 309 [])) [(.t 150), (.t 152)], none, .write, 0⟩, ⟨(some 146), .move (.t 8), none, .read, 0⟩, ⟨(some 154), .nilCheck (.t 146), none, .read, 1⟩, ⟨(some 155), .fieldAddr 2 (.t 154), none, .read, 1⟩, ⟨none, .store 1 (.t 155) (.t 153), none, .write, 1⟩])
 (.seq (.draw [⟨(some 157), .move (.t 0), none, .read, 0⟩, ⟨(some 158), .nilCheck (.t 157), none, .read, 0⟩, ⟨(some 159), .fieldAddr 0 (.t 158), none, .read, 0⟩, ⟨(some 160), .load none (.t 159), none, .read, 0⟩, ⟨(some 161), .move (.t 8), none, .read, 0⟩, ⟨(some 162), .nilCheck (.t 161), none, .read, 0⟩, ⟨(some 163), .fieldAddr 0 (.t 162), none, .read, 0⟩, ⟨(some 164), .load none (.t 163), none, .read, 0⟩, ⟨(some 166), .fieldAddr 2 (.t 4), none, .read, 0⟩, ⟨(some 167), .load none (.t 166), none, .read, 0⟩, ⟨(some 165), .move (.t 9), none, .read, 0⟩, ⟨(some 168), .call (.t 165) [(.t 167)], none, .create, 0⟩, ⟨(some 169), .call (.c (.func 311 [])) [(.t 160), (.t 164), (.t 168)], none, .write, 1⟩, ⟨(some 156), .build [(.int .i64 0), (.int .i64 0), (.int .i64 0), (.int .i64 0), (.int .i64 0), (.int .i64 0), .nsl] [], none, .read, 0⟩, ⟨none, .store 7 (.t 6) (.t 156), none, .write, 2⟩, ⟨(some 7), .move (.t 169), none, .read, 3⟩])
 .ret)) .skip))))))))))
 (.seq (.draw [⟨(some 170), .move (.t 8), none, .read, 0⟩, ⟨(some 171), .nilCheck (.t 170), none, .read, 0⟩, ⟨(some 172), .load (some 6) (.t 171), none, .read, 0⟩, ⟨(some 173), .fieldAddr 7 (.t 4), none, .read, 0⟩, ⟨(some 174), .load none (.t 173), none, .read, 0⟩, ⟨(some 175), .call (.c (.func 307 [])) [(.t 172), (.t 174)], none, .write, 0⟩, ⟨(some 12), .move (.t 175), none, .read, 1⟩])
 (.seq (.draw [⟨(some 178), .fieldAddr 3 (.t 4), none, .read, 0⟩, ⟨(some 179), .load none (.t 178), none, .read, 0⟩, ⟨(some 177), .move (.t 12), none, .read, 0⟩, ⟨(some 180), .move (.t 12), none, .read, 0⟩, ⟨(some 181), .len 1 (.t 180), none, .read, 0⟩, ⟨(some 182), .arith .rem (.t 179) (.t 181), none, .read, 0⟩, ⟨(some 183), .move (.t 12), none, .read, 0⟩, ⟨(some 184), .len 1 (.t 183), none, .read, 0⟩, ⟨(some 185), .arith .add (.t 182) (.t 184), none, .read, 0⟩, ⟨(some 186), .move (.t 12), none, .read, 0⟩, ⟨(some 187), .len 1 (.t 186), none, .read, 0⟩, ⟨(some 188), .arith .rem (.t 185) (.t 187), none, .read, 0⟩, ⟨(some 189), .indexAddr 2 (.t 177) (.t 188), none, .read, 0⟩, ⟨(some 190), .fieldAddr 0 (.t 189), none, .read, 0⟩, ⟨(some 191), .load none (.t 190), none, .read, 0⟩, ⟨(some 176), .move (.t 9), none, .read, 0⟩, ⟨(some 192), .call (.t 176) [(.t 191)], none, .create, 0⟩, ⟨(some 194), .move (.t 8), none, .read, 0⟩, ⟨(some 195), .nilCheck (.t 194), none, .read, 0⟩, ⟨(some 196), .fieldAddr 5 (.t 195), none, .read, 0⟩, ⟨(some 197), .load none (.t 196), none, .read, 0⟩, ⟨(some 193), .move (.t 9), none, .read, 0⟩, ⟨(some 198), .call (.t 193) [(.t 197)], none, .write, 1⟩, ⟨(some 13), .alloc 45 2 (.agg [(.int .i64 0), (.int .i64 0)]), none, .create, 0⟩, ⟨(some 14), .alloc 45 2 (.agg [(.int .i64 0), (.int .i64 0)]), none, .create, 0⟩, ⟨none, .store 2 (.t 13) (.t 192), none, .write, 4⟩, ⟨none, .store 2 (.t 14) (.t 198), none, .write, 5⟩])
 (.seq (.region [⟨(some 199), .move (.t 8), none, .write, 0⟩, ⟨(some 200), .nilCheck (.t 199), none, .write, 0⟩, ⟨(some 201), .fieldAddr 5 (.t 200), none, .write, 0⟩, ⟨(some 202), .load none (.t 201), none, .write, 0⟩, ⟨(some 203), .arith .add (.t 202) (.c (.int .i64 1)), none, .write, 0⟩, ⟨(some 204), .nilCheck (.t 199), none, .write, 0⟩, ⟨(some 205), .fieldAddr 5 (.t 204), none, .write, 0⟩, ⟨none, .store 1 (.t 205) (.t 203), none, .write, 0⟩])
 (.seq (.draw [⟨(some 207), .move (.t 0), none, .read, 0⟩, ⟨(some 208), .nilCheck (.t 207), none, .read, 0⟩, ⟨(some 209), .fieldAddr 0 (.t 208), none, .read, 0⟩, ⟨(some 210), .load none (.t 209), none, .read, 0⟩, ⟨(some 211), .move (.t 8), none, .read, 0⟩, ⟨(some 212), .nilCheck (.t 211), none, .read, 0⟩, ⟨(some 213), .fieldAddr 0 (.t 212), none, .read, 0⟩, ⟨(some 214), .load none (.t 213), none, .read, 0⟩, ⟨(some 215), .load (some 2) (.t 13), none, .read, 0⟩, ⟨(some 216), .load (some 2) (.t 14), none, .read, 0⟩, ⟨(some 217), .fieldAddr 7 (.t 4), none, .read, 0⟩, ⟨(some 218), .load none (.t 217), none, .read, 0⟩, ⟨(some 219), .call (.c (.func 31 [])) [(.t 210), (.t 214), (.t 215), (.t 216), (.t 218)], none, .write, 0⟩, ⟨(some 206), .move (.t 219), none, .read, 1⟩, ⟨(some 220), .extract (.t 206) 0, none, .read, 1⟩, ⟨(some 221), .extract (.t 206) 1, none, .read, 1⟩, ⟨(some 15), .move (.t 220), none, .read, 1⟩, ⟨(some 16), .move (.t 221), none, .read, 1⟩])
 (.seq (.region [⟨(some 222), .move (.t 0), none, .write, 0⟩, ⟨(some 223), .nilCheck (.t 222), none, .write, 0⟩, ⟨(some 224), .fieldAddr 2 (.t 223), none, .write, 0⟩, ⟨(some 225), .load none (.t 224), none, .write, 0⟩, ⟨(some 226), .move (.t 15), none, .write, 0⟩, ⟨(some 227), .call (.c (.func 244 [])) [(.t 225), (.t 226)], none, .write, 0⟩])
 (.seq (.region [⟨(some 228), .load (some 2) (.t 14), none, .write, 0⟩, ⟨(some 229), .load (some 2) (.t 13), none, .write, 0⟩, ⟨(some 230), .build [(.int .i64 0), (.int .i64 0), (.int .i64 0), (.int .i64 0), (.int .i64 0), (.int .i64 0), .nsl] [(2, 2, (.t 228)), (4, 2, (.t 229))], none, .write, 0⟩, ⟨(some 231), .move (.t 16), none, .write, 0⟩, ⟨none, .store 7 (.t 6) (.t 230), none, .write, 0⟩, ⟨(some 7), .move (.t 231), none, .write, 0⟩])
 .ret))))))))))) }

theorem c249 : compFunc Tryz.prog Tryz.f249 .full = some t249 := by kernel_rfl

/-- slices.insertionSortCmpFunc[[2]int] -/
def t250 : DFunc := { ntmps := 53, results := [], mode := .full, body :=
 (.seq (.region [⟨(some 10), .move (.t 1), none, .write, 0⟩, ⟨(some 11), .arith .add (.t 10) (.c (.int .i64 1)), none, .write, 0⟩, ⟨(some 8), .move (.t 11), none, .write, 0⟩])
 (.block 0 (.loop (.seq (.seq (.region [⟨(some 12), .move (.t 8), none, .write, 0⟩, ⟨(some 13), .move (.t 2), none, .write, 0⟩, ⟨(some 14), .arith .lss (.t 12) (.t 13), none, .write, 0⟩])
 (.cond (.t 14) .skip (.exit 0)))
 (.seq (.block 1 (.seq (.region [⟨(some 17), .move (.t 8), none, .write, 0⟩, ⟨(some 9), .move (.t 17), none, .write, 0⟩])
 (.block 2 (.loop (.seq (.seq (.draw [⟨(some 18), .move (.t 9), none, .read, 0⟩, ⟨(some 19), .move (.t 1), none, .read, 0⟩, ⟨(some 20), .arith .gtr (.t 18) (.t 19), none, .read, 0⟩, ⟨(some 21), .move (.t 20), none, .read, 0⟩, ⟨(some 23), .move (.t 0), (some (21, true)), .read, 0⟩, ⟨(some 24), .move (.t 9), (some (21, true)), .read, 0⟩, ⟨(some 25), .indexAddr 2 (.t 23) (.t 24), (some (21, true)), .read, 0⟩, ⟨(some 26), .load (some 2) (.t 25), (some (21, true)), .read, 0⟩, ⟨(some 27), .move (.t 0), (some (21, true)), .read, 0⟩, ⟨(some 28), .move (.t 9), (some (21, true)), .read, 0⟩, ⟨(some 29), .arith .sub (.t 28) (.c (.int .i64 1)), (some (21, true)), .read, 0⟩, ⟨(some 30), .indexAddr 2 (.t 27) (.t 29), (some (21, true)), .read, 0⟩, ⟨(some 31), .load (some 2) (.t 30), (some (21, true)), .read, 0⟩, ⟨(some 22), .move (.t 3), (some (21, true)), .read, 0⟩, ⟨(some 32), .call (.t 22) [(.t 26), (.t 31)], (some (21, true)), .write, 0⟩, ⟨(some 33), .arith .lss (.t 32) (.c (.int .i64 0)), (some (21, true)), .read, 1⟩, ⟨(some 34), .pick (.t 21) (.t 33) (.c (.bool false)), none, .read, 1⟩])
 (.cond (.t 34) .skip (.exit 2)))
 (.seq (.block 3 (.draw [⟨(some 42), .move (.t 0), none, .read, 0⟩, ⟨(some 43), .move (.t 9), none, .read, 0⟩, ⟨(some 44), .arith .sub (.t 43) (.c (.int .i64 1)), none, .read, 0⟩, ⟨(some 45), .indexAddr 2 (.t 42) (.t 44), none, .read, 0⟩, ⟨(some 46), .load (some 2) (.t 45), none, .read, 0⟩, ⟨(some 47), .move (.t 0), none, .read, 0⟩, ⟨(some 48), .move (.t 9), none, .read, 0⟩, ⟨(some 49), .indexAddr 2 (.t 47) (.t 48), none, .read, 0⟩, ⟨(some 50), .load (some 2) (.t 49), none, .read, 0⟩, ⟨(some 37), .move (.t 0), none, .read, 0⟩, ⟨(some 38), .move (.t 9), none, .read, 0⟩, ⟨(some 51), .indexAddr 2 (.t 37) (.t 38), none, .read, 0⟩, ⟨none, .store 2 (.t 51) (.t 46), none, .write, 0⟩, ⟨(some 39), .move (.t 0), none, .read, 0⟩, ⟨(some 40), .move (.t 9), none, .read, 0⟩, ⟨(some 41), .arith .sub (.t 40) (.c (.int .i64 1)), none, .read, 0⟩, ⟨(some 52), .indexAddr 2 (.t 39) (.t 41), none, .read, 1⟩, ⟨none, .store 2 (.t 52) (.t 50), none, .write, 1⟩]))
 (.region [⟨(some 35), .move (.t 9), none, .write, 0⟩, ⟨(some 36), .arith .sub (.t 35) (.c (.int .i64 1)), none, .write, 0⟩, ⟨(some 9), .move (.t 36), none, .write, 0⟩])))))))
 (.region [⟨(some 15), .move (.t 8), none, .write, 0⟩, ⟨(some 16), .arith .add (.t 15) (.c (.int .i64 1)), none, .write, 0⟩, ⟨(some 8), .move (.t 16), none, .write, 0⟩])))))) }

theorem c250 : compFunc Tryz.prog Tryz.f250 .full = some t250 := by kernel_rfl

/-- slices.heapSortCmpFunc[[2]int] -/
def t251 : DFunc := { ntmps := 60, results := [], mode := .full, body :=
 (.seq (.region [⟨(some 13), .move (.t 1), none, .write, 0⟩, ⟨(some 8), .move (.t 13), none, .write, 0⟩])
 (.seq (.region [⟨(some 9), .move (.c (.int .i64 0)), none, .write, 0⟩])
 (.seq (.region [⟨(some 14), .move (.t 2), none, .write, 0⟩, ⟨(some 15), .move (.t 1), none, .write, 0⟩, ⟨(some 16), .arith .sub (.t 14) (.t 15), none, .write, 0⟩, ⟨(some 10), .move (.t 16), none, .write, 0⟩])
 (.seq (.seq (.region [⟨(some 17), .move (.t 10), none, .write, 0⟩, ⟨(some 18), .arith .sub (.t 17) (.c (.int .i64 1)), none, .write, 0⟩, ⟨(some 19), .arith .quo (.t 18) (.c (.int .i64 2)), none, .write, 0⟩, ⟨(some 11), .move (.t 19), none, .write, 0⟩])
 (.block 0 (.loop (.seq (.seq (.region [⟨(some 20), .move (.t 11), none, .write, 0⟩, ⟨(some 21), .arith .geq (.t 20) (.c (.int .i64 0)), none, .write, 0⟩])
 (.cond (.t 21) .skip (.exit 0)))
 (.seq (.block 1 (.region [⟨(some 24), .move (.t 0), none, .write, 0⟩, ⟨(some 25), .move (.t 11), none, .write, 0⟩, ⟨(some 26), .move (.t 10), none, .write, 0⟩, ⟨(some 27), .move (.t 8), none, .write, 0⟩, ⟨(some 28), .move (.t 3), none, .write, 0⟩, ⟨(some 29), .call (.c (.func 312 [])) [(.t 24), (.t 25), (.t 26), (.t 27), (.t 28)], none, .write, 0⟩]))
 (.region [⟨(some 22), .move (.t 11), none, .write, 0⟩, ⟨(some 23), .arith .sub (.t 22) (.c (.int .i64 1)), none, .write, 0⟩, ⟨(some 11), .move (.t 23), none, .write, 0⟩]))))))
 (.seq (.region [⟨(some 30), .move (.t 10), none, .write, 0⟩, ⟨(some 31), .arith .sub (.t 30) (.c (.int .i64 1)), none, .write, 0⟩, ⟨(some 12), .move (.t 31), none, .write, 0⟩])
 (.block 2 (.loop (.seq (.seq (.region [⟨(some 32), .move (.t 12), none, .write, 0⟩, ⟨(some 33), .arith .geq (.t 32) (.c (.int .i64 0)), none, .write, 0⟩])
 (.cond (.t 33) .skip (.exit 2)))
 (.seq (.block 3 (.seq (.draw [⟨(some 42), .move (.t 0), none, .read, 0⟩, ⟨(some 43), .move (.t 8), none, .read, 0⟩, ⟨(some 44), .move (.t 12), none, .read, 0⟩, ⟨(some 45), .arith .add (.t 43) (.t 44), none, .read, 0⟩, ⟨(some 46), .indexAddr 2 (.t 42) (.t 45), none, .read, 0⟩, ⟨(some 47), .load (some 2) (.t 46), none, .read, 0⟩, ⟨(some 48), .move (.t 0), none, .read, 0⟩, ⟨(some 49), .move (.t 8), none, .read, 0⟩, ⟨(some 50), .indexAddr 2 (.t 48) (.t 49), none, .read, 0⟩, ⟨(some 51), .load (some 2) (.t 50), none, .read, 0⟩, ⟨(some 36), .move (.t 0), none, .read, 0⟩, ⟨(some 37), .move (.t 8), none, .read, 0⟩, ⟨(some 52), .indexAddr 2 (.t 36) (.t 37), none, .read, 0⟩, ⟨none, .store 2 (.t 52) (.t 47), none, .write, 0⟩, ⟨(some 38), .move (.t 0), none, .read, 0⟩, ⟨(some 39), .move (.t 8), none, .read, 0⟩, ⟨(some 40), .move (.t 12), none, .read, 0⟩, ⟨(some 41), .arith .add (.t 39) (.t 40), none, .read, 0⟩, ⟨(some 53), .indexAddr 2 (.t 38) (.t 41), none, .read, 1⟩, ⟨none, .store 2 (.t 53) (.t 51), none, .write, 1⟩])
 (.region [⟨(some 54), .move (.t 0), none, .write, 0⟩, ⟨(some 55), .move (.t 9), none, .write, 0⟩, ⟨(some 56), .move (.t 12), none, .write, 0⟩, ⟨(some 57), .move (.t 8), none, .write, 0⟩, ⟨(some 58), .move (.t 3), none, .write, 0⟩, ⟨(some 59), .call (.c (.func 312 [])) [(.t 54), (.t 55), (.t 56), (.t 57), (.t 58)], none, .write, 0⟩])))
 (.region [⟨(some 34), .move (.t 12), none, .write, 0⟩, ⟨(some 35), .arith .sub (.t 34) (.c (.int .i64 1)), none, .write, 0⟩, ⟨(some 12), .move (.t 35), none, .write, 0⟩])))))))))) }

theorem c251 : compFunc Tryz.prog Tryz.f251 .full = some t251 := by kernel_rfl

/-- slices.breakPatternsCmpFunc[[2]int] -/
def t252 : DFunc := { ntmps := 67, results := [], mode := .full, body :=
 (.seq (.region [⟨(some 13), .move (.t 2), none, .write, 0⟩, ⟨(some 14), .move (.t 1), none, .write, 0⟩, ⟨(some 15), .arith .sub (.t 13) (.t 14), none, .write, 0⟩, ⟨(some 8), .move (.t 15), none, .write, 0⟩])
 (.seq (.region [⟨(some 16), .move (.t 8), none, .write, 0⟩, ⟨(some 17), .arith .geq (.t 16) (.c (.int .i64 8)), none, .write, 0⟩])
 (.cond (.t 17) (.seq (.region [⟨(some 18), .move (.t 8), none, .write, 0⟩, ⟨(some 19), .conv .u64 (.t 18), none, .write, 0⟩, ⟨(some 9), .alloc 385 1 (.int .u64 0), none, .write, 0⟩, ⟨none, .store 1 (.t 9) (.t 19), none, .write, 0⟩])
 (.seq (.region [⟨(some 20), .move (.t 8), none, .write, 0⟩, ⟨(some 21), .call (.c (.func 283 [])) [(.t 20)], none, .write, 0⟩, ⟨(some 10), .move (.t 21), none, .write, 0⟩])
 (.seq (.region [⟨(some 22), .move (.t 1), none, .write, 0⟩, ⟨(some 23), .move (.t 8), none, .write, 0⟩, ⟨(some 24), .arith .quo (.t 23) (.c (.int .i64 4)), none, .write, 0⟩, ⟨(some 25), .arith .mul (.t 24) (.c (.int .i64 2)), none, .write, 0⟩, ⟨(some 26), .arith .add (.t 22) (.t 25), none, .write, 0⟩, ⟨(some 27), .arith .sub (.t 26) (.c (.int .i64 1)), none, .write, 0⟩, ⟨(some 11), .move (.t 27), none, .write, 0⟩])
 (.block 0 (.loop (.seq (.seq (.region [⟨(some 28), .move (.t 11), none, .write, 0⟩, ⟨(some 29), .move (.t 1), none, .write, 0⟩, ⟨(some 30), .move (.t 8), none, .write, 0⟩, ⟨(some 31), .arith .quo (.t 30) (.c (.int .i64 4)), none, .write, 0⟩, ⟨(some 32), .arith .mul (.t 31) (.c (.int .i64 2)), none, .write, 0⟩, ⟨(some 33), .arith .add (.t 29) (.t 32), none, .write, 0⟩, ⟨(some 34), .arith .add (.t 33) (.c (.int .i64 1)), none, .write, 0⟩, ⟨(some 35), .arith .leq (.t 28) (.t 34), none, .write, 0⟩])
 (.cond (.t 35) .skip (.exit 0)))
 (.seq (.block 1 (.seq (.region [⟨(some 38), .call (.c (.func 284 [])) [(.t 9)], none, .write, 0⟩, ⟨(some 39), .move (.t 10), none, .write, 0⟩, ⟨(some 40), .arith .sub (.t 39) (.c (.int .u64 1)), none, .write, 0⟩, ⟨(some 41), .arith .and (.t 38) (.t 40), none, .write, 0⟩, ⟨(some 42), .conv .i64 (.t 41), none, .write, 0⟩, ⟨(some 12), .move (.t 42), none, .write, 0⟩])
 (.seq (.seq (.region [⟨(some 43), .move (.t 12), none, .write, 0⟩, ⟨(some 44), .move (.t 8), none, .write, 0⟩, ⟨(some 45), .arith .geq (.t 43) (.t 44), none, .write, 0⟩])
 (.cond (.t 45) (.region [⟨(some 46), .move (.t 12), none, .write, 0⟩, ⟨(some 47), .move (.t 8), none, .write, 0⟩, ⟨(some 48), .arith .sub (.t 46) (.t 47), none, .write, 0⟩, ⟨(some 12), .move (.t 48), none, .write, 0⟩]) .skip))
 (.draw [⟨(some 55), .move (.t 0), none, .read, 0⟩, ⟨(some 56), .move (.t 1), none, .read, 0⟩, ⟨(some 57), .move (.t 12), none, .read, 0⟩, ⟨(some 58), .arith .add (.t 56) (.t 57), none, .read, 0⟩, ⟨(some 59), .indexAddr 2 (.t 55) (.t 58), none, .read, 0⟩, ⟨(some 60), .load (some 2) (.t 59), none, .read, 0⟩, ⟨(some 61), .move (.t 0), none, .read, 0⟩, ⟨(some 62), .move (.t 11), none, .read, 0⟩, ⟨(some 63), .indexAddr 2 (.t 61) (.t 62), none, .read, 0⟩, ⟨(some 64), .load (some 2) (.t 63), none, .read, 0⟩, ⟨(some 49), .move (.t 0), none, .read, 0⟩, ⟨(some 50), .move (.t 11), none, .read, 0⟩, ⟨(some 65), .indexAddr 2 (.t 49) (.t 50), none, .read, 0⟩, ⟨none, .store 2 (.t 65) (.t 60), none, .write, 0⟩, ⟨(some 51), .move (.t 0), none, .read, 0⟩, ⟨(some 52), .move (.t 1), none, .read, 0⟩, ⟨(some 53), .move (.t 12), none, .read, 0⟩, ⟨(some 54), .arith .add (.t 52) (.t 53), none, .read, 0⟩, ⟨(some 66), .indexAddr 2 (.t 51) (.t 54), none, .read, 1⟩, ⟨none, .store 2 (.t 66) (.t 64), none, .write, 1⟩]))))
 (.region [⟨(some 36), .move (.t 11), none, .write, 0⟩, ⟨(some 37), .arith .add (.t 36) (.c (.int .i64 1)), none, .write, 0⟩, ⟨(some 11), .move (.t 37), none, .write, 0⟩])))))))) .skip))) }

theorem c252 : compFunc Tryz.prog Tryz.f252 .full = some t252 := by kernel_rfl

/-- slices.choosePivotCmpFunc[[2]int] -/
def t253 : DFunc := { ntmps := 63, results := [(.t 8), (.t 9)], mode := .full, body :=
 (.seq (.region [⟨(some 8), .move (.c (.int .i64 0)), none, .write, 0⟩, ⟨(some 9), .move (.c (.int .i64 0)), none, .write, 0⟩])
 (.seq (.region [⟨(some 15), .move (.t 2), none, .write, 0⟩, ⟨(some 16), .move (.t 1), none, .write, 0⟩, ⟨(some 17), .arith .sub (.t 15) (.t 16), none, .write, 0⟩, ⟨(some 10), .move (.t 17), none, .write, 0⟩])
 (.seq (.region [⟨(some 11), .alloc 3 1 (.int .i64 0), none, .write, 0⟩])
 (.seq (.region [⟨(some 18), .move (.t 1), none, .write, 0⟩, ⟨(some 19), .move (.t 10), none, .write, 0⟩, ⟨(some 20), .arith .quo (.t 19) (.c (.int .i64 4)), none, .write, 0⟩, ⟨(some 21), .arith .mul (.t 20) (.c (.int .i64 1)), none, .write, 0⟩, ⟨(some 22), .arith .add (.t 18) (.t 21), none, .write, 0⟩, ⟨(some 12), .move (.t 22), none, .write, 0⟩])
 (.seq (.region [⟨(some 23), .move (.t 1), none, .write, 0⟩, ⟨(some 24), .move (.t 10), none, .write, 0⟩, ⟨(some 25), .arith .quo (.t 24) (.c (.int .i64 4)), none, .write, 0⟩, ⟨(some 26), .arith .mul (.t 25) (.c (.int .i64 2)), none, .write, 0⟩, ⟨(some 27), .arith .add (.t 23) (.t 26), none, .write, 0⟩, ⟨(some 13), .move (.t 27), none, .write, 0⟩])
 (.seq (.region [⟨(some 28), .move (.t 1), none, .write, 0⟩, ⟨(some 29), .move (.t 10), none, .write, 0⟩, ⟨(some 30), .arith .quo (.t 29) (.c (.int .i64 4)), none, .write, 0⟩, ⟨(some 31), .arith .mul (.t 30) (.c (.int .i64 3)), none, .write, 0⟩, ⟨(some 32), .arith .add (.t 28) (.t 31), none, .write, 0⟩, ⟨(some 14), .move (.t 32), none, .write, 0⟩])
 (.seq (.seq (.region [⟨(some 33), .move (.t 10), none, .write, 0⟩, ⟨(some 34), .arith .geq (.t 33) (.c (.int .i64 8)), none, .write, 0⟩])
 (.cond (.t 34) (.seq (.seq (.region [⟨(some 35), .move (.t 10), none, .write, 0⟩, ⟨(some 36), .arith .geq (.t 35) (.c (.int .i64 50)), none, .write, 0⟩])
 (.cond (.t 36) (.seq (.region [⟨(some 37), .move (.t 0), none, .write, 0⟩, ⟨(some 38), .move (.t 12), none, .write, 0⟩, ⟨(some 39), .move (.t 3), none, .write, 0⟩, ⟨(some 40), .call (.c (.func 313 [])) [(.t 37), (.t 38), (.t 11), (.t 39)], none, .write, 0⟩, ⟨(some 12), .move (.t 40), none, .write, 0⟩])
 (.seq (.region [⟨(some 41), .move (.t 0), none, .write, 0⟩, ⟨(some 42), .move (.t 13), none, .write, 0⟩, ⟨(some 43), .move (.t 3), none, .write, 0⟩, ⟨(some 44), .call (.c (.func 313 [])) [(.t 41), (.t 42), (.t 11), (.t 43)], none, .write, 0⟩, ⟨(some 13), .move (.t 44), none, .write, 0⟩])
 (.region [⟨(some 45), .move (.t 0), none, .write, 0⟩, ⟨(some 46), .move (.t 14), none, .write, 0⟩, ⟨(some 47), .move (.t 3), none, .write, 0⟩, ⟨(some 48), .call (.c (.func 313 [])) [(.t 45), (.t 46), (.t 11), (.t 47)], none, .write, 0⟩, ⟨(some 14), .move (.t 48), none, .write, 0⟩]))) .skip))
 (.region [⟨(some 49), .move (.t 0), none, .write, 0⟩, ⟨(some 50), .move (.t 12), none, .write, 0⟩, ⟨(some 51), .move (.t 13), none, .write, 0⟩, ⟨(some 52), .move (.t 14), none, .write, 0⟩, ⟨(some 53), .move (.t 3), none, .write, 0⟩, ⟨(some 54), .call (.c (.func 314 [])) [(.t 49), (.t 50), (.t 51), (.t 52), (.t 11), (.t 53)], none, .write, 0⟩, ⟨(some 13), .move (.t 54), none, .write, 0⟩])) .skip))
 (.seq (.region [⟨(some 55), .load none (.t 11), none, .write, 0⟩])
 (.block 0 (.seq (.region [⟨(some 58), .arith .eql (.t 55) (.c (.int .i64 0)), none, .write, 0⟩, ⟨(some 57), .move (.t 58), none, .write, 0⟩])
 (.cond (.t 57) (.seq (.region [⟨(some 59), .move (.t 13), none, .write, 0⟩, ⟨(some 8), .move (.t 59), none, .write, 0⟩, ⟨(some 9), .move (.c (.int .i64 1)), none, .write, 0⟩])
 .ret) (.seq (.region [⟨(some 61), .arith .eql (.t 55) (.c (.int .i64 12)), none, .write, 0⟩, ⟨(some 60), .move (.t 61), none, .write, 0⟩])
 (.cond (.t 60) (.seq (.region [⟨(some 62), .move (.t 13), none, .write, 0⟩, ⟨(some 8), .move (.t 62), none, .write, 0⟩, ⟨(some 9), .move (.c (.int .i64 2)), none, .write, 0⟩])
 .ret) (.seq (.region [⟨(some 56), .move (.t 13), none, .write, 0⟩, ⟨(some 8), .move (.t 56), none, .write, 0⟩, ⟨(some 9), .move (.c (.int .i64 0)), none, .write, 0⟩])
 .ret)))))))))))))) }

theorem c253 : compFunc Tryz.prog Tryz.f253 .full = some t253 := by kernel_rfl

/-- slices.reverseRangeCmpFunc[[2]int] -/
def t254 : DFunc := { ntmps := 34, results := [], mode := .full, body :=
 (.seq (.region [⟨(some 10), .move (.t 1), none, .write, 0⟩, ⟨(some 8), .move (.t 10), none, .write, 0⟩])
 (.seq (.region [⟨(some 11), .move (.t 2), none, .write, 0⟩, ⟨(some 12), .arith .sub (.t 11) (.c (.int .i64 1)), none, .write, 0⟩, ⟨(some 9), .move (.t 12), none, .write, 0⟩])
 (.block 0 (.loop (.seq (.seq (.region [⟨(some 13), .move (.t 8), none, .write, 0⟩, ⟨(some 14), .move (.t 9), none, .write, 0⟩, ⟨(some 15), .arith .lss (.t 13) (.t 14), none, .write, 0⟩])
 (.cond (.t 15) .skip (.exit 0)))
 (.block 1 (.seq (.draw [⟨(some 20), .move (.t 0), none, .read, 0⟩, ⟨(some 21), .move (.t 9), none, .read, 0⟩, ⟨(some 22), .indexAddr 2 (.t 20) (.t 21), none, .read, 0⟩, ⟨(some 23), .load (some 2) (.t 22), none, .read, 0⟩, ⟨(some 24), .move (.t 0), none, .read, 0⟩, ⟨(some 25), .move (.t 8), none, .read, 0⟩, ⟨(some 26), .indexAddr 2 (.t 24) (.t 25), none, .read, 0⟩, ⟨(some 27), .load (some 2) (.t 26), none, .read, 0⟩, ⟨(some 16), .move (.t 0), none, .read, 0⟩, ⟨(some 17), .move (.t 8), none, .read, 0⟩, ⟨(some 28), .indexAddr 2 (.t 16) (.t 17), none, .read, 0⟩, ⟨none, .store 2 (.t 28) (.t 23), none, .write, 0⟩, ⟨(some 18), .move (.t 0), none, .read, 0⟩, ⟨(some 19), .move (.t 9), none, .read, 0⟩, ⟨(some 29), .indexAddr 2 (.t 18) (.t 19), none, .read, 1⟩, ⟨none, .store 2 (.t 29) (.t 27), none, .write, 1⟩])
 (.seq (.region [⟨(some 30), .move (.t 8), none, .write, 0⟩, ⟨(some 31), .arith .add (.t 30) (.c (.int .i64 1)), none, .write, 0⟩, ⟨(some 8), .move (.t 31), none, .write, 0⟩])
 (.region [⟨(some 32), .move (.t 9), none, .write, 0⟩, ⟨(some 33), .arith .sub (.t 32) (.c (.int .i64 1)), none, .write, 0⟩, ⟨(some 9), .move (.t 33), none, .write, 0⟩]))))))))) }

theorem c254 : compFunc Tryz.prog Tryz.f254 .full = some t254 := by kernel_rfl

/-- slices.partialInsertionSortCmpFunc[[2]int] -/
def t255 : DFunc := { ntmps := 141, results := [(.t 8)], mode := .full, body :=
 (.seq (.region [⟨(some 8), .move (.c (.bool false)), none, .write, 0⟩])
 (.seq (.region [⟨(some 13), .move (.t 1), none, .write, 0⟩, ⟨(some 14), .arith .add (.t 13) (.c (.int .i64 1)), none, .write, 0⟩, ⟨(some 9), .move (.t 14), none, .write, 0⟩])
 (.seq (.seq (.region [⟨(some 10), .move (.c (.int .i64 0)), none, .write, 0⟩])
 (.block 0 (.loop (.seq (.seq (.region [⟨(some 15), .move (.t 10), none, .write, 0⟩, ⟨(some 16), .arith .lss (.t 15) (.c (.int .i64 5)), none, .write, 0⟩])
 (.cond (.t 16) .skip (.exit 0)))
 (.seq (.block 1 (.seq (.block 2 (.loop (.seq (.seq (.draw [⟨(some 19), .move (.t 9), none, .read, 0⟩, ⟨(some 20), .move (.t 2), none, .read, 0⟩, ⟨(some 21), .arith .lss (.t 19) (.t 20), none, .read, 0⟩, ⟨(some 22), .move (.t 21), none, .read, 0⟩, ⟨(some 24), .move (.t 0), (some (22, true)), .read, 0⟩, ⟨(some 25), .move (.t 9), (some (22, true)), .read, 0⟩, ⟨(some 26), .indexAddr 2 (.t 24) (.t 25), (some (22, true)), .read, 0⟩, ⟨(some 27), .load (some 2) (.t 26), (some (22, true)), .read, 0⟩, ⟨(some 28), .move (.t 0), (some (22, true)), .read, 0⟩, ⟨(some 29), .move (.t 9), (some (22, true)), .read, 0⟩, ⟨(some 30), .arith .sub (.t 29) (.c (.int .i64 1)), (some (22, true)), .read, 0⟩, ⟨(some 31), .indexAddr 2 (.t 28) (.t 30), (some (22, true)), .read, 0⟩, ⟨(some 32), .load (some 2) (.t 31), (some (22, true)), .read, 0⟩, ⟨(some 23), .move (.t 3), (some (22, true)), .read, 0⟩, ⟨(some 33), .call (.t 23) [(.t 27), (.t 32)], (some (22, true)), .write, 0⟩, ⟨(some 34), .arith .lss (.t 33) (.c (.int .i64 0)), (some (22, true)), .read, 1⟩, ⟨(some 35), .un .not (.t 34), (some (22, true)), .read, 1⟩, ⟨(some 36), .pick (.t 22) (.t 35) (.c (.bool false)), none, .read, 1⟩])
 (.cond (.t 36) .skip (.exit 2)))
 (.block 3 (.region [⟨(some 37), .move (.t 9), none, .write, 0⟩, ⟨(some 38), .arith .add (.t 37) (.c (.int .i64 1)), none, .write, 0⟩, ⟨(some 9), .move (.t 38), none, .write, 0⟩])))))
 (.seq (.seq (.region [⟨(some 39), .move (.t 9), none, .write, 0⟩, ⟨(some 40), .move (.t 2), none, .write, 0⟩, ⟨(some 41), .arith .eql (.t 39) (.t 40), none, .write, 0⟩])
 (.cond (.t 41) (.seq (.region [⟨(some 8), .move (.c (.bool true)), none, .write, 0⟩])
 .ret) .skip))
 (.seq (.seq (.region [⟨(some 42), .move (.t 2), none, .write, 0⟩, ⟨(some 43), .move (.t 1), none, .write, 0⟩, ⟨(some 44), .arith .sub (.t 42) (.t 43), none, .write, 0⟩, ⟨(some 45), .arith .lss (.t 44) (.c (.int .i64 50)), none, .write, 0⟩])
 (.cond (.t 45) (.seq (.region [⟨(some 8), .move (.c (.bool false)), none, .write, 0⟩])
 .ret) .skip))
 (.seq (.draw [⟨(some 51), .move (.t 0), none, .read, 0⟩, ⟨(some 52), .move (.t 9), none, .read, 0⟩, ⟨(some 53), .arith .sub (.t 52) (.c (.int .i64 1)), none, .read, 0⟩, ⟨(some 54), .indexAddr 2 (.t 51) (.t 53), none, .read, 0⟩, ⟨(some 55), .load (some 2) (.t 54), none, .read, 0⟩, ⟨(some 56), .move (.t 0), none, .read, 0⟩, ⟨(some 57), .move (.t 9), none, .read, 0⟩, ⟨(some 58), .indexAddr 2 (.t 56) (.t 57), none, .read, 0⟩, ⟨(some 59), .load (some 2) (.t 58), none, .read, 0⟩, ⟨(some 46), .move (.t 0), none, .read, 0⟩, ⟨(some 47), .move (.t 9), none, .read, 0⟩, ⟨(some 60), .indexAddr 2 (.t 46) (.t 47), none, .read, 0⟩, ⟨none, .store 2 (.t 60) (.t 55), none, .write, 0⟩, ⟨(some 48), .move (.t 0), none, .read, 0⟩, ⟨(some 49), .move (.t 9), none, .read, 0⟩, ⟨(some 50), .arith .sub (.t 49) (.c (.int .i64 1)), none, .read, 0⟩, ⟨(some 61), .indexAddr 2 (.t 48) (.t 50), none, .read, 1⟩, ⟨none, .store 2 (.t 61) (.t 59), none, .write, 1⟩])
 (.seq (.seq (.region [⟨(some 62), .move (.t 9), none, .write, 0⟩, ⟨(some 63), .move (.t 1), none, .write, 0⟩, ⟨(some 64), .arith .sub (.t 62) (.t 63), none, .write, 0⟩, ⟨(some 65), .arith .geq (.t 64) (.c (.int .i64 2)), none, .write, 0⟩])
 (.cond (.t 65) (.seq (.region [⟨(some 66), .move (.t 9), none, .write, 0⟩, ⟨(some 67), .arith .sub (.t 66) (.c (.int .i64 1)), none, .write, 0⟩, ⟨(some 11), .move (.t 67), none, .write, 0⟩])
 (.block 4 (.loop (.seq (.seq (.region [⟨(some 68), .move (.t 11), none, .write, 0⟩, ⟨(some 69), .arith .geq (.t 68) (.c (.int .i64 1)), none, .write, 0⟩])
 (.cond (.t 69) .skip (.exit 4)))
 (.seq (.block 5 (.seq (.seq (.draw [⟨(some 73), .move (.t 0), none, .read, 0⟩, ⟨(some 74), .move (.t 11), none, .read, 0⟩, ⟨(some 75), .indexAddr 2 (.t 73) (.t 74), none, .read, 0⟩, ⟨(some 76), .load (some 2) (.t 75), none, .read, 0⟩, ⟨(some 77), .move (.t 0), none, .read, 0⟩, ⟨(some 78), .move (.t 11), none, .read, 0⟩, ⟨(some 79), .arith .sub (.t 78) (.c (.int .i64 1)), none, .read, 0⟩, ⟨(some 80), .indexAddr 2 (.t 77) (.t 79), none, .read, 0⟩, ⟨(some 81), .load (some 2) (.t 80), none, .read, 0⟩, ⟨(some 72), .move (.t 3), none, .read, 0⟩, ⟨(some 82), .call (.t 72) [(.t 76), (.t 81)], none, .write, 0⟩, ⟨(some 83), .arith .lss (.t 82) (.c (.int .i64 0)), none, .read, 1⟩, ⟨(some 84), .un .not (.t 83), none, .read, 1⟩])
 (.cond (.t 84) (.exit 4) .skip))
 (.draw [⟨(some 90), .move (.t 0), none, .read, 0⟩, ⟨(some 91), .move (.t 11), none, .read, 0⟩, ⟨(some 92), .arith .sub (.t 91) (.c (.int .i64 1)), none, .read, 0⟩, ⟨(some 93), .indexAddr 2 (.t 90) (.t 92), none, .read, 0⟩, ⟨(some 94), .load (some 2) (.t 93), none, .read, 0⟩, ⟨(some 95), .move (.t 0), none, .read, 0⟩, ⟨(some 96), .move (.t 11), none, .read, 0⟩, ⟨(some 97), .indexAddr 2 (.t 95) (.t 96), none, .read, 0⟩, ⟨(some 98), .load (some 2) (.t 97), none, .read, 0⟩, ⟨(some 85), .move (.t 0), none, .read, 0⟩, ⟨(some 86), .move (.t 11), none, .read, 0⟩, ⟨(some 99), .indexAddr 2 (.t 85) (.t 86), none, .read, 0⟩, ⟨none, .store 2 (.t 99) (.t 94), none, .write, 0⟩, ⟨(some 87), .move (.t 0), none, .read, 0⟩, ⟨(some 88), .move (.t 11), none, .read, 0⟩, ⟨(some 89), .arith .sub (.t 88) (.c (.int .i64 1)), none, .read, 0⟩, ⟨(some 100), .indexAddr 2 (.t 87) (.t 89), none, .read, 1⟩, ⟨none, .store 2 (.t 100) (.t 98), none, .write, 1⟩])))
 (.region [⟨(some 70), .move (.t 11), none, .write, 0⟩, ⟨(some 71), .arith .sub (.t 70) (.c (.int .i64 1)), none, .write, 0⟩, ⟨(some 11), .move (.t 71), none, .write, 0⟩])))))) .skip))
 (.seq (.region [⟨(some 101), .move (.t 2), none, .write, 0⟩, ⟨(some 102), .move (.t 9), none, .write, 0⟩, ⟨(some 103), .arith .sub (.t 101) (.t 102), none, .write, 0⟩, ⟨(some 104), .arith .geq (.t 103) (.c (.int .i64 2)), none, .write, 0⟩])
 (.cond (.t 104) (.seq (.region [⟨(some 105), .move (.t 9), none, .write, 0⟩, ⟨(some 106), .arith .add (.t 105) (.c (.int .i64 1)), none, .write, 0⟩, ⟨(some 12), .move (.t 106), none, .write, 0⟩])
 (.block 6 (.loop (.seq (.seq (.region [⟨(some 107), .move (.t 12), none, .write, 0⟩, ⟨(some 108), .move (.t 2), none, .write, 0⟩, ⟨(some 109), .arith .lss (.t 107) (.t 108), none, .write, 0⟩])
 (.cond (.t 109) .skip (.exit 6)))
 (.seq (.block 7 (.seq (.seq (.draw [⟨(some 113), .move (.t 0), none, .read, 0⟩, ⟨(some 114), .move (.t 12), none, .read, 0⟩, ⟨(some 115), .indexAddr 2 (.t 113) (.t 114), none, .read, 0⟩, ⟨(some 116), .load (some 2) (.t 115), none, .read, 0⟩, ⟨(some 117), .move (.t 0), none, .read, 0⟩, ⟨(some 118), .move (.t 12), none, .read, 0⟩, ⟨(some 119), .arith .sub (.t 118) (.c (.int .i64 1)), none, .read, 0⟩, ⟨(some 120), .indexAddr 2 (.t 117) (.t 119), none, .read, 0⟩, ⟨(some 121), .load (some 2) (.t 120), none, .read, 0⟩, ⟨(some 112), .move (.t 3), none, .read, 0⟩, ⟨(some 122), .call (.t 112) [(.t 116), (.t 121)], none, .write, 0⟩, ⟨(some 123), .arith .lss (.t 122) (.c (.int .i64 0)), none, .read, 1⟩, ⟨(some 124), .un .not (.t 123), none, .read, 1⟩])
 (.cond (.t 124) (.exit 6) .skip))
 (.draw [⟨(some 130), .move (.t 0), none, .read, 0⟩, ⟨(some 131), .move (.t 12), none, .read, 0⟩, ⟨(some 132), .arith .sub (.t 131) (.c (.int .i64 1)), none, .read, 0⟩, ⟨(some 133), .indexAddr 2 (.t 130) (.t 132), none, .read, 0⟩, ⟨(some 134), .load (some 2) (.t 133), none, .read, 0⟩, ⟨(some 135), .move (.t 0), none, .read, 0⟩, ⟨(some 136), .move (.t 12), none, .read, 0⟩, ⟨(some 137), .indexAddr 2 (.t 135) (.t 136), none, .read, 0⟩, ⟨(some 138), .load (some 2) (.t 137), none, .read, 0⟩, ⟨(some 125), .move (.t 0), none, .read, 0⟩, ⟨(some 126), .move (.t 12), none, .read, 0⟩, ⟨(some 139), .indexAddr 2 (.t 125) (.t 126), none, .read, 0⟩, ⟨none, .store 2 (.t 139) (.t 134), none, .write, 0⟩, ⟨(some 127), .move (.t 0), none, .read, 0⟩, ⟨(some 128), .move (.t 12), none, .read, 0⟩, ⟨(some 129), .arith .sub (.t 128) (.c (.int .i64 1)), none, .read, 0⟩, ⟨(some 140), .indexAddr 2 (.t 127) (.t 129), none, .read, 1⟩, ⟨none, .store 2 (.t 140) (.t 138), none, .write, 1⟩])))
 (.region [⟨(some 110), .move (.t 12), none, .write, 0⟩, ⟨(some 111), .arith .add (.t 110) (.c (.int .i64 1)), none, .write, 0⟩, ⟨(some 12), .move (.t 111), none, .write, 0⟩])))))) .skip))))))))
 (.region [⟨(some 17), .move (.t 10), none, .write, 0⟩, ⟨(some 18), .arith .add (.t 17) (.c (.int .i64 1)), none, .write, 0⟩, ⟨(some 10), .move (.t 18), none, .write, 0⟩]))))))
 (.seq (.region [⟨(some 8), .move (.c (.bool false)), none, .write, 0⟩])
 .ret)))) }

theorem c255 : compFunc Tryz.prog Tryz.f255 .full = some t255 := by kernel_rfl

/-- slices.partitionEqualCmpFunc[[2]int] -/
def t256 : DFunc := { ntmps := 90, results := [(.t 10)], mode := .full, body :=
 (.seq (.region [⟨(some 10), .move (.c (.int .i64 0)), none, .write, 0⟩])
 (.seq (.draw [⟨(some 17), .move (.t 0), none, .read, 0⟩, ⟨(some 18), .move (.t 3), none, .read, 0⟩, ⟨(some 19), .indexAddr 2 (.t 17) (.t 18), none, .read, 0⟩, ⟨(some 20), .load (some 2) (.t 19), none, .read, 0⟩, ⟨(some 21), .move (.t 0), none, .read, 0⟩, ⟨(some 22), .move (.t 1), none, .read, 0⟩, ⟨(some 23), .indexAddr 2 (.t 21) (.t 22), none, .read, 0⟩, ⟨(some 24), .load (some 2) (.t 23), none, .read, 0⟩, ⟨(some 13), .move (.t 0), none, .read, 0⟩, ⟨(some 14), .move (.t 1), none, .read, 0⟩, ⟨(some 25), .indexAddr 2 (.t 13) (.t 14), none, .read, 0⟩, ⟨none, .store 2 (.t 25) (.t 20), none, .write, 0⟩, ⟨(some 15), .move (.t 0), none, .read, 0⟩, ⟨(some 16), .move (.t 3), none, .read, 0⟩, ⟨(some 26), .indexAddr 2 (.t 15) (.t 16), none, .read, 1⟩, ⟨none, .store 2 (.t 26) (.t 24), none, .write, 1⟩])
 (.seq (.region [⟨(some 27), .move (.t 1), none, .write, 0⟩, ⟨(some 28), .arith .add (.t 27) (.c (.int .i64 1)), none, .write, 0⟩, ⟨(some 29), .move (.t 2), none, .write, 0⟩, ⟨(some 30), .arith .sub (.t 29) (.c (.int .i64 1)), none, .write, 0⟩, ⟨(some 11), .move (.t 28), none, .write, 0⟩, ⟨(some 12), .move (.t 30), none, .write, 0⟩])
 (.seq (.block 0 (.loop (.block 1 (.seq (.block 2 (.loop (.seq (.seq (.draw [⟨(some 31), .move (.t 11), none, .read, 0⟩, ⟨(some 32), .move (.t 12), none, .read, 0⟩, ⟨(some 33), .arith .leq (.t 31) (.t 32), none, .read, 0⟩, ⟨(some 34), .move (.t 33), none, .read, 0⟩, ⟨(some 36), .move (.t 0), (some (34, true)), .read, 0⟩, ⟨(some 37), .move (.t 1), (some (34, true)), .read, 0⟩, ⟨(some 38), .indexAddr 2 (.t 36) (.t 37), (some (34, true)), .read, 0⟩, ⟨(some 39), .load (some 2) (.t 38), (some (34, true)), .read, 0⟩, ⟨(some 40), .move (.t 0), (some (34, true)), .read, 0⟩, ⟨(some 41), .move (.t 11), (some (34, true)), .read, 0⟩, ⟨(some 42), .indexAddr 2 (.t 40) (.t 41), (some (34, true)), .read, 0⟩, ⟨(some 43), .load (some 2) (.t 42), (some (34, true)), .read, 0⟩, ⟨(some 35), .move (.t 4), (some (34, true)), .read, 0⟩, ⟨(some 44), .call (.t 35) [(.t 39), (.t 43)], (some (34, true)), .write, 0⟩, ⟨(some 45), .arith .lss (.t 44) (.c (.int .i64 0)), (some (34, true)), .read, 1⟩, ⟨(some 46), .un .not (.t 45), (some (34, true)), .read, 1⟩, ⟨(some 47), .pick (.t 34) (.t 46) (.c (.bool false)), none, .read, 1⟩])
 (.cond (.t 47) .skip (.exit 2)))
 (.block 3 (.region [⟨(some 48), .move (.t 11), none, .write, 0⟩, ⟨(some 49), .arith .add (.t 48) (.c (.int .i64 1)), none, .write, 0⟩, ⟨(some 11), .move (.t 49), none, .write, 0⟩])))))
 (.seq (.block 4 (.loop (.seq (.seq (.draw [⟨(some 50), .move (.t 11), none, .read, 0⟩, ⟨(some 51), .move (.t 12), none, .read, 0⟩, ⟨(some 52), .arith .leq (.t 50) (.t 51), none, .read, 0⟩, ⟨(some 53), .move (.t 52), none, .read, 0⟩, ⟨(some 55), .move (.t 0), (some (53, true)), .read, 0⟩, ⟨(some 56), .move (.t 1), (some (53, true)), .read, 0⟩, ⟨(some 57), .indexAddr 2 (.t 55) (.t 56), (some (53, true)), .read, 0⟩, ⟨(some 58), .load (some 2) (.t 57), (some (53, true)), .read, 0⟩, ⟨(some 59), .move (.t 0), (some (53, true)), .read, 0⟩, ⟨(some 60), .move (.t 12), (some (53, true)), .read, 0⟩, ⟨(some 61), .indexAddr 2 (.t 59) (.t 60), (some (53, true)), .read, 0⟩, ⟨(some 62), .load (some 2) (.t 61), (some (53, true)), .read, 0⟩, ⟨(some 54), .move (.t 4), (some (53, true)), .read, 0⟩, ⟨(some 63), .call (.t 54) [(.t 58), (.t 62)], (some (53, true)), .write, 0⟩, ⟨(some 64), .arith .lss (.t 63) (.c (.int .i64 0)), (some (53, true)), .read, 1⟩, ⟨(some 65), .pick (.t 53) (.t 64) (.c (.bool false)), none, .read, 1⟩])
 (.cond (.t 65) .skip (.exit 4)))
 (.block 5 (.region [⟨(some 66), .move (.t 12), none, .write, 0⟩, ⟨(some 67), .arith .sub (.t 66) (.c (.int .i64 1)), none, .write, 0⟩, ⟨(some 12), .move (.t 67), none, .write, 0⟩])))))
 (.seq (.seq (.region [⟨(some 68), .move (.t 11), none, .write, 0⟩, ⟨(some 69), .move (.t 12), none, .write, 0⟩, ⟨(some 70), .arith .gtr (.t 68) (.t 69), none, .write, 0⟩])
 (.cond (.t 70) (.exit 0) .skip))
 (.seq (.draw [⟨(some 75), .move (.t 0), none, .read, 0⟩, ⟨(some 76), .move (.t 12), none, .read, 0⟩, ⟨(some 77), .indexAddr 2 (.t 75) (.t 76), none, .read, 0⟩, ⟨(some 78), .load (some 2) (.t 77), none, .read, 0⟩, ⟨(some 79), .move (.t 0), none, .read, 0⟩, ⟨(some 80), .move (.t 11), none, .read, 0⟩, ⟨(some 81), .indexAddr 2 (.t 79) (.t 80), none, .read, 0⟩, ⟨(some 82), .load (some 2) (.t 81), none, .read, 0⟩, ⟨(some 71), .move (.t 0), none, .read, 0⟩, ⟨(some 72), .move (.t 11), none, .read, 0⟩, ⟨(some 83), .indexAddr 2 (.t 71) (.t 72), none, .read, 0⟩, ⟨none, .store 2 (.t 83) (.t 78), none, .write, 0⟩, ⟨(some 73), .move (.t 0), none, .read, 0⟩, ⟨(some 74), .move (.t 12), none, .read, 0⟩, ⟨(some 84), .indexAddr 2 (.t 73) (.t 74), none, .read, 1⟩, ⟨none, .store 2 (.t 84) (.t 82), none, .write, 1⟩])
 (.seq (.region [⟨(some 85), .move (.t 11), none, .write, 0⟩, ⟨(some 86), .arith .add (.t 85) (.c (.int .i64 1)), none, .write, 0⟩, ⟨(some 11), .move (.t 86), none, .write, 0⟩])
 (.region [⟨(some 87), .move (.t 12), none, .write, 0⟩, ⟨(some 88), .arith .sub (.t 87) (.c (.int .i64 1)), none, .write, 0⟩, ⟨(some 12), .move (.t 88), none, .write, 0⟩])))))))))
 (.seq (.region [⟨(some 89), .move (.t 11), none, .write, 0⟩, ⟨(some 10), .move (.t 89), none, .write, 0⟩])
 .ret))))) }

theorem c256 : compFunc Tryz.prog Tryz.f256 .full = some t256 := by kernel_rfl

/-- slices.partitionCmpFunc[[2]int] -/
def t257 : DFunc := { ntmps := 178, results := [(.t 10), (.t 11)], mode := .full, body :=
 (.seq (.region [⟨(some 10), .move (.c (.int .i64 0)), none, .write, 0⟩, ⟨(some 11), .move (.c (.bool false)), none, .write, 0⟩])
 (.seq (.draw [⟨(some 18), .move (.t 0), none, .read, 0⟩, ⟨(some 19), .move (.t 3), none, .read, 0⟩, ⟨(some 20), .indexAddr 2 (.t 18) (.t 19), none, .read, 0⟩, ⟨(some 21), .load (some 2) (.t 20), none, .read, 0⟩, ⟨(some 22), .move (.t 0), none, .read, 0⟩, ⟨(some 23), .move (.t 1), none, .read, 0⟩, ⟨(some 24), .indexAddr 2 (.t 22) (.t 23), none, .read, 0⟩, ⟨(some 25), .load (some 2) (.t 24), none, .read, 0⟩, ⟨(some 14), .move (.t 0), none, .read, 0⟩, ⟨(some 15), .move (.t 1), none, .read, 0⟩, ⟨(some 26), .indexAddr 2 (.t 14) (.t 15), none, .read, 0⟩, ⟨none, .store 2 (.t 26) (.t 21), none, .write, 0⟩, ⟨(some 16), .move (.t 0), none, .read, 0⟩, ⟨(some 17), .move (.t 3), none, .read, 0⟩, ⟨(some 27), .indexAddr 2 (.t 16) (.t 17), none, .read, 1⟩, ⟨none, .store 2 (.t 27) (.t 25), none, .write, 1⟩])
 (.seq (.region [⟨(some 28), .move (.t 1), none, .write, 0⟩, ⟨(some 29), .arith .add (.t 28) (.c (.int .i64 1)), none, .write, 0⟩, ⟨(some 30), .move (.t 2), none, .write, 0⟩, ⟨(some 31), .arith .sub (.t 30) (.c (.int .i64 1)), none, .write, 0⟩, ⟨(some 12), .move (.t 29), none, .write, 0⟩, ⟨(some 13), .move (.t 31), none, .write, 0⟩])
 (.seq (.block 0 (.loop (.seq (.seq (.draw [⟨(some 32), .move (.t 12), none, .read, 0⟩, ⟨(some 33), .move (.t 13), none, .read, 0⟩, ⟨(some 34), .arith .leq (.t 32) (.t 33), none, .read, 0⟩, ⟨(some 35), .move (.t 34), none, .read, 0⟩, ⟨(some 37), .move (.t 0), (some (35, true)), .read, 0⟩, ⟨(some 38), .move (.t 12), (some (35, true)), .read, 0⟩, ⟨(some 39), .indexAddr 2 (.t 37) (.t 38), (some (35, true)), .read, 0⟩, ⟨(some 40), .load (some 2) (.t 39), (some (35, true)), .read, 0⟩, ⟨(some 41), .move (.t 0), (some (35, true)), .read, 0⟩, ⟨(some 42), .move (.t 1), (some (35, true)), .read, 0⟩, ⟨(some 43), .indexAddr 2 (.t 41) (.t 42), (some (35, true)), .read, 0⟩, ⟨(some 44), .load (some 2) (.t 43), (some (35, true)), .read, 0⟩, ⟨(some 36), .move (.t 4), (some (35, true)), .read, 0⟩, ⟨(some 45), .call (.t 36) [(.t 40), (.t 44)], (some (35, true)), .write, 0⟩, ⟨(some 46), .arith .lss (.t 45) (.c (.int .i64 0)), (some (35, true)), .read, 1⟩, ⟨(some 47), .pick (.t 35) (.t 46) (.c (.bool false)), none, .read, 1⟩])
 (.cond (.t 47) .skip (.exit 0)))
 (.block 1 (.region [⟨(some 48), .move (.t 12), none, .write, 0⟩, ⟨(some 49), .arith .add (.t 48) (.c (.int .i64 1)), none, .write, 0⟩, ⟨(some 12), .move (.t 49), none, .write, 0⟩])))))
 (.seq (.block 2 (.loop (.seq (.seq (.draw [⟨(some 50), .move (.t 12), none, .read, 0⟩, ⟨(some 51), .move (.t 13), none, .read, 0⟩, ⟨(some 52), .arith .leq (.t 50) (.t 51), none, .read, 0⟩, ⟨(some 53), .move (.t 52), none, .read, 0⟩, ⟨(some 55), .move (.t 0), (some (53, true)), .read, 0⟩, ⟨(some 56), .move (.t 13), (some (53, true)), .read, 0⟩, ⟨(some 57), .indexAddr 2 (.t 55) (.t 56), (some (53, true)), .read, 0⟩, ⟨(some 58), .load (some 2) (.t 57), (some (53, true)), .read, 0⟩, ⟨(some 59), .move (.t 0), (some (53, true)), .read, 0⟩, ⟨(some 60), .move (.t 1), (some (53, true)), .read, 0⟩, ⟨(some 61), .indexAddr 2 (.t 59) (.t 60), (some (53, true)), .read, 0⟩, ⟨(some 62), .load (some 2) (.t 61), (some (53, true)), .read, 0⟩, ⟨(some 54), .move (.t 4), (some (53, true)), .read, 0⟩, ⟨(some 63), .call (.t 54) [(.t 58), (.t 62)], (some (53, true)), .write, 0⟩, ⟨(some 64), .arith .lss (.t 63) (.c (.int .i64 0)), (some (53, true)), .read, 1⟩, ⟨(some 65), .un .not (.t 64), (some (53, true)), .read, 1⟩, ⟨(some 66), .pick (.t 53) (.t 65) (.c (.bool false)), none, .read, 1⟩])
 (.cond (.t 66) .skip (.exit 2)))
 (.block 3 (.region [⟨(some 67), .move (.t 13), none, .write, 0⟩, ⟨(some 68), .arith .sub (.t 67) (.c (.int .i64 1)), none, .write, 0⟩, ⟨(some 13), .move (.t 68), none, .write, 0⟩])))))
 (.seq (.seq (.region [⟨(some 69), .move (.t 12), none, .write, 0⟩, ⟨(some 70), .move (.t 13), none, .write, 0⟩, ⟨(some 71), .arith .gtr (.t 69) (.t 70), none, .write, 0⟩])
 (.cond (.t 71) (.seq (.draw [⟨(some 76), .move (.t 0), none, .read, 0⟩, ⟨(some 77), .move (.t 1), none, .read, 0⟩, ⟨(some 78), .indexAddr 2 (.t 76) (.t 77), none, .read, 0⟩, ⟨(some 79), .load (some 2) (.t 78), none, .read, 0⟩, ⟨(some 80), .move (.t 0), none, .read, 0⟩, ⟨(some 81), .move (.t 13), none, .read, 0⟩, ⟨(some 82), .indexAddr 2 (.t 80) (.t 81), none, .read, 0⟩, ⟨(some 83), .load (some 2) (.t 82), none, .read, 0⟩, ⟨(some 72), .move (.t 0), none, .read, 0⟩, ⟨(some 73), .move (.t 13), none, .read, 0⟩, ⟨(some 84), .indexAddr 2 (.t 72) (.t 73), none, .read, 0⟩, ⟨none, .store 2 (.t 84) (.t 79), none, .write, 0⟩, ⟨(some 74), .move (.t 0), none, .read, 0⟩, ⟨(some 75), .move (.t 1), none, .read, 0⟩, ⟨(some 85), .indexAddr 2 (.t 74) (.t 75), none, .read, 1⟩, ⟨none, .store 2 (.t 85) (.t 83), none, .write, 1⟩])
 (.seq (.region [⟨(some 86), .move (.t 13), none, .write, 0⟩, ⟨(some 10), .move (.t 86), none, .write, 0⟩, ⟨(some 11), .move (.c (.bool true)), none, .write, 0⟩])
 .ret)) .skip))
 (.seq (.draw [⟨(some 91), .move (.t 0), none, .read, 0⟩, ⟨(some 92), .move (.t 13), none, .read, 0⟩, ⟨(some 93), .indexAddr 2 (.t 91) (.t 92), none, .read, 0⟩, ⟨(some 94), .load (some 2) (.t 93), none, .read, 0⟩, ⟨(some 95), .move (.t 0), none, .read, 0⟩, ⟨(some 96), .move (.t 12), none, .read, 0⟩, ⟨(some 97), .indexAddr 2 (.t 95) (.t 96), none, .read, 0⟩, ⟨(some 98), .load (some 2) (.t 97), none, .read, 0⟩, ⟨(some 87), .move (.t 0), none, .read, 0⟩, ⟨(some 88), .move (.t 12), none, .read, 0⟩, ⟨(some 99), .indexAddr 2 (.t 87) (.t 88), none, .read, 0⟩, ⟨none, .store 2 (.t 99) (.t 94), none, .write, 0⟩, ⟨(some 89), .move (.t 0), none, .read, 0⟩, ⟨(some 90), .move (.t 13), none, .read, 0⟩, ⟨(some 100), .indexAddr 2 (.t 89) (.t 90), none, .read, 1⟩, ⟨none, .store 2 (.t 100) (.t 98), none, .write, 1⟩])
 (.seq (.region [⟨(some 101), .move (.t 12), none, .write, 0⟩, ⟨(some 102), .arith .add (.t 101) (.c (.int .i64 1)), none, .write, 0⟩, ⟨(some 12), .move (.t 102), none, .write, 0⟩])
 (.seq (.region [⟨(some 103), .move (.t 13), none, .write, 0⟩, ⟨(some 104), .arith .sub (.t 103) (.c (.int .i64 1)), none, .write, 0⟩, ⟨(some 13), .move (.t 104), none, .write, 0⟩])
 (.seq (.block 4 (.loop (.block 5 (.seq (.block 6 (.loop (.seq (.seq (.draw [⟨(some 105), .move (.t 12), none, .read, 0⟩, ⟨(some 106), .move (.t 13), none, .read, 0⟩, ⟨(some 107), .arith .leq (.t 105) (.t 106), none, .read, 0⟩, ⟨(some 108), .move (.t 107), none, .read, 0⟩, ⟨(some 110), .move (.t 0), (some (108, true)), .read, 0⟩, ⟨(some 111), .move (.t 12), (some (108, true)), .read, 0⟩, ⟨(some 112), .indexAddr 2 (.t 110) (.t 111), (some (108, true)), .read, 0⟩, ⟨(some 113), .load (some 2) (.t 112), (some (108, true)), .read, 0⟩, ⟨(some 114), .move (.t 0), (some (108, true)), .read, 0⟩, ⟨(some 115), .move (.t 1), (some (108, true)), .read, 0⟩, ⟨(some 116), .indexAddr 2 (.t 114) (.t 115), (some (108, true)), .read, 0⟩, ⟨(some 117), .load (some 2) (.t 116), (some (108, true)), .read, 0⟩, ⟨(some 109), .move (.t 4), (some (108, true)), .read, 0⟩, ⟨(some 118), .call (.t 109) [(.t 113), (.t 117)], (some (108, true)), .write, 0⟩, ⟨(some 119), .arith .lss (.t 118) (.c (.int .i64 0)), (some (108, true)), .read, 1⟩, ⟨(some 120), .pick (.t 108) (.t 119) (.c (.bool false)), none, .read, 1⟩])
 (.cond (.t 120) .skip (.exit 6)))
 (.block 7 (.region [⟨(some 121), .move (.t 12), none, .write, 0⟩, ⟨(some 122), .arith .add (.t 121) (.c (.int .i64 1)), none, .write, 0⟩, ⟨(some 12), .move (.t 122), none, .write, 0⟩])))))
 (.seq (.block 8 (.loop (.seq (.seq (.draw [⟨(some 123), .move (.t 12), none, .read, 0⟩, ⟨(some 124), .move (.t 13), none, .read, 0⟩, ⟨(some 125), .arith .leq (.t 123) (.t 124), none, .read, 0⟩, ⟨(some 126), .move (.t 125), none, .read, 0⟩, ⟨(some 128), .move (.t 0), (some (126, true)), .read, 0⟩, ⟨(some 129), .move (.t 13), (some (126, true)), .read, 0⟩, ⟨(some 130), .indexAddr 2 (.t 128) (.t 129), (some (126, true)), .read, 0⟩, ⟨(some 131), .load (some 2) (.t 130), (some (126, true)), .read, 0⟩, ⟨(some 132), .move (.t 0), (some (126, true)), .read, 0⟩, ⟨(some 133), .move (.t 1), (some (126, true)), .read, 0⟩, ⟨(some 134), .indexAddr 2 (.t 132) (.t 133), (some (126, true)), .read, 0⟩, ⟨(some 135), .load (some 2) (.t 134), (some (126, true)), .read, 0⟩, ⟨(some 127), .move (.t 4), (some (126, true)), .read, 0⟩, ⟨(some 136), .call (.t 127) [(.t 131), (.t 135)], (some (126, true)), .write, 0⟩, ⟨(some 137), .arith .lss (.t 136) (.c (.int .i64 0)), (some (126, true)), .read, 1⟩, ⟨(some 138), .un .not (.t 137), (some (126, true)), .read, 1⟩, ⟨(some 139), .pick (.t 126) (.t 138) (.c (.bool false)), none, .read, 1⟩])
 (.cond (.t 139) .skip (.exit 8)))
 (.block 9 (.region [⟨(some 140), .move (.t 13), none, .write, 0⟩, ⟨(some 141), .arith .sub (.t 140) (.c (.int .i64 1)), none, .write, 0⟩, ⟨(some 13), .move (.t 141), none, .write, 0⟩])))))
 (.seq (.seq (.region [⟨(some 142), .move (.t 12), none, .write, 0⟩, ⟨(some 143), .move (.t 13), none, .write, 0⟩, ⟨(some 144), .arith .gtr (.t 142) (.t 143), none, .write, 0⟩])
 (.cond (.t 144) (.exit 4) .skip))
 (.seq (.draw [⟨(some 149), .move (.t 0), none, .read, 0⟩, ⟨(some 150), .move (.t 13), none, .read, 0⟩, ⟨(some 151), .indexAddr 2 (.t 149) (.t 150), none, .read, 0⟩, ⟨(some 152), .load (some 2) (.t 151), none, .read, 0⟩, ⟨(some 153), .move (.t 0), none, .read, 0⟩, ⟨(some 154), .move (.t 12), none, .read, 0⟩, ⟨(some 155), .indexAddr 2 (.t 153) (.t 154), none, .read, 0⟩, ⟨(some 156), .load (some 2) (.t 155), none, .read, 0⟩, ⟨(some 145), .move (.t 0), none, .read, 0⟩, ⟨(some 146), .move (.t 12), none, .read, 0⟩, ⟨(some 157), .indexAddr 2 (.t 145) (.t 146), none, .read, 0⟩, ⟨none, .store 2 (.t 157) (.t 152), none, .write, 0⟩, ⟨(some 147), .move (.t 0), none, .read, 0⟩, ⟨(some 148), .move (.t 13), none, .read, 0⟩, ⟨(some 158), .indexAddr 2 (.t 147) (.t 148), none, .read, 1⟩, ⟨none, .store 2 (.t 158) (.t 156), none, .write, 1⟩])
 (.seq (.region [⟨(some 159), .move (.t 12), none, .write, 0⟩, ⟨(some 160), .arith .add (.t 159) (.c (.int .i64 1)), none, .write, 0⟩, ⟨(some 12), .move (.t 160), none, .write, 0⟩])
 (.region [⟨(some 161), .move (.t 13), none, .write, 0⟩, ⟨(some 162), .arith .sub (.t 161) (.c (.int .i64 1)), none, .write, 0⟩, ⟨(some 13), .move (.t 162), none, .write, 0⟩])))))))))
 (.seq (.draw [⟨(some 167), .move (.t 0), none, .read, 0⟩, ⟨(some 168), .move (.t 1), none, .read, 0⟩, ⟨(some 169), .indexAddr 2 (.t 167) (.t 168), none, .read, 0⟩, ⟨(some 170), .load (some 2) (.t 169), none, .read, 0⟩, ⟨(some 171), .move (.t 0), none, .read, 0⟩, ⟨(some 172), .move (.t 13), none, .read, 0⟩, ⟨(some 173), .indexAddr 2 (.t 171) (.t 172), none, .read, 0⟩, ⟨(some 174), .load (some 2) (.t 173), none, .read, 0⟩, ⟨(some 163), .move (.t 0), none, .read, 0⟩, ⟨(some 164), .move (.t 13), none, .read, 0⟩, ⟨(some 175), .indexAddr 2 (.t 163) (.t 164), none, .read, 0⟩, ⟨none, .store 2 (.t 175) (.t 170), none, .write, 0⟩, ⟨(some 165), .move (.t 0), none, .read, 0⟩, ⟨(some 166), .move (.t 1), none, .read, 0⟩, ⟨(some 176), .indexAddr 2 (.t 165) (.t 166), none, .read, 1⟩, ⟨none, .store 2 (.t 176) (.t 174), none, .write, 1⟩])
 (.seq (.region [⟨(some 177), .move (.t 13), none, .write, 0⟩, ⟨(some 10), .move (.t 177), none, .write, 0⟩, ⟨(some 11), .move (.c (.bool false)), none, .write, 0⟩])
 .ret)))))))))))) }

theorem c257 : compFunc Tryz.prog Tryz.f257 .full = some t257 := by kernel_rfl

/-- slices.BinarySearchFunc[[]broadside/api.Constraint,broadside/api.Constraint,string] -/
def t258 : DFunc := { ntmps := 49, results := [(.t 6), (.t 7)], mode := .full, body :=
 (.seq (.region [⟨(some 6), .move (.c (.int .i64 0)), none, .write, 0⟩, ⟨(some 7), .move (.c (.bool false)), none, .write, 0⟩])
 (.seq (.region [⟨(some 12), .move (.t 0), none, .write, 0⟩, ⟨(some 13), .len 1 (.t 12), none, .write, 0⟩, ⟨(some 8), .move (.t 13), none, .write, 0⟩])
 (.seq (.region [⟨(some 14), .move (.t 8), none, .write, 0⟩, ⟨(some 9), .move (.c (.int .i64 0)), none, .write, 0⟩, ⟨(some 10), .move (.t 14), none, .write, 0⟩])
 (.seq (.block 0 (.loop (.seq (.seq (.region [⟨(some 15), .move (.t 9), none, .write, 0⟩, ⟨(some 16), .move (.t 10), none, .write, 0⟩, ⟨(some 17), .arith .lss (.t 15) (.t 16), none, .write, 0⟩])
 (.cond (.t 17) .skip (.exit 0)))
 (.block 1 (.seq (.region [⟨(some 18), .move (.t 9), none, .write, 0⟩, ⟨(some 19), .move (.t 10), none, .write, 0⟩, ⟨(some 20), .arith .add (.t 18) (.t 19), none, .write, 0⟩, ⟨(some 21), .conv .u64 (.t 20), none, .write, 0⟩, ⟨(some 22), .arith .shr (.t 21) (.c (.int .u64 1)), none, .write, 0⟩, ⟨(some 23), .conv .i64 (.t 22), none, .write, 0⟩, ⟨(some 11), .move (.t 23), none, .write, 0⟩])
 (.seq (.region [⟨(some 24), .move (.t 2), none, .write, 0⟩, ⟨(some 25), .move (.t 0), none, .write, 0⟩, ⟨(some 26), .move (.t 11), none, .write, 0⟩, ⟨(some 27), .indexAddr 5 (.t 25) (.t 26), none, .write, 0⟩, ⟨(some 28), .load (some 5) (.t 27), none, .write, 0⟩, ⟨(some 29), .move (.t 1), none, .write, 0⟩, ⟨(some 30), .call (.t 24) [(.t 28), (.t 29)], none, .write, 0⟩, ⟨(some 31), .arith .lss (.t 30) (.c (.int .i64 0)), none, .write, 0⟩])
 (.cond (.t 31) (.region [⟨(some 32), .move (.t 11), none, .write, 0⟩, ⟨(some 33), .arith .add (.t 32) (.c (.int .i64 1)), none, .write, 0⟩, ⟨(some 9), .move (.t 33), none, .write, 0⟩]) (.region [⟨(some 34), .move (.t 11), none, .write, 0⟩, ⟨(some 10), .move (.t 34), none, .write, 0⟩]))))))))
 (.seq (.region [⟨(some 35), .move (.t 9), none, .write, 0⟩, ⟨(some 36), .move (.t 9), none, .write, 0⟩, ⟨(some 37), .move (.t 8), none, .write, 0⟩, ⟨(some 38), .arith .lss (.t 36) (.t 37), none, .write, 0⟩, ⟨(some 39), .move (.t 38), none, .write, 0⟩, ⟨(some 40), .move (.t 2), (some (39, true)), .write, 0⟩, ⟨(some 41), .move (.t 0), (some (39, true)), .write, 0⟩, ⟨(some 42), .move (.t 9), (some (39, true)), .write, 0⟩, ⟨(some 43), .indexAddr 5 (.t 41) (.t 42), (some (39, true)), .write, 0⟩, ⟨(some 44), .load (some 5) (.t 43), (some (39, true)), .write, 0⟩, ⟨(some 45), .move (.t 1), (some (39, true)), .write, 0⟩, ⟨(some 46), .call (.t 40) [(.t 44), (.t 45)], (some (39, true)), .write, 0⟩, ⟨(some 47), .arith .eql (.t 46) (.c (.int .i64 0)), (some (39, true)), .write, 0⟩, ⟨(some 48), .pick (.t 39) (.t 47) (.c (.bool false)), none, .write, 0⟩, ⟨(some 6), .move (.t 35), none, .write, 0⟩, ⟨(some 7), .move (.t 48), none, .write, 0⟩])
 .ret))))) }

theorem c258 : compFunc Tryz.prog Tryz.f258 .full = some t258 := by kernel_rfl

/-- broadside/pred.Make$1 -/
def t259 : DFunc := { ntmps := 9, results := [(.t 4)], mode := .full, body :=
 (.seq (.region [⟨(some 2), .box 288 5 (.t 0), none, .write, 0⟩, ⟨(some 4), .move (.c (.int .i64 0)), none, .write, 0⟩])
 (.seq (.region [⟨(some 5), .fieldAddr 0 (.t 2), none, .write, 0⟩, ⟨(some 6), .load none (.t 5), none, .write, 0⟩, ⟨(some 7), .move (.t 1), none, .write, 0⟩, ⟨(some 8), .call (.c (.func 260 [])) [(.t 6), (.t 7)], none, .write, 0⟩, ⟨(some 4), .move (.t 8), none, .write, 0⟩])
 .ret)) }

theorem c259 : compFunc Tryz.prog Tryz.f259 .full = some t259 := by kernel_rfl

/-- strings.Compare -/
def t260 : DFunc := { ntmps := 8, results := [(.t 4)], mode := .full, body :=
 (.seq (.region [⟨(some 4), .move (.c (.int .i64 0)), none, .write, 0⟩])
 (.seq (.region [⟨(some 5), .move (.t 0), none, .write, 0⟩, ⟨(some 6), .move (.t 1), none, .write, 0⟩, ⟨(some 7), .call (.c (.func 315 [])) [(.t 5), (.t 6)], none, .write, 0⟩, ⟨(some 4), .move (.t 7), none, .write, 0⟩])
 .ret)) }

theorem c260 : compFunc Tryz.prog Tryz.f260 .full = some t260 := by kernel_rfl

/-- broadside/pred.Both -/
def t261 : DFunc := { ntmps := 69, results := [(.cell 4 (some 5)), (.t 5)], mode := .full, body :=
 (.seq (.region [⟨(some 2), .box 288 5 (.t 0), none, .write, 0⟩, ⟨(some 3), .box 288 5 (.t 1), none, .write, 0⟩, ⟨(some 4), .alloc 288 5 (.agg [(.str []), (.int .i64 0), (.int .i64 0), (.int .i64 0), (.str [])]), none, .write, 0⟩, ⟨(some 5), .move (.c (.bool false)), none, .write, 0⟩])
 (.seq (.region [⟨(some 7), .build [(.str []), (.int .i64 0), (.int .i64 0), (.int .i64 0), (.str [])] [], none, .write, 0⟩, ⟨(some 6), .alloc 288 5 (.agg [(.str []), (.int .i64 0), (.int .i64 0), (.int .i64 0), (.str [])]), none, .write, 0⟩, ⟨none, .store 5 (.t 6) (.t 7), none, .write, 0⟩])
 (.seq (.seq (.region [⟨(some 8), .fieldAddr 1 (.t 2), none, .write, 0⟩, ⟨(some 9), .load none (.t 8), none, .write, 0⟩, ⟨(some 10), .fieldAddr 1 (.t 3), none, .write, 0⟩, ⟨(some 11), .load none (.t 10), none, .write, 0⟩, ⟨(some 12), .arith .gtr (.t 9) (.t 11), none, .write, 0⟩])
 (.cond (.t 12) (.region [⟨(some 13), .load (some 5) (.t 3), none, .write, 0⟩, ⟨(some 14), .load (some 5) (.t 2), none, .write, 0⟩, ⟨none, .store 5 (.t 2) (.t 13), none, .write, 0⟩, ⟨none, .store 5 (.t 3) (.t 14), none, .write, 0⟩]) .skip))
 (.seq (.seq (.region [⟨(some 15), .fieldAddr 1 (.t 2), none, .write, 0⟩, ⟨(some 16), .load none (.t 15), none, .write, 0⟩])
 (.block 0 (.seq (.block 3 (.seq (.block 2 (.seq (.block 1 (.seq (.seq (.seq (.region [⟨(some 18), .arith .eql (.t 16) (.c (.int .i64 1)), none, .write, 0⟩, ⟨(some 17), .move (.t 18), none, .write, 0⟩])
 (.cond (.t 17) (.exit 1) .skip))
 (.seq (.seq (.region [⟨(some 20), .arith .eql (.t 16) (.c (.int .i64 3)), none, .write, 0⟩, ⟨(some 19), .move (.t 20), none, .write, 0⟩])
 (.cond (.t 19) (.exit 2) .skip))
 (.seq (.region [⟨(some 22), .arith .eql (.t 16) (.c (.int .i64 2)), none, .write, 0⟩, ⟨(some 21), .move (.t 22), none, .write, 0⟩])
 (.cond (.t 21) (.exit 3) .skip))))
 (.exit 0)))
 (.seq (.seq (.seq (.region [⟨(some 23), .fieldAddr 1 (.t 3), none, .write, 0⟩, ⟨(some 24), .load none (.t 23), none, .write, 0⟩, ⟨(some 25), .arith .neq (.t 24) (.c (.int .i64 1)), none, .write, 0⟩, ⟨(some 26), .move (.t 25), none, .write, 0⟩, ⟨(some 27), .fieldAddr 2 (.t 2), (some (26, false)), .write, 0⟩, ⟨(some 28), .load none (.t 27), (some (26, false)), .write, 0⟩, ⟨(some 29), .fieldAddr 2 (.t 3), (some (26, false)), .write, 0⟩, ⟨(some 30), .load none (.t 29), (some (26, false)), .write, 0⟩, ⟨(some 31), .minmax true (.t 28) (.t 30), (some (26, false)), .write, 0⟩, ⟨(some 32), .fieldAddr 3 (.t 2), (some (26, false)), .write, 0⟩, ⟨(some 33), .load none (.t 32), (some (26, false)), .write, 0⟩, ⟨(some 34), .fieldAddr 3 (.t 3), (some (26, false)), .write, 0⟩, ⟨(some 35), .load none (.t 34), (some (26, false)), .write, 0⟩, ⟨(some 36), .minmax false (.t 33) (.t 35), (some (26, false)), .write, 0⟩, ⟨(some 37), .arith .gtr (.t 31) (.t 36), (some (26, false)), .write, 0⟩, ⟨(some 38), .pick (.t 26) (.c (.bool true)) (.t 37), none, .write, 0⟩])
 (.cond (.t 38) (.seq (.region [⟨(some 39), .load (some 5) (.t 6), none, .write, 0⟩, ⟨none, .store 5 (.t 4) (.t 39), none, .write, 0⟩, ⟨(some 5), .move (.c (.bool false)), none, .write, 0⟩])
 .ret) .skip))
 (.seq (.draw [⟨(some 40), .fieldAddr 2 (.t 2), none, .read, 0⟩, ⟨(some 41), .load none (.t 40), none, .read, 0⟩, ⟨(some 42), .fieldAddr 2 (.t 3), none, .read, 0⟩, ⟨(some 43), .load none (.t 42), none, .read, 0⟩, ⟨(some 45), .fieldAddr 3 (.t 2), none, .read, 0⟩, ⟨(some 46), .load none (.t 45), none, .read, 0⟩, ⟨(some 47), .fieldAddr 3 (.t 3), none, .read, 0⟩, ⟨(some 48), .load none (.t 47), none, .read, 0⟩, ⟨(some 44), .minmax true (.t 41) (.t 43), none, .read, 0⟩, ⟨(some 50), .fieldAddr 2 (.t 2), none, .read, 0⟩, ⟨none, .store 1 (.t 50) (.t 44), none, .create, 0⟩, ⟨(some 49), .minmax false (.t 46) (.t 48), none, .read, 0⟩, ⟨(some 51), .fieldAddr 3 (.t 2), none, .read, 1⟩, ⟨none, .store 1 (.t 51) (.t 49), none, .write, 1⟩])
 (.seq (.region [⟨(some 52), .load (some 5) (.t 2), none, .write, 0⟩, ⟨none, .store 5 (.t 4) (.t 52), none, .write, 0⟩, ⟨(some 5), .move (.c (.bool true)), none, .write, 0⟩])
 .ret)))
 (.exit 0))))
 (.seq (.region [⟨(some 53), .fieldAddr 4 (.t 2), none, .write, 0⟩, ⟨(some 54), .load none (.t 53), none, .write, 0⟩, ⟨(some 55), .len 0 (.t 54), none, .write, 0⟩, ⟨(some 56), .fieldAddr 4 (.t 3), none, .write, 0⟩, ⟨(some 57), .load none (.t 56), none, .write, 0⟩, ⟨(some 58), .len 0 (.t 57), none, .write, 0⟩, ⟨(some 59), .arith .lss (.t 55) (.t 58), none, .write, 0⟩])
 (.cond (.t 59) (.region [⟨(some 60), .load (some 5) (.t 3), none, .write, 0⟩, ⟨(some 61), .load (some 5) (.t 2), none, .write, 0⟩, ⟨none, .store 5 (.t 2) (.t 60), none, .write, 0⟩, ⟨none, .store 5 (.t 3) (.t 61), none, .write, 0⟩]) .skip))))
 (.seq (.seq (.draw [⟨(some 62), .load (some 5) (.t 3), none, .read, 0⟩, ⟨(some 63), .fieldAddr 4 (.t 2), none, .read, 0⟩, ⟨(some 64), .load none (.t 63), none, .read, 0⟩, ⟨(some 65), .call (.c (.func 316 [])) [(.t 64)], none, .create, 0⟩, ⟨(some 66), .call (.c (.func 305 [])) [(.t 62), (.t 65)], none, .write, 1⟩])
 (.cond (.t 66) (.seq (.region [⟨(some 67), .load (some 5) (.t 2), none, .write, 0⟩, ⟨none, .store 5 (.t 4) (.t 67), none, .write, 0⟩, ⟨(some 5), .move (.c (.bool true)), none, .write, 0⟩])
 .ret) .skip))
 (.exit 0)))))
 (.seq (.region [⟨(some 68), .load (some 5) (.t 6), none, .write, 0⟩, ⟨none, .store 5 (.t 4) (.t 68), none, .write, 0⟩, ⟨(some 5), .move (.c (.bool false)), none, .write, 0⟩])
 .ret))))) }

theorem c261 : compFunc Tryz.prog Tryz.f261 .full = some t261 := by kernel_rfl

/-- slices.Insert[[]broadside/api.Constraint,broadside/api.Constraint] -/
def t262 : DFunc := { ntmps := 95, results := [(.t 6)], mode := .split, body :=
 (.seq (.region [⟨(some 6), .move (.c .nsl), none, .write, 0⟩])
 (.seq (.region [⟨(some 10), .move (.t 0), none, .write, 0⟩, ⟨(some 11), .move (.t 1), none, .write, 0⟩, ⟨(some 12), .sliceSl 5 (.t 10) (some (.t 11)) none, none, .write, 0⟩])
 (.seq (.region [⟨(some 13), .move (.t 2), none, .write, 0⟩, ⟨(some 14), .len 1 (.t 13), none, .write, 0⟩, ⟨(some 7), .move (.t 14), none, .write, 0⟩])
 (.seq (.seq (.region [⟨(some 15), .move (.t 7), none, .write, 0⟩, ⟨(some 16), .arith .eql (.t 15) (.c (.int .i64 0)), none, .write, 0⟩])
 (.cond (.t 16) (.seq (.region [⟨(some 17), .move (.t 0), none, .write, 0⟩, ⟨(some 6), .move (.t 17), none, .write, 0⟩])
 .ret) .skip))
 (.seq (.region [⟨(some 18), .move (.t 0), none, .write, 0⟩, ⟨(some 19), .len 1 (.t 18), none, .write, 0⟩, ⟨(some 8), .move (.t 19), none, .write, 0⟩])
 (.seq (.seq (.region [⟨(some 20), .move (.t 1), none, .write, 0⟩, ⟨(some 21), .move (.t 8), none, .write, 0⟩, ⟨(some 22), .arith .eql (.t 20) (.t 21), none, .write, 0⟩])
 (.cond (.t 22) (.seq (.region [⟨(some 23), .move (.t 0), none, .write, 0⟩, ⟨(some 24), .move (.t 2), none, .write, 0⟩, ⟨(some 25), .append 288 5 56 (.t 23) (.t 24), none, .write, 0⟩, ⟨(some 6), .move (.t 25), none, .write, 0⟩])
 .ret) .skip))
 (.seq (.seq (.region [⟨(some 26), .move (.t 8), none, .write, 0⟩, ⟨(some 27), .move (.t 7), none, .write, 0⟩, ⟨(some 28), .arith .add (.t 26) (.t 27), none, .write, 0⟩, ⟨(some 29), .move (.t 0), none, .write, 0⟩, ⟨(some 30), .cap (.t 29), none, .write, 0⟩, ⟨(some 31), .arith .gtr (.t 28) (.t 30), none, .write, 0⟩])
 (.cond (.t 31) (.seq (.region [⟨(some 32), .move (.t 0), none, .write, 0⟩, ⟨(some 33), .move (.t 1), none, .write, 0⟩, ⟨(some 34), .sliceSl 5 (.t 32) none (some (.t 33)), none, .write, 0⟩, ⟨(some 35), .move (.t 8), none, .write, 0⟩, ⟨(some 36), .move (.t 7), none, .write, 0⟩, ⟨(some 37), .arith .add (.t 35) (.t 36), none, .write, 0⟩, ⟨(some 38), .move (.t 1), none, .write, 0⟩, ⟨(some 39), .arith .sub (.t 37) (.t 38), none, .write, 0⟩, ⟨(some 40), .appendZ 288 5 56 (.agg [(.str []), (.int .i64 0), (.int .i64 0), (.int .i64 0), (.str [])]) (.t 34) (.t 39), none, .write, 0⟩, ⟨(some 9), .move (.t 40), none, .write, 0⟩])
 (.seq (.region [⟨(some 41), .move (.t 9), none, .write, 0⟩, ⟨(some 42), .move (.t 1), none, .write, 0⟩, ⟨(some 43), .sliceSl 5 (.t 41) (some (.t 42)) none, none, .write, 0⟩, ⟨(some 44), .move (.t 2), none, .write, 0⟩, ⟨(some 45), .copy 5 (.t 43) (.t 44), none, .write, 0⟩])
 (.seq (.draw [⟨(some 46), .move (.t 9), none, .read, 0⟩, ⟨(some 47), .move (.t 1), none, .read, 0⟩, ⟨(some 48), .move (.t 7), none, .read, 0⟩, ⟨(some 49), .arith .add (.t 47) (.t 48), none, .read, 0⟩, ⟨(some 50), .sliceSl 5 (.t 46) (some (.t 49)) none, none, .read, 0⟩, ⟨(some 51), .move (.t 0), none, .read, 0⟩, ⟨(some 52), .move (.t 1), none, .read, 0⟩, ⟨(some 53), .sliceSl 5 (.t 51) (some (.t 52)) none, none, .read, 0⟩, ⟨(some 54), .copy 5 (.t 50) (.t 53), none, .write, 0⟩])
 (.seq (.region [⟨(some 55), .move (.t 9), none, .write, 0⟩, ⟨(some 6), .move (.t 55), none, .write, 0⟩])
 .ret)))) .skip))
 (.seq (.region [⟨(some 56), .move (.t 0), none, .write, 0⟩, ⟨(some 57), .move (.t 8), none, .write, 0⟩, ⟨(some 58), .move (.t 7), none, .write, 0⟩, ⟨(some 59), .arith .add (.t 57) (.t 58), none, .write, 0⟩, ⟨(some 60), .sliceSl 5 (.t 56) none (some (.t 59)), none, .write, 0⟩, ⟨(some 0), .move (.t 60), none, .write, 0⟩])
 (.seq (.seq (.region [⟨(some 61), .move (.t 2), none, .write, 0⟩, ⟨(some 62), .move (.t 0), none, .write, 0⟩, ⟨(some 63), .move (.t 1), none, .write, 0⟩, ⟨(some 64), .move (.t 7), none, .write, 0⟩, ⟨(some 65), .arith .add (.t 63) (.t 64), none, .write, 0⟩, ⟨(some 66), .sliceSl 5 (.t 62) (some (.t 65)) none, none, .write, 0⟩, ⟨(some 67), .call (.c (.func 317 [])) [(.t 61), (.t 66)], none, .write, 0⟩, ⟨(some 68), .un .not (.t 67), none, .write, 0⟩])
 (.cond (.t 68) (.seq (.draw [⟨(some 69), .move (.t 0), none, .read, 0⟩, ⟨(some 70), .move (.t 1), none, .read, 0⟩, ⟨(some 71), .move (.t 7), none, .read, 0⟩, ⟨(some 72), .arith .add (.t 70) (.t 71), none, .read, 0⟩, ⟨(some 73), .sliceSl 5 (.t 69) (some (.t 72)) none, none, .read, 0⟩, ⟨(some 74), .move (.t 0), none, .read, 0⟩, ⟨(some 75), .move (.t 1), none, .read, 0⟩, ⟨(some 76), .sliceSl 5 (.t 74) (some (.t 75)) none, none, .read, 0⟩, ⟨(some 77), .copy 5 (.t 73) (.t 76), none, .write, 0⟩])
 (.seq (.region [⟨(some 78), .move (.t 0), none, .write, 0⟩, ⟨(some 79), .move (.t 1), none, .write, 0⟩, ⟨(some 80), .sliceSl 5 (.t 78) (some (.t 79)) none, none, .write, 0⟩, ⟨(some 81), .move (.t 2), none, .write, 0⟩, ⟨(some 82), .copy 5 (.t 80) (.t 81), none, .write, 0⟩])
 (.seq (.region [⟨(some 83), .move (.t 0), none, .write, 0⟩, ⟨(some 6), .move (.t 83), none, .write, 0⟩])
 .ret))) .skip))
 (.seq (.region [⟨(some 84), .move (.t 0), none, .write, 0⟩, ⟨(some 85), .move (.t 8), none, .write, 0⟩, ⟨(some 86), .sliceSl 5 (.t 84) (some (.t 85)) none, none, .write, 0⟩, ⟨(some 87), .move (.t 2), none, .write, 0⟩, ⟨(some 88), .copy 5 (.t 86) (.t 87), none, .write, 0⟩])
 (.seq (.region [⟨(some 89), .move (.t 0), none, .write, 0⟩, ⟨(some 90), .move (.t 1), none, .write, 0⟩, ⟨(some 91), .sliceSl 5 (.t 89) (some (.t 90)) none, none, .write, 0⟩, ⟨(some 92), .move (.t 7), none, .write, 0⟩, ⟨(some 93), .call (.c (.func 318 [])) [(.t 91), (.t 92)], none, .write, 0⟩])
 (.seq (.region [⟨(some 94), .move (.t 0), none, .write, 0⟩, ⟨(some 6), .move (.t 94), none, .write, 0⟩])
 .ret)))))))))))) }

theorem c262 : compFunc Tryz.prog Tryz.f262 .split = some t262 := by kernel_rfl

/-- (*broadside/model.Model).advert$1 -/
def t263 : DFunc := { ntmps := 9, results := [(.t 4)], mode := .full, body :=
 (.seq (.region [⟨(some 2), .box 70 4 (.t 0), none, .write, 0⟩, ⟨(some 3), .box 45 2 (.t 1), none, .write, 0⟩, ⟨(some 4), .move (.c (.int .i64 0)), none, .write, 0⟩])
 (.seq (.region [⟨(some 5), .fieldAddr 0 (.t 2), none, .write, 0⟩, ⟨(some 6), .load (some 2) (.t 5), none, .write, 0⟩, ⟨(some 7), .load (some 2) (.t 3), none, .write, 0⟩, ⟨(some 8), .call (.c (.func 264 [])) [(.t 6), (.t 7)], none, .write, 0⟩, ⟨(some 4), .move (.t 8), none, .write, 0⟩])
 .ret)) }

theorem c263 : compFunc Tryz.prog Tryz.f263 .full = some t263 := by kernel_rfl

/-- broadside/model.compare -/
def t264 : DFunc := { ntmps := 17, results := [(.t 4)], mode := .full, body :=
 (.seq (.region [⟨(some 2), .box 45 2 (.t 0), none, .write, 0⟩, ⟨(some 3), .box 45 2 (.t 1), none, .write, 0⟩, ⟨(some 4), .move (.c (.int .i64 0)), none, .write, 0⟩])
 (.seq (.draw [⟨(some 5), .fieldAddr 0 (.t 2), none, .read, 0⟩, ⟨(some 6), .load none (.t 5), none, .read, 0⟩, ⟨(some 7), .fieldAddr 0 (.t 3), none, .read, 0⟩, ⟨(some 8), .load none (.t 7), none, .read, 0⟩, ⟨(some 9), .call (.c (.func 93 [])) [(.t 6), (.t 8)], none, .create, 0⟩, ⟨(some 10), .fieldAddr 1 (.t 2), none, .read, 0⟩, ⟨(some 11), .load none (.t 10), none, .read, 0⟩, ⟨(some 12), .fieldAddr 1 (.t 3), none, .read, 0⟩, ⟨(some 13), .load none (.t 12), none, .read, 0⟩, ⟨(some 14), .call (.c (.func 93 [])) [(.t 11), (.t 13)], none, .write, 1⟩, ⟨(some 15), .buildSlice 3 1 (.int .i64 0) 2 [(0, (.t 9)), (1, (.t 14))], none, .create, 0⟩, ⟨(some 16), .call (.c (.func 92 [])) [(.t 15)], none, .write, 3⟩, ⟨(some 4), .move (.t 16), none, .read, 4⟩])
 .ret)) }

theorem c264 : compFunc Tryz.prog Tryz.f264 .full = some t264 := by kernel_rfl

/-- slices.rotateRight[broadside/api.Advert] -/
def t266 : DFunc := { ntmps := 10, results := [], mode := .full, body :=
 (.region [⟨(some 4), .move (.t 0), none, .write, 0⟩, ⟨(some 5), .move (.t 0), none, .write, 0⟩, ⟨(some 6), .len 1 (.t 5), none, .write, 0⟩, ⟨(some 7), .move (.t 1), none, .write, 0⟩, ⟨(some 8), .arith .sub (.t 6) (.t 7), none, .write, 0⟩, ⟨(some 9), .call (.c (.func 319 [])) [(.t 4), (.t 8)], none, .write, 0⟩]) }

theorem c266 : compFunc Tryz.prog Tryz.f266 .full = some t266 := by kernel_rfl

/-- slices.BinarySearchFunc[[]broadside/model.sub,broadside/model.sub,broadside/api.ID] -/
def t267 : DFunc := { ntmps := 49, results := [(.t 6), (.t 7)], mode := .full, body :=
 (.seq (.region [⟨(some 4), .box 45 2 (.t 1), none, .write, 0⟩, ⟨(some 6), .move (.c (.int .i64 0)), none, .write, 0⟩, ⟨(some 7), .move (.c (.bool false)), none, .write, 0⟩])
 (.seq (.region [⟨(some 12), .move (.t 0), none, .write, 0⟩, ⟨(some 13), .len 1 (.t 12), none, .write, 0⟩, ⟨(some 8), .move (.t 13), none, .write, 0⟩])
 (.seq (.region [⟨(some 14), .move (.t 8), none, .write, 0⟩, ⟨(some 9), .move (.c (.int .i64 0)), none, .write, 0⟩, ⟨(some 10), .move (.t 14), none, .write, 0⟩])
 (.seq (.block 0 (.loop (.seq (.seq (.region [⟨(some 15), .move (.t 9), none, .write, 0⟩, ⟨(some 16), .move (.t 10), none, .write, 0⟩, ⟨(some 17), .arith .lss (.t 15) (.t 16), none, .write, 0⟩])
 (.cond (.t 17) .skip (.exit 0)))
 (.block 1 (.seq (.region [⟨(some 18), .move (.t 9), none, .write, 0⟩, ⟨(some 19), .move (.t 10), none, .write, 0⟩, ⟨(some 20), .arith .add (.t 18) (.t 19), none, .write, 0⟩, ⟨(some 21), .conv .u64 (.t 20), none, .write, 0⟩, ⟨(some 22), .arith .shr (.t 21) (.c (.int .u64 1)), none, .write, 0⟩, ⟨(some 23), .conv .i64 (.t 22), none, .write, 0⟩, ⟨(some 11), .move (.t 23), none, .write, 0⟩])
 (.seq (.draw [⟨(some 25), .move (.t 0), none, .read, 0⟩, ⟨(some 26), .move (.t 11), none, .read, 0⟩, ⟨(some 27), .indexAddr 4 (.t 25) (.t 26), none, .read, 0⟩, ⟨(some 28), .load (some 4) (.t 27), none, .read, 0⟩, ⟨(some 29), .load (some 2) (.t 4), none, .read, 0⟩, ⟨(some 24), .move (.t 2), none, .read, 0⟩, ⟨(some 30), .call (.t 24) [(.t 28), (.t 29)], none, .write, 0⟩, ⟨(some 31), .arith .lss (.t 30) (.c (.int .i64 0)), none, .read, 1⟩])
 (.cond (.t 31) (.region [⟨(some 32), .move (.t 11), none, .write, 0⟩, ⟨(some 33), .arith .add (.t 32) (.c (.int .i64 1)), none, .write, 0⟩, ⟨(some 9), .move (.t 33), none, .write, 0⟩]) (.region [⟨(some 34), .move (.t 11), none, .write, 0⟩, ⟨(some 10), .move (.t 34), none, .write, 0⟩]))))))))
 (.seq (.draw [⟨(some 36), .move (.t 9), none, .read, 0⟩, ⟨(some 37), .move (.t 8), none, .read, 0⟩, ⟨(some 38), .arith .lss (.t 36) (.t 37), none, .read, 0⟩, ⟨(some 39), .move (.t 38), none, .read, 0⟩, ⟨(some 41), .move (.t 0), (some (39, true)), .read, 0⟩, ⟨(some 42), .move (.t 9), (some (39, true)), .read, 0⟩, ⟨(some 43), .indexAddr 4 (.t 41) (.t 42), (some (39, true)), .read, 0⟩, ⟨(some 44), .load (some 4) (.t 43), (some (39, true)), .read, 0⟩, ⟨(some 45), .load (some 2) (.t 4), (some (39, true)), .read, 0⟩, ⟨(some 40), .move (.t 2), (some (39, true)), .read, 0⟩, ⟨(some 46), .call (.t 40) [(.t 44), (.t 45)], (some (39, true)), .write, 0⟩, ⟨(some 35), .move (.t 9), none, .read, 0⟩, ⟨(some 47), .arith .eql (.t 46) (.c (.int .i64 0)), (some (39, true)), .read, 1⟩, ⟨(some 48), .pick (.t 39) (.t 47) (.c (.bool false)), none, .read, 1⟩, ⟨(some 6), .move (.t 35), none, .read, 1⟩, ⟨(some 7), .move (.t 48), none, .read, 1⟩])
 .ret))))) }

theorem c267 : compFunc Tryz.prog Tryz.f267 .full = some t267 := by kernel_rfl

/-- (*broadside/model.Model).sub$1 -/
def t268 : DFunc := { ntmps := 10, results := [(.t 4)], mode := .full, body :=
 (.seq (.region [⟨(some 2), .box 278 4 (.t 0), none, .write, 0⟩, ⟨(some 3), .box 45 2 (.t 1), none, .write, 0⟩, ⟨(some 4), .move (.c (.int .i64 0)), none, .write, 0⟩])
 (.seq (.region [⟨(some 5), .fieldAddr 0 (.t 2), none, .write, 0⟩, ⟨(some 6), .fieldAddr 0 (.t 5), none, .write, 0⟩, ⟨(some 7), .load (some 2) (.t 6), none, .write, 0⟩, ⟨(some 8), .load (some 2) (.t 3), none, .write, 0⟩, ⟨(some 9), .call (.c (.func 264 [])) [(.t 7), (.t 8)], none, .write, 0⟩, ⟨(some 4), .move (.t 9), none, .write, 0⟩])
 .ret)) }

theorem c268 : compFunc Tryz.prog Tryz.f268 .full = some t268 := by kernel_rfl

/-- slices.rotateRight[broadside/model.sub] -/
def t270 : DFunc := { ntmps := 10, results := [], mode := .full, body :=
 (.region [⟨(some 4), .move (.t 0), none, .write, 0⟩, ⟨(some 5), .move (.t 0), none, .write, 0⟩, ⟨(some 6), .len 1 (.t 5), none, .write, 0⟩, ⟨(some 7), .move (.t 1), none, .write, 0⟩, ⟨(some 8), .arith .sub (.t 6) (.t 7), none, .write, 0⟩, ⟨(some 9), .call (.c (.func 320 [])) [(.t 4), (.t 8)], none, .write, 0⟩]) }

theorem c270 : compFunc Tryz.prog Tryz.f270 .full = some t270 := by kernel_rfl

/-- (*broadside/num.Reader).Number -/
def t271 : DFunc := { ntmps := 21, results := [(.t 2)], mode := .full, body :=
 (.seq (.region [⟨(some 2), .move (.c (.int .i64 0)), none, .write, 0⟩])
 (.seq (.region [⟨(some 3), .move (.c (.int .u64 0)), none, .write, 0⟩])
 (.seq (.seq (.region [⟨(some 6), .move (.t 0), none, .write, 0⟩, ⟨(some 7), .call (.c (.func 273 [])) [(.t 6), (.c (.int .i64 8))], none, .write, 0⟩, ⟨(some 8), .len 1 (.t 7), none, .write, 0⟩, ⟨(some 9), .move (.c (.int .i64 0)), none, .write, 0⟩])
 (.block 0 (.loop (.seq (.region [⟨(some 10), .arith .lss (.t 9) (.t 8), none, .write, 0⟩])
 (.seq (.cond (.t 10) .skip (.exit 0))
 (.seq (.block 1 (.seq (.region [⟨(some 11), .indexAddr 1 (.t 7) (.t 9), none, .write, 0⟩, ⟨(some 12), .load none (.t 11), none, .write, 0⟩, ⟨(some 5), .move (.t 12), none, .write, 0⟩])
 (.region [⟨(some 13), .move (.t 3), none, .write, 0⟩, ⟨(some 14), .arith .shl (.t 13) (.c (.int .u64 8)), none, .write, 0⟩, ⟨(some 15), .move (.t 5), none, .write, 0⟩, ⟨(some 16), .conv .u64 (.t 15), none, .write, 0⟩, ⟨(some 17), .arith .or (.t 14) (.t 16), none, .write, 0⟩, ⟨(some 3), .move (.t 17), none, .write, 0⟩])))
 (.region [⟨(some 18), .arith .add (.t 9) (.c (.int .i64 1)), none, .write, 0⟩, ⟨(some 9), .move (.t 18), none, .write, 0⟩])))))))
 (.seq (.region [⟨(some 19), .move (.t 3), none, .write, 0⟩, ⟨(some 20), .conv .i64 (.t 19), none, .write, 0⟩, ⟨(some 2), .move (.t 20), none, .write, 0⟩])
 .ret)))) }

theorem c271 : compFunc Tryz.prog Tryz.f271 .full = some t271 := by kernel_rfl

/-- broadside/code.Decode -/
def t272 : DFunc := { ntmps := 31, results := [(.cell 2 (some 9)), (.t 3)], mode := .full, body :=
 (.seq (.region [⟨(some 2), .alloc 85 9 (.agg [(.int .i64 0), (.int .i64 0), (.int .i64 0), (.int .i64 0), (.int .i64 0), (.int .i64 0), .nsl, .nsl, .nsl]), none, .write, 0⟩, ⟨(some 3), .move (.c .nili), none, .write, 0⟩])
 (.seq (.region [⟨(some 6), .move (.t 0), none, .write, 0⟩, ⟨(some 7), .call (.c (.func 97 [])) [(.t 6)], none, .write, 0⟩, ⟨(some 4), .move (.t 7), none, .write, 0⟩])
 (.seq (.region [⟨(some 8), .move (.t 4), none, .write, 0⟩, ⟨(some 9), .call (.c (.func 321 [])) [(.t 8)], none, .write, 0⟩, ⟨(some 5), .alloc 85 9 (.agg [(.int .i64 0), (.int .i64 0), (.int .i64 0), (.int .i64 0), (.int .i64 0), (.int .i64 0), .nsl, .nsl, .nsl]), none, .write, 0⟩, ⟨none, .store 9 (.t 5) (.t 9), none, .write, 0⟩])
 (.seq (.seq (.region [⟨(some 10), .move (.t 4), none, .write, 0⟩, ⟨(some 11), .call (.c (.func 99 [])) [(.t 10)], none, .write, 0⟩, ⟨(some 12), .un .not (.t 11), none, .write, 0⟩, ⟨(some 13), .move (.t 12), none, .write, 0⟩, ⟨(some 14), .load (some 9) (.t 5), (some (13, false)), .write, 0⟩, ⟨(some 15), .call (.c (.func 322 [])) [(.t 14)], (some (13, false)), .write, 0⟩, ⟨(some 16), .un .not (.t 15), (some (13, false)), .write, 0⟩, ⟨(some 17), .pick (.t 13) (.c (.bool true)) (.t 16), none, .write, 0⟩, ⟨(some 18), .move (.t 17), none, .write, 0⟩, ⟨(some 19), .load (some 9) (.t 5), (some (18, false)), .write, 0⟩, ⟨(some 20), .call (.c (.func 323 [])) [(.t 19)], (some (18, false)), .write, 0⟩, ⟨(some 21), .move (.t 0), (some (18, false)), .write, 0⟩, ⟨(some 22), .call (.c (.func 101 [])) [(.t 20), (.t 21)], (some (18, false)), .write, 0⟩, ⟨(some 23), .un .not (.t 22), (some (18, false)), .write, 0⟩, ⟨(some 24), .pick (.t 18) (.c (.bool true)) (.t 23), none, .write, 0⟩])
 (.cond (.t 24) (.seq (.region [⟨(some 25), .build [(.int .i64 0), (.int .i64 0), (.int .i64 0), (.int .i64 0), (.int .i64 0), (.int .i64 0), .nsl, .nsl, .nsl] [], none, .write, 0⟩, ⟨(some 26), .move (.t 0), none, .write, 0⟩, ⟨(some 27), .len 1 (.t 26), none, .write, 0⟩, ⟨(some 28), .makeIface 37 (.c (.int .i64 1)), none, .write, 0⟩, ⟨(some 29), .call (.c (.func 47 [])) [(.c (.str [99, 111, 100, 101])), (.t 27), (.t 28)], none, .write, 0⟩, ⟨none, .store 9 (.t 2) (.t 25), none, .write, 0⟩, ⟨(some 3), .move (.t 29), none, .write, 0⟩])
 .ret) .skip))
 (.seq (.region [⟨(some 30), .load (some 9) (.t 5), none, .write, 0⟩, ⟨none, .store 9 (.t 2) (.t 30), none, .write, 0⟩, ⟨(some 3), .move (.c .nili), none, .write, 0⟩])
 .ret))))) }

theorem c272 : compFunc Tryz.prog Tryz.f272 .full = some t272 := by kernel_rfl

/-- (*broadside/num.Reader).take -/
def t273 : DFunc := { ntmps := 38, results := [(.t 4)], mode := .full, body :=
 (.seq (.region [⟨(some 4), .move (.c .nsl), none, .write, 0⟩])
 (.seq (.seq (.region [⟨(some 6), .move (.t 0), none, .write, 0⟩, ⟨(some 7), .nilCheck (.t 6), none, .write, 0⟩, ⟨(some 8), .fieldAddr 1 (.t 7), none, .write, 0⟩, ⟨(some 9), .load none (.t 8), none, .write, 0⟩, ⟨(some 10), .move (.t 9), none, .write, 0⟩, ⟨(some 11), .move (.t 1), (some (10, false)), .write, 0⟩, ⟨(some 12), .move (.t 0), (some (10, false)), .write, 0⟩, ⟨(some 13), .nilCheck (.t 12), (some (10, false)), .write, 0⟩, ⟨(some 14), .fieldAddr 0 (.t 13), (some (10, false)), .write, 0⟩, ⟨(some 15), .load none (.t 14), (some (10, false)), .write, 0⟩, ⟨(some 16), .len 1 (.t 15), (some (10, false)), .write, 0⟩, ⟨(some 17), .arith .gtr (.t 11) (.t 16), (some (10, false)), .write, 0⟩, ⟨(some 18), .pick (.t 10) (.c (.bool true)) (.t 17), none, .write, 0⟩])
 (.cond (.t 18) (.seq (.region [⟨(some 19), .move (.t 0), none, .write, 0⟩, ⟨(some 20), .nilCheck (.t 19), none, .write, 0⟩, ⟨(some 21), .fieldAddr 1 (.t 20), none, .write, 0⟩, ⟨none, .store 1 (.t 21) (.c (.bool true)), none, .write, 0⟩])
 (.seq (.region [⟨(some 4), .move (.c .nsl), none, .write, 0⟩])
 .ret)) .skip))
 (.seq (.region [⟨(some 22), .move (.t 0), none, .write, 0⟩, ⟨(some 23), .nilCheck (.t 22), none, .write, 0⟩, ⟨(some 24), .fieldAddr 0 (.t 23), none, .write, 0⟩, ⟨(some 25), .load none (.t 24), none, .write, 0⟩, ⟨(some 26), .move (.t 1), none, .write, 0⟩, ⟨(some 27), .sliceSl 1 (.t 25) none (some (.t 26)), none, .write, 0⟩, ⟨(some 5), .move (.t 27), none, .write, 0⟩])
 (.seq (.region [⟨(some 28), .move (.t 0), none, .write, 0⟩, ⟨(some 29), .move (.t 0), none, .write, 0⟩, ⟨(some 30), .nilCheck (.t 29), none, .write, 0⟩, ⟨(some 31), .fieldAddr 0 (.t 30), none, .write, 0⟩, ⟨(some 32), .load none (.t 31), none, .write, 0⟩, ⟨(some 33), .move (.t 1), none, .write, 0⟩, ⟨(some 34), .sliceSl 1 (.t 32) (some (.t 33)) none, none, .write, 0⟩, ⟨(some 35), .nilCheck (.t 28), none, .write, 0⟩, ⟨(some 36), .fieldAddr 0 (.t 35), none, .write, 0⟩, ⟨none, .store 1 (.t 36) (.t 34), none, .write, 0⟩])
 (.seq (.region [⟨(some 37), .move (.t 5), none, .write, 0⟩, ⟨(some 4), .move (.t 37), none, .write, 0⟩])
 .ret))))) }

theorem c273 : compFunc Tryz.prog Tryz.f273 .full = some t273 := by kernel_rfl

/-- (*broadside/num.Reader).Text -/
def t274 : DFunc := { ntmps := 9, results := [(.t 2)], mode := .full, body :=
 (.seq (.region [⟨(some 2), .move (.c (.str [])), none, .write, 0⟩])
 (.seq (.region [⟨(some 3), .move (.t 0), none, .write, 0⟩, ⟨(some 4), .move (.t 0), none, .write, 0⟩, ⟨(some 5), .call (.c (.func 183 [])) [(.t 4)], none, .write, 0⟩, ⟨(some 6), .conv .i64 (.t 5), none, .write, 0⟩, ⟨(some 7), .call (.c (.func 273 [])) [(.t 3), (.t 6)], none, .write, 0⟩, ⟨(some 8), .extract (.c .nilp) 0, none, .write, 0⟩, ⟨(some 2), .move (.t 8), none, .write, 0⟩])
 .ret)) }

theorem c274 : compFunc Tryz.prog Tryz.f274 .full = some t274 := by kernel_rfl

/-- broadside/tuple.Name -/
def t275 : DFunc := { ntmps := 27, results := [(.t 2)], mode := .full, body :=
 (.seq (.region [⟨(some 2), .move (.c (.bool false)), none, .write, 0⟩])
 (.seq (.seq (.region [⟨(some 4), .move (.t 0), none, .write, 0⟩, ⟨(some 5), .len 0 (.t 4), none, .write, 0⟩, ⟨(some 6), .move (.c (.int .i64 0)), none, .write, 0⟩])
 (.block 0 (.loop (.seq (.region [⟨(some 7), .arith .lss (.t 6) (.t 5), none, .write, 0⟩])
 (.seq (.cond (.t 7) .skip (.exit 0))
 (.seq (.block 1 (.seq (.region [⟨(some 8), .move (.t 6), none, .write, 0⟩, ⟨(some 3), .move (.t 8), none, .write, 0⟩])
 (.seq (.region [⟨(some 9), .move (.t 0), none, .write, 0⟩, ⟨(some 10), .move (.t 3), none, .write, 0⟩, ⟨(some 11), .indexStr (.t 9) (.t 10), none, .write, 0⟩, ⟨(some 12), .arith .lss (.t 11) (.c (.int .u8 97)), none, .write, 0⟩, ⟨(some 13), .move (.t 12), none, .write, 0⟩, ⟨(some 14), .move (.t 0), (some (13, false)), .write, 0⟩, ⟨(some 15), .move (.t 3), (some (13, false)), .write, 0⟩, ⟨(some 16), .indexStr (.t 14) (.t 15), (some (13, false)), .write, 0⟩, ⟨(some 17), .arith .gtr (.t 16) (.c (.int .u8 122)), (some (13, false)), .write, 0⟩, ⟨(some 18), .pick (.t 13) (.c (.bool true)) (.t 17), none, .write, 0⟩])
 (.cond (.t 18) (.seq (.region [⟨(some 2), .move (.c (.bool false)), none, .write, 0⟩])
 .ret) .skip))))
 (.region [⟨(some 19), .arith .add (.t 6) (.c (.int .i64 1)), none, .write, 0⟩, ⟨(some 6), .move (.t 19), none, .write, 0⟩])))))))
 (.seq (.region [⟨(some 20), .move (.t 0), none, .write, 0⟩, ⟨(some 21), .arith .neq (.t 20) (.c (.str [])), none, .write, 0⟩, ⟨(some 22), .move (.t 21), none, .write, 0⟩, ⟨(some 23), .move (.t 0), (some (22, true)), .write, 0⟩, ⟨(some 24), .len 0 (.t 23), (some (22, true)), .write, 0⟩, ⟨(some 25), .arith .leq (.t 24) (.c (.int .i64 12)), (some (22, true)), .write, 0⟩, ⟨(some 26), .pick (.t 22) (.t 25) (.c (.bool false)), none, .write, 0⟩, ⟨(some 2), .move (.t 26), none, .write, 0⟩])
 .ret))) }

theorem c275 : compFunc Tryz.prog Tryz.f275 .full = some t275 := by kernel_rfl

/-- broadside/value.Right -/
def t276 : DFunc := { ntmps := 17, results := [(.t 2)], mode := .full, body :=
 (.seq (.region [⟨(some 1), .box 291 3 (.t 0), none, .write, 0⟩, ⟨(some 2), .move (.c (.bool false)), none, .write, 0⟩])
 (.seq (.seq (.region [⟨(some 3), .fieldAddr 0 (.t 1), none, .write, 0⟩, ⟨(some 4), .load none (.t 3), none, .write, 0⟩])
 (.cond (.t 4) (.seq (.region [⟨(some 5), .fieldAddr 1 (.t 1), none, .write, 0⟩, ⟨(some 6), .load none (.t 5), none, .write, 0⟩, ⟨(some 7), .arith .eql (.t 6) (.c (.int .i64 0)), none, .write, 0⟩, ⟨(some 8), .move (.t 7), none, .write, 0⟩, ⟨(some 9), .fieldAddr 2 (.t 1), (some (8, true)), .write, 0⟩, ⟨(some 10), .load none (.t 9), (some (8, true)), .write, 0⟩, ⟨(some 11), .len 0 (.t 10), (some (8, true)), .write, 0⟩, ⟨(some 12), .arith .leq (.t 11) (.c (.int .i64 12)), (some (8, true)), .write, 0⟩, ⟨(some 13), .pick (.t 8) (.t 12) (.c (.bool false)), none, .write, 0⟩, ⟨(some 2), .move (.t 13), none, .write, 0⟩])
 .ret) .skip))
 (.seq (.region [⟨(some 14), .fieldAddr 2 (.t 1), none, .write, 0⟩, ⟨(some 15), .load none (.t 14), none, .write, 0⟩, ⟨(some 16), .arith .eql (.t 15) (.c (.str [])), none, .write, 0⟩, ⟨(some 2), .move (.t 16), none, .write, 0⟩])
 .ret))) }

theorem c276 : compFunc Tryz.prog Tryz.f276 .full = some t276 := by kernel_rfl

/-- broadside/num.Number -/
def t277 : DFunc := { ntmps := 27, results := [(.t 2)], mode := .full, body :=
 (.seq (.region [⟨(some 2), .move (.c .nsl), none, .write, 0⟩])
 (.seq (.region [⟨(some 3), .move (.c .nsl), none, .write, 0⟩])
 (.seq (.seq (.region [⟨(some 7), .move (.t 0), none, .write, 0⟩, ⟨(some 8), .len 1 (.t 7), none, .write, 0⟩, ⟨(some 9), .move (.c (.int .i64 0)), none, .write, 0⟩])
 (.block 0 (.loop (.seq (.region [⟨(some 10), .arith .lss (.t 9) (.t 8), none, .write, 0⟩])
 (.seq (.cond (.t 10) .skip (.exit 0))
 (.seq (.block 1 (.seq (.region [⟨(some 11), .indexAddr 1 (.t 7) (.t 9), none, .write, 0⟩, ⟨(some 12), .load none (.t 11), none, .write, 0⟩, ⟨(some 5), .move (.t 12), none, .write, 0⟩])
 (.seq (.region [⟨(some 6), .move (.c (.int .i64 7)), none, .write, 0⟩])
 (.block 2 (.loop (.seq (.seq (.region [⟨(some 13), .move (.t 6), none, .write, 0⟩, ⟨(some 14), .arith .geq (.t 13) (.c (.int .i64 0)), none, .write, 0⟩])
 (.cond (.t 14) .skip (.exit 2)))
 (.seq (.block 3 (.region [⟨(some 17), .move (.t 3), none, .write, 0⟩, ⟨(some 18), .move (.t 5), none, .write, 0⟩, ⟨(some 19), .move (.t 6), none, .write, 0⟩, ⟨(some 20), .arith .mul (.c (.int .i64 8)) (.t 19), none, .write, 0⟩, ⟨(some 21), .arith .shr (.t 18) (.t 20), none, .write, 0⟩, ⟨(some 22), .conv .u8 (.t 21), none, .write, 0⟩, ⟨(some 23), .buildSlice 5 1 (.int .u8 0) 1 [(0, (.t 22))], none, .write, 0⟩, ⟨(some 24), .append 5 1 1 (.t 17) (.t 23), none, .write, 0⟩, ⟨(some 3), .move (.t 24), none, .write, 0⟩]))
 (.region [⟨(some 15), .move (.t 6), none, .write, 0⟩, ⟨(some 16), .arith .sub (.t 15) (.c (.int .i64 1)), none, .write, 0⟩, ⟨(some 6), .move (.t 16), none, .write, 0⟩]))))))))
 (.region [⟨(some 25), .arith .add (.t 9) (.c (.int .i64 1)), none, .write, 0⟩, ⟨(some 9), .move (.t 25), none, .write, 0⟩])))))))
 (.seq (.region [⟨(some 26), .move (.t 3), none, .write, 0⟩, ⟨(some 2), .move (.t 26), none, .write, 0⟩])
 .ret)))) }

theorem c277 : compFunc Tryz.prog Tryz.f277 .full = some t277 := by kernel_rfl

/-- slices.DeleteFunc[[]broadside/api.Entry,broadside/api.Entry] -/
def t279 : DFunc := { ntmps := 42, results := [(.t 4)], mode := .full, body :=
 (.seq (.region [⟨(some 4), .move (.c .nsl), none, .write, 0⟩])
 (.seq (.region [⟨(some 8), .move (.t 0), none, .write, 0⟩, ⟨(some 9), .move (.t 1), none, .write, 0⟩, ⟨(some 10), .call (.c (.func 215 [])) [(.t 8), (.t 9)], none, .write, 0⟩, ⟨(some 5), .move (.t 10), none, .write, 0⟩])
 (.seq (.seq (.region [⟨(some 11), .move (.t 5), none, .write, 0⟩, ⟨(some 12), .arith .eql (.t 11) (.c (.int .i64 (-1))), none, .write, 0⟩])
 (.cond (.t 12) (.seq (.region [⟨(some 13), .move (.t 0), none, .write, 0⟩, ⟨(some 4), .move (.t 13), none, .write, 0⟩])
 .ret) .skip))
 (.seq (.seq (.region [⟨(some 14), .move (.t 5), none, .write, 0⟩, ⟨(some 15), .arith .add (.t 14) (.c (.int .i64 1)), none, .write, 0⟩, ⟨(some 6), .move (.t 15), none, .write, 0⟩])
 (.block 0 (.loop (.seq (.seq (.region [⟨(some 16), .move (.t 6), none, .write, 0⟩, ⟨(some 17), .move (.t 0), none, .write, 0⟩, ⟨(some 18), .len 1 (.t 17), none, .write, 0⟩, ⟨(some 19), .arith .lss (.t 16) (.t 18), none, .write, 0⟩])
 (.cond (.t 19) .skip (.exit 0)))
 (.seq (.block 1 (.seq (.region [⟨(some 22), .move (.t 0), none, .write, 0⟩, ⟨(some 23), .move (.t 6), none, .write, 0⟩, ⟨(some 24), .indexAddr 7 (.t 22) (.t 23), none, .write, 0⟩, ⟨(some 25), .load (some 7) (.t 24), none, .write, 0⟩, ⟨(some 7), .alloc 156 7 (.agg [(.int .i64 0), (.int .i64 0), (.int .i64 0), (.int .i64 0), .nsl, (.int .i64 0), (.bool false)]), none, .write, 0⟩, ⟨none, .store 7 (.t 7) (.t 25), none, .write, 0⟩])
 (.seq (.region [⟨(some 26), .move (.t 1), none, .write, 0⟩, ⟨(some 27), .load (some 7) (.t 7), none, .write, 0⟩, ⟨(some 28), .call (.t 26) [(.t 27)], none, .write, 0⟩, ⟨(some 29), .un .not (.t 28), none, .write, 0⟩])
 (.cond (.t 29) (.seq (.region [⟨(some 30), .move (.t 0), none, .write, 0⟩, ⟨(some 31), .move (.t 5), none, .write, 0⟩, ⟨(some 32), .load (some 7) (.t 7), none, .write, 0⟩, ⟨(some 33), .indexAddr 7 (.t 30) (.t 31), none, .write, 0⟩, ⟨none, .store 7 (.t 33) (.t 32), none, .write, 0⟩])
 (.region [⟨(some 34), .move (.t 5), none, .write, 0⟩, ⟨(some 35), .arith .add (.t 34) (.c (.int .i64 1)), none, .write, 0⟩, ⟨(some 5), .move (.t 35), none, .write, 0⟩])) .skip))))
 (.region [⟨(some 20), .move (.t 6), none, .write, 0⟩, ⟨(some 21), .arith .add (.t 20) (.c (.int .i64 1)), none, .write, 0⟩, ⟨(some 6), .move (.t 21), none, .write, 0⟩]))))))
 (.seq (.region [⟨(some 36), .move (.t 0), none, .write, 0⟩, ⟨(some 37), .move (.t 5), none, .write, 0⟩, ⟨(some 38), .sliceSl 7 (.t 36) (some (.t 37)) none, none, .write, 0⟩, ⟨none, .clear 7 (.agg [(.int .i64 0), (.int .i64 0), (.int .i64 0), (.int .i64 0), .nsl, (.int .i64 0), (.bool false)]) (.t 38), none, .write, 0⟩])
 (.seq (.region [⟨(some 39), .move (.t 0), none, .write, 0⟩, ⟨(some 40), .move (.t 5), none, .write, 0⟩, ⟨(some 41), .sliceSl 7 (.t 39) none (some (.t 40)), none, .write, 0⟩, ⟨(some 4), .move (.t 41), none, .write, 0⟩])
 .ret)))))) }

theorem c279 : compFunc Tryz.prog Tryz.f279 .full = some t279 := by kernel_rfl

/-- broadside/adverts.Forget$1 -/
def t280 : DFunc := { ntmps := 8, results := [(.t 3)], mode := .full, body :=
 (.seq (.region [⟨(some 2), .box 156 7 (.t 0), none, .write, 0⟩, ⟨(some 3), .move (.c (.bool false)), none, .write, 0⟩])
 (.seq (.region [⟨(some 4), .fieldAddr 0 (.t 2), none, .write, 0⟩, ⟨(some 5), .load (some 2) (.t 4), none, .write, 0⟩, ⟨(some 6), .load (some 2) (.t 1), none, .write, 0⟩, ⟨(some 7), .eqa false [1, 1] (.t 5) (.t 6), none, .write, 0⟩, ⟨(some 3), .move (.t 7), none, .write, 0⟩])
 .ret)) }

theorem c280 : compFunc Tryz.prog Tryz.f280 .full = some t280 := by kernel_rfl

/-- broadside/subs.Take -/
def t281 : DFunc := { ntmps := 96, results := [(.cell 8 (some 6)), (.t 9), (.t 10)], mode := .full, body :=
 (.seq (.region [⟨(some 4), .box 28 6 (.t 0), none, .write, 0⟩, ⟨(some 5), .box 45 2 (.t 1), none, .write, 0⟩, ⟨(some 6), .box 45 2 (.t 2), none, .write, 0⟩, ⟨(some 8), .alloc 28 6 (.agg [(.int .i64 0), .nsl, .nsl, .nsl, .nsl, .nsl]), none, .write, 0⟩, ⟨(some 9), .move (.c .nsl), none, .write, 0⟩, ⟨(some 10), .move (.c (.bool false)), none, .write, 0⟩])
 (.seq (.region [⟨(some 15), .fieldAddr 4 (.t 4), none, .write, 0⟩, ⟨(some 16), .load none (.t 15), none, .write, 0⟩, ⟨(some 17), .call (.c (.func 77 [])) [(.t 16)], none, .write, 0⟩, ⟨(some 18), .fieldAddr 4 (.t 4), none, .write, 0⟩, ⟨none, .store 1 (.t 18) (.t 17), none, .write, 0⟩])
 (.seq (.region [⟨(some 20), .load (some 6) (.t 4), none, .write, 0⟩, ⟨(some 21), .load (some 2) (.t 5), none, .write, 0⟩, ⟨(some 22), .load (some 2) (.t 6), none, .write, 0⟩, ⟨(some 23), .call (.c (.func 234 [])) [(.t 20), (.t 21), (.t 22)], none, .write, 0⟩, ⟨(some 19), .move (.t 23), none, .write, 0⟩, ⟨(some 24), .extract (.t 19) 0, none, .write, 0⟩, ⟨(some 25), .extract (.t 19) 1, none, .write, 0⟩, ⟨(some 11), .move (.t 24), none, .write, 0⟩, ⟨(some 12), .move (.t 25), none, .write, 0⟩])
 (.seq (.seq (.region [⟨(some 26), .move (.t 12), none, .write, 0⟩, ⟨(some 27), .un .not (.t 26), none, .write, 0⟩, ⟨(some 28), .move (.t 27), none, .write, 0⟩, ⟨(some 29), .fieldAddr 4 (.t 4), (some (28, false)), .write, 0⟩, ⟨(some 30), .load none (.t 29), (some (28, false)), .write, 0⟩, ⟨(some 31), .move (.t 11), (some (28, false)), .write, 0⟩, ⟨(some 32), .indexAddr 7 (.t 30) (.t 31), (some (28, false)), .write, 0⟩, ⟨(some 33), .fieldAddr 5 (.t 32), (some (28, false)), .write, 0⟩, ⟨(some 34), .load none (.t 33), (some (28, false)), .write, 0⟩, ⟨(some 35), .move (.t 3), (some (28, false)), .write, 0⟩, ⟨(some 36), .arith .neq (.t 34) (.t 35), (some (28, false)), .write, 0⟩, ⟨(some 37), .pick (.t 28) (.c (.bool true)) (.t 36), none, .write, 0⟩])
 (.cond (.t 37) (.seq (.region [⟨(some 38), .load (some 6) (.t 4), none, .write, 0⟩, ⟨none, .store 6 (.t 8) (.t 38), none, .write, 0⟩, ⟨(some 9), .move (.c .nsl), none, .write, 0⟩, ⟨(some 10), .move (.c (.bool false)), none, .write, 0⟩])
 .ret) .skip))
 (.seq (.region [⟨(some 39), .fieldAddr 4 (.t 4), none, .write, 0⟩, ⟨(some 40), .load none (.t 39), none, .write, 0⟩, ⟨(some 41), .move (.t 11), none, .write, 0⟩, ⟨(some 42), .indexAddr 7 (.t 40) (.t 41), none, .write, 0⟩, ⟨(some 43), .fieldAddr 6 (.t 42), none, .write, 0⟩, ⟨(some 44), .load none (.t 43), none, .write, 0⟩, ⟨(some 10), .move (.t 44), none, .write, 0⟩])
 (.seq (.region [⟨(some 45), .fieldAddr 4 (.t 4), none, .write, 0⟩, ⟨(some 46), .load none (.t 45), none, .write, 0⟩, ⟨(some 47), .move (.t 11), none, .write, 0⟩, ⟨(some 48), .move (.t 11), none, .write, 0⟩, ⟨(some 49), .arith .add (.t 48) (.c (.int .i64 1)), none, .write, 0⟩, ⟨(some 50), .call (.c (.func 324 [])) [(.t 46), (.t 47), (.t 49)], none, .write, 0⟩, ⟨(some 51), .fieldAddr 4 (.t 4), none, .write, 0⟩, ⟨none, .store 1 (.t 51) (.t 50), none, .write, 0⟩])
 (.seq (.seq (.region [⟨(some 52), .move (.t 10), none, .write, 0⟩, ⟨(some 53), .un .not (.t 52), none, .write, 0⟩])
 (.cond (.t 53) (.seq (.region [⟨(some 54), .load (some 6) (.t 4), none, .write, 0⟩, ⟨none, .store 6 (.t 8) (.t 54), none, .write, 0⟩, ⟨(some 9), .move (.c .nsl), none, .write, 0⟩, ⟨(some 10), .move (.c (.bool false)), none, .write, 0⟩])
 .ret) .skip))
 (.seq (.seq (.region [⟨(some 55), .fieldAddr 4 (.t 4), none, .write, 0⟩, ⟨(some 56), .load none (.t 55), none, .write, 0⟩, ⟨(some 57), .len 1 (.t 56), none, .write, 0⟩, ⟨(some 58), .move (.c (.int .i64 0)), none, .write, 0⟩])
 (.block 0 (.loop (.seq (.region [⟨(some 59), .arith .lss (.t 58) (.t 57), none, .write, 0⟩])
 (.seq (.cond (.t 59) .skip (.exit 0))
 (.seq (.block 1 (.seq (.region [⟨(some 60), .move (.t 58), none, .write, 0⟩, ⟨(some 61), .indexAddr 7 (.t 56) (.t 58), none, .write, 0⟩, ⟨(some 62), .load (some 7) (.t 61), none, .write, 0⟩, ⟨(some 14), .alloc 156 7 (.agg [(.int .i64 0), (.int .i64 0), (.int .i64 0), (.int .i64 0), .nsl, (.int .i64 0), (.bool false)]), none, .write, 0⟩, ⟨(some 13), .move (.t 60), none, .write, 0⟩, ⟨none, .store 7 (.t 14) (.t 62), none, .write, 0⟩])
 (.seq (.region [⟨(some 63), .fieldAddr 0 (.t 14), none, .write, 0⟩, ⟨(some 64), .load (some 2) (.t 63), none, .write, 0⟩, ⟨(some 65), .load (some 2) (.t 5), none, .write, 0⟩, ⟨(some 66), .eqa false [1, 1] (.t 64) (.t 65), none, .write, 0⟩, ⟨(some 67), .move (.t 66), none, .write, 0⟩, ⟨(some 68), .fieldAddr 6 (.t 14), (some (67, true)), .write, 0⟩, ⟨(some 69), .load none (.t 68), (some (67, true)), .write, 0⟩, ⟨(some 70), .un .not (.t 69), (some (67, true)), .write, 0⟩, ⟨(some 71), .pick (.t 67) (.t 70) (.c (.bool false)), none, .write, 0⟩, ⟨(some 72), .move (.t 71), none, .write, 0⟩, ⟨(some 73), .load (some 6) (.t 4), (some (72, true)), .write, 0⟩, ⟨(some 74), .load (some 2) (.t 5), (some (72, true)), .write, 0⟩, ⟨(some 75), .fieldAddr 4 (.t 14), (some (72, true)), .write, 0⟩, ⟨(some 76), .load none (.t 75), (some (72, true)), .write, 0⟩, ⟨(some 77), .call (.c (.func 142 [])) [(.t 73), (.t 74), (.t 76)], (some (72, true)), .write, 0⟩, ⟨(some 78), .un .not (.t 77), (some (72, true)), .write, 0⟩, ⟨(some 79), .pick (.t 72) (.t 78) (.c (.bool false)), none, .write, 0⟩])
 (.cond (.t 79) (.seq (.region [⟨(some 80), .fieldAddr 4 (.t 4), none, .write, 0⟩, ⟨(some 81), .load none (.t 80), none, .write, 0⟩, ⟨(some 82), .move (.t 13), none, .write, 0⟩, ⟨(some 83), .indexAddr 7 (.t 81) (.t 82), none, .write, 0⟩, ⟨(some 84), .fieldAddr 6 (.t 83), none, .write, 0⟩, ⟨none, .store 1 (.t 84) (.c (.bool true)), none, .write, 0⟩])
 (.region [⟨(some 85), .move (.t 9), none, .write, 0⟩, ⟨(some 86), .fieldAddr 4 (.t 4), none, .write, 0⟩, ⟨(some 87), .load none (.t 86), none, .write, 0⟩, ⟨(some 88), .move (.t 13), none, .write, 0⟩, ⟨(some 89), .indexAddr 7 (.t 87) (.t 88), none, .write, 0⟩, ⟨(some 90), .load (some 7) (.t 89), none, .write, 0⟩, ⟨(some 91), .buildSlice 156 7 (.agg [(.int .i64 0), (.int .i64 0), (.int .i64 0), (.int .i64 0), .nsl, (.int .i64 0), (.bool false)]) 1 [(0, (.t 90))], none, .write, 0⟩, ⟨(some 92), .append 156 7 72 (.t 85) (.t 91), none, .write, 0⟩, ⟨(some 9), .move (.t 92), none, .write, 0⟩])) .skip))))
 (.region [⟨(some 93), .arith .add (.t 58) (.c (.int .i64 1)), none, .write, 0⟩, ⟨(some 58), .move (.t 93), none, .write, 0⟩])))))))
 (.seq (.region [⟨(some 94), .load (some 6) (.t 4), none, .write, 0⟩, ⟨(some 95), .move (.t 9), none, .write, 0⟩, ⟨none, .store 6 (.t 8) (.t 94), none, .write, 0⟩, ⟨(some 9), .move (.t 95), none, .write, 0⟩, ⟨(some 10), .move (.c (.bool true)), none, .write, 0⟩])
 .ret))))))))) }

theorem c281 : compFunc Tryz.prog Tryz.f281 .full = some t281 := by kernel_rfl

/-- slices.siftDownOrdered[int] -/
def t282 : DFunc := { ntmps := 76, results := [], mode := .full, body :=
 (.seq (.region [⟨(some 10), .move (.t 1), none, .write, 0⟩, ⟨(some 8), .move (.t 10), none, .write, 0⟩])
 (.block 0 (.loop (.block 1 (.seq (.region [⟨(some 11), .move (.t 8), none, .write, 0⟩, ⟨(some 12), .arith .mul (.c (.int .i64 2)) (.t 11), none, .write, 0⟩, ⟨(some 13), .arith .add (.t 12) (.c (.int .i64 1)), none, .write, 0⟩, ⟨(some 9), .move (.t 13), none, .write, 0⟩])
 (.seq (.seq (.region [⟨(some 14), .move (.t 9), none, .write, 0⟩, ⟨(some 15), .move (.t 2), none, .write, 0⟩, ⟨(some 16), .arith .geq (.t 14) (.t 15), none, .write, 0⟩])
 (.cond (.t 16) (.exit 0) .skip))
 (.seq (.seq (.draw [⟨(some 17), .move (.t 9), none, .read, 0⟩, ⟨(some 18), .arith .add (.t 17) (.c (.int .i64 1)), none, .read, 0⟩, ⟨(some 19), .move (.t 2), none, .read, 0⟩, ⟨(some 20), .arith .lss (.t 18) (.t 19), none, .read, 0⟩, ⟨(some 21), .move (.t 20), none, .read, 0⟩, ⟨(some 22), .move (.t 0), (some (21, true)), .read, 0⟩, ⟨(some 23), .move (.t 3), (some (21, true)), .read, 0⟩, ⟨(some 24), .move (.t 9), (some (21, true)), .read, 0⟩, ⟨(some 25), .arith .add (.t 23) (.t 24), (some (21, true)), .read, 0⟩, ⟨(some 26), .indexAddr 1 (.t 22) (.t 25), (some (21, true)), .read, 0⟩, ⟨(some 27), .load none (.t 26), (some (21, true)), .read, 0⟩, ⟨(some 28), .move (.t 0), (some (21, true)), .read, 0⟩, ⟨(some 29), .move (.t 3), (some (21, true)), .read, 0⟩, ⟨(some 30), .move (.t 9), (some (21, true)), .read, 0⟩, ⟨(some 31), .arith .add (.t 29) (.t 30), (some (21, true)), .read, 0⟩, ⟨(some 32), .arith .add (.t 31) (.c (.int .i64 1)), (some (21, true)), .read, 0⟩, ⟨(some 33), .indexAddr 1 (.t 28) (.t 32), (some (21, true)), .read, 0⟩, ⟨(some 34), .load none (.t 33), (some (21, true)), .read, 0⟩, ⟨(some 35), .call (.c (.func 202 [])) [(.t 27), (.t 34)], (some (21, true)), .write, 0⟩, ⟨(some 36), .pick (.t 21) (.t 35) (.c (.bool false)), none, .read, 1⟩])
 (.cond (.t 36) (.region [⟨(some 37), .move (.t 9), none, .write, 0⟩, ⟨(some 38), .arith .add (.t 37) (.c (.int .i64 1)), none, .write, 0⟩, ⟨(some 9), .move (.t 38), none, .write, 0⟩]) .skip))
 (.seq (.seq (.draw [⟨(some 39), .move (.t 0), none, .read, 0⟩, ⟨(some 40), .move (.t 3), none, .read, 0⟩, ⟨(some 41), .move (.t 8), none, .read, 0⟩, ⟨(some 42), .arith .add (.t 40) (.t 41), none, .read, 0⟩, ⟨(some 43), .indexAddr 1 (.t 39) (.t 42), none, .read, 0⟩, ⟨(some 44), .load none (.t 43), none, .read, 0⟩, ⟨(some 45), .move (.t 0), none, .read, 0⟩, ⟨(some 46), .move (.t 3), none, .read, 0⟩, ⟨(some 47), .move (.t 9), none, .read, 0⟩, ⟨(some 48), .arith .add (.t 46) (.t 47), none, .read, 0⟩, ⟨(some 49), .indexAddr 1 (.t 45) (.t 48), none, .read, 0⟩, ⟨(some 50), .load none (.t 49), none, .read, 0⟩, ⟨(some 51), .call (.c (.func 202 [])) [(.t 44), (.t 50)], none, .write, 0⟩, ⟨(some 52), .un .not (.t 51), none, .read, 1⟩])
 (.cond (.t 52) .ret .skip))
 (.seq (.draw [⟨(some 61), .move (.t 0), none, .read, 0⟩, ⟨(some 62), .move (.t 3), none, .read, 0⟩, ⟨(some 63), .move (.t 9), none, .read, 0⟩, ⟨(some 64), .arith .add (.t 62) (.t 63), none, .read, 0⟩, ⟨(some 65), .indexAddr 1 (.t 61) (.t 64), none, .read, 0⟩, ⟨(some 66), .load none (.t 65), none, .read, 0⟩, ⟨(some 67), .move (.t 0), none, .read, 0⟩, ⟨(some 68), .move (.t 3), none, .read, 0⟩, ⟨(some 69), .move (.t 8), none, .read, 0⟩, ⟨(some 70), .arith .add (.t 68) (.t 69), none, .read, 0⟩, ⟨(some 71), .indexAddr 1 (.t 67) (.t 70), none, .read, 0⟩, ⟨(some 72), .load none (.t 71), none, .read, 0⟩, ⟨(some 53), .move (.t 0), none, .read, 0⟩, ⟨(some 54), .move (.t 3), none, .read, 0⟩, ⟨(some 55), .move (.t 8), none, .read, 0⟩, ⟨(some 56), .arith .add (.t 54) (.t 55), none, .read, 0⟩, ⟨(some 73), .indexAddr 1 (.t 53) (.t 56), none, .read, 0⟩, ⟨none, .store 1 (.t 73) (.t 66), none, .write, 0⟩, ⟨(some 57), .move (.t 0), none, .read, 0⟩, ⟨(some 58), .move (.t 3), none, .read, 0⟩, ⟨(some 59), .move (.t 9), none, .read, 0⟩, ⟨(some 60), .arith .add (.t 58) (.t 59), none, .read, 0⟩, ⟨(some 74), .indexAddr 1 (.t 57) (.t 60), none, .read, 1⟩, ⟨none, .store 1 (.t 74) (.t 72), none, .write, 1⟩])
 (.region [⟨(some 75), .move (.t 9), none, .write, 0⟩, ⟨(some 8), .move (.t 75), none, .write, 0⟩])))))))))) }

theorem c282 : compFunc Tryz.prog Tryz.f282 .full = some t282 := by kernel_rfl

/-- slices.nextPowerOfTwo -/
def t283 : DFunc := { ntmps := 7, results := [(.t 2)], mode := .full, body :=
 (.seq (.region [⟨(some 2), .move (.c (.int .u64 0)), none, .write, 0⟩])
 (.seq (.region [⟨(some 3), .move (.t 0), none, .write, 0⟩, ⟨(some 4), .conv .u64 (.t 3), none, .write, 0⟩, ⟨(some 5), .call (.c (.func 107 [])) [(.t 4)], none, .write, 0⟩, ⟨(some 6), .arith .shl (.c (.int .u64 1)) (.t 5), none, .write, 0⟩, ⟨(some 2), .move (.t 6), none, .write, 0⟩])
 .ret)) }

theorem c283 : compFunc Tryz.prog Tryz.f283 .full = some t283 := by kernel_rfl

/-- (*slices.xorshift).Next -/
def t284 : DFunc := { ntmps := 33, results := [(.t 2)], mode := .full, body :=
 (.seq (.region [⟨(some 2), .move (.c (.int .u64 0)), none, .write, 0⟩])
 (.seq (.draw [⟨(some 3), .move (.t 0), none, .read, 0⟩, ⟨(some 4), .nilCheck (.t 3), none, .read, 0⟩, ⟨(some 5), .load none (.t 4), none, .read, 0⟩, ⟨(some 6), .move (.t 0), none, .read, 0⟩, ⟨(some 7), .nilCheck (.t 6), none, .read, 0⟩, ⟨(some 8), .load none (.t 7), none, .read, 0⟩, ⟨(some 9), .arith .shl (.t 8) (.c (.int .u64 13)), none, .read, 0⟩, ⟨(some 10), .arith .xor (.t 5) (.t 9), none, .read, 0⟩, ⟨(some 11), .nilCheck (.t 3), none, .read, 0⟩, ⟨none, .store 1 (.t 11) (.t 10), none, .write, 0⟩])
 (.seq (.draw [⟨(some 12), .move (.t 0), none, .read, 0⟩, ⟨(some 13), .nilCheck (.t 12), none, .read, 0⟩, ⟨(some 14), .load none (.t 13), none, .read, 0⟩, ⟨(some 15), .move (.t 0), none, .read, 0⟩, ⟨(some 16), .nilCheck (.t 15), none, .read, 0⟩, ⟨(some 17), .load none (.t 16), none, .read, 0⟩, ⟨(some 18), .arith .shr (.t 17) (.c (.int .u64 7)), none, .read, 0⟩, ⟨(some 19), .arith .xor (.t 14) (.t 18), none, .read, 0⟩, ⟨(some 20), .nilCheck (.t 12), none, .read, 0⟩, ⟨none, .store 1 (.t 20) (.t 19), none, .write, 0⟩])
 (.seq (.draw [⟨(some 21), .move (.t 0), none, .read, 0⟩, ⟨(some 22), .nilCheck (.t 21), none, .read, 0⟩, ⟨(some 23), .load none (.t 22), none, .read, 0⟩, ⟨(some 24), .move (.t 0), none, .read, 0⟩, ⟨(some 25), .nilCheck (.t 24), none, .read, 0⟩, ⟨(some 26), .load none (.t 25), none, .read, 0⟩, ⟨(some 27), .arith .shl (.t 26) (.c (.int .u64 17)), none, .read, 0⟩, ⟨(some 28), .arith .xor (.t 23) (.t 27), none, .read, 0⟩, ⟨(some 29), .nilCheck (.t 21), none, .read, 0⟩, ⟨none, .store 1 (.t 29) (.t 28), none, .write, 0⟩])
 (.seq (.region [⟨(some 30), .move (.t 0), none, .write, 0⟩, ⟨(some 31), .nilCheck (.t 30), none, .write, 0⟩, ⟨(some 32), .load none (.t 31), none, .write, 0⟩, ⟨(some 2), .move (.t 32), none, .write, 0⟩])
 .ret))))) }

theorem c284 : compFunc Tryz.prog Tryz.f284 .full = some t284 := by kernel_rfl

end Go.Dm.TabS
