/-
The table of functions, brought into the machine's form (Tc, part 0). Written by program (wip/tools/table.lean.txt).
-/
import Derived.Test.YtkkbjjobdcjaiaaGreatMm3
import Derived.Test.YtkkbjjobdcjaiaaGreatRows
import Derived.KernelRfl
namespace Go.Dm.Tc
open Go.Proofs

def t3l0 : DCode :=
 (.seq (.seq (.region [⟨(some 21), .move (.t 5), none, .write, 0⟩, ⟨(some 22), .move (.t 0), none, .write, 0⟩, ⟨(some 23), .len 1 (.t 22), none, .write, 0⟩, ⟨(some 24), .arith .lss (.t 21) (.t 23), none, .write, 0⟩, ⟨(some 25), .move (.t 24), none, .write, 0⟩, ⟨(some 26), .move (.t 5), (some (25, true)), .write, 0⟩, ⟨(some 27), .arith .lss (.t 26) (.c (.int .i64 25)), (some (25, true)), .write, 0⟩, ⟨(some 28), .pick (.t 25) (.t 27) (.c (.bool false)), none, .write, 0⟩])
 (.cond (.t 28) .skip (.exit 0)))
 (.seq (.block 1 (.seq (.region [⟨(some 31), .move (.t 0), none, .write, 0⟩, ⟨(some 32), .move (.t 5), none, .write, 0⟩, ⟨(some 33), .indexAddr 6 (.t 31) (.t 32), none, .write, 0⟩, ⟨(some 34), .load (some 6) (.t 33), none, .write, 0⟩, ⟨(some 6), .alloc 34 6 (.agg [(.int .i64 0), (.int .i64 0), (.int .i64 0), (.int .i64 0), .nsl, .nsl]), none, .write, 0⟩, ⟨none, .store 6 (.t 6) (.t 34), none, .write, 0⟩])
 (.seq (.draw [⟨(some 35), .fieldAddr 1 (.t 6), none, .read, 0⟩, ⟨(some 36), .load none (.t 35), none, .read, 0⟩, ⟨(some 37), .call (.c (.func 16 [])) [(.t 36), (.c (.int .i64 0)), (.c (.int .i64 2))], none, .create, 0⟩, ⟨(some 38), .fieldAddr 2 (.t 6), none, .read, 0⟩, ⟨(some 39), .load none (.t 38), none, .read, 0⟩, ⟨(some 40), .call (.c (.func 16 [])) [(.t 39), (.c (.int .i64 0)), (.c (.int .i64 2))], none, .write, 1⟩, ⟨(some 41), .build [(.int .i64 0), (.int .i64 0)] [(0, 1, (.t 37)), (1, 1, (.t 40))], none, .read, 2⟩, ⟨(some 7), .alloc 37 2 (.agg [(.int .i64 0), (.int .i64 0)]), none, .create, 0⟩, ⟨none, .store 2 (.t 7) (.t 41), none, .write, 3⟩])
 (.seq (.region [⟨(some 42), .fieldAddr 3 (.t 6), none, .write, 0⟩, ⟨(some 43), .load none (.t 42), none, .write, 0⟩, ⟨(some 44), .call (.c (.func 16 [])) [(.t 43), (.c (.int .i64 (-1))), (.c (.int .i64 3))], none, .write, 0⟩, ⟨(some 8), .move (.t 44), none, .write, 0⟩])
 (.seq (.seq (.region [⟨(some 45), .move (.t 8), none, .write, 0⟩, ⟨(some 46), .arith .eql (.t 45) (.c (.int .i64 0)), none, .write, 0⟩])
 (.cond (.t 46) (.region [⟨(some 8), .move (.c (.int .i64 1)), none, .write, 0⟩]) .skip))
 (.seq (.region [⟨(some 47), .load (some 6) (.t 3), none, .write, 0⟩, ⟨(some 48), .call (.c (.func 17 [])) [(.t 47)], none, .write, 0⟩, ⟨(some 9), .alloc 29 6 (.agg [(.int .i64 0), .nsl, .nsl, .nsl, .nsl, .nsl]), none, .write, 0⟩, ⟨none, .store 6 (.t 9) (.t 48), none, .write, 0⟩])
 (.seq (.region [⟨(some 49), .load (some 6) (.t 3), none, .write, 0⟩, ⟨(some 10), .alloc 29 6 (.agg [(.int .i64 0), .nsl, .nsl, .nsl, .nsl, .nsl]), none, .write, 0⟩, ⟨none, .store 6 (.t 10) (.t 49), none, .write, 0⟩])
 (.seq (.region [⟨(some 11), .move (.c (.bool false)), none, .write, 0⟩, ⟨(some 12), .move (.c (.bool false)), none, .write, 0⟩])
 (.seq (.seq (.region [⟨(some 50), .fieldAddr 0 (.t 6), none, .write, 0⟩, ⟨(some 51), .load none (.t 50), none, .write, 0⟩, ⟨(some 52), .arith .and (.t 51) (.c (.int .i64 1)), none, .write, 0⟩, ⟨(some 53), .arith .eql (.t 52) (.c (.int .i64 1)), none, .write, 0⟩])
 (.cond (.t 53) (.seq (.draw [⟨(some 54), .load (some 2) (.t 7), none, .read, 0⟩, ⟨(some 55), .fieldAddr 4 (.t 6), none, .read, 0⟩, ⟨(some 56), .load (some 2) (.t 55), none, .read, 0⟩, ⟨(some 57), .call (.c (.func 18 [])) [(.t 56)], none, .create, 0⟩, ⟨(some 58), .move (.t 8), none, .read, 0⟩, ⟨(some 59), .build [(.int .i64 0), (.int .i64 0), .nsl, (.int .i64 0)] [(0, 2, (.t 54)), (2, 1, (.t 57)), (3, 1, (.t 58))], none, .read, 1⟩, ⟨(some 13), .alloc 42 4 (.agg [(.int .i64 0), (.int .i64 0), .nsl, (.int .i64 0)]), none, .create, 0⟩, ⟨none, .store 4 (.t 13) (.t 59), none, .write, 2⟩])
 (.seq (.region [⟨(some 61), .load (some 6) (.t 3), none, .write, 0⟩, ⟨(some 62), .load (some 4) (.t 13), none, .write, 0⟩, ⟨(some 63), .call (.c (.func 19 [])) [(.t 61), (.t 62)], none, .write, 0⟩, ⟨(some 60), .move (.t 63), none, .write, 0⟩, ⟨(some 64), .extract (.t 60) 0, none, .write, 0⟩, ⟨(some 65), .extract (.t 60) 1, none, .write, 0⟩, ⟨none, .store 6 (.t 3) (.t 64), none, .write, 0⟩, ⟨(some 11), .move (.t 65), none, .write, 0⟩])
 (.region [⟨(some 67), .load (some 6) (.t 4), none, .write, 0⟩, ⟨(some 68), .load (some 4) (.t 13), none, .write, 0⟩, ⟨(some 69), .call (.c (.func 20 [])) [(.t 67), (.t 68)], none, .write, 0⟩, ⟨(some 66), .move (.t 69), none, .write, 0⟩, ⟨(some 70), .extract (.t 66) 0, none, .write, 0⟩, ⟨(some 71), .extract (.t 66) 1, none, .write, 0⟩, ⟨none, .store 6 (.t 4) (.t 70), none, .write, 0⟩, ⟨(some 12), .move (.t 71), none, .write, 0⟩]))) (.seq (.region [⟨(some 73), .load (some 6) (.t 3), none, .write, 0⟩, ⟨(some 74), .load (some 2) (.t 7), none, .write, 0⟩, ⟨(some 75), .move (.t 8), none, .write, 0⟩, ⟨(some 76), .call (.c (.func 21 [])) [(.t 73), (.t 74), (.t 75)], none, .write, 0⟩, ⟨(some 72), .move (.t 76), none, .write, 0⟩, ⟨(some 77), .extract (.t 72) 0, none, .write, 0⟩, ⟨(some 78), .extract (.t 72) 1, none, .write, 0⟩, ⟨none, .store 6 (.t 3) (.t 77), none, .write, 0⟩, ⟨(some 11), .move (.t 78), none, .write, 0⟩])
 (.region [⟨(some 80), .load (some 6) (.t 4), none, .write, 0⟩, ⟨(some 81), .load (some 2) (.t 7), none, .write, 0⟩, ⟨(some 82), .move (.t 8), none, .write, 0⟩, ⟨(some 83), .call (.c (.func 22 [])) [(.t 80), (.t 81), (.t 82)], none, .write, 0⟩, ⟨(some 79), .move (.t 83), none, .write, 0⟩, ⟨(some 84), .extract (.t 79) 0, none, .write, 0⟩, ⟨(some 85), .extract (.t 79) 1, none, .write, 0⟩, ⟨none, .store 6 (.t 4) (.t 84), none, .write, 0⟩, ⟨(some 12), .move (.t 85), none, .write, 0⟩]))))
 (.seq (.region [⟨(some 87), .load (some 6) (.t 3), none, .write, 0⟩, ⟨(some 88), .load (some 2) (.t 7), none, .write, 0⟩, ⟨(some 89), .call (.c (.func 23 [])) [(.t 87), (.t 88)], none, .write, 0⟩, ⟨(some 86), .move (.t 89), none, .write, 0⟩, ⟨(some 90), .extract (.t 86) 0, none, .write, 0⟩, ⟨(some 91), .extract (.t 86) 1, none, .write, 0⟩, ⟨(some 14), .alloc 42 4 (.agg [(.int .i64 0), (.int .i64 0), .nsl, (.int .i64 0)]), none, .write, 0⟩, ⟨none, .store 4 (.t 14) (.t 90), none, .write, 0⟩, ⟨(some 15), .move (.t 91), none, .write, 0⟩])
 (.seq (.region [⟨(some 92), .load (some 6) (.t 4), none, .write, 0⟩, ⟨(some 93), .load (some 2) (.t 7), none, .write, 0⟩, ⟨(some 94), .call (.c (.func 24 [])) [(.t 92), (.t 93)], none, .write, 0⟩, ⟨(some 16), .move (.t 94), none, .write, 0⟩])
 (.seq (.draw [⟨(some 95), .move (.t 11), none, .read, 0⟩, ⟨(some 96), .move (.t 12), none, .read, 0⟩, ⟨(some 97), .eqb true (.t 95) (.t 96), none, .read, 0⟩, ⟨(some 98), .move (.t 97), none, .read, 0⟩, ⟨(some 99), .load (some 6) (.t 3), (some (98, false)), .read, 0⟩, ⟨(some 100), .load (some 6) (.t 4), (some (98, false)), .read, 0⟩, ⟨(some 101), .call (.c (.func 25 [])) [(.t 99), (.t 100)], (some (98, false)), .write, 0⟩, ⟨(some 102), .un .not (.t 101), (some (98, false)), .read, 1⟩, ⟨(some 103), .pick (.t 98) (.c (.bool true)) (.t 102), none, .read, 1⟩, ⟨(some 104), .move (.t 103), none, .read, 1⟩, ⟨(some 105), .load (some 6) (.t 3), (some (104, false)), .read, 1⟩, ⟨(some 106), .load (some 6) (.t 4), (some (104, false)), .read, 1⟩, ⟨(some 107), .call (.c (.func 26 [])) [(.t 105), (.t 106)], (some (104, false)), .write, 1⟩, ⟨(some 108), .un .not (.t 107), (some (104, false)), .read, 2⟩, ⟨(some 109), .pick (.t 104) (.c (.bool true)) (.t 108), none, .read, 2⟩, ⟨(some 110), .move (.t 109), none, .read, 2⟩, ⟨(some 111), .load (some 6) (.t 3), (some (110, false)), .read, 2⟩, ⟨(some 112), .call (.c (.func 27 [])) [(.t 111)], (some (110, false)), .write, 2⟩, ⟨(some 113), .un .not (.t 112), (some (110, false)), .read, 3⟩, ⟨(some 114), .pick (.t 110) (.c (.bool true)) (.t 113), none, .read, 3⟩, ⟨(some 115), .move (.t 114), none, .read, 3⟩, ⟨(some 116), .move (.t 15), (some (115, false)), .read, 3⟩, ⟨(some 117), .move (.t 16), (some (115, false)), .read, 3⟩, ⟨(some 118), .arith .geq (.t 117) (.c (.int .i64 0)), (some (115, false)), .read, 3⟩, ⟨(some 119), .eqb true (.t 116) (.t 118), (some (115, false)), .read, 3⟩, ⟨(some 120), .pick (.t 115) (.c (.bool true)) (.t 119), none, .read, 3⟩, ⟨(some 121), .move (.t 120), none, .read, 3⟩, ⟨(some 122), .move (.t 15), (some (121, false)), .read, 3⟩, ⟨(some 123), .move (.t 122), (some (121, false)), .read, 3⟩, ⟨(some 124), .fieldAddr 0 (.t 14), (some (123, true)), .read, 3⟩, ⟨(some 125), .load (some 2) (.t 124), (some (123, true)), .read, 3⟩, ⟨(some 126), .load (some 2) (.t 7), (some (123, true)), .read, 3⟩, ⟨(some 127), .eqa true [1, 1] (.t 125) (.t 126), (some (123, true)), .read, 3⟩, ⟨(some 128), .move (.t 127), (some (123, true)), .read, 3⟩, ⟨(some 129), .fieldAddr 3 (.t 14), (some (128, false)), .read, 3⟩, ⟨(some 130), .load none (.t 129), (some (128, false)), .read, 3⟩, ⟨(some 131), .fieldAddr 2 (.t 4), (some (128, false)), .read, 3⟩, ⟨(some 132), .load none (.t 131), (some (128, false)), .read, 3⟩, ⟨(some 133), .move (.t 16), (some (128, false)), .read, 3⟩, ⟨(some 134), .indexAddr 4 (.t 132) (.t 133), (some (128, false)), .read, 3⟩, ⟨(some 135), .fieldAddr 3 (.t 134), (some (128, false)), .read, 3⟩, ⟨(some 136), .load none (.t 135), (some (128, false)), .read, 3⟩, ⟨(some 137), .arith .neq (.t 130) (.t 136), (some (128, false)), .read, 3⟩, ⟨(some 138), .pick (.t 128) (.c (.bool true)) (.t 137), (some (123, true)), .read, 3⟩, ⟨(some 139), .pick (.t 123) (.t 138) (.c (.bool false)), (some (121, false)), .read, 3⟩, ⟨(some 140), .pick (.t 121) (.c (.bool true)) (.t 139), none, .read, 3⟩, ⟨(some 141), .move (.t 140), none, .read, 3⟩, ⟨(some 142), .load (some 6) (.t 10), (some (141, false)), .read, 3⟩, ⟨(some 143), .load (some 6) (.t 9), (some (141, false)), .read, 3⟩, ⟨(some 144), .call (.c (.func 25 [])) [(.t 142), (.t 143)], (some (141, false)), .write, 3⟩, ⟨(some 145), .un .not (.t 144), (some (141, false)), .read, 4⟩, ⟨(some 146), .pick (.t 141) (.c (.bool true)) (.t 145), none, .read, 4⟩])
 (.cond (.t 146) (.seq (.region [⟨(some 2), .move (.c (.bool false)), none, .write, 0⟩])
 .ret) .skip)))))))))))))
 (.region [⟨(some 29), .move (.t 5), none, .write, 0⟩, ⟨(some 30), .arith .add (.t 29) (.c (.int .i64 1)), none, .write, 0⟩, ⟨(some 5), .move (.t 30), none, .write, 0⟩])))

def t3k0 : DCode :=
 (.seq (.region [⟨(some 147), .call (.c (.func 28 [])) [], none, .write, 0⟩, ⟨(some 2), .move (.t 147), none, .write, 0⟩])
 .ret)

/-- broadside/broadsidelaw9.AdvertsPlays -/
def t3 : DFunc := { ntmps := 148, results := [(.t 2)], mode := .pure, body :=
 (.seq (.region [⟨(some 2), .move (.c (.bool false)), none, .write, 0⟩])
 (.seq (.region [⟨(some 17), .buildSlice 3 1 (.int .i64 0) 3 [(0, (.c (.int .i64 1))), (1, (.c (.int .i64 2))), (2, (.c (.int .i64 3)))], none, .write, 0⟩, ⟨(some 18), .call (.c (.func 15 [])) [(.c (.int .i64 0)), (.t 17)], none, .write, 0⟩, ⟨(some 19), .buildSlice 3 1 (.int .i64 0) 3 [(0, (.c (.int .i64 1))), (1, (.c (.int .i64 2))), (2, (.c (.int .i64 3)))], none, .write, 0⟩, ⟨(some 20), .build [(.int .i64 0), .nsl, .nsl, .nsl, .nsl, .nsl] [(1, 1, (.t 19))], none, .write, 0⟩, ⟨(some 3), .alloc 29 6 (.agg [(.int .i64 0), .nsl, .nsl, .nsl, .nsl, .nsl]), none, .write, 0⟩, ⟨(some 4), .alloc 29 6 (.agg [(.int .i64 0), .nsl, .nsl, .nsl, .nsl, .nsl]), none, .write, 0⟩, ⟨none, .store 6 (.t 3) (.t 18), none, .write, 0⟩, ⟨none, .store 6 (.t 4) (.t 20), none, .write, 0⟩])
 (.seq (.seq (.region [⟨(some 5), .move (.c (.int .i64 0)), none, .write, 0⟩])
 (.block 0 (.loop t3l0)))
 t3k0))) }

theorem c3 : compFunc Tryz.prog Tryz.f3 .pure = some t3 := by kernel_rfl

/-- broadside/adverts.New -/
def t15 : DFunc := { ntmps := 14, results := [(.cell 4 (some 6))], mode := .pure, body :=
 (.seq (.region [⟨(some 4), .alloc 29 6 (.agg [(.int .i64 0), .nsl, .nsl, .nsl, .nsl, .nsl]), none, .write, 0⟩])
 (.seq (.region [⟨(some 6), .move (.t 1), none, .write, 0⟩, ⟨(some 7), .call (.c (.func 64 [])) [(.t 6)], none, .write, 0⟩, ⟨(some 5), .move (.t 7), none, .write, 0⟩])
 (.seq (.region [⟨(some 8), .move (.t 5), none, .write, 0⟩, ⟨(some 9), .call (.c (.func 65 [])) [(.t 8)], none, .write, 0⟩])
 (.seq (.region [⟨(some 10), .move (.t 0), none, .write, 0⟩, ⟨(some 11), .move (.t 5), none, .write, 0⟩, ⟨(some 12), .call (.c (.func 66 [])) [(.t 11)], none, .write, 0⟩, ⟨(some 13), .build [(.int .i64 0), .nsl, .nsl, .nsl, .nsl, .nsl] [(0, 1, (.t 10)), (1, 1, (.t 12))], none, .write, 0⟩, ⟨none, .store 6 (.t 4) (.t 13), none, .write, 0⟩])
 .ret)))) }

theorem c15 : compFunc Tryz.prog Tryz.f15 .pure = some t15 := by kernel_rfl

/-- broadside/broadsidebook.Within -/
def t16 : DFunc := { ntmps := 24, results := [(.t 6)], mode := .pure, body :=
 (.seq (.region [⟨(some 6), .move (.c (.int .i64 0)), none, .write, 0⟩])
 (.seq (.region [⟨(some 7), .move (.t 0), none, .write, 0⟩, ⟨(some 8), .move (.t 2), none, .write, 0⟩, ⟨(some 9), .move (.t 1), none, .write, 0⟩, ⟨(some 10), .arith .sub (.t 8) (.t 9), none, .write, 0⟩, ⟨(some 11), .arith .add (.t 10) (.c (.int .i64 1)), none, .write, 0⟩, ⟨(some 12), .arith .rem (.t 7) (.t 11), none, .write, 0⟩, ⟨(some 0), .move (.t 12), none, .write, 0⟩])
 (.seq (.seq (.region [⟨(some 13), .move (.t 0), none, .write, 0⟩, ⟨(some 14), .arith .lss (.t 13) (.c (.int .i64 0)), none, .write, 0⟩])
 (.cond (.t 14) (.region [⟨(some 15), .move (.t 0), none, .write, 0⟩, ⟨(some 16), .move (.t 2), none, .write, 0⟩, ⟨(some 17), .arith .add (.t 15) (.t 16), none, .write, 0⟩, ⟨(some 18), .move (.t 1), none, .write, 0⟩, ⟨(some 19), .arith .sub (.t 17) (.t 18), none, .write, 0⟩, ⟨(some 20), .arith .add (.t 19) (.c (.int .i64 1)), none, .write, 0⟩, ⟨(some 0), .move (.t 20), none, .write, 0⟩]) .skip))
 (.seq (.region [⟨(some 21), .move (.t 1), none, .write, 0⟩, ⟨(some 22), .move (.t 0), none, .write, 0⟩, ⟨(some 23), .arith .add (.t 21) (.t 22), none, .write, 0⟩, ⟨(some 6), .move (.t 23), none, .write, 0⟩])
 .ret)))) }

theorem c16 : compFunc Tryz.prog Tryz.f16 .pure = some t16 := by kernel_rfl

/-- broadside/broadsidekeep.CopyBroker -/
def t17 : DFunc := { ntmps := 29, results := [(.cell 2 (some 6))], mode := .pure, body :=
 (.seq (.region [⟨(some 1), .box 29 6 (.t 0), none, .write, 0⟩, ⟨(some 2), .alloc 29 6 (.agg [(.int .i64 0), .nsl, .nsl, .nsl, .nsl, .nsl]), none, .write, 0⟩])
 (.seq (.region [⟨(some 3), .buildSlice 3 1 (.int .i64 0) 0 [], none, .write, 0⟩, ⟨(some 4), .fieldAddr 1 (.t 1), none, .write, 0⟩, ⟨(some 5), .load none (.t 4), none, .write, 0⟩, ⟨(some 6), .append 3 1 8 (.t 3) (.t 5), none, .write, 0⟩, ⟨(some 7), .fieldAddr 1 (.t 1), none, .write, 0⟩, ⟨none, .store 1 (.t 7) (.t 6), none, .write, 0⟩])
 (.seq (.region [⟨(some 8), .buildSlice 42 4 (.agg [(.int .i64 0), (.int .i64 0), .nsl, (.int .i64 0)]) 0 [], none, .write, 0⟩, ⟨(some 9), .fieldAddr 2 (.t 1), none, .write, 0⟩, ⟨(some 10), .load none (.t 9), none, .write, 0⟩, ⟨(some 11), .append 42 4 48 (.t 8) (.t 10), none, .write, 0⟩, ⟨(some 12), .fieldAddr 2 (.t 1), none, .write, 0⟩, ⟨none, .store 1 (.t 12) (.t 11), none, .write, 0⟩])
 (.seq (.region [⟨(some 13), .buildSlice 37 2 (.agg [(.int .i64 0), (.int .i64 0)]) 0 [], none, .write, 0⟩, ⟨(some 14), .fieldAddr 3 (.t 1), none, .write, 0⟩, ⟨(some 15), .load none (.t 14), none, .write, 0⟩, ⟨(some 16), .append 37 2 16 (.t 13) (.t 15), none, .write, 0⟩, ⟨(some 17), .fieldAddr 3 (.t 1), none, .write, 0⟩, ⟨none, .store 1 (.t 17) (.t 16), none, .write, 0⟩])
 (.seq (.region [⟨(some 18), .buildSlice 58 7 (.agg [(.int .i64 0), (.int .i64 0), (.int .i64 0), (.int .i64 0), .nsl, (.int .i64 0), (.bool false)]) 0 [], none, .write, 0⟩, ⟨(some 19), .fieldAddr 4 (.t 1), none, .write, 0⟩, ⟨(some 20), .load none (.t 19), none, .write, 0⟩, ⟨(some 21), .append 58 7 72 (.t 18) (.t 20), none, .write, 0⟩, ⟨(some 22), .fieldAddr 4 (.t 1), none, .write, 0⟩, ⟨none, .store 1 (.t 22) (.t 21), none, .write, 0⟩])
 (.seq (.region [⟨(some 23), .buildSlice 60 3 (.agg [(.int .i64 0), (.int .i64 0), .nsl]) 0 [], none, .write, 0⟩, ⟨(some 24), .fieldAddr 5 (.t 1), none, .write, 0⟩, ⟨(some 25), .load none (.t 24), none, .write, 0⟩, ⟨(some 26), .append 60 3 40 (.t 23) (.t 25), none, .write, 0⟩, ⟨(some 27), .fieldAddr 5 (.t 1), none, .write, 0⟩, ⟨none, .store 1 (.t 27) (.t 26), none, .write, 0⟩])
 (.seq (.region [⟨(some 28), .load (some 6) (.t 1), none, .write, 0⟩, ⟨none, .store 6 (.t 2) (.t 28), none, .write, 0⟩])
 .ret))))))) }

theorem c17 : compFunc Tryz.prog Tryz.f17 .pure = some t17 := by kernel_rfl

def t18l0 : DCode :=
 (.seq (.region [⟨(some 9), .arith .lss (.t 8) (.t 7), none, .write, 0⟩])
 (.seq (.cond (.t 9) .skip (.exit 0))
 (.seq (.block 1 (.seq (.region [⟨(some 10), .move (.t 8), none, .write, 0⟩, ⟨(some 11), .indexAddr 1 (.t 6) (.t 8), none, .write, 0⟩, ⟨(some 12), .load none (.t 11), none, .write, 0⟩, ⟨(some 4), .move (.t 10), none, .write, 0⟩, ⟨(some 5), .move (.t 12), none, .write, 0⟩])
 (.seq (.region [⟨(some 13), .move (.t 4), none, .write, 0⟩, ⟨(some 14), .fieldAddr 0 (.t 1), none, .write, 0⟩, ⟨(some 15), .load none (.t 14), none, .write, 0⟩, ⟨(some 16), .len 1 (.t 15), none, .write, 0⟩, ⟨(some 17), .arith .lss (.t 13) (.t 16), none, .write, 0⟩, ⟨(some 18), .move (.t 17), none, .write, 0⟩, ⟨(some 19), .fieldAddr 0 (.t 1), (some (18, true)), .write, 0⟩, ⟨(some 20), .load none (.t 19), (some (18, true)), .write, 0⟩, ⟨(some 21), .move (.t 4), (some (18, true)), .write, 0⟩, ⟨(some 22), .indexAddr 1 (.t 20) (.t 21), (some (18, true)), .write, 0⟩, ⟨(some 23), .load none (.t 22), (some (18, true)), .write, 0⟩, ⟨(some 24), .arith .and (.t 23) (.c (.int .i64 1)), (some (18, true)), .write, 0⟩, ⟨(some 25), .arith .eql (.t 24) (.c (.int .i64 1)), (some (18, true)), .write, 0⟩, ⟨(some 26), .pick (.t 18) (.t 25) (.c (.bool false)), none, .write, 0⟩, ⟨(some 27), .move (.t 26), none, .write, 0⟩, ⟨(some 28), .move (.t 3), (some (27, true)), .write, 0⟩, ⟨(some 29), .len 1 (.t 28), (some (27, true)), .write, 0⟩, ⟨(some 30), .arith .lss (.t 29) (.c (.int .i64 5)), (some (27, true)), .write, 0⟩, ⟨(some 31), .pick (.t 27) (.t 30) (.c (.bool false)), none, .write, 0⟩])
 (.cond (.t 31) (.region [⟨(some 32), .move (.t 3), none, .write, 0⟩, ⟨(some 33), .move (.t 5), none, .write, 0⟩, ⟨(some 34), .fieldAddr 1 (.t 1), none, .write, 0⟩, ⟨(some 35), .load none (.t 34), none, .write, 0⟩, ⟨(some 36), .move (.t 4), none, .write, 0⟩, ⟨(some 37), .call (.c (.func 69 [])) [(.t 35), (.t 36)], none, .write, 0⟩, ⟨(some 38), .call (.c (.func 68 [])) [(.t 33), (.t 37)], none, .write, 0⟩, ⟨(some 39), .buildSlice 62 5 (.agg [(.str []), (.int .i64 0), (.int .i64 0), (.int .i64 0), (.str [])]) 1 [(0, (.t 38))], none, .write, 0⟩, ⟨(some 40), .append 62 5 56 (.t 32) (.t 39), none, .write, 0⟩, ⟨(some 3), .move (.t 40), none, .write, 0⟩]) .skip))))
 (.region [⟨(some 41), .arith .add (.t 8) (.c (.int .i64 1)), none, .write, 0⟩, ⟨(some 8), .move (.t 41), none, .write, 0⟩]))))

def t18k0 : DCode :=
 (.seq (.region [⟨(some 42), .move (.t 3), none, .write, 0⟩, ⟨(some 2), .move (.t 42), none, .write, 0⟩])
 .ret)

/-- (broadside/broadsidekeep.Pred).Pred -/
def t18 : DFunc := { ntmps := 43, results := [(.t 2)], mode := .pure, body :=
 (.seq (.region [⟨(some 1), .box 32 2 (.t 0), none, .write, 0⟩, ⟨(some 2), .move (.c .nsl), none, .write, 0⟩])
 (.seq (.region [⟨(some 3), .move (.c .nsl), none, .write, 0⟩])
 (.seq (.seq (.region [⟨(some 6), .call (.c (.func 67 [])) [], none, .write, 0⟩, ⟨(some 7), .len 1 (.t 6), none, .write, 0⟩, ⟨(some 8), .move (.c (.int .i64 0)), none, .write, 0⟩])
 (.block 0 (.loop t18l0)))
 t18k0))) }

theorem c18 : compFunc Tryz.prog Tryz.f18 .pure = some t18 := by kernel_rfl

/-- broadside/adverts.Learn -/
def t19 : DFunc := { ntmps := 44, results := [(.cell 4 (some 6)), (.t 5)], mode := .frz, body :=
 (.seq (.region [⟨(some 2), .box 29 6 (.t 0), none, .write, 0⟩, ⟨(some 3), .box 42 4 (.t 1), none, .write, 0⟩, ⟨(some 4), .alloc 29 6 (.agg [(.int .i64 0), .nsl, .nsl, .nsl, .nsl, .nsl]), none, .write, 0⟩, ⟨(some 5), .move (.c (.bool false)), none, .write, 0⟩])
 (.seq (.region [⟨(some 10), .load (some 6) (.t 2), none, .write, 0⟩, ⟨(some 11), .call (.c (.func 70 [])) [(.t 10)], none, .write, 0⟩, ⟨none, .store 6 (.t 2) (.t 11), none, .write, 0⟩])
 (.seq (.region [⟨(some 13), .load (some 6) (.t 2), none, .write, 0⟩, ⟨(some 14), .fieldAddr 0 (.t 3), none, .write, 0⟩, ⟨(some 15), .load (some 2) (.t 14), none, .write, 0⟩, ⟨(some 16), .call (.c (.func 71 [])) [(.t 13), (.t 15)], none, .write, 0⟩, ⟨(some 12), .move (.t 16), none, .write, 0⟩, ⟨(some 17), .extract (.t 12) 0, none, .write, 0⟩, ⟨(some 18), .extract (.t 12) 1, none, .write, 0⟩, ⟨(some 6), .move (.t 17), none, .write, 0⟩, ⟨(some 7), .move (.t 18), none, .write, 0⟩])
 (.seq (.seq (.region [⟨(some 19), .move (.t 7), none, .write, 0⟩])
 (.cond (.t 19) (.seq (.region [⟨(some 20), .load (some 6) (.t 2), none, .write, 0⟩, ⟨none, .store 6 (.t 4) (.t 20), none, .write, 0⟩, ⟨(some 5), .move (.c (.bool false)), none, .write, 0⟩])
 .ret) .skip))
 (.seq (.region [⟨(some 22), .load (some 6) (.t 2), none, .write, 0⟩, ⟨(some 23), .fieldAddr 0 (.t 3), none, .write, 0⟩, ⟨(some 24), .load (some 2) (.t 23), none, .write, 0⟩, ⟨(some 25), .call (.c (.func 72 [])) [(.t 22), (.t 24)], none, .write, 0⟩, ⟨(some 21), .move (.t 25), none, .write, 0⟩, ⟨(some 26), .extract (.t 21) 0, none, .write, 0⟩, ⟨(some 27), .extract (.t 21) 1, none, .write, 0⟩, ⟨(some 8), .move (.t 26), none, .write, 0⟩, ⟨(some 9), .move (.t 27), none, .write, 0⟩])
 (.seq (.region [⟨(some 28), .fieldAddr 2 (.t 2), none, .write, 0⟩, ⟨(some 29), .load none (.t 28), none, .write, 0⟩, ⟨(some 30), .move (.t 8), none, .write, 0⟩, ⟨(some 31), .load (some 4) (.t 3), none, .write, 0⟩, ⟨(some 32), .buildSlice 42 4 (.agg [(.int .i64 0), (.int .i64 0), .nsl, (.int .i64 0)]) 1 [(0, (.t 31))], none, .write, 0⟩, ⟨(some 33), .call (.c (.func 73 [])) [(.t 29), (.t 30), (.t 32)], none, .write, 0⟩, ⟨(some 34), .fieldAddr 2 (.t 2), none, .write, 0⟩, ⟨none, .store 1 (.t 34) (.t 33), none, .write, 0⟩])
 (.seq (.region [⟨(some 35), .fieldAddr 3 (.t 2), none, .write, 0⟩, ⟨(some 36), .load none (.t 35), none, .write, 0⟩, ⟨(some 37), .move (.t 6), none, .write, 0⟩, ⟨(some 38), .fieldAddr 0 (.t 3), none, .write, 0⟩, ⟨(some 39), .load (some 2) (.t 38), none, .write, 0⟩, ⟨(some 40), .buildSlice 37 2 (.agg [(.int .i64 0), (.int .i64 0)]) 1 [(0, (.t 39))], none, .write, 0⟩, ⟨(some 41), .call (.c (.func 74 [])) [(.t 36), (.t 37), (.t 40)], none, .write, 0⟩, ⟨(some 42), .fieldAddr 3 (.t 2), none, .write, 0⟩, ⟨none, .store 1 (.t 42) (.t 41), none, .write, 0⟩])
 (.seq (.region [⟨(some 43), .load (some 6) (.t 2), none, .write, 0⟩, ⟨none, .store 6 (.t 4) (.t 43), none, .write, 0⟩, ⟨(some 5), .move (.c (.bool true)), none, .write, 0⟩])
 .ret)))))))) }

theorem c19 : compFunc Tryz.prog Tryz.f19 .frz = some t19 := by kernel_rfl

def t20l0 : DCode :=
 (.seq (.seq (.draw [⟨(some 13), .fieldAddr 3 (.t 2), none, .read, 0⟩, ⟨(some 14), .load none (.t 13), none, .read, 0⟩, ⟨(some 12), .move (.t 6), none, .read, 0⟩, ⟨(some 15), .len 1 (.t 14), none, .read, 0⟩, ⟨(some 16), .arith .lss (.t 12) (.t 15), none, .read, 0⟩, ⟨(some 17), .move (.t 16), none, .read, 0⟩, ⟨(some 18), .fieldAddr 3 (.t 2), (some (17, true)), .read, 0⟩, ⟨(some 19), .load none (.t 18), (some (17, true)), .read, 0⟩, ⟨(some 20), .move (.t 6), (some (17, true)), .read, 0⟩, ⟨(some 21), .indexAddr 2 (.t 19) (.t 20), (some (17, true)), .read, 0⟩, ⟨(some 22), .load (some 2) (.t 21), (some (17, true)), .read, 0⟩, ⟨(some 23), .fieldAddr 0 (.t 3), (some (17, true)), .read, 0⟩, ⟨(some 24), .load (some 2) (.t 23), (some (17, true)), .read, 0⟩, ⟨(some 25), .call (.c (.func 76 [])) [(.t 22), (.t 24)], (some (17, true)), .write, 0⟩, ⟨(some 26), .pick (.t 17) (.t 25) (.c (.bool false)), none, .read, 1⟩])
 (.cond (.t 26) .skip (.exit 0)))
 (.block 1 (.region [⟨(some 27), .move (.t 6), none, .write, 0⟩, ⟨(some 28), .arith .add (.t 27) (.c (.int .i64 1)), none, .write, 0⟩, ⟨(some 6), .move (.t 28), none, .write, 0⟩])))

def t20l1 : DCode :=
 (.seq (.seq (.draw [⟨(some 46), .fieldAddr 2 (.t 2), none, .read, 0⟩, ⟨(some 47), .load none (.t 46), none, .read, 0⟩, ⟨(some 45), .move (.t 6), none, .read, 0⟩, ⟨(some 48), .len 1 (.t 47), none, .read, 0⟩, ⟨(some 49), .arith .lss (.t 45) (.t 48), none, .read, 0⟩, ⟨(some 50), .move (.t 49), none, .read, 0⟩, ⟨(some 51), .fieldAddr 2 (.t 2), (some (50, true)), .read, 0⟩, ⟨(some 52), .load none (.t 51), (some (50, true)), .read, 0⟩, ⟨(some 53), .move (.t 6), (some (50, true)), .read, 0⟩, ⟨(some 54), .indexAddr 4 (.t 52) (.t 53), (some (50, true)), .read, 0⟩, ⟨(some 55), .fieldAddr 0 (.t 54), (some (50, true)), .read, 0⟩, ⟨(some 56), .load (some 2) (.t 55), (some (50, true)), .read, 0⟩, ⟨(some 57), .fieldAddr 0 (.t 3), (some (50, true)), .read, 0⟩, ⟨(some 58), .load (some 2) (.t 57), (some (50, true)), .read, 0⟩, ⟨(some 59), .call (.c (.func 76 [])) [(.t 56), (.t 58)], (some (50, true)), .write, 0⟩, ⟨(some 60), .pick (.t 50) (.t 59) (.c (.bool false)), none, .read, 1⟩])
 (.cond (.t 60) .skip (.exit 2)))
 (.block 3 (.region [⟨(some 61), .move (.t 6), none, .write, 0⟩, ⟨(some 62), .arith .add (.t 61) (.c (.int .i64 1)), none, .write, 0⟩, ⟨(some 6), .move (.t 62), none, .write, 0⟩])))

def t20k0 : DCode :=
 (.seq (.draw [⟨(some 64), .fieldAddr 2 (.t 2), none, .read, 0⟩, ⟨(some 65), .load none (.t 64), none, .read, 0⟩, ⟨(some 66), .move (.t 6), none, .read, 0⟩, ⟨(some 67), .sliceSl 4 (.t 65) none (some (.t 66)), none, .read, 0⟩, ⟨(some 63), .buildSlice 42 4 (.agg [(.int .i64 0), (.int .i64 0), .nsl, (.int .i64 0)]) 0 [], none, .create, 0⟩, ⟨(some 68), .append 42 4 48 (.t 63) (.t 67), none, .create, 0⟩, ⟨(some 69), .load (some 4) (.t 3), none, .read, 0⟩, ⟨(some 70), .buildSlice 42 4 (.agg [(.int .i64 0), (.int .i64 0), .nsl, (.int .i64 0)]) 1 [(0, (.t 69))], none, .create, 0⟩, ⟨(some 71), .append 42 4 48 (.t 68) (.t 70), none, .create, 0⟩, ⟨(some 72), .fieldAddr 2 (.t 2), none, .read, 0⟩, ⟨(some 73), .load none (.t 72), none, .read, 0⟩, ⟨(some 74), .move (.t 6), none, .read, 0⟩, ⟨(some 75), .sliceSl 4 (.t 73) (some (.t 74)) none, none, .read, 0⟩, ⟨(some 76), .append 42 4 48 (.t 71) (.t 75), none, .write, 4⟩, ⟨(some 77), .fieldAddr 2 (.t 2), none, .read, 5⟩, ⟨none, .store 1 (.t 77) (.t 76), none, .write, 5⟩])
 (.seq (.region [⟨(some 78), .load (some 6) (.t 2), none, .write, 0⟩, ⟨none, .store 6 (.t 4) (.t 78), none, .write, 0⟩, ⟨(some 5), .move (.c (.bool true)), none, .write, 0⟩])
 .ret))

def t20k1 : DCode :=
 (.seq (.draw [⟨(some 30), .fieldAddr 3 (.t 2), none, .read, 0⟩, ⟨(some 31), .load none (.t 30), none, .read, 0⟩, ⟨(some 32), .move (.t 6), none, .read, 0⟩, ⟨(some 33), .sliceSl 2 (.t 31) none (some (.t 32)), none, .read, 0⟩, ⟨(some 29), .buildSlice 37 2 (.agg [(.int .i64 0), (.int .i64 0)]) 0 [], none, .create, 0⟩, ⟨(some 34), .append 37 2 16 (.t 29) (.t 33), none, .create, 0⟩, ⟨(some 35), .fieldAddr 0 (.t 3), none, .read, 0⟩, ⟨(some 36), .load (some 2) (.t 35), none, .read, 0⟩, ⟨(some 37), .buildSlice 37 2 (.agg [(.int .i64 0), (.int .i64 0)]) 1 [(0, (.t 36))], none, .create, 0⟩, ⟨(some 38), .append 37 2 16 (.t 34) (.t 37), none, .create, 0⟩, ⟨(some 39), .fieldAddr 3 (.t 2), none, .read, 0⟩, ⟨(some 40), .load none (.t 39), none, .read, 0⟩, ⟨(some 41), .move (.t 6), none, .read, 0⟩, ⟨(some 42), .sliceSl 2 (.t 40) (some (.t 41)) none, none, .read, 0⟩, ⟨(some 43), .append 37 2 16 (.t 38) (.t 42), none, .write, 4⟩, ⟨(some 44), .fieldAddr 3 (.t 2), none, .read, 5⟩, ⟨none, .store 1 (.t 44) (.t 43), none, .write, 5⟩])
 (.seq (.region [⟨(some 6), .move (.c (.int .i64 0)), none, .write, 0⟩])
 (.seq (.block 2 (.loop t20l1))
 t20k0)))

/-- broadside/broadsideref9.Learn -/
def t20 : DFunc := { ntmps := 79, results := [(.cell 4 (some 6)), (.t 5)], mode := .frz, body :=
 (.seq (.region [⟨(some 2), .box 29 6 (.t 0), none, .write, 0⟩, ⟨(some 3), .box 42 4 (.t 1), none, .write, 0⟩, ⟨(some 4), .alloc 29 6 (.agg [(.int .i64 0), .nsl, .nsl, .nsl, .nsl, .nsl]), none, .write, 0⟩, ⟨(some 5), .move (.c (.bool false)), none, .write, 0⟩])
 (.seq (.seq (.region [⟨(some 7), .load (some 6) (.t 2), none, .write, 0⟩, ⟨(some 8), .fieldAddr 0 (.t 3), none, .write, 0⟩, ⟨(some 9), .load (some 2) (.t 8), none, .write, 0⟩, ⟨(some 10), .call (.c (.func 75 [])) [(.t 7), (.t 9)], none, .write, 0⟩])
 (.cond (.t 10) (.seq (.region [⟨(some 11), .load (some 6) (.t 2), none, .write, 0⟩, ⟨none, .store 6 (.t 4) (.t 11), none, .write, 0⟩, ⟨(some 5), .move (.c (.bool false)), none, .write, 0⟩])
 .ret) .skip))
 (.seq (.region [⟨(some 6), .move (.c (.int .i64 0)), none, .write, 0⟩])
 (.seq (.block 0 (.loop t20l0))
 t20k1)))) }

theorem c20 : compFunc Tryz.prog Tryz.f20 .frz = some t20 := by kernel_rfl

/-- broadside/adverts.Forget -/
def t21 : DFunc := { ntmps := 44, results := [(.cell 6 (some 6)), (.t 7)], mode := .frz, body :=
 (.seq (.region [⟨(some 3), .box 29 6 (.t 0), none, .write, 0⟩, ⟨(some 4), .box 37 2 (.t 1), none, .write, 0⟩, ⟨(some 6), .alloc 29 6 (.agg [(.int .i64 0), .nsl, .nsl, .nsl, .nsl, .nsl]), none, .write, 0⟩, ⟨(some 7), .move (.c (.bool false)), none, .write, 0⟩])
 (.seq (.region [⟨(some 10), .load (some 6) (.t 3), none, .write, 0⟩, ⟨(some 11), .call (.c (.func 70 [])) [(.t 10)], none, .write, 0⟩, ⟨none, .store 6 (.t 3) (.t 11), none, .write, 0⟩])
 (.seq (.region [⟨(some 13), .load (some 6) (.t 3), none, .write, 0⟩, ⟨(some 14), .load (some 2) (.t 4), none, .write, 0⟩, ⟨(some 15), .call (.c (.func 72 [])) [(.t 13), (.t 14)], none, .write, 0⟩, ⟨(some 12), .move (.t 15), none, .write, 0⟩, ⟨(some 16), .extract (.t 12) 0, none, .write, 0⟩, ⟨(some 17), .extract (.t 12) 1, none, .write, 0⟩, ⟨(some 8), .move (.t 16), none, .write, 0⟩, ⟨(some 9), .move (.t 17), none, .write, 0⟩])
 (.seq (.seq (.region [⟨(some 18), .move (.t 9), none, .write, 0⟩, ⟨(some 19), .un .not (.t 18), none, .write, 0⟩, ⟨(some 20), .move (.t 19), none, .write, 0⟩, ⟨(some 21), .fieldAddr 2 (.t 3), (some (20, false)), .write, 0⟩, ⟨(some 22), .load none (.t 21), (some (20, false)), .write, 0⟩, ⟨(some 23), .move (.t 8), (some (20, false)), .write, 0⟩, ⟨(some 24), .indexAddr 4 (.t 22) (.t 23), (some (20, false)), .write, 0⟩, ⟨(some 25), .fieldAddr 3 (.t 24), (some (20, false)), .write, 0⟩, ⟨(some 26), .load none (.t 25), (some (20, false)), .write, 0⟩, ⟨(some 27), .move (.t 2), (some (20, false)), .write, 0⟩, ⟨(some 28), .arith .neq (.t 26) (.t 27), (some (20, false)), .write, 0⟩, ⟨(some 29), .pick (.t 20) (.c (.bool true)) (.t 28), none, .write, 0⟩])
 (.cond (.t 29) (.seq (.region [⟨(some 30), .load (some 6) (.t 3), none, .write, 0⟩, ⟨none, .store 6 (.t 6) (.t 30), none, .write, 0⟩, ⟨(some 7), .move (.c (.bool false)), none, .write, 0⟩])
 .ret) .skip))
 (.seq (.region [⟨(some 31), .fieldAddr 2 (.t 3), none, .write, 0⟩, ⟨(some 32), .load none (.t 31), none, .write, 0⟩, ⟨(some 33), .move (.t 8), none, .write, 0⟩, ⟨(some 34), .move (.t 8), none, .write, 0⟩, ⟨(some 35), .arith .add (.t 34) (.c (.int .i64 1)), none, .write, 0⟩, ⟨(some 36), .call (.c (.func 77 [])) [(.t 32), (.t 33), (.t 35)], none, .write, 0⟩, ⟨(some 37), .fieldAddr 2 (.t 3), none, .write, 0⟩, ⟨none, .store 1 (.t 37) (.t 36), none, .write, 0⟩])
 (.seq (.region [⟨(some 38), .fieldAddr 4 (.t 3), none, .write, 0⟩, ⟨(some 39), .load none (.t 38), none, .write, 0⟩, ⟨(some 40), .makeFunc 79 [(.t 4)], none, .write, 0⟩, ⟨(some 41), .call (.c (.func 78 [])) [(.t 39), (.t 40)], none, .write, 0⟩, ⟨(some 42), .fieldAddr 4 (.t 3), none, .write, 0⟩, ⟨none, .store 1 (.t 42) (.t 41), none, .write, 0⟩])
 (.seq (.region [⟨(some 43), .load (some 6) (.t 3), none, .write, 0⟩, ⟨none, .store 6 (.t 6) (.t 43), none, .write, 0⟩, ⟨(some 7), .move (.c (.bool true)), none, .write, 0⟩])
 .ret))))))) }

theorem c21 : compFunc Tryz.prog Tryz.f21 .frz = some t21 := by kernel_rfl

def t22l0 : DCode :=
 (.seq (.region [⟨(some 45), .arith .lss (.t 44) (.t 43), none, .write, 0⟩])
 (.seq (.cond (.t 45) .skip (.exit 0))
 (.seq (.block 1 (.seq (.region [⟨(some 46), .indexAddr 7 (.t 42) (.t 44), none, .write, 0⟩, ⟨(some 47), .load (some 7) (.t 46), none, .write, 0⟩, ⟨(some 11), .alloc 58 7 (.agg [(.int .i64 0), (.int .i64 0), (.int .i64 0), (.int .i64 0), .nsl, (.int .i64 0), (.bool false)]), none, .write, 0⟩, ⟨none, .store 7 (.t 11) (.t 47), none, .write, 0⟩])
 (.seq (.region [⟨(some 48), .fieldAddr 0 (.t 11), none, .write, 0⟩, ⟨(some 49), .load (some 2) (.t 48), none, .write, 0⟩, ⟨(some 50), .load (some 2) (.t 4), none, .write, 0⟩, ⟨(some 51), .eqa true [1, 1] (.t 49) (.t 50), none, .write, 0⟩])
 (.cond (.t 51) (.region [⟨(some 52), .move (.t 9), none, .write, 0⟩, ⟨(some 53), .load (some 7) (.t 11), none, .write, 0⟩, ⟨(some 54), .buildSlice 58 7 (.agg [(.int .i64 0), (.int .i64 0), (.int .i64 0), (.int .i64 0), .nsl, (.int .i64 0), (.bool false)]) 1 [(0, (.t 53))], none, .write, 0⟩, ⟨(some 55), .append 58 7 72 (.t 52) (.t 54), none, .write, 0⟩, ⟨(some 9), .move (.t 55), none, .write, 0⟩]) .skip))))
 (.region [⟨(some 56), .arith .add (.t 44) (.c (.int .i64 1)), none, .write, 0⟩, ⟨(some 44), .move (.t 56), none, .write, 0⟩]))))

def t22k0 : DCode :=
 (.seq (.region [⟨(some 57), .move (.t 9), none, .write, 0⟩, ⟨(some 58), .fieldAddr 4 (.t 3), none, .write, 0⟩, ⟨none, .store 1 (.t 58) (.t 57), none, .write, 0⟩])
 (.seq (.region [⟨(some 59), .load (some 6) (.t 3), none, .write, 0⟩, ⟨none, .store 6 (.t 6) (.t 59), none, .write, 0⟩, ⟨(some 7), .move (.c (.bool true)), none, .write, 0⟩])
 .ret))

/-- broadside/broadsideref9.Forget -/
def t22 : DFunc := { ntmps := 60, results := [(.cell 6 (some 6)), (.t 7)], mode := .frz, body :=
 (.seq (.region [⟨(some 3), .box 29 6 (.t 0), none, .write, 0⟩, ⟨(some 4), .box 37 2 (.t 1), none, .write, 0⟩, ⟨(some 6), .alloc 29 6 (.agg [(.int .i64 0), .nsl, .nsl, .nsl, .nsl, .nsl]), none, .write, 0⟩, ⟨(some 7), .move (.c (.bool false)), none, .write, 0⟩])
 (.seq (.region [⟨(some 12), .load (some 6) (.t 3), none, .write, 0⟩, ⟨(some 13), .load (some 2) (.t 4), none, .write, 0⟩, ⟨(some 14), .call (.c (.func 24 [])) [(.t 12), (.t 13)], none, .write, 0⟩, ⟨(some 8), .move (.t 14), none, .write, 0⟩])
 (.seq (.seq (.region [⟨(some 15), .move (.t 8), none, .write, 0⟩, ⟨(some 16), .arith .lss (.t 15) (.c (.int .i64 0)), none, .write, 0⟩, ⟨(some 17), .move (.t 16), none, .write, 0⟩, ⟨(some 18), .fieldAddr 2 (.t 3), (some (17, false)), .write, 0⟩, ⟨(some 19), .load none (.t 18), (some (17, false)), .write, 0⟩, ⟨(some 20), .move (.t 8), (some (17, false)), .write, 0⟩, ⟨(some 21), .indexAddr 4 (.t 19) (.t 20), (some (17, false)), .write, 0⟩, ⟨(some 22), .fieldAddr 3 (.t 21), (some (17, false)), .write, 0⟩, ⟨(some 23), .load none (.t 22), (some (17, false)), .write, 0⟩, ⟨(some 24), .move (.t 2), (some (17, false)), .write, 0⟩, ⟨(some 25), .arith .neq (.t 23) (.t 24), (some (17, false)), .write, 0⟩, ⟨(some 26), .pick (.t 17) (.c (.bool true)) (.t 25), none, .write, 0⟩])
 (.cond (.t 26) (.seq (.region [⟨(some 27), .load (some 6) (.t 3), none, .write, 0⟩, ⟨none, .store 6 (.t 6) (.t 27), none, .write, 0⟩, ⟨(some 7), .move (.c (.bool false)), none, .write, 0⟩])
 .ret) .skip))
 (.seq (.draw [⟨(some 29), .fieldAddr 2 (.t 3), none, .read, 0⟩, ⟨(some 30), .load none (.t 29), none, .read, 0⟩, ⟨(some 31), .move (.t 8), none, .read, 0⟩, ⟨(some 32), .sliceSl 4 (.t 30) none (some (.t 31)), none, .read, 0⟩, ⟨(some 28), .buildSlice 42 4 (.agg [(.int .i64 0), (.int .i64 0), .nsl, (.int .i64 0)]) 0 [], none, .create, 0⟩, ⟨(some 33), .append 42 4 48 (.t 28) (.t 32), none, .create, 0⟩, ⟨(some 34), .fieldAddr 2 (.t 3), none, .read, 0⟩, ⟨(some 35), .load none (.t 34), none, .read, 0⟩, ⟨(some 36), .move (.t 8), none, .read, 0⟩, ⟨(some 37), .arith .add (.t 36) (.c (.int .i64 1)), none, .read, 0⟩, ⟨(some 38), .sliceSl 4 (.t 35) (some (.t 37)) none, none, .read, 0⟩, ⟨(some 39), .append 42 4 48 (.t 33) (.t 38), none, .write, 2⟩, ⟨(some 40), .fieldAddr 2 (.t 3), none, .read, 3⟩, ⟨none, .store 1 (.t 40) (.t 39), none, .write, 3⟩])
 (.seq (.region [⟨(some 9), .move (.c .nsl), none, .write, 0⟩])
 (.seq (.seq (.region [⟨(some 41), .fieldAddr 4 (.t 3), none, .write, 0⟩, ⟨(some 42), .load none (.t 41), none, .write, 0⟩, ⟨(some 43), .len 1 (.t 42), none, .write, 0⟩, ⟨(some 44), .move (.c (.int .i64 0)), none, .write, 0⟩])
 (.block 0 (.loop t22l0)))
 t22k0)))))) }

theorem c22 : compFunc Tryz.prog Tryz.f22 .frz = some t22 := by kernel_rfl

/-- broadside/adverts.Find -/
def t23 : DFunc := { ntmps := 22, results := [(.cell 4 (some 4)), (.t 5)], mode := .pure, body :=
 (.seq (.region [⟨(some 2), .box 29 6 (.t 0), none, .write, 0⟩, ⟨(some 3), .box 37 2 (.t 1), none, .write, 0⟩, ⟨(some 4), .alloc 42 4 (.agg [(.int .i64 0), (.int .i64 0), .nsl, (.int .i64 0)]), none, .write, 0⟩, ⟨(some 5), .move (.c (.bool false)), none, .write, 0⟩])
 (.seq (.region [⟨(some 9), .load (some 6) (.t 2), none, .write, 0⟩, ⟨(some 10), .load (some 2) (.t 3), none, .write, 0⟩, ⟨(some 11), .call (.c (.func 72 [])) [(.t 9), (.t 10)], none, .write, 0⟩, ⟨(some 8), .move (.t 11), none, .write, 0⟩, ⟨(some 12), .extract (.t 8) 0, none, .write, 0⟩, ⟨(some 13), .extract (.t 8) 1, none, .write, 0⟩, ⟨(some 6), .move (.t 12), none, .write, 0⟩, ⟨(some 7), .move (.t 13), none, .write, 0⟩])
 (.seq (.seq (.region [⟨(some 14), .move (.t 7), none, .write, 0⟩, ⟨(some 15), .un .not (.t 14), none, .write, 0⟩])
 (.cond (.t 15) (.seq (.region [⟨(some 16), .build [(.int .i64 0), (.int .i64 0), .nsl, (.int .i64 0)] [], none, .write, 0⟩, ⟨none, .store 4 (.t 4) (.t 16), none, .write, 0⟩, ⟨(some 5), .move (.c (.bool false)), none, .write, 0⟩])
 .ret) .skip))
 (.seq (.region [⟨(some 17), .fieldAddr 2 (.t 2), none, .write, 0⟩, ⟨(some 18), .load none (.t 17), none, .write, 0⟩, ⟨(some 19), .move (.t 6), none, .write, 0⟩, ⟨(some 20), .indexAddr 4 (.t 18) (.t 19), none, .write, 0⟩, ⟨(some 21), .load (some 4) (.t 20), none, .write, 0⟩, ⟨none, .store 4 (.t 4) (.t 21), none, .write, 0⟩, ⟨(some 5), .move (.c (.bool true)), none, .write, 0⟩])
 .ret)))) }

theorem c23 : compFunc Tryz.prog Tryz.f23 .pure = some t23 := by kernel_rfl

def t24l0 : DCode :=
 (.seq (.region [⟨(some 11), .arith .lss (.t 10) (.t 9), none, .write, 0⟩])
 (.seq (.cond (.t 11) .skip (.exit 0))
 (.seq (.block 1 (.seq (.region [⟨(some 12), .move (.t 10), none, .write, 0⟩, ⟨(some 13), .indexAddr 4 (.t 8) (.t 10), none, .write, 0⟩, ⟨(some 14), .load (some 4) (.t 13), none, .write, 0⟩, ⟨(some 6), .alloc 42 4 (.agg [(.int .i64 0), (.int .i64 0), .nsl, (.int .i64 0)]), none, .write, 0⟩, ⟨(some 5), .move (.t 12), none, .write, 0⟩, ⟨none, .store 4 (.t 6) (.t 14), none, .write, 0⟩])
 (.seq (.region [⟨(some 15), .fieldAddr 0 (.t 6), none, .write, 0⟩, ⟨(some 16), .load (some 2) (.t 15), none, .write, 0⟩, ⟨(some 17), .load (some 2) (.t 3), none, .write, 0⟩, ⟨(some 18), .eqa false [1, 1] (.t 16) (.t 17), none, .write, 0⟩])
 (.cond (.t 18) (.seq (.region [⟨(some 19), .move (.t 5), none, .write, 0⟩, ⟨(some 4), .move (.t 19), none, .write, 0⟩])
 .ret) .skip))))
 (.region [⟨(some 20), .arith .add (.t 10) (.c (.int .i64 1)), none, .write, 0⟩, ⟨(some 10), .move (.t 20), none, .write, 0⟩]))))

def t24k0 : DCode :=
 (.seq (.region [⟨(some 4), .move (.c (.int .i64 (-1))), none, .write, 0⟩])
 .ret)

/-- broadside/broadsideref9.Find -/
def t24 : DFunc := { ntmps := 21, results := [(.t 4)], mode := .pure, body :=
 (.seq (.region [⟨(some 2), .box 29 6 (.t 0), none, .write, 0⟩, ⟨(some 3), .box 37 2 (.t 1), none, .write, 0⟩, ⟨(some 4), .move (.c (.int .i64 0)), none, .write, 0⟩])
 (.seq (.seq (.region [⟨(some 7), .fieldAddr 2 (.t 2), none, .write, 0⟩, ⟨(some 8), .load none (.t 7), none, .write, 0⟩, ⟨(some 9), .len 1 (.t 8), none, .write, 0⟩, ⟨(some 10), .move (.c (.int .i64 0)), none, .write, 0⟩])
 (.block 0 (.loop t24l0)))
 t24k0)) }

theorem c24 : compFunc Tryz.prog Tryz.f24 .pure = some t24 := by kernel_rfl

def t25l0 : DCode :=
 (.seq (.region [⟨(some 58), .arith .lss (.t 57) (.t 56), none, .write, 0⟩])
 (.seq (.cond (.t 58) .skip (.exit 0))
 (.seq (.block 1 (.seq (.region [⟨(some 59), .move (.t 57), none, .write, 0⟩, ⟨(some 5), .move (.t 59), none, .write, 0⟩])
 (.seq (.draw [⟨(some 60), .fieldAddr 2 (.t 2), none, .read, 0⟩, ⟨(some 61), .load none (.t 60), none, .read, 0⟩, ⟨(some 62), .move (.t 5), none, .read, 0⟩, ⟨(some 63), .indexAddr 4 (.t 61) (.t 62), none, .read, 0⟩, ⟨(some 64), .fieldAddr 0 (.t 63), none, .read, 0⟩, ⟨(some 65), .load (some 2) (.t 64), none, .read, 0⟩, ⟨(some 66), .fieldAddr 2 (.t 3), none, .read, 0⟩, ⟨(some 67), .load none (.t 66), none, .read, 0⟩, ⟨(some 68), .move (.t 5), none, .read, 0⟩, ⟨(some 69), .indexAddr 4 (.t 67) (.t 68), none, .read, 0⟩, ⟨(some 70), .fieldAddr 0 (.t 69), none, .read, 0⟩, ⟨(some 71), .load (some 2) (.t 70), none, .read, 0⟩, ⟨(some 72), .eqa true [1, 1] (.t 65) (.t 71), none, .read, 0⟩, ⟨(some 73), .move (.t 72), none, .read, 0⟩, ⟨(some 74), .fieldAddr 2 (.t 2), (some (73, false)), .read, 0⟩, ⟨(some 75), .load none (.t 74), (some (73, false)), .read, 0⟩, ⟨(some 76), .move (.t 5), (some (73, false)), .read, 0⟩, ⟨(some 77), .indexAddr 4 (.t 75) (.t 76), (some (73, false)), .read, 0⟩, ⟨(some 78), .fieldAddr 3 (.t 77), (some (73, false)), .read, 0⟩, ⟨(some 79), .load none (.t 78), (some (73, false)), .read, 0⟩, ⟨(some 80), .fieldAddr 2 (.t 3), (some (73, false)), .read, 0⟩, ⟨(some 81), .load none (.t 80), (some (73, false)), .read, 0⟩, ⟨(some 82), .move (.t 5), (some (73, false)), .read, 0⟩, ⟨(some 83), .indexAddr 4 (.t 81) (.t 82), (some (73, false)), .read, 0⟩, ⟨(some 84), .fieldAddr 3 (.t 83), (some (73, false)), .read, 0⟩, ⟨(some 85), .load none (.t 84), (some (73, false)), .read, 0⟩, ⟨(some 86), .arith .neq (.t 79) (.t 85), (some (73, false)), .read, 0⟩, ⟨(some 87), .pick (.t 73) (.c (.bool true)) (.t 86), none, .read, 0⟩, ⟨(some 88), .move (.t 87), none, .read, 0⟩, ⟨(some 89), .fieldAddr 2 (.t 2), (some (88, false)), .read, 0⟩, ⟨(some 90), .load none (.t 89), (some (88, false)), .read, 0⟩, ⟨(some 91), .move (.t 5), (some (88, false)), .read, 0⟩, ⟨(some 92), .indexAddr 4 (.t 90) (.t 91), (some (88, false)), .read, 0⟩, ⟨(some 93), .fieldAddr 2 (.t 92), (some (88, false)), .read, 0⟩, ⟨(some 94), .load none (.t 93), (some (88, false)), .read, 0⟩, ⟨(some 95), .fieldAddr 2 (.t 3), (some (88, false)), .read, 0⟩, ⟨(some 96), .load none (.t 95), (some (88, false)), .read, 0⟩, ⟨(some 97), .move (.t 5), (some (88, false)), .read, 0⟩, ⟨(some 98), .indexAddr 4 (.t 96) (.t 97), (some (88, false)), .read, 0⟩, ⟨(some 99), .fieldAddr 2 (.t 98), (some (88, false)), .read, 0⟩, ⟨(some 100), .load none (.t 99), (some (88, false)), .read, 0⟩, ⟨(some 101), .call (.c (.func 48 [])) [(.t 94), (.t 100)], (some (88, false)), .write, 0⟩, ⟨(some 102), .un .not (.t 101), (some (88, false)), .read, 1⟩, ⟨(some 103), .pick (.t 88) (.c (.bool true)) (.t 102), none, .read, 1⟩])
 (.cond (.t 103) (.seq (.region [⟨(some 4), .move (.c (.bool false)), none, .write, 0⟩])
 .ret) .skip))))
 (.region [⟨(some 104), .arith .add (.t 57) (.c (.int .i64 1)), none, .write, 0⟩, ⟨(some 57), .move (.t 104), none, .write, 0⟩]))))

def t25l1 : DCode :=
 (.seq (.region [⟨(some 109), .arith .lss (.t 108) (.t 107), none, .write, 0⟩])
 (.seq (.cond (.t 109) .skip (.exit 2))
 (.seq (.block 3 (.seq (.region [⟨(some 110), .move (.t 108), none, .write, 0⟩, ⟨(some 6), .move (.t 110), none, .write, 0⟩])
 (.seq (.draw [⟨(some 111), .fieldAddr 5 (.t 2), none, .read, 0⟩, ⟨(some 112), .load none (.t 111), none, .read, 0⟩, ⟨(some 113), .move (.t 6), none, .read, 0⟩, ⟨(some 114), .indexAddr 3 (.t 112) (.t 113), none, .read, 0⟩, ⟨(some 115), .fieldAddr 0 (.t 114), none, .read, 0⟩, ⟨(some 116), .load (some 2) (.t 115), none, .read, 0⟩, ⟨(some 117), .fieldAddr 5 (.t 3), none, .read, 0⟩, ⟨(some 118), .load none (.t 117), none, .read, 0⟩, ⟨(some 119), .move (.t 6), none, .read, 0⟩, ⟨(some 120), .indexAddr 3 (.t 118) (.t 119), none, .read, 0⟩, ⟨(some 121), .fieldAddr 0 (.t 120), none, .read, 0⟩, ⟨(some 122), .load (some 2) (.t 121), none, .read, 0⟩, ⟨(some 123), .eqa true [1, 1] (.t 116) (.t 122), none, .read, 0⟩, ⟨(some 124), .move (.t 123), none, .read, 0⟩, ⟨(some 125), .fieldAddr 5 (.t 2), (some (124, false)), .read, 0⟩, ⟨(some 126), .load none (.t 125), (some (124, false)), .read, 0⟩, ⟨(some 127), .move (.t 6), (some (124, false)), .read, 0⟩, ⟨(some 128), .indexAddr 3 (.t 126) (.t 127), (some (124, false)), .read, 0⟩, ⟨(some 129), .fieldAddr 2 (.t 128), (some (124, false)), .read, 0⟩, ⟨(some 130), .load none (.t 129), (some (124, false)), .read, 0⟩, ⟨(some 131), .fieldAddr 5 (.t 3), (some (124, false)), .read, 0⟩, ⟨(some 132), .load none (.t 131), (some (124, false)), .read, 0⟩, ⟨(some 133), .move (.t 6), (some (124, false)), .read, 0⟩, ⟨(some 134), .indexAddr 3 (.t 132) (.t 133), (some (124, false)), .read, 0⟩, ⟨(some 135), .fieldAddr 2 (.t 134), (some (124, false)), .read, 0⟩, ⟨(some 136), .load none (.t 135), (some (124, false)), .read, 0⟩, ⟨(some 137), .call (.c (.func 48 [])) [(.t 130), (.t 136)], (some (124, false)), .write, 0⟩, ⟨(some 138), .un .not (.t 137), (some (124, false)), .read, 1⟩, ⟨(some 139), .pick (.t 124) (.c (.bool true)) (.t 138), none, .read, 1⟩])
 (.cond (.t 139) (.seq (.region [⟨(some 4), .move (.c (.bool false)), none, .write, 0⟩])
 .ret) .skip))))
 (.region [⟨(some 140), .arith .add (.t 108) (.c (.int .i64 1)), none, .write, 0⟩, ⟨(some 108), .move (.t 140), none, .write, 0⟩]))))

def t25k0 : DCode :=
 (.seq (.region [⟨(some 4), .move (.c (.bool true)), none, .write, 0⟩])
 .ret)

def t25k1 : DCode :=
 (.seq (.seq (.region [⟨(some 105), .fieldAddr 5 (.t 2), none, .write, 0⟩, ⟨(some 106), .load none (.t 105), none, .write, 0⟩, ⟨(some 107), .len 1 (.t 106), none, .write, 0⟩, ⟨(some 108), .move (.c (.int .i64 0)), none, .write, 0⟩])
 (.block 2 (.loop t25l1)))
 t25k0)

/-- broadside/broadsidekeep.Brokers -/
def t25 : DFunc := { ntmps := 141, results := [(.t 4)], mode := .pure, body :=
 (.seq (.region [⟨(some 2), .box 29 6 (.t 0), none, .write, 0⟩, ⟨(some 3), .box 29 6 (.t 1), none, .write, 0⟩, ⟨(some 4), .move (.c (.bool false)), none, .write, 0⟩])
 (.seq (.seq (.region [⟨(some 7), .fieldAddr 0 (.t 2), none, .write, 0⟩, ⟨(some 8), .load none (.t 7), none, .write, 0⟩, ⟨(some 9), .fieldAddr 0 (.t 3), none, .write, 0⟩, ⟨(some 10), .load none (.t 9), none, .write, 0⟩, ⟨(some 11), .arith .neq (.t 8) (.t 10), none, .write, 0⟩, ⟨(some 12), .move (.t 11), none, .write, 0⟩, ⟨(some 13), .fieldAddr 1 (.t 2), (some (12, false)), .write, 0⟩, ⟨(some 14), .load none (.t 13), (some (12, false)), .write, 0⟩, ⟨(some 15), .fieldAddr 1 (.t 3), (some (12, false)), .write, 0⟩, ⟨(some 16), .load none (.t 15), (some (12, false)), .write, 0⟩, ⟨(some 17), .call (.c (.func 80 [])) [(.t 14), (.t 16)], (some (12, false)), .write, 0⟩, ⟨(some 18), .un .not (.t 17), (some (12, false)), .write, 0⟩, ⟨(some 19), .pick (.t 12) (.c (.bool true)) (.t 18), none, .write, 0⟩, ⟨(some 20), .move (.t 19), none, .write, 0⟩, ⟨(some 21), .fieldAddr 3 (.t 2), (some (20, false)), .write, 0⟩, ⟨(some 22), .load none (.t 21), (some (20, false)), .write, 0⟩, ⟨(some 23), .fieldAddr 3 (.t 3), (some (20, false)), .write, 0⟩, ⟨(some 24), .load none (.t 23), (some (20, false)), .write, 0⟩, ⟨(some 25), .call (.c (.func 81 [])) [(.t 22), (.t 24)], (some (20, false)), .write, 0⟩, ⟨(some 26), .un .not (.t 25), (some (20, false)), .write, 0⟩, ⟨(some 27), .pick (.t 20) (.c (.bool true)) (.t 26), none, .write, 0⟩, ⟨(some 28), .move (.t 27), none, .write, 0⟩, ⟨(some 29), .fieldAddr 2 (.t 2), (some (28, false)), .write, 0⟩, ⟨(some 30), .load none (.t 29), (some (28, false)), .write, 0⟩, ⟨(some 31), .len 1 (.t 30), (some (28, false)), .write, 0⟩, ⟨(some 32), .fieldAddr 2 (.t 3), (some (28, false)), .write, 0⟩, ⟨(some 33), .load none (.t 32), (some (28, false)), .write, 0⟩, ⟨(some 34), .len 1 (.t 33), (some (28, false)), .write, 0⟩, ⟨(some 35), .arith .neq (.t 31) (.t 34), (some (28, false)), .write, 0⟩, ⟨(some 36), .pick (.t 28) (.c (.bool true)) (.t 35), none, .write, 0⟩, ⟨(some 37), .move (.t 36), none, .write, 0⟩, ⟨(some 38), .fieldAddr 5 (.t 2), (some (37, false)), .write, 0⟩, ⟨(some 39), .load none (.t 38), (some (37, false)), .write, 0⟩, ⟨(some 40), .len 1 (.t 39), (some (37, false)), .write, 0⟩, ⟨(some 41), .fieldAddr 5 (.t 3), (some (37, false)), .write, 0⟩, ⟨(some 42), .load none (.t 41), (some (37, false)), .write, 0⟩, ⟨(some 43), .len 1 (.t 42), (some (37, false)), .write, 0⟩, ⟨(some 44), .arith .neq (.t 40) (.t 43), (some (37, false)), .write, 0⟩, ⟨(some 45), .pick (.t 37) (.c (.bool true)) (.t 44), none, .write, 0⟩, ⟨(some 46), .move (.t 45), none, .write, 0⟩, ⟨(some 47), .fieldAddr 4 (.t 2), (some (46, false)), .write, 0⟩, ⟨(some 48), .load none (.t 47), (some (46, false)), .write, 0⟩, ⟨(some 49), .fieldAddr 4 (.t 3), (some (46, false)), .write, 0⟩, ⟨(some 50), .load none (.t 49), (some (46, false)), .write, 0⟩, ⟨(some 51), .call (.c (.func 39 [])) [(.t 48), (.t 50)], (some (46, false)), .write, 0⟩, ⟨(some 52), .un .not (.t 51), (some (46, false)), .write, 0⟩, ⟨(some 53), .pick (.t 46) (.c (.bool true)) (.t 52), none, .write, 0⟩])
 (.cond (.t 53) (.seq (.region [⟨(some 4), .move (.c (.bool false)), none, .write, 0⟩])
 .ret) .skip))
 (.seq (.seq (.region [⟨(some 54), .fieldAddr 2 (.t 2), none, .write, 0⟩, ⟨(some 55), .load none (.t 54), none, .write, 0⟩, ⟨(some 56), .len 1 (.t 55), none, .write, 0⟩, ⟨(some 57), .move (.c (.int .i64 0)), none, .write, 0⟩])
 (.block 0 (.loop t25l0)))
 t25k1))) }

theorem c25 : compFunc Tryz.prog Tryz.f25 .pure = some t25 := by kernel_rfl

/-- broadside/adverts.Same -/
def t26 : DFunc := { ntmps := 45, results := [(.t 4)], mode := .pure, body :=
 (.seq (.region [⟨(some 2), .box 29 6 (.t 0), none, .write, 0⟩, ⟨(some 3), .box 29 6 (.t 1), none, .write, 0⟩, ⟨(some 4), .move (.c (.bool false)), none, .write, 0⟩])
 (.seq (.region [⟨(some 5), .fieldAddr 0 (.t 2), none, .write, 0⟩, ⟨(some 6), .load none (.t 5), none, .write, 0⟩, ⟨(some 7), .fieldAddr 0 (.t 3), none, .write, 0⟩, ⟨(some 8), .load none (.t 7), none, .write, 0⟩, ⟨(some 9), .arith .eql (.t 6) (.t 8), none, .write, 0⟩, ⟨(some 10), .move (.t 9), none, .write, 0⟩, ⟨(some 11), .fieldAddr 1 (.t 2), (some (10, true)), .write, 0⟩, ⟨(some 12), .load none (.t 11), (some (10, true)), .write, 0⟩, ⟨(some 13), .fieldAddr 1 (.t 3), (some (10, true)), .write, 0⟩, ⟨(some 14), .load none (.t 13), (some (10, true)), .write, 0⟩, ⟨(some 15), .call (.c (.func 82 [])) [(.t 12), (.t 14)], (some (10, true)), .write, 0⟩, ⟨(some 16), .pick (.t 10) (.t 15) (.c (.bool false)), none, .write, 0⟩, ⟨(some 17), .move (.t 16), none, .write, 0⟩, ⟨(some 18), .fieldAddr 3 (.t 2), (some (17, true)), .write, 0⟩, ⟨(some 19), .load none (.t 18), (some (17, true)), .write, 0⟩, ⟨(some 20), .fieldAddr 3 (.t 3), (some (17, true)), .write, 0⟩, ⟨(some 21), .load none (.t 20), (some (17, true)), .write, 0⟩, ⟨(some 22), .call (.c (.func 83 [])) [(.t 19), (.t 21)], (some (17, true)), .write, 0⟩, ⟨(some 23), .pick (.t 17) (.t 22) (.c (.bool false)), none, .write, 0⟩, ⟨(some 24), .move (.t 23), none, .write, 0⟩, ⟨(some 25), .fieldAddr 2 (.t 2), (some (24, true)), .write, 0⟩, ⟨(some 26), .load none (.t 25), (some (24, true)), .write, 0⟩, ⟨(some 27), .fieldAddr 2 (.t 3), (some (24, true)), .write, 0⟩, ⟨(some 28), .load none (.t 27), (some (24, true)), .write, 0⟩, ⟨(some 29), .call (.c (.func 84 [])) [(.t 26), (.t 28), (.c (.func 85 []))], (some (24, true)), .write, 0⟩, ⟨(some 30), .pick (.t 24) (.t 29) (.c (.bool false)), none, .write, 0⟩, ⟨(some 31), .move (.t 30), none, .write, 0⟩, ⟨(some 32), .fieldAddr 4 (.t 2), (some (31, true)), .write, 0⟩, ⟨(some 33), .load none (.t 32), (some (31, true)), .write, 0⟩, ⟨(some 34), .fieldAddr 4 (.t 3), (some (31, true)), .write, 0⟩, ⟨(some 35), .load none (.t 34), (some (31, true)), .write, 0⟩, ⟨(some 36), .call (.c (.func 87 [])) [(.t 33), (.t 35), (.c (.func 88 []))], (some (31, true)), .write, 0⟩, ⟨(some 37), .pick (.t 31) (.t 36) (.c (.bool false)), none, .write, 0⟩, ⟨(some 38), .move (.t 37), none, .write, 0⟩, ⟨(some 39), .fieldAddr 5 (.t 2), (some (38, true)), .write, 0⟩, ⟨(some 40), .load none (.t 39), (some (38, true)), .write, 0⟩, ⟨(some 41), .fieldAddr 5 (.t 3), (some (38, true)), .write, 0⟩, ⟨(some 42), .load none (.t 41), (some (38, true)), .write, 0⟩, ⟨(some 43), .call (.c (.func 89 [])) [(.t 40), (.t 42), (.c (.func 90 []))], (some (38, true)), .write, 0⟩, ⟨(some 44), .pick (.t 38) (.t 43) (.c (.bool false)), none, .write, 0⟩, ⟨(some 4), .move (.t 44), none, .write, 0⟩])
 .ret)) }

theorem c26 : compFunc Tryz.prog Tryz.f26 .pure = some t26 := by kernel_rfl

/-- broadside/adverts.Right -/
def t27 : DFunc := { ntmps := 48, results := [(.t 2)], mode := .pure, body :=
 (.seq (.region [⟨(some 1), .box 29 6 (.t 0), none, .write, 0⟩, ⟨(some 2), .move (.c (.bool false)), none, .write, 0⟩])
 (.seq (.region [⟨(some 4), .fieldAddr 1 (.t 1), none, .write, 0⟩, ⟨(some 5), .load none (.t 4), none, .write, 0⟩, ⟨(some 6), .call (.c (.func 91 [])) [(.t 5), (.c (.func 92 []))], none, .write, 0⟩, ⟨(some 7), .move (.t 6), none, .write, 0⟩, ⟨(some 8), .fieldAddr 3 (.t 1), (some (7, true)), .write, 0⟩, ⟨(some 9), .load none (.t 8), (some (7, true)), .write, 0⟩, ⟨(some 10), .call (.c (.func 93 [])) [(.t 9), (.c (.func 60 []))], (some (7, true)), .write, 0⟩, ⟨(some 11), .pick (.t 7) (.t 10) (.c (.bool false)), none, .write, 0⟩, ⟨(some 12), .move (.t 11), none, .write, 0⟩, ⟨(some 13), .fieldAddr 2 (.t 1), (some (12, true)), .write, 0⟩, ⟨(some 14), .load none (.t 13), (some (12, true)), .write, 0⟩, ⟨(some 15), .call (.c (.func 94 [])) [(.t 14), (.c (.func 95 []))], (some (12, true)), .write, 0⟩, ⟨(some 16), .pick (.t 12) (.t 15) (.c (.bool false)), none, .write, 0⟩, ⟨(some 17), .move (.t 16), none, .write, 0⟩, ⟨(some 18), .fieldAddr 5 (.t 1), (some (17, true)), .write, 0⟩, ⟨(some 19), .load none (.t 18), (some (17, true)), .write, 0⟩, ⟨(some 20), .call (.c (.func 96 [])) [(.t 19), (.c (.func 97 []))], (some (17, true)), .write, 0⟩, ⟨(some 21), .pick (.t 17) (.t 20) (.c (.bool false)), none, .write, 0⟩, ⟨(some 22), .move (.t 21), none, .write, 0⟩, ⟨(some 23), .fieldAddr 4 (.t 1), (some (22, true)), .write, 0⟩, ⟨(some 24), .load none (.t 23), (some (22, true)), .write, 0⟩, ⟨(some 25), .call (.c (.func 98 [])) [(.t 24), (.c (.func 99 []))], (some (22, true)), .write, 0⟩, ⟨(some 26), .pick (.t 22) (.t 25) (.c (.bool false)), none, .write, 0⟩, ⟨(some 3), .move (.t 26), none, .write, 0⟩])
 (.seq (.region [⟨(some 27), .move (.t 3), none, .write, 0⟩, ⟨(some 28), .move (.t 27), none, .write, 0⟩, ⟨(some 29), .fieldAddr 2 (.t 1), (some (28, true)), .write, 0⟩, ⟨(some 30), .load none (.t 29), (some (28, true)), .write, 0⟩, ⟨(some 31), .makeFunc 103 [(.t 1)], (some (28, true)), .write, 0⟩, ⟨(some 32), .call (.c (.func 102 [])) [(.t 30), (.t 31)], (some (28, true)), .write, 0⟩, ⟨(some 33), .un .not (.t 32), (some (28, true)), .write, 0⟩, ⟨(some 34), .pick (.t 28) (.t 33) (.c (.bool false)), none, .write, 0⟩, ⟨(some 35), .move (.t 34), none, .write, 0⟩, ⟨(some 36), .fieldAddr 4 (.t 1), (some (35, true)), .write, 0⟩, ⟨(some 37), .load none (.t 36), (some (35, true)), .write, 0⟩, ⟨(some 38), .makeFunc 107 [(.t 1)], (some (35, true)), .write, 0⟩, ⟨(some 39), .call (.c (.func 106 [])) [(.t 37), (.t 38)], (some (35, true)), .write, 0⟩, ⟨(some 40), .un .not (.t 39), (some (35, true)), .write, 0⟩, ⟨(some 41), .pick (.t 35) (.t 40) (.c (.bool false)), none, .write, 0⟩, ⟨(some 42), .move (.t 41), none, .write, 0⟩, ⟨(some 43), .fieldAddr 5 (.t 1), (some (42, true)), .write, 0⟩, ⟨(some 44), .load none (.t 43), (some (42, true)), .write, 0⟩, ⟨(some 45), .call (.c (.func 109 [])) [(.t 44), (.c (.func 110 []))], (some (42, true)), .write, 0⟩, ⟨(some 46), .un .not (.t 45), (some (42, true)), .write, 0⟩, ⟨(some 47), .pick (.t 42) (.t 46) (.c (.bool false)), none, .write, 0⟩, ⟨(some 2), .move (.t 47), none, .write, 0⟩])
 .ret))) }

theorem c27 : compFunc Tryz.prog Tryz.f27 .pure = some t27 := by kernel_rfl

/-- broadside/broadsidelaw9.AdvertsRuns -/
def t28 : DFunc := { ntmps := 55, results := [(.t 0)], mode := .pure, body :=
 (.seq (.region [⟨(some 0), .move (.c (.bool false)), none, .write, 0⟩])
 (.seq (.region [⟨(some 8), .build [(.int .i64 0), (.int .i64 0)] [(0, 1, (.c (.int .i64 1)))], none, .write, 0⟩, ⟨(some 9), .build [(.int .i64 0), (.int .i64 0), .nsl, (.int .i64 0)] [(0, 2, (.t 8)), (3, 1, (.c (.int .i64 2)))], none, .write, 0⟩, ⟨(some 1), .alloc 42 4 (.agg [(.int .i64 0), (.int .i64 0), .nsl, (.int .i64 0)]), none, .write, 0⟩, ⟨none, .store 4 (.t 1) (.t 9), none, .write, 0⟩])
 (.seq (.draw [⟨(some 11), .buildSlice 3 1 (.int .i64 0) 3 [(0, (.c (.int .i64 3))), (1, (.c (.int .i64 2))), (2, (.c (.int .i64 3)))], none, .create, 0⟩, ⟨(some 12), .call (.c (.func 15 [])) [(.c (.int .i64 0)), (.t 11)], none, .create, 0⟩, ⟨(some 13), .load (some 4) (.t 1), none, .read, 0⟩, ⟨(some 14), .call (.c (.func 19 [])) [(.t 12), (.t 13)], none, .write, 2⟩, ⟨(some 10), .move (.t 14), none, .read, 3⟩, ⟨(some 15), .extract (.t 10) 0, none, .read, 3⟩, ⟨(some 2), .alloc 29 6 (.agg [(.int .i64 0), .nsl, .nsl, .nsl, .nsl, .nsl]), none, .create, 0⟩, ⟨none, .store 6 (.t 2) (.t 15), none, .write, 4⟩, ⟨(some 16), .extract (.t 10) 1, none, .read, 3⟩, ⟨(some 3), .move (.t 16), none, .read, 5⟩])
 (.seq (.region [⟨(some 18), .load (some 6) (.t 2), none, .write, 0⟩, ⟨(some 19), .load (some 4) (.t 1), none, .write, 0⟩, ⟨(some 20), .call (.c (.func 19 [])) [(.t 18), (.t 19)], none, .write, 0⟩, ⟨(some 17), .move (.t 20), none, .write, 0⟩, ⟨(some 21), .extract (.t 17) 0, none, .write, 0⟩, ⟨(some 22), .extract (.t 17) 1, none, .write, 0⟩, ⟨(some 4), .alloc 29 6 (.agg [(.int .i64 0), .nsl, .nsl, .nsl, .nsl, .nsl]), none, .write, 0⟩, ⟨none, .store 6 (.t 4) (.t 21), none, .write, 0⟩, ⟨(some 5), .move (.t 22), none, .write, 0⟩])
 (.seq (.region [⟨(some 24), .load (some 6) (.t 2), none, .write, 0⟩, ⟨(some 25), .fieldAddr 0 (.t 1), none, .write, 0⟩, ⟨(some 26), .load (some 2) (.t 25), none, .write, 0⟩, ⟨(some 27), .call (.c (.func 21 [])) [(.t 24), (.t 26), (.c (.int .i64 3))], none, .write, 0⟩, ⟨(some 23), .move (.t 27), none, .write, 0⟩, ⟨(some 28), .extract (.t 23) 0, none, .write, 0⟩, ⟨(some 29), .extract (.t 23) 1, none, .write, 0⟩, ⟨(some 6), .alloc 29 6 (.agg [(.int .i64 0), .nsl, .nsl, .nsl, .nsl, .nsl]), none, .write, 0⟩, ⟨none, .store 6 (.t 6) (.t 28), none, .write, 0⟩, ⟨(some 7), .move (.t 29), none, .write, 0⟩])
 (.seq (.region [⟨(some 30), .move (.t 3), none, .write, 0⟩, ⟨(some 31), .move (.t 30), none, .write, 0⟩, ⟨(some 32), .move (.t 5), (some (31, true)), .write, 0⟩, ⟨(some 33), .un .not (.t 32), (some (31, true)), .write, 0⟩, ⟨(some 34), .pick (.t 31) (.t 33) (.c (.bool false)), none, .write, 0⟩, ⟨(some 35), .move (.t 34), none, .write, 0⟩, ⟨(some 36), .move (.t 7), (some (35, true)), .write, 0⟩, ⟨(some 37), .un .not (.t 36), (some (35, true)), .write, 0⟩, ⟨(some 38), .pick (.t 35) (.t 37) (.c (.bool false)), none, .write, 0⟩, ⟨(some 39), .move (.t 38), none, .write, 0⟩, ⟨(some 40), .fieldAddr 1 (.t 2), (some (39, true)), .write, 0⟩, ⟨(some 41), .load none (.t 40), (some (39, true)), .write, 0⟩, ⟨(some 42), .buildSlice 3 1 (.int .i64 0) 2 [(0, (.c (.int .i64 2))), (1, (.c (.int .i64 3)))], (some (39, true)), .write, 0⟩, ⟨(some 43), .call (.c (.func 80 [])) [(.t 41), (.t 42)], (some (39, true)), .write, 0⟩, ⟨(some 44), .pick (.t 39) (.t 43) (.c (.bool false)), none, .write, 0⟩, ⟨(some 45), .move (.t 44), none, .write, 0⟩, ⟨(some 46), .load (some 6) (.t 2), (some (45, true)), .write, 0⟩, ⟨(some 47), .fieldAddr 0 (.t 1), (some (45, true)), .write, 0⟩, ⟨(some 48), .load (some 2) (.t 47), (some (45, true)), .write, 0⟩, ⟨(some 49), .call (.c (.func 50 [])) [(.t 46), (.t 48)], (some (45, true)), .write, 0⟩, ⟨(some 50), .pick (.t 45) (.t 49) (.c (.bool false)), none, .write, 0⟩, ⟨(some 51), .move (.t 50), none, .write, 0⟩, ⟨(some 52), .load (some 6) (.t 2), (some (51, true)), .write, 0⟩, ⟨(some 53), .call (.c (.func 27 [])) [(.t 52)], (some (51, true)), .write, 0⟩, ⟨(some 54), .pick (.t 51) (.t 53) (.c (.bool false)), none, .write, 0⟩, ⟨(some 0), .move (.t 54), none, .write, 0⟩])
 .ret)))))) }

theorem c28 : compFunc Tryz.prog Tryz.f28 .pure = some t28 := by kernel_rfl

def t39l0 : DCode :=
 (.seq (.region [⟨(some 14), .arith .lss (.t 13) (.t 12), none, .write, 0⟩])
 (.seq (.cond (.t 14) .skip (.exit 0))
 (.seq (.block 1 (.seq (.region [⟨(some 15), .move (.t 13), none, .write, 0⟩, ⟨(some 5), .move (.t 15), none, .write, 0⟩])
 (.seq (.draw [⟨(some 16), .move (.t 0), none, .read, 0⟩, ⟨(some 17), .move (.t 5), none, .read, 0⟩, ⟨(some 18), .indexAddr 7 (.t 16) (.t 17), none, .read, 0⟩, ⟨(some 19), .fieldAddr 0 (.t 18), none, .read, 0⟩, ⟨(some 20), .load (some 2) (.t 19), none, .read, 0⟩, ⟨(some 21), .move (.t 1), none, .read, 0⟩, ⟨(some 22), .move (.t 5), none, .read, 0⟩, ⟨(some 23), .indexAddr 7 (.t 21) (.t 22), none, .read, 0⟩, ⟨(some 24), .fieldAddr 0 (.t 23), none, .read, 0⟩, ⟨(some 25), .load (some 2) (.t 24), none, .read, 0⟩, ⟨(some 26), .eqa true [1, 1] (.t 20) (.t 25), none, .read, 0⟩, ⟨(some 27), .move (.t 26), none, .read, 0⟩, ⟨(some 28), .move (.t 0), (some (27, false)), .read, 0⟩, ⟨(some 29), .move (.t 5), (some (27, false)), .read, 0⟩, ⟨(some 30), .indexAddr 7 (.t 28) (.t 29), (some (27, false)), .read, 0⟩, ⟨(some 31), .fieldAddr 2 (.t 30), (some (27, false)), .read, 0⟩, ⟨(some 32), .load (some 2) (.t 31), (some (27, false)), .read, 0⟩, ⟨(some 33), .move (.t 1), (some (27, false)), .read, 0⟩, ⟨(some 34), .move (.t 5), (some (27, false)), .read, 0⟩, ⟨(some 35), .indexAddr 7 (.t 33) (.t 34), (some (27, false)), .read, 0⟩, ⟨(some 36), .fieldAddr 2 (.t 35), (some (27, false)), .read, 0⟩, ⟨(some 37), .load (some 2) (.t 36), (some (27, false)), .read, 0⟩, ⟨(some 38), .eqa true [1, 1] (.t 32) (.t 37), (some (27, false)), .read, 0⟩, ⟨(some 39), .pick (.t 27) (.c (.bool true)) (.t 38), none, .read, 0⟩, ⟨(some 40), .move (.t 39), none, .read, 0⟩, ⟨(some 41), .move (.t 0), (some (40, false)), .read, 0⟩, ⟨(some 42), .move (.t 5), (some (40, false)), .read, 0⟩, ⟨(some 43), .indexAddr 7 (.t 41) (.t 42), (some (40, false)), .read, 0⟩, ⟨(some 44), .fieldAddr 5 (.t 43), (some (40, false)), .read, 0⟩, ⟨(some 45), .load none (.t 44), (some (40, false)), .read, 0⟩, ⟨(some 46), .move (.t 1), (some (40, false)), .read, 0⟩, ⟨(some 47), .move (.t 5), (some (40, false)), .read, 0⟩, ⟨(some 48), .indexAddr 7 (.t 46) (.t 47), (some (40, false)), .read, 0⟩, ⟨(some 49), .fieldAddr 5 (.t 48), (some (40, false)), .read, 0⟩, ⟨(some 50), .load none (.t 49), (some (40, false)), .read, 0⟩, ⟨(some 51), .arith .neq (.t 45) (.t 50), (some (40, false)), .read, 0⟩, ⟨(some 52), .pick (.t 40) (.c (.bool true)) (.t 51), none, .read, 0⟩, ⟨(some 53), .move (.t 52), none, .read, 0⟩, ⟨(some 54), .move (.t 0), (some (53, false)), .read, 0⟩, ⟨(some 55), .move (.t 5), (some (53, false)), .read, 0⟩, ⟨(some 56), .indexAddr 7 (.t 54) (.t 55), (some (53, false)), .read, 0⟩, ⟨(some 57), .fieldAddr 6 (.t 56), (some (53, false)), .read, 0⟩, ⟨(some 58), .load none (.t 57), (some (53, false)), .read, 0⟩, ⟨(some 59), .move (.t 1), (some (53, false)), .read, 0⟩, ⟨(some 60), .move (.t 5), (some (53, false)), .read, 0⟩, ⟨(some 61), .indexAddr 7 (.t 59) (.t 60), (some (53, false)), .read, 0⟩, ⟨(some 62), .fieldAddr 6 (.t 61), (some (53, false)), .read, 0⟩, ⟨(some 63), .load none (.t 62), (some (53, false)), .read, 0⟩, ⟨(some 64), .eqb true (.t 58) (.t 63), (some (53, false)), .read, 0⟩, ⟨(some 65), .pick (.t 53) (.c (.bool true)) (.t 64), none, .read, 0⟩, ⟨(some 66), .move (.t 65), none, .read, 0⟩, ⟨(some 67), .move (.t 0), (some (66, false)), .read, 0⟩, ⟨(some 68), .move (.t 5), (some (66, false)), .read, 0⟩, ⟨(some 69), .indexAddr 7 (.t 67) (.t 68), (some (66, false)), .read, 0⟩, ⟨(some 70), .fieldAddr 4 (.t 69), (some (66, false)), .read, 0⟩, ⟨(some 71), .load none (.t 70), (some (66, false)), .read, 0⟩, ⟨(some 72), .move (.t 1), (some (66, false)), .read, 0⟩, ⟨(some 73), .move (.t 5), (some (66, false)), .read, 0⟩, ⟨(some 74), .indexAddr 7 (.t 72) (.t 73), (some (66, false)), .read, 0⟩, ⟨(some 75), .fieldAddr 4 (.t 74), (some (66, false)), .read, 0⟩, ⟨(some 76), .load none (.t 75), (some (66, false)), .read, 0⟩, ⟨(some 77), .call (.c (.func 48 [])) [(.t 71), (.t 76)], (some (66, false)), .write, 0⟩, ⟨(some 78), .un .not (.t 77), (some (66, false)), .read, 1⟩, ⟨(some 79), .pick (.t 66) (.c (.bool true)) (.t 78), none, .read, 1⟩])
 (.cond (.t 79) (.seq (.region [⟨(some 4), .move (.c (.bool false)), none, .write, 0⟩])
 .ret) .skip))))
 (.region [⟨(some 80), .arith .add (.t 13) (.c (.int .i64 1)), none, .write, 0⟩, ⟨(some 13), .move (.t 80), none, .write, 0⟩]))))

def t39k0 : DCode :=
 (.seq (.region [⟨(some 4), .move (.c (.bool true)), none, .write, 0⟩])
 .ret)

/-- broadside/broadsidekeep.Entries -/
def t39 : DFunc := { ntmps := 81, results := [(.t 4)], mode := .pure, body :=
 (.seq (.region [⟨(some 4), .move (.c (.bool false)), none, .write, 0⟩])
 (.seq (.seq (.region [⟨(some 6), .move (.t 0), none, .write, 0⟩, ⟨(some 7), .len 1 (.t 6), none, .write, 0⟩, ⟨(some 8), .move (.t 1), none, .write, 0⟩, ⟨(some 9), .len 1 (.t 8), none, .write, 0⟩, ⟨(some 10), .arith .neq (.t 7) (.t 9), none, .write, 0⟩])
 (.cond (.t 10) (.seq (.region [⟨(some 4), .move (.c (.bool false)), none, .write, 0⟩])
 .ret) .skip))
 (.seq (.seq (.region [⟨(some 11), .move (.t 0), none, .write, 0⟩, ⟨(some 12), .len 1 (.t 11), none, .write, 0⟩, ⟨(some 13), .move (.c (.int .i64 0)), none, .write, 0⟩])
 (.block 0 (.loop t39l0)))
 t39k0))) }

theorem c39 : compFunc Tryz.prog Tryz.f39 .pure = some t39 := by kernel_rfl

def t48l0 : DCode :=
 (.seq (.seq (.region [⟨(some 11), .move (.t 5), none, .write, 0⟩, ⟨(some 12), .move (.t 0), none, .write, 0⟩, ⟨(some 13), .len 1 (.t 12), none, .write, 0⟩, ⟨(some 14), .arith .lss (.t 11) (.t 13), none, .write, 0⟩])
 (.cond (.t 14) .skip (.exit 0)))
 (.seq (.block 1 (.seq (.draw [⟨(some 17), .move (.t 0), none, .read, 0⟩, ⟨(some 18), .move (.t 5), none, .read, 0⟩, ⟨(some 19), .indexAddr 5 (.t 17) (.t 18), none, .read, 0⟩, ⟨(some 20), .load (some 5) (.t 19), none, .read, 0⟩, ⟨(some 21), .move (.t 1), none, .read, 0⟩, ⟨(some 22), .move (.t 5), none, .read, 0⟩, ⟨(some 23), .indexAddr 5 (.t 21) (.t 22), none, .read, 0⟩, ⟨(some 24), .load (some 5) (.t 23), none, .read, 0⟩, ⟨(some 25), .eqa true [2, 1, 1, 1, 2] (.t 20) (.t 24), none, .read, 0⟩])
 (.cond (.t 25) (.seq (.region [⟨(some 4), .move (.c (.bool false)), none, .write, 0⟩])
 .ret) .skip)))
 (.region [⟨(some 15), .move (.t 5), none, .write, 0⟩, ⟨(some 16), .arith .add (.t 15) (.c (.int .i64 1)), none, .write, 0⟩, ⟨(some 5), .move (.t 16), none, .write, 0⟩])))

def t48k0 : DCode :=
 (.seq (.region [⟨(some 4), .move (.c (.bool true)), none, .write, 0⟩])
 .ret)

/-- broadside/broadsidebook.Same[broadside/api.Constraint] -/
def t48 : DFunc := { ntmps := 26, results := [(.t 4)], mode := .pure, body :=
 (.seq (.region [⟨(some 4), .move (.c (.bool false)), none, .write, 0⟩])
 (.seq (.seq (.region [⟨(some 6), .move (.t 0), none, .write, 0⟩, ⟨(some 7), .len 1 (.t 6), none, .write, 0⟩, ⟨(some 8), .move (.t 1), none, .write, 0⟩, ⟨(some 9), .len 1 (.t 8), none, .write, 0⟩, ⟨(some 10), .arith .neq (.t 7) (.t 9), none, .write, 0⟩])
 (.cond (.t 10) (.seq (.region [⟨(some 4), .move (.c (.bool false)), none, .write, 0⟩])
 .ret) .skip))
 (.seq (.seq (.region [⟨(some 5), .move (.c (.int .i64 0)), none, .write, 0⟩])
 (.block 0 (.loop t48l0)))
 t48k0))) }

theorem c48 : compFunc Tryz.prog Tryz.f48 .pure = some t48 := by kernel_rfl

/-- broadside/adverts.Seen -/
def t50 : DFunc := { ntmps := 14, results := [(.t 4)], mode := .pure, body :=
 (.seq (.region [⟨(some 2), .box 29 6 (.t 0), none, .write, 0⟩, ⟨(some 3), .box 37 2 (.t 1), none, .write, 0⟩, ⟨(some 4), .move (.c (.bool false)), none, .write, 0⟩])
 (.seq (.region [⟨(some 8), .load (some 6) (.t 2), none, .write, 0⟩, ⟨(some 9), .load (some 2) (.t 3), none, .write, 0⟩, ⟨(some 10), .call (.c (.func 71 [])) [(.t 8), (.t 9)], none, .write, 0⟩, ⟨(some 7), .move (.t 10), none, .write, 0⟩, ⟨(some 11), .extract (.t 7) 0, none, .write, 0⟩, ⟨(some 12), .extract (.t 7) 1, none, .write, 0⟩, ⟨(some 5), .move (.t 11), none, .write, 0⟩, ⟨(some 6), .move (.t 12), none, .write, 0⟩])
 (.seq (.region [⟨(some 13), .move (.t 6), none, .write, 0⟩, ⟨(some 4), .move (.t 13), none, .write, 0⟩])
 .ret))) }

theorem c50 : compFunc Tryz.prog Tryz.f50 .pure = some t50 := by kernel_rfl

/-- broadside/adverts.Less -/
def t60 : DFunc := { ntmps := 9, results := [(.t 4)], mode := .pure, body :=
 (.seq (.region [⟨(some 2), .box 37 2 (.t 0), none, .write, 0⟩, ⟨(some 3), .box 37 2 (.t 1), none, .write, 0⟩, ⟨(some 4), .move (.c (.bool false)), none, .write, 0⟩])
 (.seq (.region [⟨(some 5), .load (some 2) (.t 2), none, .write, 0⟩, ⟨(some 6), .load (some 2) (.t 3), none, .write, 0⟩, ⟨(some 7), .call (.c (.func 101 [])) [(.t 5), (.t 6)], none, .write, 0⟩, ⟨(some 8), .arith .lss (.t 7) (.c (.int .i64 0)), none, .write, 0⟩, ⟨(some 4), .move (.t 8), none, .write, 0⟩])
 .ret)) }

theorem c60 : compFunc Tryz.prog Tryz.f60 .pure = some t60 := by kernel_rfl

/-- slices.Sort[[]int,int] -/
def t65 : DFunc := { ntmps := 11, results := [], mode := .full, body :=
 (.seq (.region [⟨(some 3), .move (.t 0), none, .write, 0⟩, ⟨(some 4), .len 1 (.t 3), none, .write, 0⟩, ⟨(some 2), .move (.t 4), none, .write, 0⟩])
 (.region [⟨(some 5), .move (.t 0), none, .write, 0⟩, ⟨(some 6), .move (.t 2), none, .write, 0⟩, ⟨(some 7), .move (.t 2), none, .write, 0⟩, ⟨(some 8), .conv .u64 (.t 7), none, .write, 0⟩, ⟨(some 9), .call (.c (.func 135 [])) [(.t 8)], none, .write, 0⟩, ⟨(some 10), .call (.c (.func 134 [])) [(.t 5), (.c (.int .i64 0)), (.t 6), (.t 9)], none, .write, 0⟩])) }

theorem c65 : compFunc Tryz.prog Tryz.f65 .full = some t65 := by kernel_rfl

def t66l0 : DCode :=
 (.seq (.seq (.region [⟨(some 29), .move (.t 5), none, .write, 0⟩, ⟨(some 30), .move (.t 4), none, .write, 0⟩, ⟨(some 31), .len 1 (.t 30), none, .write, 0⟩, ⟨(some 32), .arith .lss (.t 29) (.t 31), none, .write, 0⟩])
 (.cond (.t 32) .skip (.exit 2)))
 (.seq (.block 3 (.seq (.draw [⟨(some 35), .move (.t 4), none, .read, 0⟩, ⟨(some 36), .move (.t 5), none, .read, 0⟩, ⟨(some 37), .indexAddr 1 (.t 35) (.t 36), none, .read, 0⟩, ⟨(some 38), .load none (.t 37), none, .read, 0⟩, ⟨(some 39), .move (.t 4), none, .read, 0⟩, ⟨(some 40), .move (.t 5), none, .read, 0⟩, ⟨(some 41), .arith .sub (.t 40) (.c (.int .i64 1)), none, .read, 0⟩, ⟨(some 42), .indexAddr 1 (.t 39) (.t 41), none, .read, 0⟩, ⟨(some 43), .load none (.t 42), none, .read, 0⟩, ⟨(some 44), .arith .neq (.t 38) (.t 43), none, .read, 0⟩])
 (.cond (.t 44) (.seq (.region [⟨(some 45), .move (.t 0), none, .write, 0⟩, ⟨(some 46), .move (.t 3), none, .write, 0⟩, ⟨(some 47), .move (.t 4), none, .write, 0⟩, ⟨(some 48), .move (.t 5), none, .write, 0⟩, ⟨(some 49), .indexAddr 1 (.t 47) (.t 48), none, .write, 0⟩, ⟨(some 50), .load none (.t 49), none, .write, 0⟩, ⟨(some 51), .indexAddr 1 (.t 45) (.t 46), none, .write, 0⟩, ⟨none, .store 1 (.t 51) (.t 50), none, .write, 0⟩])
 (.region [⟨(some 52), .move (.t 3), none, .write, 0⟩, ⟨(some 53), .arith .add (.t 52) (.c (.int .i64 1)), none, .write, 0⟩, ⟨(some 3), .move (.t 53), none, .write, 0⟩])) .skip)))
 (.region [⟨(some 33), .move (.t 5), none, .write, 0⟩, ⟨(some 34), .arith .add (.t 33) (.c (.int .i64 1)), none, .write, 0⟩, ⟨(some 5), .move (.t 34), none, .write, 0⟩])))

def t66k0 : DCode :=
 (.seq (.region [⟨(some 54), .move (.t 0), none, .write, 0⟩, ⟨(some 55), .move (.t 3), none, .write, 0⟩, ⟨(some 56), .sliceSl 1 (.t 54) (some (.t 55)) none, none, .write, 0⟩, ⟨none, .clear 1 (.int .i64 0) (.t 56), none, .write, 0⟩])
 (.seq (.region [⟨(some 57), .move (.t 0), none, .write, 0⟩, ⟨(some 58), .move (.t 3), none, .write, 0⟩, ⟨(some 59), .sliceSl 1 (.t 57) none (some (.t 58)), none, .write, 0⟩, ⟨(some 2), .move (.t 59), none, .write, 0⟩])
 .ret))

def t66k1 : DCode :=
 (.region [⟨(some 14), .move (.t 3), none, .write, 0⟩, ⟨(some 15), .arith .add (.t 14) (.c (.int .i64 1)), none, .write, 0⟩, ⟨(some 3), .move (.t 15), none, .write, 0⟩])

def t66l1 : DCode :=
 (.seq (.seq (.region [⟨(some 10), .move (.t 3), none, .write, 0⟩, ⟨(some 11), .move (.t 0), none, .write, 0⟩, ⟨(some 12), .len 1 (.t 11), none, .write, 0⟩, ⟨(some 13), .arith .lss (.t 10) (.t 12), none, .write, 0⟩])
 (.cond (.t 13) .skip (.exit 0)))
 (.seq (.block 1 (.seq (.draw [⟨(some 16), .move (.t 0), none, .read, 0⟩, ⟨(some 17), .move (.t 3), none, .read, 0⟩, ⟨(some 18), .indexAddr 1 (.t 16) (.t 17), none, .read, 0⟩, ⟨(some 19), .load none (.t 18), none, .read, 0⟩, ⟨(some 20), .move (.t 0), none, .read, 0⟩, ⟨(some 21), .move (.t 3), none, .read, 0⟩, ⟨(some 22), .arith .sub (.t 21) (.c (.int .i64 1)), none, .read, 0⟩, ⟨(some 23), .indexAddr 1 (.t 20) (.t 22), none, .read, 0⟩, ⟨(some 24), .load none (.t 23), none, .read, 0⟩, ⟨(some 25), .arith .eql (.t 19) (.t 24), none, .read, 0⟩])
 (.cond (.t 25) (.seq (.region [⟨(some 26), .move (.t 0), none, .write, 0⟩, ⟨(some 27), .move (.t 3), none, .write, 0⟩, ⟨(some 28), .sliceSl 1 (.t 26) (some (.t 27)) none, none, .write, 0⟩, ⟨(some 4), .move (.t 28), none, .write, 0⟩])
 (.seq (.seq (.region [⟨(some 5), .move (.c (.int .i64 1)), none, .write, 0⟩])
 (.block 2 (.loop t66l0)))
 t66k0)) .skip)))
 t66k1))

def t66k2 : DCode :=
 (.seq (.region [⟨(some 60), .move (.t 0), none, .write, 0⟩, ⟨(some 2), .move (.t 60), none, .write, 0⟩])
 .ret)

/-- slices.Compact[[]int,int] -/
def t66 : DFunc := { ntmps := 61, results := [(.t 2)], mode := .full, body :=
 (.seq (.region [⟨(some 2), .move (.c .nsl), none, .write, 0⟩])
 (.seq (.seq (.region [⟨(some 6), .move (.t 0), none, .write, 0⟩, ⟨(some 7), .len 1 (.t 6), none, .write, 0⟩, ⟨(some 8), .arith .lss (.t 7) (.c (.int .i64 2)), none, .write, 0⟩])
 (.cond (.t 8) (.seq (.region [⟨(some 9), .move (.t 0), none, .write, 0⟩, ⟨(some 2), .move (.t 9), none, .write, 0⟩])
 .ret) .skip))
 (.seq (.seq (.region [⟨(some 3), .move (.c (.int .i64 1)), none, .write, 0⟩])
 (.block 0 (.loop t66l1)))
 t66k2))) }

theorem c66 : compFunc Tryz.prog Tryz.f66 .full = some t66 := by kernel_rfl

/-- broadside/broadsidekeep.Names -/
def t67 : DFunc := { ntmps := 2, results := [(.t 0)], mode := .pure, body :=
 (.seq (.region [⟨(some 0), .move (.c .nsl), none, .write, 0⟩])
 (.seq (.region [⟨(some 1), .buildSlice 9 1 (.str []) 7 [(0, (.c (.str [97]))), (1, (.c (.str [98]))), (2, (.c (.str [99]))), (3, (.c (.str [100]))), (4, (.c (.str [101]))), (5, (.c (.str [102]))), (6, (.c (.str [103])))], none, .write, 0⟩, ⟨(some 0), .move (.t 1), none, .write, 0⟩])
 .ret)) }

theorem c67 : compFunc Tryz.prog Tryz.f67 .pure = some t67 := by kernel_rfl

/-- broadside/broadsidekeep.Constraint -/
def t68 : DFunc := { ntmps := 44, results := [(.cell 4 (some 5))], mode := .pure, body :=
 (.seq (.region [⟨(some 4), .alloc 62 5 (.agg [(.str []), (.int .i64 0), (.int .i64 0), (.int .i64 0), (.str [])]), none, .write, 0⟩])
 (.seq (.region [⟨(some 6), .move (.t 0), none, .write, 0⟩, ⟨(some 7), .build [(.str []), (.int .i64 0), (.int .i64 0), (.int .i64 0), (.str [])] [(0, 1, (.t 6))], none, .write, 0⟩, ⟨(some 5), .alloc 62 5 (.agg [(.str []), (.int .i64 0), (.int .i64 0), (.int .i64 0), (.str [])]), none, .write, 0⟩, ⟨none, .store 5 (.t 5) (.t 7), none, .write, 0⟩])
 (.seq (.seq (.region [⟨(some 8), .move (.t 1), none, .write, 0⟩, ⟨(some 9), .call (.c (.func 16 [])) [(.t 8), (.c (.int .i64 0)), (.c (.int .i64 3))], none, .write, 0⟩])
 (.block 0 (.seq (.seq (.region [⟨(some 19), .arith .eql (.t 9) (.c (.int .i64 0)), none, .write, 0⟩, ⟨(some 18), .move (.t 19), none, .write, 0⟩])
 (.cond (.t 18) .skip (.region [⟨(some 20), .arith .eql (.t 9) (.c (.int .i64 1)), none, .write, 0⟩, ⟨(some 18), .move (.t 20), none, .write, 0⟩])))
 (.cond (.t 18) (.seq (.region [⟨(some 21), .move (.t 1), none, .write, 0⟩, ⟨(some 22), .arith .quo (.t 21) (.c (.int .i64 4)), none, .write, 0⟩, ⟨(some 23), .call (.c (.func 16 [])) [(.t 22), (.c (.int .i64 0)), (.c (.int .i64 9))], none, .write, 0⟩, ⟨(some 24), .fieldAddr 1 (.t 5), none, .write, 0⟩, ⟨none, .store 1 (.t 24) (.c (.int .i64 1)), none, .write, 0⟩, ⟨(some 25), .fieldAddr 2 (.t 5), none, .write, 0⟩, ⟨none, .store 1 (.t 25) (.t 23), none, .write, 0⟩])
 (.draw [⟨(some 26), .fieldAddr 2 (.t 5), none, .read, 0⟩, ⟨(some 27), .load none (.t 26), none, .read, 0⟩, ⟨(some 28), .move (.t 1), none, .read, 0⟩, ⟨(some 29), .arith .quo (.t 28) (.c (.int .i64 40)), none, .read, 0⟩, ⟨(some 30), .call (.c (.func 16 [])) [(.t 29), (.c (.int .i64 0)), (.c (.int .i64 9))], none, .create, 0⟩, ⟨(some 31), .arith .add (.t 27) (.t 30), none, .read, 1⟩, ⟨(some 32), .fieldAddr 3 (.t 5), none, .read, 1⟩, ⟨none, .store 1 (.t 32) (.t 31), none, .write, 1⟩])) (.seq (.region [⟨(some 34), .arith .eql (.t 9) (.c (.int .i64 2)), none, .write, 0⟩, ⟨(some 33), .move (.t 34), none, .write, 0⟩])
 (.cond (.t 33) (.draw [⟨(some 35), .call (.c (.func 136 [])) [], none, .write, 0⟩, ⟨(some 36), .move (.t 1), none, .read, 0⟩, ⟨(some 37), .arith .quo (.t 36) (.c (.int .i64 4)), none, .read, 0⟩, ⟨(some 38), .call (.c (.func 16 [])) [(.t 37), (.c (.int .i64 0)), (.c (.int .i64 6))], none, .write, 1⟩, ⟨(some 39), .indexAddr 1 (.t 35) (.t 38), none, .read, 2⟩, ⟨(some 40), .load none (.t 39), none, .read, 2⟩, ⟨(some 41), .fieldAddr 1 (.t 5), none, .read, 0⟩, ⟨none, .store 1 (.t 41) (.c (.int .i64 2)), none, .create, 2⟩, ⟨(some 42), .fieldAddr 4 (.t 5), none, .read, 3⟩, ⟨none, .store 1 (.t 42) (.t 40), none, .write, 3⟩]) (.draw [⟨(some 10), .call (.c (.func 136 [])) [], none, .write, 0⟩, ⟨(some 11), .move (.t 1), none, .read, 0⟩, ⟨(some 12), .arith .quo (.t 11) (.c (.int .i64 4)), none, .read, 0⟩, ⟨(some 13), .call (.c (.func 16 [])) [(.t 12), (.c (.int .i64 0)), (.c (.int .i64 6))], none, .write, 1⟩, ⟨(some 14), .indexAddr 1 (.t 10) (.t 13), none, .read, 2⟩, ⟨(some 15), .load none (.t 14), none, .read, 2⟩, ⟨(some 16), .fieldAddr 1 (.t 5), none, .read, 0⟩, ⟨none, .store 1 (.t 16) (.c (.int .i64 3)), none, .create, 2⟩, ⟨(some 17), .fieldAddr 4 (.t 5), none, .read, 3⟩, ⟨none, .store 1 (.t 17) (.t 15), none, .write, 3⟩])))))))
 (.seq (.region [⟨(some 43), .load (some 5) (.t 5), none, .write, 0⟩, ⟨none, .store 5 (.t 4) (.t 43), none, .write, 0⟩])
 .ret)))) }

theorem c68 : compFunc Tryz.prog Tryz.f68 .pure = some t68 := by kernel_rfl

/-- broadside/broadsidekeep.pick -/
def t69 : DFunc := { ntmps := 15, results := [(.t 4)], mode := .pure, body :=
 (.seq (.region [⟨(some 4), .move (.c (.int .i64 0)), none, .write, 0⟩])
 (.seq (.seq (.region [⟨(some 5), .move (.t 0), none, .write, 0⟩, ⟨(some 6), .len 1 (.t 5), none, .write, 0⟩, ⟨(some 7), .arith .eql (.t 6) (.c (.int .i64 0)), none, .write, 0⟩])
 (.cond (.t 7) (.seq (.region [⟨(some 4), .move (.c (.int .i64 0)), none, .write, 0⟩])
 .ret) .skip))
 (.seq (.region [⟨(some 8), .move (.t 0), none, .write, 0⟩, ⟨(some 9), .move (.t 1), none, .write, 0⟩, ⟨(some 10), .move (.t 0), none, .write, 0⟩, ⟨(some 11), .len 1 (.t 10), none, .write, 0⟩, ⟨(some 12), .arith .rem (.t 9) (.t 11), none, .write, 0⟩, ⟨(some 13), .indexAddr 1 (.t 8) (.t 12), none, .write, 0⟩, ⟨(some 14), .load none (.t 13), none, .write, 0⟩, ⟨(some 4), .move (.t 14), none, .write, 0⟩])
 .ret))) }

theorem c69 : compFunc Tryz.prog Tryz.f69 .pure = some t69 := by kernel_rfl

/-- broadside/adverts.copied -/
def t70 : DFunc := { ntmps := 24, results := [(.cell 2 (some 6))], mode := .full, body :=
 (.seq (.region [⟨(some 1), .box 29 6 (.t 0), none, .write, 0⟩, ⟨(some 2), .alloc 29 6 (.agg [(.int .i64 0), .nsl, .nsl, .nsl, .nsl, .nsl]), none, .write, 0⟩])
 (.seq (.draw [⟨(some 3), .fieldAddr 1 (.t 1), none, .read, 0⟩, ⟨(some 4), .load none (.t 3), none, .read, 0⟩, ⟨(some 5), .call (.c (.func 64 [])) [(.t 4)], none, .create, 0⟩, ⟨(some 6), .fieldAddr 2 (.t 1), none, .read, 0⟩, ⟨(some 7), .load none (.t 6), none, .read, 0⟩, ⟨(some 8), .call (.c (.func 137 [])) [(.t 7)], none, .create, 0⟩, ⟨(some 9), .fieldAddr 3 (.t 1), none, .read, 0⟩, ⟨(some 10), .load none (.t 9), none, .read, 0⟩, ⟨(some 11), .call (.c (.func 138 [])) [(.t 10)], none, .create, 0⟩, ⟨(some 12), .fieldAddr 4 (.t 1), none, .read, 0⟩, ⟨(some 13), .load none (.t 12), none, .read, 0⟩, ⟨(some 14), .call (.c (.func 112 [])) [(.t 13)], none, .create, 0⟩, ⟨(some 15), .fieldAddr 5 (.t 1), none, .read, 0⟩, ⟨(some 16), .load none (.t 15), none, .read, 0⟩, ⟨(some 17), .call (.c (.func 128 [])) [(.t 16)], none, .write, 4⟩, ⟨(some 18), .fieldAddr 1 (.t 1), none, .read, 1⟩, ⟨none, .store 1 (.t 18) (.t 5), none, .write, 5⟩, ⟨(some 19), .fieldAddr 2 (.t 1), none, .read, 6⟩, ⟨none, .store 1 (.t 19) (.t 8), none, .write, 6⟩, ⟨(some 20), .fieldAddr 3 (.t 1), none, .read, 7⟩, ⟨none, .store 1 (.t 20) (.t 11), none, .write, 7⟩, ⟨(some 21), .fieldAddr 4 (.t 1), none, .read, 8⟩, ⟨none, .store 1 (.t 21) (.t 14), none, .write, 8⟩, ⟨(some 22), .fieldAddr 5 (.t 1), none, .read, 9⟩, ⟨none, .store 1 (.t 22) (.t 17), none, .write, 9⟩])
 (.seq (.region [⟨(some 23), .load (some 6) (.t 1), none, .write, 0⟩, ⟨none, .store 6 (.t 2) (.t 23), none, .write, 0⟩])
 .ret))) }

theorem c70 : compFunc Tryz.prog Tryz.f70 .full = some t70 := by kernel_rfl

/-- broadside/adverts.seen -/
def t71 : DFunc := { ntmps := 12, results := [(.t 4), (.t 5)], mode := .pure, body :=
 (.seq (.region [⟨(some 2), .box 29 6 (.t 0), none, .write, 0⟩, ⟨(some 3), .box 37 2 (.t 1), none, .write, 0⟩, ⟨(some 4), .move (.c (.int .i64 0)), none, .write, 0⟩, ⟨(some 5), .move (.c (.bool false)), none, .write, 0⟩])
 (.seq (.region [⟨(some 6), .fieldAddr 3 (.t 2), none, .write, 0⟩, ⟨(some 7), .load none (.t 6), none, .write, 0⟩, ⟨(some 8), .load (some 2) (.t 3), none, .write, 0⟩, ⟨(some 9), .call (.c (.func 139 [])) [(.t 7), (.t 8), (.c (.func 101 []))], none, .write, 0⟩, ⟨(some 10), .extract (.t 9) 0, none, .write, 0⟩, ⟨(some 11), .extract (.t 9) 1, none, .write, 0⟩, ⟨(some 4), .move (.t 10), none, .write, 0⟩, ⟨(some 5), .move (.t 11), none, .write, 0⟩])
 .ret)) }

theorem c71 : compFunc Tryz.prog Tryz.f71 .pure = some t71 := by kernel_rfl

/-- broadside/adverts.place -/
def t72 : DFunc := { ntmps := 12, results := [(.t 4), (.t 5)], mode := .pure, body :=
 (.seq (.region [⟨(some 2), .box 29 6 (.t 0), none, .write, 0⟩, ⟨(some 3), .box 37 2 (.t 1), none, .write, 0⟩, ⟨(some 4), .move (.c (.int .i64 0)), none, .write, 0⟩, ⟨(some 5), .move (.c (.bool false)), none, .write, 0⟩])
 (.seq (.region [⟨(some 6), .fieldAddr 2 (.t 2), none, .write, 0⟩, ⟨(some 7), .load none (.t 6), none, .write, 0⟩, ⟨(some 8), .load (some 2) (.t 3), none, .write, 0⟩, ⟨(some 9), .call (.c (.func 140 [])) [(.t 7), (.t 8), (.c (.func 141 []))], none, .write, 0⟩, ⟨(some 10), .extract (.t 9) 0, none, .write, 0⟩, ⟨(some 11), .extract (.t 9) 1, none, .write, 0⟩, ⟨(some 4), .move (.t 10), none, .write, 0⟩, ⟨(some 5), .move (.t 11), none, .write, 0⟩])
 .ret)) }

theorem c72 : compFunc Tryz.prog Tryz.f72 .pure = some t72 := by kernel_rfl

/-- slices.Insert[[]broadside/api.Advert,broadside/api.Advert] -/
def t73 : DFunc := { ntmps := 95, results := [(.t 6)], mode := .split, body :=
 (.seq (.region [⟨(some 6), .move (.c .nsl), none, .write, 0⟩])
 (.seq (.region [⟨(some 10), .move (.t 0), none, .write, 0⟩, ⟨(some 11), .move (.t 1), none, .write, 0⟩, ⟨(some 12), .sliceSl 4 (.t 10) (some (.t 11)) none, none, .write, 0⟩])
 (.seq (.region [⟨(some 13), .move (.t 2), none, .write, 0⟩, ⟨(some 14), .len 1 (.t 13), none, .write, 0⟩, ⟨(some 7), .move (.t 14), none, .write, 0⟩])
 (.seq (.seq (.region [⟨(some 15), .move (.t 7), none, .write, 0⟩, ⟨(some 16), .arith .eql (.t 15) (.c (.int .i64 0)), none, .write, 0⟩])
 (.cond (.t 16) (.seq (.region [⟨(some 17), .move (.t 0), none, .write, 0⟩, ⟨(some 6), .move (.t 17), none, .write, 0⟩])
 .ret) .skip))
 (.seq (.region [⟨(some 18), .move (.t 0), none, .write, 0⟩, ⟨(some 19), .len 1 (.t 18), none, .write, 0⟩, ⟨(some 8), .move (.t 19), none, .write, 0⟩])
 (.seq (.seq (.region [⟨(some 20), .move (.t 1), none, .write, 0⟩, ⟨(some 21), .move (.t 8), none, .write, 0⟩, ⟨(some 22), .arith .eql (.t 20) (.t 21), none, .write, 0⟩])
 (.cond (.t 22) (.seq (.region [⟨(some 23), .move (.t 0), none, .write, 0⟩, ⟨(some 24), .move (.t 2), none, .write, 0⟩, ⟨(some 25), .append 42 4 48 (.t 23) (.t 24), none, .write, 0⟩, ⟨(some 6), .move (.t 25), none, .write, 0⟩])
 .ret) .skip))
 (.seq (.seq (.region [⟨(some 26), .move (.t 8), none, .write, 0⟩, ⟨(some 27), .move (.t 7), none, .write, 0⟩, ⟨(some 28), .arith .add (.t 26) (.t 27), none, .write, 0⟩, ⟨(some 29), .move (.t 0), none, .write, 0⟩, ⟨(some 30), .cap (.t 29), none, .write, 0⟩, ⟨(some 31), .arith .gtr (.t 28) (.t 30), none, .write, 0⟩])
 (.cond (.t 31) (.seq (.region [⟨(some 32), .move (.t 0), none, .write, 0⟩, ⟨(some 33), .move (.t 1), none, .write, 0⟩, ⟨(some 34), .sliceSl 4 (.t 32) none (some (.t 33)), none, .write, 0⟩, ⟨(some 35), .move (.t 8), none, .write, 0⟩, ⟨(some 36), .move (.t 7), none, .write, 0⟩, ⟨(some 37), .arith .add (.t 35) (.t 36), none, .write, 0⟩, ⟨(some 38), .move (.t 1), none, .write, 0⟩, ⟨(some 39), .arith .sub (.t 37) (.t 38), none, .write, 0⟩, ⟨(some 40), .appendZ 42 4 48 (.agg [(.int .i64 0), (.int .i64 0), .nsl, (.int .i64 0)]) (.t 34) (.t 39), none, .write, 0⟩, ⟨(some 9), .move (.t 40), none, .write, 0⟩])
 (.seq (.region [⟨(some 41), .move (.t 9), none, .write, 0⟩, ⟨(some 42), .move (.t 1), none, .write, 0⟩, ⟨(some 43), .sliceSl 4 (.t 41) (some (.t 42)) none, none, .write, 0⟩, ⟨(some 44), .move (.t 2), none, .write, 0⟩, ⟨(some 45), .copy 4 (.t 43) (.t 44), none, .write, 0⟩])
 (.seq (.draw [⟨(some 46), .move (.t 9), none, .read, 0⟩, ⟨(some 47), .move (.t 1), none, .read, 0⟩, ⟨(some 48), .move (.t 7), none, .read, 0⟩, ⟨(some 49), .arith .add (.t 47) (.t 48), none, .read, 0⟩, ⟨(some 50), .sliceSl 4 (.t 46) (some (.t 49)) none, none, .read, 0⟩, ⟨(some 51), .move (.t 0), none, .read, 0⟩, ⟨(some 52), .move (.t 1), none, .read, 0⟩, ⟨(some 53), .sliceSl 4 (.t 51) (some (.t 52)) none, none, .read, 0⟩, ⟨(some 54), .copy 4 (.t 50) (.t 53), none, .write, 0⟩])
 (.seq (.region [⟨(some 55), .move (.t 9), none, .write, 0⟩, ⟨(some 6), .move (.t 55), none, .write, 0⟩])
 .ret)))) .skip))
 (.seq (.region [⟨(some 56), .move (.t 0), none, .write, 0⟩, ⟨(some 57), .move (.t 8), none, .write, 0⟩, ⟨(some 58), .move (.t 7), none, .write, 0⟩, ⟨(some 59), .arith .add (.t 57) (.t 58), none, .write, 0⟩, ⟨(some 60), .sliceSl 4 (.t 56) none (some (.t 59)), none, .write, 0⟩, ⟨(some 0), .move (.t 60), none, .write, 0⟩])
 (.seq (.seq (.region [⟨(some 61), .move (.t 2), none, .write, 0⟩, ⟨(some 62), .move (.t 0), none, .write, 0⟩, ⟨(some 63), .move (.t 1), none, .write, 0⟩, ⟨(some 64), .move (.t 7), none, .write, 0⟩, ⟨(some 65), .arith .add (.t 63) (.t 64), none, .write, 0⟩, ⟨(some 66), .sliceSl 4 (.t 62) (some (.t 65)) none, none, .write, 0⟩, ⟨(some 67), .call (.c (.func 142 [])) [(.t 61), (.t 66)], none, .write, 0⟩, ⟨(some 68), .un .not (.t 67), none, .write, 0⟩])
 (.cond (.t 68) (.seq (.draw [⟨(some 69), .move (.t 0), none, .read, 0⟩, ⟨(some 70), .move (.t 1), none, .read, 0⟩, ⟨(some 71), .move (.t 7), none, .read, 0⟩, ⟨(some 72), .arith .add (.t 70) (.t 71), none, .read, 0⟩, ⟨(some 73), .sliceSl 4 (.t 69) (some (.t 72)) none, none, .read, 0⟩, ⟨(some 74), .move (.t 0), none, .read, 0⟩, ⟨(some 75), .move (.t 1), none, .read, 0⟩, ⟨(some 76), .sliceSl 4 (.t 74) (some (.t 75)) none, none, .read, 0⟩, ⟨(some 77), .copy 4 (.t 73) (.t 76), none, .write, 0⟩])
 (.seq (.region [⟨(some 78), .move (.t 0), none, .write, 0⟩, ⟨(some 79), .move (.t 1), none, .write, 0⟩, ⟨(some 80), .sliceSl 4 (.t 78) (some (.t 79)) none, none, .write, 0⟩, ⟨(some 81), .move (.t 2), none, .write, 0⟩, ⟨(some 82), .copy 4 (.t 80) (.t 81), none, .write, 0⟩])
 (.seq (.region [⟨(some 83), .move (.t 0), none, .write, 0⟩, ⟨(some 6), .move (.t 83), none, .write, 0⟩])
 .ret))) .skip))
 (.seq (.region [⟨(some 84), .move (.t 0), none, .write, 0⟩, ⟨(some 85), .move (.t 8), none, .write, 0⟩, ⟨(some 86), .sliceSl 4 (.t 84) (some (.t 85)) none, none, .write, 0⟩, ⟨(some 87), .move (.t 2), none, .write, 0⟩, ⟨(some 88), .copy 4 (.t 86) (.t 87), none, .write, 0⟩])
 (.seq (.region [⟨(some 89), .move (.t 0), none, .write, 0⟩, ⟨(some 90), .move (.t 1), none, .write, 0⟩, ⟨(some 91), .sliceSl 4 (.t 89) (some (.t 90)) none, none, .write, 0⟩, ⟨(some 92), .move (.t 7), none, .write, 0⟩, ⟨(some 93), .call (.c (.func 143 [])) [(.t 91), (.t 92)], none, .write, 0⟩])
 (.seq (.region [⟨(some 94), .move (.t 0), none, .write, 0⟩, ⟨(some 6), .move (.t 94), none, .write, 0⟩])
 .ret)))))))))))) }

theorem c73 : compFunc Tryz.prog Tryz.f73 .split = some t73 := by kernel_rfl

/-- slices.Insert[[]broadside/api.ID,broadside/api.ID] -/
def t74 : DFunc := { ntmps := 95, results := [(.t 6)], mode := .split, body :=
 (.seq (.region [⟨(some 6), .move (.c .nsl), none, .write, 0⟩])
 (.seq (.region [⟨(some 10), .move (.t 0), none, .write, 0⟩, ⟨(some 11), .move (.t 1), none, .write, 0⟩, ⟨(some 12), .sliceSl 2 (.t 10) (some (.t 11)) none, none, .write, 0⟩])
 (.seq (.region [⟨(some 13), .move (.t 2), none, .write, 0⟩, ⟨(some 14), .len 1 (.t 13), none, .write, 0⟩, ⟨(some 7), .move (.t 14), none, .write, 0⟩])
 (.seq (.seq (.region [⟨(some 15), .move (.t 7), none, .write, 0⟩, ⟨(some 16), .arith .eql (.t 15) (.c (.int .i64 0)), none, .write, 0⟩])
 (.cond (.t 16) (.seq (.region [⟨(some 17), .move (.t 0), none, .write, 0⟩, ⟨(some 6), .move (.t 17), none, .write, 0⟩])
 .ret) .skip))
 (.seq (.region [⟨(some 18), .move (.t 0), none, .write, 0⟩, ⟨(some 19), .len 1 (.t 18), none, .write, 0⟩, ⟨(some 8), .move (.t 19), none, .write, 0⟩])
 (.seq (.seq (.region [⟨(some 20), .move (.t 1), none, .write, 0⟩, ⟨(some 21), .move (.t 8), none, .write, 0⟩, ⟨(some 22), .arith .eql (.t 20) (.t 21), none, .write, 0⟩])
 (.cond (.t 22) (.seq (.region [⟨(some 23), .move (.t 0), none, .write, 0⟩, ⟨(some 24), .move (.t 2), none, .write, 0⟩, ⟨(some 25), .append 37 2 16 (.t 23) (.t 24), none, .write, 0⟩, ⟨(some 6), .move (.t 25), none, .write, 0⟩])
 .ret) .skip))
 (.seq (.seq (.region [⟨(some 26), .move (.t 8), none, .write, 0⟩, ⟨(some 27), .move (.t 7), none, .write, 0⟩, ⟨(some 28), .arith .add (.t 26) (.t 27), none, .write, 0⟩, ⟨(some 29), .move (.t 0), none, .write, 0⟩, ⟨(some 30), .cap (.t 29), none, .write, 0⟩, ⟨(some 31), .arith .gtr (.t 28) (.t 30), none, .write, 0⟩])
 (.cond (.t 31) (.seq (.region [⟨(some 32), .move (.t 0), none, .write, 0⟩, ⟨(some 33), .move (.t 1), none, .write, 0⟩, ⟨(some 34), .sliceSl 2 (.t 32) none (some (.t 33)), none, .write, 0⟩, ⟨(some 35), .move (.t 8), none, .write, 0⟩, ⟨(some 36), .move (.t 7), none, .write, 0⟩, ⟨(some 37), .arith .add (.t 35) (.t 36), none, .write, 0⟩, ⟨(some 38), .move (.t 1), none, .write, 0⟩, ⟨(some 39), .arith .sub (.t 37) (.t 38), none, .write, 0⟩, ⟨(some 40), .appendZ 37 2 16 (.agg [(.int .i64 0), (.int .i64 0)]) (.t 34) (.t 39), none, .write, 0⟩, ⟨(some 9), .move (.t 40), none, .write, 0⟩])
 (.seq (.region [⟨(some 41), .move (.t 9), none, .write, 0⟩, ⟨(some 42), .move (.t 1), none, .write, 0⟩, ⟨(some 43), .sliceSl 2 (.t 41) (some (.t 42)) none, none, .write, 0⟩, ⟨(some 44), .move (.t 2), none, .write, 0⟩, ⟨(some 45), .copy 2 (.t 43) (.t 44), none, .write, 0⟩])
 (.seq (.draw [⟨(some 46), .move (.t 9), none, .read, 0⟩, ⟨(some 47), .move (.t 1), none, .read, 0⟩, ⟨(some 48), .move (.t 7), none, .read, 0⟩, ⟨(some 49), .arith .add (.t 47) (.t 48), none, .read, 0⟩, ⟨(some 50), .sliceSl 2 (.t 46) (some (.t 49)) none, none, .read, 0⟩, ⟨(some 51), .move (.t 0), none, .read, 0⟩, ⟨(some 52), .move (.t 1), none, .read, 0⟩, ⟨(some 53), .sliceSl 2 (.t 51) (some (.t 52)) none, none, .read, 0⟩, ⟨(some 54), .copy 2 (.t 50) (.t 53), none, .write, 0⟩])
 (.seq (.region [⟨(some 55), .move (.t 9), none, .write, 0⟩, ⟨(some 6), .move (.t 55), none, .write, 0⟩])
 .ret)))) .skip))
 (.seq (.region [⟨(some 56), .move (.t 0), none, .write, 0⟩, ⟨(some 57), .move (.t 8), none, .write, 0⟩, ⟨(some 58), .move (.t 7), none, .write, 0⟩, ⟨(some 59), .arith .add (.t 57) (.t 58), none, .write, 0⟩, ⟨(some 60), .sliceSl 2 (.t 56) none (some (.t 59)), none, .write, 0⟩, ⟨(some 0), .move (.t 60), none, .write, 0⟩])
 (.seq (.seq (.region [⟨(some 61), .move (.t 2), none, .write, 0⟩, ⟨(some 62), .move (.t 0), none, .write, 0⟩, ⟨(some 63), .move (.t 1), none, .write, 0⟩, ⟨(some 64), .move (.t 7), none, .write, 0⟩, ⟨(some 65), .arith .add (.t 63) (.t 64), none, .write, 0⟩, ⟨(some 66), .sliceSl 2 (.t 62) (some (.t 65)) none, none, .write, 0⟩, ⟨(some 67), .call (.c (.func 144 [])) [(.t 61), (.t 66)], none, .write, 0⟩, ⟨(some 68), .un .not (.t 67), none, .write, 0⟩])
 (.cond (.t 68) (.seq (.draw [⟨(some 69), .move (.t 0), none, .read, 0⟩, ⟨(some 70), .move (.t 1), none, .read, 0⟩, ⟨(some 71), .move (.t 7), none, .read, 0⟩, ⟨(some 72), .arith .add (.t 70) (.t 71), none, .read, 0⟩, ⟨(some 73), .sliceSl 2 (.t 69) (some (.t 72)) none, none, .read, 0⟩, ⟨(some 74), .move (.t 0), none, .read, 0⟩, ⟨(some 75), .move (.t 1), none, .read, 0⟩, ⟨(some 76), .sliceSl 2 (.t 74) (some (.t 75)) none, none, .read, 0⟩, ⟨(some 77), .copy 2 (.t 73) (.t 76), none, .write, 0⟩])
 (.seq (.region [⟨(some 78), .move (.t 0), none, .write, 0⟩, ⟨(some 79), .move (.t 1), none, .write, 0⟩, ⟨(some 80), .sliceSl 2 (.t 78) (some (.t 79)) none, none, .write, 0⟩, ⟨(some 81), .move (.t 2), none, .write, 0⟩, ⟨(some 82), .copy 2 (.t 80) (.t 81), none, .write, 0⟩])
 (.seq (.region [⟨(some 83), .move (.t 0), none, .write, 0⟩, ⟨(some 6), .move (.t 83), none, .write, 0⟩])
 .ret))) .skip))
 (.seq (.region [⟨(some 84), .move (.t 0), none, .write, 0⟩, ⟨(some 85), .move (.t 8), none, .write, 0⟩, ⟨(some 86), .sliceSl 2 (.t 84) (some (.t 85)) none, none, .write, 0⟩, ⟨(some 87), .move (.t 2), none, .write, 0⟩, ⟨(some 88), .copy 2 (.t 86) (.t 87), none, .write, 0⟩])
 (.seq (.region [⟨(some 89), .move (.t 0), none, .write, 0⟩, ⟨(some 90), .move (.t 1), none, .write, 0⟩, ⟨(some 91), .sliceSl 2 (.t 89) (some (.t 90)) none, none, .write, 0⟩, ⟨(some 92), .move (.t 7), none, .write, 0⟩, ⟨(some 93), .call (.c (.func 145 [])) [(.t 91), (.t 92)], none, .write, 0⟩])
 (.seq (.region [⟨(some 94), .move (.t 0), none, .write, 0⟩, ⟨(some 6), .move (.t 94), none, .write, 0⟩])
 .ret)))))))))))) }

theorem c74 : compFunc Tryz.prog Tryz.f74 .split = some t74 := by kernel_rfl

def t75l0 : DCode :=
 (.seq (.region [⟨(some 11), .arith .lss (.t 10) (.t 9), none, .write, 0⟩])
 (.seq (.cond (.t 11) .skip (.exit 0))
 (.seq (.block 1 (.seq (.region [⟨(some 12), .indexAddr 2 (.t 8) (.t 10), none, .write, 0⟩, ⟨(some 13), .load (some 2) (.t 12), none, .write, 0⟩, ⟨(some 6), .alloc 37 2 (.agg [(.int .i64 0), (.int .i64 0)]), none, .write, 0⟩, ⟨none, .store 2 (.t 6) (.t 13), none, .write, 0⟩])
 (.seq (.region [⟨(some 14), .load (some 2) (.t 6), none, .write, 0⟩, ⟨(some 15), .load (some 2) (.t 3), none, .write, 0⟩, ⟨(some 16), .eqa false [1, 1] (.t 14) (.t 15), none, .write, 0⟩])
 (.cond (.t 16) (.seq (.region [⟨(some 4), .move (.c (.bool true)), none, .write, 0⟩])
 .ret) .skip))))
 (.region [⟨(some 17), .arith .add (.t 10) (.c (.int .i64 1)), none, .write, 0⟩, ⟨(some 10), .move (.t 17), none, .write, 0⟩]))))

def t75k0 : DCode :=
 (.seq (.region [⟨(some 4), .move (.c (.bool false)), none, .write, 0⟩])
 .ret)

/-- broadside/broadsideref9.seen -/
def t75 : DFunc := { ntmps := 18, results := [(.t 4)], mode := .pure, body :=
 (.seq (.region [⟨(some 2), .box 29 6 (.t 0), none, .write, 0⟩, ⟨(some 3), .box 37 2 (.t 1), none, .write, 0⟩, ⟨(some 4), .move (.c (.bool false)), none, .write, 0⟩])
 (.seq (.seq (.region [⟨(some 7), .fieldAddr 3 (.t 2), none, .write, 0⟩, ⟨(some 8), .load none (.t 7), none, .write, 0⟩, ⟨(some 9), .len 1 (.t 8), none, .write, 0⟩, ⟨(some 10), .move (.c (.int .i64 0)), none, .write, 0⟩])
 (.block 0 (.loop t75l0)))
 t75k0)) }

theorem c75 : compFunc Tryz.prog Tryz.f75 .pure = some t75 := by kernel_rfl

/-- broadside/broadsideref9.Less -/
def t76 : DFunc := { ntmps := 24, results := [(.t 4)], mode := .pure, body :=
 (.seq (.region [⟨(some 2), .box 37 2 (.t 0), none, .write, 0⟩, ⟨(some 3), .box 37 2 (.t 1), none, .write, 0⟩, ⟨(some 4), .move (.c (.bool false)), none, .write, 0⟩])
 (.seq (.region [⟨(some 5), .fieldAddr 0 (.t 2), none, .write, 0⟩, ⟨(some 6), .load none (.t 5), none, .write, 0⟩, ⟨(some 7), .fieldAddr 0 (.t 3), none, .write, 0⟩, ⟨(some 8), .load none (.t 7), none, .write, 0⟩, ⟨(some 9), .arith .lss (.t 6) (.t 8), none, .write, 0⟩, ⟨(some 10), .move (.t 9), none, .write, 0⟩, ⟨(some 11), .fieldAddr 0 (.t 2), (some (10, false)), .write, 0⟩, ⟨(some 12), .load none (.t 11), (some (10, false)), .write, 0⟩, ⟨(some 13), .fieldAddr 0 (.t 3), (some (10, false)), .write, 0⟩, ⟨(some 14), .load none (.t 13), (some (10, false)), .write, 0⟩, ⟨(some 15), .arith .eql (.t 12) (.t 14), (some (10, false)), .write, 0⟩, ⟨(some 16), .move (.t 15), (some (10, false)), .write, 0⟩, ⟨(some 17), .fieldAddr 1 (.t 2), (some (16, true)), .write, 0⟩, ⟨(some 18), .load none (.t 17), (some (16, true)), .write, 0⟩, ⟨(some 19), .fieldAddr 1 (.t 3), (some (16, true)), .write, 0⟩, ⟨(some 20), .load none (.t 19), (some (16, true)), .write, 0⟩, ⟨(some 21), .arith .lss (.t 18) (.t 20), (some (16, true)), .write, 0⟩, ⟨(some 22), .pick (.t 16) (.t 21) (.c (.bool false)), (some (10, false)), .write, 0⟩, ⟨(some 23), .pick (.t 10) (.c (.bool true)) (.t 22), none, .write, 0⟩, ⟨(some 4), .move (.t 23), none, .write, 0⟩])
 .ret)) }

theorem c76 : compFunc Tryz.prog Tryz.f76 .pure = some t76 := by kernel_rfl

/-- slices.Delete[[]broadside/api.Advert,broadside/api.Advert] -/
def t77 : DFunc := { ntmps := 33, results := [(.t 6)], mode := .full, body :=
 (.seq (.region [⟨(some 6), .move (.c .nsl), none, .write, 0⟩])
 (.seq (.region [⟨(some 8), .move (.t 0), none, .write, 0⟩, ⟨(some 9), .move (.t 1), none, .write, 0⟩, ⟨(some 10), .move (.t 2), none, .write, 0⟩, ⟨(some 11), .move (.t 0), none, .write, 0⟩, ⟨(some 12), .len 1 (.t 11), none, .write, 0⟩, ⟨(some 13), .slice3 (.t 8) (.t 9) (.t 10) (.t 12), none, .write, 0⟩])
 (.seq (.seq (.region [⟨(some 14), .move (.t 1), none, .write, 0⟩, ⟨(some 15), .move (.t 2), none, .write, 0⟩, ⟨(some 16), .arith .eql (.t 14) (.t 15), none, .write, 0⟩])
 (.cond (.t 16) (.seq (.region [⟨(some 17), .move (.t 0), none, .write, 0⟩, ⟨(some 6), .move (.t 17), none, .write, 0⟩])
 .ret) .skip))
 (.seq (.region [⟨(some 18), .move (.t 0), none, .write, 0⟩, ⟨(some 19), .len 1 (.t 18), none, .write, 0⟩, ⟨(some 7), .move (.t 19), none, .write, 0⟩])
 (.seq (.draw [⟨(some 20), .move (.t 0), none, .read, 0⟩, ⟨(some 21), .move (.t 1), none, .read, 0⟩, ⟨(some 22), .sliceSl 4 (.t 20) none (some (.t 21)), none, .read, 0⟩, ⟨(some 23), .move (.t 0), none, .read, 0⟩, ⟨(some 24), .move (.t 2), none, .read, 0⟩, ⟨(some 25), .sliceSl 4 (.t 23) (some (.t 24)) none, none, .read, 0⟩, ⟨(some 26), .append 42 4 48 (.t 22) (.t 25), none, .write, 0⟩, ⟨(some 0), .move (.t 26), none, .read, 1⟩])
 (.seq (.region [⟨(some 27), .move (.t 0), none, .write, 0⟩, ⟨(some 28), .move (.t 0), none, .write, 0⟩, ⟨(some 29), .len 1 (.t 28), none, .write, 0⟩, ⟨(some 30), .move (.t 7), none, .write, 0⟩, ⟨(some 31), .sliceSl 4 (.t 27) (some (.t 29)) (some (.t 30)), none, .write, 0⟩, ⟨none, .clear 4 (.agg [(.int .i64 0), (.int .i64 0), .nsl, (.int .i64 0)]) (.t 31), none, .write, 0⟩])
 (.seq (.region [⟨(some 32), .move (.t 0), none, .write, 0⟩, ⟨(some 6), .move (.t 32), none, .write, 0⟩])
 .ret))))))) }

theorem c77 : compFunc Tryz.prog Tryz.f77 .full = some t77 := by kernel_rfl

def t78l0 : DCode :=
 (.seq (.seq (.region [⟨(some 16), .move (.t 6), none, .write, 0⟩, ⟨(some 17), .move (.t 0), none, .write, 0⟩, ⟨(some 18), .len 1 (.t 17), none, .write, 0⟩, ⟨(some 19), .arith .lss (.t 16) (.t 18), none, .write, 0⟩])
 (.cond (.t 19) .skip (.exit 0)))
 (.seq (.block 1 (.seq (.region [⟨(some 22), .move (.t 0), none, .write, 0⟩, ⟨(some 23), .move (.t 6), none, .write, 0⟩, ⟨(some 24), .indexAddr 7 (.t 22) (.t 23), none, .write, 0⟩, ⟨(some 25), .load (some 7) (.t 24), none, .write, 0⟩, ⟨(some 7), .alloc 58 7 (.agg [(.int .i64 0), (.int .i64 0), (.int .i64 0), (.int .i64 0), .nsl, (.int .i64 0), (.bool false)]), none, .write, 0⟩, ⟨none, .store 7 (.t 7) (.t 25), none, .write, 0⟩])
 (.seq (.region [⟨(some 26), .move (.t 1), none, .write, 0⟩, ⟨(some 27), .load (some 7) (.t 7), none, .write, 0⟩, ⟨(some 28), .call (.t 26) [(.t 27)], none, .write, 0⟩, ⟨(some 29), .un .not (.t 28), none, .write, 0⟩])
 (.cond (.t 29) (.seq (.region [⟨(some 30), .move (.t 0), none, .write, 0⟩, ⟨(some 31), .move (.t 5), none, .write, 0⟩, ⟨(some 32), .load (some 7) (.t 7), none, .write, 0⟩, ⟨(some 33), .indexAddr 7 (.t 30) (.t 31), none, .write, 0⟩, ⟨none, .store 7 (.t 33) (.t 32), none, .write, 0⟩])
 (.region [⟨(some 34), .move (.t 5), none, .write, 0⟩, ⟨(some 35), .arith .add (.t 34) (.c (.int .i64 1)), none, .write, 0⟩, ⟨(some 5), .move (.t 35), none, .write, 0⟩])) .skip))))
 (.region [⟨(some 20), .move (.t 6), none, .write, 0⟩, ⟨(some 21), .arith .add (.t 20) (.c (.int .i64 1)), none, .write, 0⟩, ⟨(some 6), .move (.t 21), none, .write, 0⟩])))

def t78k0 : DCode :=
 (.seq (.region [⟨(some 36), .move (.t 0), none, .write, 0⟩, ⟨(some 37), .move (.t 5), none, .write, 0⟩, ⟨(some 38), .sliceSl 7 (.t 36) (some (.t 37)) none, none, .write, 0⟩, ⟨none, .clear 7 (.agg [(.int .i64 0), (.int .i64 0), (.int .i64 0), (.int .i64 0), .nsl, (.int .i64 0), (.bool false)]) (.t 38), none, .write, 0⟩])
 (.seq (.region [⟨(some 39), .move (.t 0), none, .write, 0⟩, ⟨(some 40), .move (.t 5), none, .write, 0⟩, ⟨(some 41), .sliceSl 7 (.t 39) none (some (.t 40)), none, .write, 0⟩, ⟨(some 4), .move (.t 41), none, .write, 0⟩])
 .ret))

/-- slices.DeleteFunc[[]broadside/api.Entry,broadside/api.Entry] -/
def t78 : DFunc := { ntmps := 42, results := [(.t 4)], mode := .full, body :=
 (.seq (.region [⟨(some 4), .move (.c .nsl), none, .write, 0⟩])
 (.seq (.region [⟨(some 8), .move (.t 0), none, .write, 0⟩, ⟨(some 9), .move (.t 1), none, .write, 0⟩, ⟨(some 10), .call (.c (.func 146 [])) [(.t 8), (.t 9)], none, .write, 0⟩, ⟨(some 5), .move (.t 10), none, .write, 0⟩])
 (.seq (.seq (.region [⟨(some 11), .move (.t 5), none, .write, 0⟩, ⟨(some 12), .arith .eql (.t 11) (.c (.int .i64 (-1))), none, .write, 0⟩])
 (.cond (.t 12) (.seq (.region [⟨(some 13), .move (.t 0), none, .write, 0⟩, ⟨(some 4), .move (.t 13), none, .write, 0⟩])
 .ret) .skip))
 (.seq (.seq (.region [⟨(some 14), .move (.t 5), none, .write, 0⟩, ⟨(some 15), .arith .add (.t 14) (.c (.int .i64 1)), none, .write, 0⟩, ⟨(some 6), .move (.t 15), none, .write, 0⟩])
 (.block 0 (.loop t78l0)))
 t78k0)))) }

theorem c78 : compFunc Tryz.prog Tryz.f78 .full = some t78 := by kernel_rfl

/-- broadside/adverts.Forget$1 -/
def t79 : DFunc := { ntmps := 8, results := [(.t 3)], mode := .pure, body :=
 (.seq (.region [⟨(some 2), .box 58 7 (.t 0), none, .write, 0⟩, ⟨(some 3), .move (.c (.bool false)), none, .write, 0⟩])
 (.seq (.region [⟨(some 4), .fieldAddr 0 (.t 2), none, .write, 0⟩, ⟨(some 5), .load (some 2) (.t 4), none, .write, 0⟩, ⟨(some 6), .load (some 2) (.t 1), none, .write, 0⟩, ⟨(some 7), .eqa false [1, 1] (.t 5) (.t 6), none, .write, 0⟩, ⟨(some 3), .move (.t 7), none, .write, 0⟩])
 .ret)) }

theorem c79 : compFunc Tryz.prog Tryz.f79 .pure = some t79 := by kernel_rfl

def t80l0 : DCode :=
 (.seq (.seq (.region [⟨(some 11), .move (.t 5), none, .write, 0⟩, ⟨(some 12), .move (.t 0), none, .write, 0⟩, ⟨(some 13), .len 1 (.t 12), none, .write, 0⟩, ⟨(some 14), .arith .lss (.t 11) (.t 13), none, .write, 0⟩])
 (.cond (.t 14) .skip (.exit 0)))
 (.seq (.block 1 (.seq (.draw [⟨(some 17), .move (.t 0), none, .read, 0⟩, ⟨(some 18), .move (.t 5), none, .read, 0⟩, ⟨(some 19), .indexAddr 1 (.t 17) (.t 18), none, .read, 0⟩, ⟨(some 20), .load none (.t 19), none, .read, 0⟩, ⟨(some 21), .move (.t 1), none, .read, 0⟩, ⟨(some 22), .move (.t 5), none, .read, 0⟩, ⟨(some 23), .indexAddr 1 (.t 21) (.t 22), none, .read, 0⟩, ⟨(some 24), .load none (.t 23), none, .read, 0⟩, ⟨(some 25), .arith .neq (.t 20) (.t 24), none, .read, 0⟩])
 (.cond (.t 25) (.seq (.region [⟨(some 4), .move (.c (.bool false)), none, .write, 0⟩])
 .ret) .skip)))
 (.region [⟨(some 15), .move (.t 5), none, .write, 0⟩, ⟨(some 16), .arith .add (.t 15) (.c (.int .i64 1)), none, .write, 0⟩, ⟨(some 5), .move (.t 16), none, .write, 0⟩])))

def t80k0 : DCode :=
 (.seq (.region [⟨(some 4), .move (.c (.bool true)), none, .write, 0⟩])
 .ret)

/-- broadside/broadsidebook.Same[int] -/
def t80 : DFunc := { ntmps := 26, results := [(.t 4)], mode := .pure, body :=
 (.seq (.region [⟨(some 4), .move (.c (.bool false)), none, .write, 0⟩])
 (.seq (.seq (.region [⟨(some 6), .move (.t 0), none, .write, 0⟩, ⟨(some 7), .len 1 (.t 6), none, .write, 0⟩, ⟨(some 8), .move (.t 1), none, .write, 0⟩, ⟨(some 9), .len 1 (.t 8), none, .write, 0⟩, ⟨(some 10), .arith .neq (.t 7) (.t 9), none, .write, 0⟩])
 (.cond (.t 10) (.seq (.region [⟨(some 4), .move (.c (.bool false)), none, .write, 0⟩])
 .ret) .skip))
 (.seq (.seq (.region [⟨(some 5), .move (.c (.int .i64 0)), none, .write, 0⟩])
 (.block 0 (.loop t80l0)))
 t80k0))) }

theorem c80 : compFunc Tryz.prog Tryz.f80 .pure = some t80 := by kernel_rfl

def t81l0 : DCode :=
 (.seq (.seq (.region [⟨(some 11), .move (.t 5), none, .write, 0⟩, ⟨(some 12), .move (.t 0), none, .write, 0⟩, ⟨(some 13), .len 1 (.t 12), none, .write, 0⟩, ⟨(some 14), .arith .lss (.t 11) (.t 13), none, .write, 0⟩])
 (.cond (.t 14) .skip (.exit 0)))
 (.seq (.block 1 (.seq (.draw [⟨(some 17), .move (.t 0), none, .read, 0⟩, ⟨(some 18), .move (.t 5), none, .read, 0⟩, ⟨(some 19), .indexAddr 2 (.t 17) (.t 18), none, .read, 0⟩, ⟨(some 20), .load (some 2) (.t 19), none, .read, 0⟩, ⟨(some 21), .move (.t 1), none, .read, 0⟩, ⟨(some 22), .move (.t 5), none, .read, 0⟩, ⟨(some 23), .indexAddr 2 (.t 21) (.t 22), none, .read, 0⟩, ⟨(some 24), .load (some 2) (.t 23), none, .read, 0⟩, ⟨(some 25), .eqa true [1, 1] (.t 20) (.t 24), none, .read, 0⟩])
 (.cond (.t 25) (.seq (.region [⟨(some 4), .move (.c (.bool false)), none, .write, 0⟩])
 .ret) .skip)))
 (.region [⟨(some 15), .move (.t 5), none, .write, 0⟩, ⟨(some 16), .arith .add (.t 15) (.c (.int .i64 1)), none, .write, 0⟩, ⟨(some 5), .move (.t 16), none, .write, 0⟩])))

def t81k0 : DCode :=
 (.seq (.region [⟨(some 4), .move (.c (.bool true)), none, .write, 0⟩])
 .ret)

/-- broadside/broadsidebook.Same[broadside/api.ID] -/
def t81 : DFunc := { ntmps := 26, results := [(.t 4)], mode := .pure, body :=
 (.seq (.region [⟨(some 4), .move (.c (.bool false)), none, .write, 0⟩])
 (.seq (.seq (.region [⟨(some 6), .move (.t 0), none, .write, 0⟩, ⟨(some 7), .len 1 (.t 6), none, .write, 0⟩, ⟨(some 8), .move (.t 1), none, .write, 0⟩, ⟨(some 9), .len 1 (.t 8), none, .write, 0⟩, ⟨(some 10), .arith .neq (.t 7) (.t 9), none, .write, 0⟩])
 (.cond (.t 10) (.seq (.region [⟨(some 4), .move (.c (.bool false)), none, .write, 0⟩])
 .ret) .skip))
 (.seq (.seq (.region [⟨(some 5), .move (.c (.int .i64 0)), none, .write, 0⟩])
 (.block 0 (.loop t81l0)))
 t81k0))) }

theorem c81 : compFunc Tryz.prog Tryz.f81 .pure = some t81 := by kernel_rfl

end Go.Dm.Tc
