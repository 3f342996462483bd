/-
The table of functions, brought into the machine's form (Tc, part 0). Written by program (wip/tools/table.lean.txt).
-/
import Derived.Test.YtkkbjjobdcjaiaaMm3
import Derived.Test.YtkkbjjobdcjaiaaRows
import Derived.KernelRfl
namespace Go.Dm.Tc
open Go.Proofs

def t3l0 : DCode :=
 (.seq (.seq (.region [⟨(some 24), .move (.t 9), none, .write, 0⟩, ⟨(some 25), .move (.t 0), none, .write, 0⟩, ⟨(some 26), .len 1 (.t 25), none, .write, 0⟩, ⟨(some 27), .arith .lss (.t 24) (.t 26), none, .write, 0⟩, ⟨(some 28), .move (.t 27), none, .write, 0⟩, ⟨(some 29), .move (.t 9), (some (28, true)), .write, 0⟩, ⟨(some 30), .move (.t 1), (some (28, true)), .write, 0⟩, ⟨(some 31), .len 1 (.t 30), (some (28, true)), .write, 0⟩, ⟨(some 32), .arith .lss (.t 29) (.t 31), (some (28, true)), .write, 0⟩, ⟨(some 33), .pick (.t 28) (.t 32) (.c (.bool false)), none, .write, 0⟩, ⟨(some 34), .move (.t 33), none, .write, 0⟩, ⟨(some 35), .move (.t 9), (some (34, true)), .write, 0⟩, ⟨(some 36), .arith .lss (.t 35) (.c (.int .i64 20)), (some (34, true)), .write, 0⟩, ⟨(some 37), .pick (.t 34) (.t 36) (.c (.bool false)), none, .write, 0⟩])
 (.cond (.t 37) .skip (.exit 0)))
 (.seq (.block 1 (.seq (.draw [⟨(some 40), .move (.t 0), none, .read, 0⟩, ⟨(some 41), .move (.t 9), none, .read, 0⟩, ⟨(some 42), .indexAddr 1 (.t 40) (.t 41), none, .read, 0⟩, ⟨(some 43), .load none (.t 42), none, .read, 0⟩, ⟨(some 44), .call (.c (.func 8 [])) [(.t 43), (.c (.int .i64 0)), (.c (.int .i64 3))], none, .create, 0⟩, ⟨(some 45), .move (.t 1), none, .read, 0⟩, ⟨(some 46), .move (.t 9), none, .read, 0⟩, ⟨(some 47), .indexAddr 1 (.t 45) (.t 46), none, .read, 0⟩, ⟨(some 48), .load none (.t 47), none, .read, 0⟩, ⟨(some 49), .call (.c (.func 8 [])) [(.t 48), (.c (.int .i64 0)), (.c (.int .i64 2))], none, .write, 1⟩, ⟨(some 50), .build [(.int .i64 0), (.int .i64 0)] [(0, 1, (.t 44)), (1, 1, (.t 49))], none, .read, 2⟩, ⟨(some 10), .alloc 35 2 (.agg [(.int .i64 0), (.int .i64 0)]), none, .create, 0⟩, ⟨none, .store 2 (.t 10) (.t 50), none, .write, 3⟩])
 (.seq (.draw [⟨(some 52), .load (some 6) (.t 7), none, .read, 0⟩, ⟨(some 53), .load (some 2) (.t 10), none, .read, 0⟩, ⟨(some 54), .load (some 2) (.t 5), none, .read, 0⟩, ⟨(some 55), .call (.c (.func 10 [])) [(.t 54)], none, .create, 0⟩, ⟨(some 56), .move (.t 9), none, .read, 0⟩, ⟨(some 57), .arith .rem (.t 56) (.c (.int .i64 2)), none, .read, 0⟩, ⟨(some 58), .arith .add (.c (.int .i64 1)) (.t 57), none, .read, 0⟩, ⟨(some 59), .build [(.int .i64 0), (.int .i64 0), .nsl, (.int .i64 0)] [(0, 2, (.t 53)), (2, 1, (.t 55)), (3, 1, (.t 58))], none, .read, 1⟩, ⟨(some 60), .call (.c (.func 9 [])) [(.t 52), (.t 59)], none, .write, 1⟩, ⟨(some 51), .move (.t 60), none, .read, 2⟩, ⟨(some 61), .extract (.t 51) 0, none, .read, 2⟩, ⟨(some 11), .alloc 30 6 (.agg [(.int .i64 0), .nsl, .nsl, .nsl, .nsl, .nsl]), none, .create, 0⟩, ⟨none, .store 6 (.t 11) (.t 61), none, .write, 3⟩, ⟨(some 62), .extract (.t 51) 1, none, .read, 2⟩, ⟨(some 12), .move (.t 62), none, .read, 4⟩])
 (.seq (.seq (.region [⟨(some 63), .move (.t 12), none, .write, 0⟩, ⟨(some 64), .move (.t 8), none, .write, 0⟩, ⟨(some 65), .load (some 2) (.t 10), none, .write, 0⟩, ⟨(some 66), .lookup (.agg [1, 1]) (.bool false) false (.t 64) (.t 65), none, .write, 0⟩, ⟨(some 67), .eqb false (.t 63) (.t 66), none, .write, 0⟩, ⟨(some 68), .move (.t 67), none, .write, 0⟩, ⟨(some 69), .load (some 6) (.t 11), (some (68, false)), .write, 0⟩, ⟨(some 70), .load (some 2) (.t 10), (some (68, false)), .write, 0⟩, ⟨(some 71), .call (.c (.func 11 [])) [(.t 69), (.t 70)], (some (68, false)), .write, 0⟩, ⟨(some 72), .un .not (.t 71), (some (68, false)), .write, 0⟩, ⟨(some 73), .pick (.t 68) (.c (.bool true)) (.t 72), none, .write, 0⟩])
 (.cond (.t 73) (.seq (.region [⟨(some 6), .move (.c (.bool false)), none, .write, 0⟩])
 .ret) .skip))
 (.seq (.region [⟨(some 74), .move (.t 8), none, .write, 0⟩, ⟨(some 75), .load (some 2) (.t 10), none, .write, 0⟩, ⟨none, .mapUpdate (.agg [1, 1]) (.t 74) (.t 75) (.c (.bool true)), none, .write, 0⟩])
 (.seq (.region [⟨(some 76), .load (some 6) (.t 11), none, .write, 0⟩, ⟨none, .store 6 (.t 7) (.t 76), none, .write, 0⟩])
 (.seq (.region [⟨(some 77), .move (.t 9), none, .write, 0⟩, ⟨(some 78), .arith .rem (.t 77) (.c (.int .i64 3)), none, .write, 0⟩, ⟨(some 79), .arith .eql (.t 78) (.c (.int .i64 2)), none, .write, 0⟩])
 (.cond (.t 79) (.seq (.region [⟨(some 81), .load (some 6) (.t 7), none, .write, 0⟩, ⟨(some 82), .load (some 2) (.t 10), none, .write, 0⟩, ⟨(some 83), .call (.c (.func 12 [])) [(.t 81), (.t 82)], none, .write, 0⟩, ⟨(some 80), .move (.t 83), none, .write, 0⟩, ⟨(some 84), .extract (.t 80) 0, none, .write, 0⟩, ⟨(some 85), .extract (.t 80) 1, none, .write, 0⟩, ⟨(some 13), .alloc 41 4 (.agg [(.int .i64 0), (.int .i64 0), .nsl, (.int .i64 0)]), none, .write, 0⟩, ⟨none, .store 4 (.t 13) (.t 84), none, .write, 0⟩, ⟨(some 14), .move (.t 85), none, .write, 0⟩])
 (.seq (.region [⟨(some 86), .move (.t 14), none, .write, 0⟩])
 (.cond (.t 86) (.seq (.region [⟨(some 88), .load (some 6) (.t 7), none, .write, 0⟩, ⟨(some 89), .load (some 2) (.t 10), none, .write, 0⟩, ⟨(some 90), .fieldAddr 3 (.t 13), none, .write, 0⟩, ⟨(some 91), .load none (.t 90), none, .write, 0⟩, ⟨(some 92), .call (.c (.func 13 [])) [(.t 88), (.t 89), (.t 91)], none, .write, 0⟩, ⟨(some 87), .move (.t 92), none, .write, 0⟩, ⟨(some 93), .extract (.t 87) 0, none, .write, 0⟩, ⟨(some 94), .extract (.t 87) 1, none, .write, 0⟩, ⟨(some 15), .alloc 30 6 (.agg [(.int .i64 0), .nsl, .nsl, .nsl, .nsl, .nsl]), none, .write, 0⟩, ⟨none, .store 6 (.t 15) (.t 93), none, .write, 0⟩, ⟨(some 16), .move (.t 94), none, .write, 0⟩])
 (.seq (.seq (.region [⟨(some 96), .load (some 6) (.t 15), none, .write, 0⟩, ⟨(some 97), .load (some 2) (.t 10), none, .write, 0⟩, ⟨(some 98), .call (.c (.func 12 [])) [(.t 96), (.t 97)], none, .write, 0⟩, ⟨(some 95), .move (.t 98), none, .write, 0⟩, ⟨(some 99), .extract (.t 95) 0, none, .write, 0⟩, ⟨(some 100), .extract (.t 95) 1, none, .write, 0⟩, ⟨(some 17), .alloc 41 4 (.agg [(.int .i64 0), (.int .i64 0), .nsl, (.int .i64 0)]), none, .write, 0⟩, ⟨none, .store 4 (.t 17) (.t 99), none, .write, 0⟩, ⟨(some 18), .move (.t 100), none, .write, 0⟩])
 (.seq (.region [⟨(some 101), .move (.t 16), none, .write, 0⟩, ⟨(some 102), .un .not (.t 101), none, .write, 0⟩, ⟨(some 103), .move (.t 102), none, .write, 0⟩, ⟨(some 104), .move (.t 18), (some (103, false)), .write, 0⟩, ⟨(some 105), .pick (.t 103) (.c (.bool true)) (.t 104), none, .write, 0⟩, ⟨(some 106), .move (.t 105), none, .write, 0⟩, ⟨(some 107), .load (some 6) (.t 15), (some (106, false)), .write, 0⟩, ⟨(some 108), .load (some 2) (.t 10), (some (106, false)), .write, 0⟩, ⟨(some 109), .call (.c (.func 11 [])) [(.t 107), (.t 108)], (some (106, false)), .write, 0⟩, ⟨(some 110), .un .not (.t 109), (some (106, false)), .write, 0⟩, ⟨(some 111), .pick (.t 106) (.c (.bool true)) (.t 110), none, .write, 0⟩])
 (.cond (.t 111) (.seq (.region [⟨(some 6), .move (.c (.bool false)), none, .write, 0⟩])
 .ret) .skip)))
 (.region [⟨(some 112), .load (some 6) (.t 15), none, .write, 0⟩, ⟨none, .store 6 (.t 7) (.t 112), none, .write, 0⟩]))) .skip))) .skip))))))))
 (.region [⟨(some 38), .move (.t 9), none, .write, 0⟩, ⟨(some 39), .arith .add (.t 38) (.c (.int .i64 1)), none, .write, 0⟩, ⟨(some 9), .move (.t 39), none, .write, 0⟩])))

def t3k0 : DCode :=
 (.seq (.region [⟨(some 113), .build [(.int .i64 0), (.int .i64 0)] [(0, 1, (.c (.int .i64 1))), (1, 1, (.c (.int .i64 5)))], none, .write, 0⟩, ⟨(some 114), .build [(.int .i64 0), (.int .i64 0)] [(0, 1, (.c (.int .i64 2)))], none, .write, 0⟩, ⟨(some 19), .alloc 35 2 (.agg [(.int .i64 0), (.int .i64 0)]), none, .write, 0⟩, ⟨(some 20), .alloc 35 2 (.agg [(.int .i64 0), (.int .i64 0)]), none, .write, 0⟩, ⟨none, .store 2 (.t 19) (.t 113), none, .write, 0⟩, ⟨none, .store 2 (.t 20) (.t 114), none, .write, 0⟩])
 (.seq (.region [⟨(some 115), .fieldAddr 3 (.t 7), none, .write, 0⟩, ⟨(some 116), .load none (.t 115), none, .write, 0⟩, ⟨(some 117), .len 1 (.t 116), none, .write, 0⟩, ⟨(some 118), .move (.t 8), none, .write, 0⟩, ⟨(some 119), .len 2 (.t 118), none, .write, 0⟩, ⟨(some 120), .arith .eql (.t 117) (.t 119), none, .write, 0⟩, ⟨(some 121), .move (.t 120), none, .write, 0⟩, ⟨(some 122), .load (some 2) (.t 19), (some (121, true)), .write, 0⟩, ⟨(some 123), .load (some 2) (.t 20), (some (121, true)), .write, 0⟩, ⟨(some 124), .call (.c (.func 14 [])) [(.t 122), (.t 123)], (some (121, true)), .write, 0⟩, ⟨(some 125), .pick (.t 121) (.t 124) (.c (.bool false)), none, .write, 0⟩, ⟨(some 126), .move (.t 125), none, .write, 0⟩, ⟨(some 127), .load (some 2) (.t 20), (some (126, true)), .write, 0⟩, ⟨(some 128), .load (some 2) (.t 19), (some (126, true)), .write, 0⟩, ⟨(some 129), .call (.c (.func 14 [])) [(.t 127), (.t 128)], (some (126, true)), .write, 0⟩, ⟨(some 130), .un .not (.t 129), (some (126, true)), .write, 0⟩, ⟨(some 131), .pick (.t 126) (.t 130) (.c (.bool false)), none, .write, 0⟩, ⟨(some 132), .move (.t 131), none, .write, 0⟩, ⟨(some 133), .load (some 2) (.t 19), (some (132, true)), .write, 0⟩, ⟨(some 134), .load (some 2) (.t 19), (some (132, true)), .write, 0⟩, ⟨(some 135), .call (.c (.func 14 [])) [(.t 133), (.t 134)], (some (132, true)), .write, 0⟩, ⟨(some 136), .un .not (.t 135), (some (132, true)), .write, 0⟩, ⟨(some 137), .pick (.t 132) (.t 136) (.c (.bool false)), none, .write, 0⟩, ⟨(some 138), .move (.t 137), none, .write, 0⟩, ⟨(some 139), .load (some 6) (.t 7), (some (138, true)), .write, 0⟩, ⟨(some 140), .call (.c (.func 15 [])) [(.t 139)], (some (138, true)), .write, 0⟩, ⟨(some 141), .pick (.t 138) (.t 140) (.c (.bool false)), none, .write, 0⟩, ⟨(some 142), .move (.t 141), none, .write, 0⟩, ⟨(some 143), .call (.c (.func 16 [])) [], (some (142, true)), .write, 0⟩, ⟨(some 144), .pick (.t 142) (.t 143) (.c (.bool false)), none, .write, 0⟩, ⟨(some 6), .move (.t 144), none, .write, 0⟩])
 .ret))

/-- broadside/broadsidelaw9.AdvertsOnce -/
def t3 : DFunc := { ntmps := 145, results := [(.t 6)], mode := .pure, body :=
 (.seq (.region [⟨(some 5), .box 24 2 (.t 2), none, .write, 0⟩, ⟨(some 6), .move (.c (.bool false)), none, .write, 0⟩])
 (.seq (.region [⟨(some 21), .buildSlice 3 1 (.int .i64 0) 2 [(0, (.c (.int .i64 1))), (1, (.c (.int .i64 2)))], none, .write, 0⟩, ⟨(some 22), .call (.c (.func 7 [])) [(.c (.int .i64 5)), (.t 21)], none, .write, 0⟩, ⟨(some 7), .alloc 30 6 (.agg [(.int .i64 0), .nsl, .nsl, .nsl, .nsl, .nsl]), none, .write, 0⟩, ⟨none, .store 6 (.t 7) (.t 22), none, .write, 0⟩])
 (.seq (.region [⟨(some 23), .makeMap, none, .write, 0⟩, ⟨(some 8), .move (.t 23), none, .write, 0⟩])
 (.seq (.seq (.region [⟨(some 9), .move (.c (.int .i64 0)), none, .write, 0⟩])
 (.block 0 (.loop t3l0)))
 t3k0)))) }

theorem c3 : compFunc Try.prog Try.f3 .pure = some t3 := by kernel_rfl

/-- broadside/adverts.New -/
def t7 : DFunc := { ntmps := 14, results := [(.cell 4 (some 6))], mode := .pure, body :=
 (.seq (.region [⟨(some 4), .alloc 30 6 (.agg [(.int .i64 0), .nsl, .nsl, .nsl, .nsl, .nsl]), none, .write, 0⟩])
 (.seq (.region [⟨(some 6), .move (.t 1), none, .write, 0⟩, ⟨(some 7), .call (.c (.func 27 [])) [(.t 6)], none, .write, 0⟩, ⟨(some 5), .move (.t 7), none, .write, 0⟩])
 (.seq (.region [⟨(some 8), .move (.t 5), none, .write, 0⟩, ⟨(some 9), .call (.c (.func 28 [])) [(.t 8)], none, .write, 0⟩])
 (.seq (.region [⟨(some 10), .move (.t 0), none, .write, 0⟩, ⟨(some 11), .move (.t 5), none, .write, 0⟩, ⟨(some 12), .call (.c (.func 29 [])) [(.t 11)], none, .write, 0⟩, ⟨(some 13), .build [(.int .i64 0), .nsl, .nsl, .nsl, .nsl, .nsl] [(0, 1, (.t 10)), (1, 1, (.t 12))], none, .write, 0⟩, ⟨none, .store 6 (.t 4) (.t 13), none, .write, 0⟩])
 .ret)))) }

theorem c7 : compFunc Try.prog Try.f7 .pure = some t7 := by kernel_rfl

/-- broadside/broadsidebook.Within -/
def t8 : DFunc := { ntmps := 24, results := [(.t 6)], mode := .pure, body :=
 (.seq (.region [⟨(some 6), .move (.c (.int .i64 0)), none, .write, 0⟩])
 (.seq (.region [⟨(some 7), .move (.t 0), none, .write, 0⟩, ⟨(some 8), .move (.t 2), none, .write, 0⟩, ⟨(some 9), .move (.t 1), none, .write, 0⟩, ⟨(some 10), .arith .sub (.t 8) (.t 9), none, .write, 0⟩, ⟨(some 11), .arith .add (.t 10) (.c (.int .i64 1)), none, .write, 0⟩, ⟨(some 12), .arith .rem (.t 7) (.t 11), none, .write, 0⟩, ⟨(some 0), .move (.t 12), none, .write, 0⟩])
 (.seq (.seq (.region [⟨(some 13), .move (.t 0), none, .write, 0⟩, ⟨(some 14), .arith .lss (.t 13) (.c (.int .i64 0)), none, .write, 0⟩])
 (.cond (.t 14) (.region [⟨(some 15), .move (.t 0), none, .write, 0⟩, ⟨(some 16), .move (.t 2), none, .write, 0⟩, ⟨(some 17), .arith .add (.t 15) (.t 16), none, .write, 0⟩, ⟨(some 18), .move (.t 1), none, .write, 0⟩, ⟨(some 19), .arith .sub (.t 17) (.t 18), none, .write, 0⟩, ⟨(some 20), .arith .add (.t 19) (.c (.int .i64 1)), none, .write, 0⟩, ⟨(some 0), .move (.t 20), none, .write, 0⟩]) .skip))
 (.seq (.region [⟨(some 21), .move (.t 1), none, .write, 0⟩, ⟨(some 22), .move (.t 0), none, .write, 0⟩, ⟨(some 23), .arith .add (.t 21) (.t 22), none, .write, 0⟩, ⟨(some 6), .move (.t 23), none, .write, 0⟩])
 .ret)))) }

theorem c8 : compFunc Try.prog Try.f8 .pure = some t8 := by kernel_rfl

/-- broadside/adverts.Learn -/
def t9 : DFunc := { ntmps := 44, results := [(.cell 4 (some 6)), (.t 5)], mode := .frz, body :=
 (.seq (.region [⟨(some 2), .box 30 6 (.t 0), none, .write, 0⟩, ⟨(some 3), .box 41 4 (.t 1), none, .write, 0⟩, ⟨(some 4), .alloc 30 6 (.agg [(.int .i64 0), .nsl, .nsl, .nsl, .nsl, .nsl]), none, .write, 0⟩, ⟨(some 5), .move (.c (.bool false)), none, .write, 0⟩])
 (.seq (.region [⟨(some 10), .load (some 6) (.t 2), none, .write, 0⟩, ⟨(some 11), .call (.c (.func 30 [])) [(.t 10)], none, .write, 0⟩, ⟨none, .store 6 (.t 2) (.t 11), none, .write, 0⟩])
 (.seq (.region [⟨(some 13), .load (some 6) (.t 2), none, .write, 0⟩, ⟨(some 14), .fieldAddr 0 (.t 3), none, .write, 0⟩, ⟨(some 15), .load (some 2) (.t 14), none, .write, 0⟩, ⟨(some 16), .call (.c (.func 31 [])) [(.t 13), (.t 15)], none, .write, 0⟩, ⟨(some 12), .move (.t 16), none, .write, 0⟩, ⟨(some 17), .extract (.t 12) 0, none, .write, 0⟩, ⟨(some 18), .extract (.t 12) 1, none, .write, 0⟩, ⟨(some 6), .move (.t 17), none, .write, 0⟩, ⟨(some 7), .move (.t 18), none, .write, 0⟩])
 (.seq (.seq (.region [⟨(some 19), .move (.t 7), none, .write, 0⟩])
 (.cond (.t 19) (.seq (.region [⟨(some 20), .load (some 6) (.t 2), none, .write, 0⟩, ⟨none, .store 6 (.t 4) (.t 20), none, .write, 0⟩, ⟨(some 5), .move (.c (.bool false)), none, .write, 0⟩])
 .ret) .skip))
 (.seq (.region [⟨(some 22), .load (some 6) (.t 2), none, .write, 0⟩, ⟨(some 23), .fieldAddr 0 (.t 3), none, .write, 0⟩, ⟨(some 24), .load (some 2) (.t 23), none, .write, 0⟩, ⟨(some 25), .call (.c (.func 32 [])) [(.t 22), (.t 24)], none, .write, 0⟩, ⟨(some 21), .move (.t 25), none, .write, 0⟩, ⟨(some 26), .extract (.t 21) 0, none, .write, 0⟩, ⟨(some 27), .extract (.t 21) 1, none, .write, 0⟩, ⟨(some 8), .move (.t 26), none, .write, 0⟩, ⟨(some 9), .move (.t 27), none, .write, 0⟩])
 (.seq (.region [⟨(some 28), .fieldAddr 2 (.t 2), none, .write, 0⟩, ⟨(some 29), .load none (.t 28), none, .write, 0⟩, ⟨(some 30), .move (.t 8), none, .write, 0⟩, ⟨(some 31), .load (some 4) (.t 3), none, .write, 0⟩, ⟨(some 32), .buildSlice 41 4 (.agg [(.int .i64 0), (.int .i64 0), .nsl, (.int .i64 0)]) 1 [(0, (.t 31))], none, .write, 0⟩, ⟨(some 33), .call (.c (.func 33 [])) [(.t 29), (.t 30), (.t 32)], none, .write, 0⟩, ⟨(some 34), .fieldAddr 2 (.t 2), none, .write, 0⟩, ⟨none, .store 1 (.t 34) (.t 33), none, .write, 0⟩])
 (.seq (.region [⟨(some 35), .fieldAddr 3 (.t 2), none, .write, 0⟩, ⟨(some 36), .load none (.t 35), none, .write, 0⟩, ⟨(some 37), .move (.t 6), none, .write, 0⟩, ⟨(some 38), .fieldAddr 0 (.t 3), none, .write, 0⟩, ⟨(some 39), .load (some 2) (.t 38), none, .write, 0⟩, ⟨(some 40), .buildSlice 35 2 (.agg [(.int .i64 0), (.int .i64 0)]) 1 [(0, (.t 39))], none, .write, 0⟩, ⟨(some 41), .call (.c (.func 34 [])) [(.t 36), (.t 37), (.t 40)], none, .write, 0⟩, ⟨(some 42), .fieldAddr 3 (.t 2), none, .write, 0⟩, ⟨none, .store 1 (.t 42) (.t 41), none, .write, 0⟩])
 (.seq (.region [⟨(some 43), .load (some 6) (.t 2), none, .write, 0⟩, ⟨none, .store 6 (.t 4) (.t 43), none, .write, 0⟩, ⟨(some 5), .move (.c (.bool true)), none, .write, 0⟩])
 .ret)))))))) }

theorem c9 : compFunc Try.prog Try.f9 .frz = some t9 := by kernel_rfl

def t10l0 : DCode :=
 (.seq (.region [⟨(some 9), .arith .lss (.t 8) (.t 7), none, .write, 0⟩])
 (.seq (.cond (.t 9) .skip (.exit 0))
 (.seq (.block 1 (.seq (.region [⟨(some 10), .move (.t 8), none, .write, 0⟩, ⟨(some 11), .indexAddr 1 (.t 6) (.t 8), none, .write, 0⟩, ⟨(some 12), .load none (.t 11), none, .write, 0⟩, ⟨(some 4), .move (.t 10), none, .write, 0⟩, ⟨(some 5), .move (.t 12), none, .write, 0⟩])
 (.seq (.region [⟨(some 13), .move (.t 4), none, .write, 0⟩, ⟨(some 14), .fieldAddr 0 (.t 1), none, .write, 0⟩, ⟨(some 15), .load none (.t 14), none, .write, 0⟩, ⟨(some 16), .len 1 (.t 15), none, .write, 0⟩, ⟨(some 17), .arith .lss (.t 13) (.t 16), none, .write, 0⟩, ⟨(some 18), .move (.t 17), none, .write, 0⟩, ⟨(some 19), .fieldAddr 0 (.t 1), (some (18, true)), .write, 0⟩, ⟨(some 20), .load none (.t 19), (some (18, true)), .write, 0⟩, ⟨(some 21), .move (.t 4), (some (18, true)), .write, 0⟩, ⟨(some 22), .indexAddr 1 (.t 20) (.t 21), (some (18, true)), .write, 0⟩, ⟨(some 23), .load none (.t 22), (some (18, true)), .write, 0⟩, ⟨(some 24), .arith .and (.t 23) (.c (.int .i64 1)), (some (18, true)), .write, 0⟩, ⟨(some 25), .arith .eql (.t 24) (.c (.int .i64 1)), (some (18, true)), .write, 0⟩, ⟨(some 26), .pick (.t 18) (.t 25) (.c (.bool false)), none, .write, 0⟩, ⟨(some 27), .move (.t 26), none, .write, 0⟩, ⟨(some 28), .move (.t 3), (some (27, true)), .write, 0⟩, ⟨(some 29), .len 1 (.t 28), (some (27, true)), .write, 0⟩, ⟨(some 30), .arith .lss (.t 29) (.c (.int .i64 5)), (some (27, true)), .write, 0⟩, ⟨(some 31), .pick (.t 27) (.t 30) (.c (.bool false)), none, .write, 0⟩])
 (.cond (.t 31) (.region [⟨(some 32), .move (.t 3), none, .write, 0⟩, ⟨(some 33), .move (.t 5), none, .write, 0⟩, ⟨(some 34), .fieldAddr 1 (.t 1), none, .write, 0⟩, ⟨(some 35), .load none (.t 34), none, .write, 0⟩, ⟨(some 36), .move (.t 4), none, .write, 0⟩, ⟨(some 37), .call (.c (.func 37 [])) [(.t 35), (.t 36)], none, .write, 0⟩, ⟨(some 38), .call (.c (.func 36 [])) [(.t 33), (.t 37)], none, .write, 0⟩, ⟨(some 39), .buildSlice 63 5 (.agg [(.str []), (.int .i64 0), (.int .i64 0), (.int .i64 0), (.str [])]) 1 [(0, (.t 38))], none, .write, 0⟩, ⟨(some 40), .append 63 5 56 (.t 32) (.t 39), none, .write, 0⟩, ⟨(some 3), .move (.t 40), none, .write, 0⟩]) .skip))))
 (.region [⟨(some 41), .arith .add (.t 8) (.c (.int .i64 1)), none, .write, 0⟩, ⟨(some 8), .move (.t 41), none, .write, 0⟩]))))

def t10k0 : DCode :=
 (.seq (.region [⟨(some 42), .move (.t 3), none, .write, 0⟩, ⟨(some 2), .move (.t 42), none, .write, 0⟩])
 .ret)

/-- (broadside/broadsidekeep.Pred).Pred -/
def t10 : DFunc := { ntmps := 43, results := [(.t 2)], mode := .pure, body :=
 (.seq (.region [⟨(some 1), .box 24 2 (.t 0), none, .write, 0⟩, ⟨(some 2), .move (.c .nsl), none, .write, 0⟩])
 (.seq (.region [⟨(some 3), .move (.c .nsl), none, .write, 0⟩])
 (.seq (.seq (.region [⟨(some 6), .call (.c (.func 35 [])) [], none, .write, 0⟩, ⟨(some 7), .len 1 (.t 6), none, .write, 0⟩, ⟨(some 8), .move (.c (.int .i64 0)), none, .write, 0⟩])
 (.block 0 (.loop t10l0)))
 t10k0))) }

theorem c10 : compFunc Try.prog Try.f10 .pure = some t10 := by kernel_rfl

/-- broadside/adverts.Seen -/
def t11 : DFunc := { ntmps := 14, results := [(.t 4)], mode := .pure, body :=
 (.seq (.region [⟨(some 2), .box 30 6 (.t 0), none, .write, 0⟩, ⟨(some 3), .box 35 2 (.t 1), none, .write, 0⟩, ⟨(some 4), .move (.c (.bool false)), none, .write, 0⟩])
 (.seq (.region [⟨(some 8), .load (some 6) (.t 2), none, .write, 0⟩, ⟨(some 9), .load (some 2) (.t 3), none, .write, 0⟩, ⟨(some 10), .call (.c (.func 31 [])) [(.t 8), (.t 9)], none, .write, 0⟩, ⟨(some 7), .move (.t 10), none, .write, 0⟩, ⟨(some 11), .extract (.t 7) 0, none, .write, 0⟩, ⟨(some 12), .extract (.t 7) 1, none, .write, 0⟩, ⟨(some 5), .move (.t 11), none, .write, 0⟩, ⟨(some 6), .move (.t 12), none, .write, 0⟩])
 (.seq (.region [⟨(some 13), .move (.t 6), none, .write, 0⟩, ⟨(some 4), .move (.t 13), none, .write, 0⟩])
 .ret))) }

theorem c11 : compFunc Try.prog Try.f11 .pure = some t11 := by kernel_rfl

/-- broadside/adverts.Find -/
def t12 : DFunc := { ntmps := 22, results := [(.cell 4 (some 4)), (.t 5)], mode := .pure, body :=
 (.seq (.region [⟨(some 2), .box 30 6 (.t 0), none, .write, 0⟩, ⟨(some 3), .box 35 2 (.t 1), none, .write, 0⟩, ⟨(some 4), .alloc 41 4 (.agg [(.int .i64 0), (.int .i64 0), .nsl, (.int .i64 0)]), none, .write, 0⟩, ⟨(some 5), .move (.c (.bool false)), none, .write, 0⟩])
 (.seq (.region [⟨(some 9), .load (some 6) (.t 2), none, .write, 0⟩, ⟨(some 10), .load (some 2) (.t 3), none, .write, 0⟩, ⟨(some 11), .call (.c (.func 32 [])) [(.t 9), (.t 10)], none, .write, 0⟩, ⟨(some 8), .move (.t 11), none, .write, 0⟩, ⟨(some 12), .extract (.t 8) 0, none, .write, 0⟩, ⟨(some 13), .extract (.t 8) 1, none, .write, 0⟩, ⟨(some 6), .move (.t 12), none, .write, 0⟩, ⟨(some 7), .move (.t 13), none, .write, 0⟩])
 (.seq (.seq (.region [⟨(some 14), .move (.t 7), none, .write, 0⟩, ⟨(some 15), .un .not (.t 14), none, .write, 0⟩])
 (.cond (.t 15) (.seq (.region [⟨(some 16), .build [(.int .i64 0), (.int .i64 0), .nsl, (.int .i64 0)] [], none, .write, 0⟩, ⟨none, .store 4 (.t 4) (.t 16), none, .write, 0⟩, ⟨(some 5), .move (.c (.bool false)), none, .write, 0⟩])
 .ret) .skip))
 (.seq (.region [⟨(some 17), .fieldAddr 2 (.t 2), none, .write, 0⟩, ⟨(some 18), .load none (.t 17), none, .write, 0⟩, ⟨(some 19), .move (.t 6), none, .write, 0⟩, ⟨(some 20), .indexAddr 4 (.t 18) (.t 19), none, .write, 0⟩, ⟨(some 21), .load (some 4) (.t 20), none, .write, 0⟩, ⟨none, .store 4 (.t 4) (.t 21), none, .write, 0⟩, ⟨(some 5), .move (.c (.bool true)), none, .write, 0⟩])
 .ret)))) }

theorem c12 : compFunc Try.prog Try.f12 .pure = some t12 := by kernel_rfl

/-- broadside/adverts.Forget -/
def t13 : DFunc := { ntmps := 44, results := [(.cell 6 (some 6)), (.t 7)], mode := .frz, body :=
 (.seq (.region [⟨(some 3), .box 30 6 (.t 0), none, .write, 0⟩, ⟨(some 4), .box 35 2 (.t 1), none, .write, 0⟩, ⟨(some 6), .alloc 30 6 (.agg [(.int .i64 0), .nsl, .nsl, .nsl, .nsl, .nsl]), none, .write, 0⟩, ⟨(some 7), .move (.c (.bool false)), none, .write, 0⟩])
 (.seq (.region [⟨(some 10), .load (some 6) (.t 3), none, .write, 0⟩, ⟨(some 11), .call (.c (.func 30 [])) [(.t 10)], none, .write, 0⟩, ⟨none, .store 6 (.t 3) (.t 11), none, .write, 0⟩])
 (.seq (.region [⟨(some 13), .load (some 6) (.t 3), none, .write, 0⟩, ⟨(some 14), .load (some 2) (.t 4), none, .write, 0⟩, ⟨(some 15), .call (.c (.func 32 [])) [(.t 13), (.t 14)], none, .write, 0⟩, ⟨(some 12), .move (.t 15), none, .write, 0⟩, ⟨(some 16), .extract (.t 12) 0, none, .write, 0⟩, ⟨(some 17), .extract (.t 12) 1, none, .write, 0⟩, ⟨(some 8), .move (.t 16), none, .write, 0⟩, ⟨(some 9), .move (.t 17), none, .write, 0⟩])
 (.seq (.seq (.region [⟨(some 18), .move (.t 9), none, .write, 0⟩, ⟨(some 19), .un .not (.t 18), none, .write, 0⟩, ⟨(some 20), .move (.t 19), none, .write, 0⟩, ⟨(some 21), .fieldAddr 2 (.t 3), (some (20, false)), .write, 0⟩, ⟨(some 22), .load none (.t 21), (some (20, false)), .write, 0⟩, ⟨(some 23), .move (.t 8), (some (20, false)), .write, 0⟩, ⟨(some 24), .indexAddr 4 (.t 22) (.t 23), (some (20, false)), .write, 0⟩, ⟨(some 25), .fieldAddr 3 (.t 24), (some (20, false)), .write, 0⟩, ⟨(some 26), .load none (.t 25), (some (20, false)), .write, 0⟩, ⟨(some 27), .move (.t 2), (some (20, false)), .write, 0⟩, ⟨(some 28), .arith .neq (.t 26) (.t 27), (some (20, false)), .write, 0⟩, ⟨(some 29), .pick (.t 20) (.c (.bool true)) (.t 28), none, .write, 0⟩])
 (.cond (.t 29) (.seq (.region [⟨(some 30), .load (some 6) (.t 3), none, .write, 0⟩, ⟨none, .store 6 (.t 6) (.t 30), none, .write, 0⟩, ⟨(some 7), .move (.c (.bool false)), none, .write, 0⟩])
 .ret) .skip))
 (.seq (.region [⟨(some 31), .fieldAddr 2 (.t 3), none, .write, 0⟩, ⟨(some 32), .load none (.t 31), none, .write, 0⟩, ⟨(some 33), .move (.t 8), none, .write, 0⟩, ⟨(some 34), .move (.t 8), none, .write, 0⟩, ⟨(some 35), .arith .add (.t 34) (.c (.int .i64 1)), none, .write, 0⟩, ⟨(some 36), .call (.c (.func 38 [])) [(.t 32), (.t 33), (.t 35)], none, .write, 0⟩, ⟨(some 37), .fieldAddr 2 (.t 3), none, .write, 0⟩, ⟨none, .store 1 (.t 37) (.t 36), none, .write, 0⟩])
 (.seq (.region [⟨(some 38), .fieldAddr 4 (.t 3), none, .write, 0⟩, ⟨(some 39), .load none (.t 38), none, .write, 0⟩, ⟨(some 40), .makeFunc 40 [(.t 4)], none, .write, 0⟩, ⟨(some 41), .call (.c (.func 39 [])) [(.t 39), (.t 40)], none, .write, 0⟩, ⟨(some 42), .fieldAddr 4 (.t 3), none, .write, 0⟩, ⟨none, .store 1 (.t 42) (.t 41), none, .write, 0⟩])
 (.seq (.region [⟨(some 43), .load (some 6) (.t 3), none, .write, 0⟩, ⟨none, .store 6 (.t 6) (.t 43), none, .write, 0⟩, ⟨(some 7), .move (.c (.bool true)), none, .write, 0⟩])
 .ret))))))) }

theorem c13 : compFunc Try.prog Try.f13 .frz = some t13 := by kernel_rfl

/-- broadside/adverts.Less -/
def t14 : DFunc := { ntmps := 9, results := [(.t 4)], mode := .pure, body :=
 (.seq (.region [⟨(some 2), .box 35 2 (.t 0), none, .write, 0⟩, ⟨(some 3), .box 35 2 (.t 1), none, .write, 0⟩, ⟨(some 4), .move (.c (.bool false)), none, .write, 0⟩])
 (.seq (.region [⟨(some 5), .load (some 2) (.t 2), none, .write, 0⟩, ⟨(some 6), .load (some 2) (.t 3), none, .write, 0⟩, ⟨(some 7), .call (.c (.func 41 [])) [(.t 5), (.t 6)], none, .write, 0⟩, ⟨(some 8), .arith .lss (.t 7) (.c (.int .i64 0)), none, .write, 0⟩, ⟨(some 4), .move (.t 8), none, .write, 0⟩])
 .ret)) }

theorem c14 : compFunc Try.prog Try.f14 .pure = some t14 := by kernel_rfl

/-- broadside/adverts.Right -/
def t15 : DFunc := { ntmps := 48, results := [(.t 2)], mode := .pure, body :=
 (.seq (.region [⟨(some 1), .box 30 6 (.t 0), none, .write, 0⟩, ⟨(some 2), .move (.c (.bool false)), none, .write, 0⟩])
 (.seq (.region [⟨(some 4), .fieldAddr 1 (.t 1), none, .write, 0⟩, ⟨(some 5), .load none (.t 4), none, .write, 0⟩, ⟨(some 6), .call (.c (.func 42 [])) [(.t 5), (.c (.func 43 []))], none, .write, 0⟩, ⟨(some 7), .move (.t 6), none, .write, 0⟩, ⟨(some 8), .fieldAddr 3 (.t 1), (some (7, true)), .write, 0⟩, ⟨(some 9), .load none (.t 8), (some (7, true)), .write, 0⟩, ⟨(some 10), .call (.c (.func 44 [])) [(.t 9), (.c (.func 14 []))], (some (7, true)), .write, 0⟩, ⟨(some 11), .pick (.t 7) (.t 10) (.c (.bool false)), none, .write, 0⟩, ⟨(some 12), .move (.t 11), none, .write, 0⟩, ⟨(some 13), .fieldAddr 2 (.t 1), (some (12, true)), .write, 0⟩, ⟨(some 14), .load none (.t 13), (some (12, true)), .write, 0⟩, ⟨(some 15), .call (.c (.func 45 [])) [(.t 14), (.c (.func 46 []))], (some (12, true)), .write, 0⟩, ⟨(some 16), .pick (.t 12) (.t 15) (.c (.bool false)), none, .write, 0⟩, ⟨(some 17), .move (.t 16), none, .write, 0⟩, ⟨(some 18), .fieldAddr 5 (.t 1), (some (17, true)), .write, 0⟩, ⟨(some 19), .load none (.t 18), (some (17, true)), .write, 0⟩, ⟨(some 20), .call (.c (.func 47 [])) [(.t 19), (.c (.func 48 []))], (some (17, true)), .write, 0⟩, ⟨(some 21), .pick (.t 17) (.t 20) (.c (.bool false)), none, .write, 0⟩, ⟨(some 22), .move (.t 21), none, .write, 0⟩, ⟨(some 23), .fieldAddr 4 (.t 1), (some (22, true)), .write, 0⟩, ⟨(some 24), .load none (.t 23), (some (22, true)), .write, 0⟩, ⟨(some 25), .call (.c (.func 49 [])) [(.t 24), (.c (.func 50 []))], (some (22, true)), .write, 0⟩, ⟨(some 26), .pick (.t 22) (.t 25) (.c (.bool false)), none, .write, 0⟩, ⟨(some 3), .move (.t 26), none, .write, 0⟩])
 (.seq (.region [⟨(some 27), .move (.t 3), none, .write, 0⟩, ⟨(some 28), .move (.t 27), none, .write, 0⟩, ⟨(some 29), .fieldAddr 2 (.t 1), (some (28, true)), .write, 0⟩, ⟨(some 30), .load none (.t 29), (some (28, true)), .write, 0⟩, ⟨(some 31), .makeFunc 53 [(.t 1)], (some (28, true)), .write, 0⟩, ⟨(some 32), .call (.c (.func 52 [])) [(.t 30), (.t 31)], (some (28, true)), .write, 0⟩, ⟨(some 33), .un .not (.t 32), (some (28, true)), .write, 0⟩, ⟨(some 34), .pick (.t 28) (.t 33) (.c (.bool false)), none, .write, 0⟩, ⟨(some 35), .move (.t 34), none, .write, 0⟩, ⟨(some 36), .fieldAddr 4 (.t 1), (some (35, true)), .write, 0⟩, ⟨(some 37), .load none (.t 36), (some (35, true)), .write, 0⟩, ⟨(some 38), .makeFunc 57 [(.t 1)], (some (35, true)), .write, 0⟩, ⟨(some 39), .call (.c (.func 56 [])) [(.t 37), (.t 38)], (some (35, true)), .write, 0⟩, ⟨(some 40), .un .not (.t 39), (some (35, true)), .write, 0⟩, ⟨(some 41), .pick (.t 35) (.t 40) (.c (.bool false)), none, .write, 0⟩, ⟨(some 42), .move (.t 41), none, .write, 0⟩, ⟨(some 43), .fieldAddr 5 (.t 1), (some (42, true)), .write, 0⟩, ⟨(some 44), .load none (.t 43), (some (42, true)), .write, 0⟩, ⟨(some 45), .call (.c (.func 59 [])) [(.t 44), (.c (.func 60 []))], (some (42, true)), .write, 0⟩, ⟨(some 46), .un .not (.t 45), (some (42, true)), .write, 0⟩, ⟨(some 47), .pick (.t 42) (.t 46) (.c (.bool false)), none, .write, 0⟩, ⟨(some 2), .move (.t 47), none, .write, 0⟩])
 .ret))) }

theorem c15 : compFunc Try.prog Try.f15 .pure = some t15 := by kernel_rfl

/-- broadside/broadsidelaw9.AdvertsRuns -/
def t16 : DFunc := { ntmps := 55, results := [(.t 0)], mode := .pure, body :=
 (.seq (.region [⟨(some 0), .move (.c (.bool false)), none, .write, 0⟩])
 (.seq (.region [⟨(some 8), .build [(.int .i64 0), (.int .i64 0)] [(0, 1, (.c (.int .i64 1)))], none, .write, 0⟩, ⟨(some 9), .build [(.int .i64 0), (.int .i64 0), .nsl, (.int .i64 0)] [(0, 2, (.t 8)), (3, 1, (.c (.int .i64 2)))], none, .write, 0⟩, ⟨(some 1), .alloc 41 4 (.agg [(.int .i64 0), (.int .i64 0), .nsl, (.int .i64 0)]), none, .write, 0⟩, ⟨none, .store 4 (.t 1) (.t 9), none, .write, 0⟩])
 (.seq (.draw [⟨(some 11), .buildSlice 3 1 (.int .i64 0) 3 [(0, (.c (.int .i64 3))), (1, (.c (.int .i64 2))), (2, (.c (.int .i64 3)))], none, .create, 0⟩, ⟨(some 12), .call (.c (.func 7 [])) [(.c (.int .i64 0)), (.t 11)], none, .create, 0⟩, ⟨(some 13), .load (some 4) (.t 1), none, .read, 0⟩, ⟨(some 14), .call (.c (.func 9 [])) [(.t 12), (.t 13)], none, .write, 2⟩, ⟨(some 10), .move (.t 14), none, .read, 3⟩, ⟨(some 15), .extract (.t 10) 0, none, .read, 3⟩, ⟨(some 2), .alloc 30 6 (.agg [(.int .i64 0), .nsl, .nsl, .nsl, .nsl, .nsl]), none, .create, 0⟩, ⟨none, .store 6 (.t 2) (.t 15), none, .write, 4⟩, ⟨(some 16), .extract (.t 10) 1, none, .read, 3⟩, ⟨(some 3), .move (.t 16), none, .read, 5⟩])
 (.seq (.region [⟨(some 18), .load (some 6) (.t 2), none, .write, 0⟩, ⟨(some 19), .load (some 4) (.t 1), none, .write, 0⟩, ⟨(some 20), .call (.c (.func 9 [])) [(.t 18), (.t 19)], none, .write, 0⟩, ⟨(some 17), .move (.t 20), none, .write, 0⟩, ⟨(some 21), .extract (.t 17) 0, none, .write, 0⟩, ⟨(some 22), .extract (.t 17) 1, none, .write, 0⟩, ⟨(some 4), .alloc 30 6 (.agg [(.int .i64 0), .nsl, .nsl, .nsl, .nsl, .nsl]), none, .write, 0⟩, ⟨none, .store 6 (.t 4) (.t 21), none, .write, 0⟩, ⟨(some 5), .move (.t 22), none, .write, 0⟩])
 (.seq (.region [⟨(some 24), .load (some 6) (.t 2), none, .write, 0⟩, ⟨(some 25), .fieldAddr 0 (.t 1), none, .write, 0⟩, ⟨(some 26), .load (some 2) (.t 25), none, .write, 0⟩, ⟨(some 27), .call (.c (.func 13 [])) [(.t 24), (.t 26), (.c (.int .i64 3))], none, .write, 0⟩, ⟨(some 23), .move (.t 27), none, .write, 0⟩, ⟨(some 28), .extract (.t 23) 0, none, .write, 0⟩, ⟨(some 29), .extract (.t 23) 1, none, .write, 0⟩, ⟨(some 6), .alloc 30 6 (.agg [(.int .i64 0), .nsl, .nsl, .nsl, .nsl, .nsl]), none, .write, 0⟩, ⟨none, .store 6 (.t 6) (.t 28), none, .write, 0⟩, ⟨(some 7), .move (.t 29), none, .write, 0⟩])
 (.seq (.region [⟨(some 30), .move (.t 3), none, .write, 0⟩, ⟨(some 31), .move (.t 30), none, .write, 0⟩, ⟨(some 32), .move (.t 5), (some (31, true)), .write, 0⟩, ⟨(some 33), .un .not (.t 32), (some (31, true)), .write, 0⟩, ⟨(some 34), .pick (.t 31) (.t 33) (.c (.bool false)), none, .write, 0⟩, ⟨(some 35), .move (.t 34), none, .write, 0⟩, ⟨(some 36), .move (.t 7), (some (35, true)), .write, 0⟩, ⟨(some 37), .un .not (.t 36), (some (35, true)), .write, 0⟩, ⟨(some 38), .pick (.t 35) (.t 37) (.c (.bool false)), none, .write, 0⟩, ⟨(some 39), .move (.t 38), none, .write, 0⟩, ⟨(some 40), .fieldAddr 1 (.t 2), (some (39, true)), .write, 0⟩, ⟨(some 41), .load none (.t 40), (some (39, true)), .write, 0⟩, ⟨(some 42), .buildSlice 3 1 (.int .i64 0) 2 [(0, (.c (.int .i64 2))), (1, (.c (.int .i64 3)))], (some (39, true)), .write, 0⟩, ⟨(some 43), .call (.c (.func 61 [])) [(.t 41), (.t 42)], (some (39, true)), .write, 0⟩, ⟨(some 44), .pick (.t 39) (.t 43) (.c (.bool false)), none, .write, 0⟩, ⟨(some 45), .move (.t 44), none, .write, 0⟩, ⟨(some 46), .load (some 6) (.t 2), (some (45, true)), .write, 0⟩, ⟨(some 47), .fieldAddr 0 (.t 1), (some (45, true)), .write, 0⟩, ⟨(some 48), .load (some 2) (.t 47), (some (45, true)), .write, 0⟩, ⟨(some 49), .call (.c (.func 11 [])) [(.t 46), (.t 48)], (some (45, true)), .write, 0⟩, ⟨(some 50), .pick (.t 45) (.t 49) (.c (.bool false)), none, .write, 0⟩, ⟨(some 51), .move (.t 50), none, .write, 0⟩, ⟨(some 52), .load (some 6) (.t 2), (some (51, true)), .write, 0⟩, ⟨(some 53), .call (.c (.func 15 [])) [(.t 52)], (some (51, true)), .write, 0⟩, ⟨(some 54), .pick (.t 51) (.t 53) (.c (.bool false)), none, .write, 0⟩, ⟨(some 0), .move (.t 54), none, .write, 0⟩])
 .ret)))))) }

theorem c16 : compFunc Try.prog Try.f16 .pure = some t16 := by kernel_rfl

def t25l0 : DCode :=
 (.seq (.seq (.region [⟨(some 11), .move (.t 5), none, .write, 0⟩, ⟨(some 12), .move (.t 0), none, .write, 0⟩, ⟨(some 13), .len 1 (.t 12), none, .write, 0⟩, ⟨(some 14), .arith .lss (.t 11) (.t 13), none, .write, 0⟩])
 (.cond (.t 14) .skip (.exit 0)))
 (.seq (.block 1 (.seq (.draw [⟨(some 17), .move (.t 0), none, .read, 0⟩, ⟨(some 18), .move (.t 5), none, .read, 0⟩, ⟨(some 19), .indexAddr 5 (.t 17) (.t 18), none, .read, 0⟩, ⟨(some 20), .load (some 5) (.t 19), none, .read, 0⟩, ⟨(some 21), .move (.t 1), none, .read, 0⟩, ⟨(some 22), .move (.t 5), none, .read, 0⟩, ⟨(some 23), .indexAddr 5 (.t 21) (.t 22), none, .read, 0⟩, ⟨(some 24), .load (some 5) (.t 23), none, .read, 0⟩, ⟨(some 25), .eqa true [2, 1, 1, 1, 2] (.t 20) (.t 24), none, .read, 0⟩])
 (.cond (.t 25) (.seq (.region [⟨(some 4), .move (.c (.bool false)), none, .write, 0⟩])
 .ret) .skip)))
 (.region [⟨(some 15), .move (.t 5), none, .write, 0⟩, ⟨(some 16), .arith .add (.t 15) (.c (.int .i64 1)), none, .write, 0⟩, ⟨(some 5), .move (.t 16), none, .write, 0⟩])))

def t25k0 : DCode :=
 (.seq (.region [⟨(some 4), .move (.c (.bool true)), none, .write, 0⟩])
 .ret)

/-- broadside/broadsidebook.Same[broadside/api.Constraint] -/
def t25 : DFunc := { ntmps := 26, results := [(.t 4)], mode := .pure, body :=
 (.seq (.region [⟨(some 4), .move (.c (.bool false)), none, .write, 0⟩])
 (.seq (.seq (.region [⟨(some 6), .move (.t 0), none, .write, 0⟩, ⟨(some 7), .len 1 (.t 6), none, .write, 0⟩, ⟨(some 8), .move (.t 1), none, .write, 0⟩, ⟨(some 9), .len 1 (.t 8), none, .write, 0⟩, ⟨(some 10), .arith .neq (.t 7) (.t 9), none, .write, 0⟩])
 (.cond (.t 10) (.seq (.region [⟨(some 4), .move (.c (.bool false)), none, .write, 0⟩])
 .ret) .skip))
 (.seq (.seq (.region [⟨(some 5), .move (.c (.int .i64 0)), none, .write, 0⟩])
 (.block 0 (.loop t25l0)))
 t25k0))) }

theorem c25 : compFunc Try.prog Try.f25 .pure = some t25 := by kernel_rfl

/-- broadside/adverts.Same -/
def t26 : DFunc := { ntmps := 45, results := [(.t 4)], mode := .pure, body :=
 (.seq (.region [⟨(some 2), .box 30 6 (.t 0), none, .write, 0⟩, ⟨(some 3), .box 30 6 (.t 1), none, .write, 0⟩, ⟨(some 4), .move (.c (.bool false)), none, .write, 0⟩])
 (.seq (.region [⟨(some 5), .fieldAddr 0 (.t 2), none, .write, 0⟩, ⟨(some 6), .load none (.t 5), none, .write, 0⟩, ⟨(some 7), .fieldAddr 0 (.t 3), none, .write, 0⟩, ⟨(some 8), .load none (.t 7), none, .write, 0⟩, ⟨(some 9), .arith .eql (.t 6) (.t 8), none, .write, 0⟩, ⟨(some 10), .move (.t 9), none, .write, 0⟩, ⟨(some 11), .fieldAddr 1 (.t 2), (some (10, true)), .write, 0⟩, ⟨(some 12), .load none (.t 11), (some (10, true)), .write, 0⟩, ⟨(some 13), .fieldAddr 1 (.t 3), (some (10, true)), .write, 0⟩, ⟨(some 14), .load none (.t 13), (some (10, true)), .write, 0⟩, ⟨(some 15), .call (.c (.func 69 [])) [(.t 12), (.t 14)], (some (10, true)), .write, 0⟩, ⟨(some 16), .pick (.t 10) (.t 15) (.c (.bool false)), none, .write, 0⟩, ⟨(some 17), .move (.t 16), none, .write, 0⟩, ⟨(some 18), .fieldAddr 3 (.t 2), (some (17, true)), .write, 0⟩, ⟨(some 19), .load none (.t 18), (some (17, true)), .write, 0⟩, ⟨(some 20), .fieldAddr 3 (.t 3), (some (17, true)), .write, 0⟩, ⟨(some 21), .load none (.t 20), (some (17, true)), .write, 0⟩, ⟨(some 22), .call (.c (.func 70 [])) [(.t 19), (.t 21)], (some (17, true)), .write, 0⟩, ⟨(some 23), .pick (.t 17) (.t 22) (.c (.bool false)), none, .write, 0⟩, ⟨(some 24), .move (.t 23), none, .write, 0⟩, ⟨(some 25), .fieldAddr 2 (.t 2), (some (24, true)), .write, 0⟩, ⟨(some 26), .load none (.t 25), (some (24, true)), .write, 0⟩, ⟨(some 27), .fieldAddr 2 (.t 3), (some (24, true)), .write, 0⟩, ⟨(some 28), .load none (.t 27), (some (24, true)), .write, 0⟩, ⟨(some 29), .call (.c (.func 71 [])) [(.t 26), (.t 28), (.c (.func 72 []))], (some (24, true)), .write, 0⟩, ⟨(some 30), .pick (.t 24) (.t 29) (.c (.bool false)), none, .write, 0⟩, ⟨(some 31), .move (.t 30), none, .write, 0⟩, ⟨(some 32), .fieldAddr 4 (.t 2), (some (31, true)), .write, 0⟩, ⟨(some 33), .load none (.t 32), (some (31, true)), .write, 0⟩, ⟨(some 34), .fieldAddr 4 (.t 3), (some (31, true)), .write, 0⟩, ⟨(some 35), .load none (.t 34), (some (31, true)), .write, 0⟩, ⟨(some 36), .call (.c (.func 74 [])) [(.t 33), (.t 35), (.c (.func 75 []))], (some (31, true)), .write, 0⟩, ⟨(some 37), .pick (.t 31) (.t 36) (.c (.bool false)), none, .write, 0⟩, ⟨(some 38), .move (.t 37), none, .write, 0⟩, ⟨(some 39), .fieldAddr 5 (.t 2), (some (38, true)), .write, 0⟩, ⟨(some 40), .load none (.t 39), (some (38, true)), .write, 0⟩, ⟨(some 41), .fieldAddr 5 (.t 3), (some (38, true)), .write, 0⟩, ⟨(some 42), .load none (.t 41), (some (38, true)), .write, 0⟩, ⟨(some 43), .call (.c (.func 76 [])) [(.t 40), (.t 42), (.c (.func 77 []))], (some (38, true)), .write, 0⟩, ⟨(some 44), .pick (.t 38) (.t 43) (.c (.bool false)), none, .write, 0⟩, ⟨(some 4), .move (.t 44), none, .write, 0⟩])
 .ret)) }

theorem c26 : compFunc Try.prog Try.f26 .pure = some t26 := by kernel_rfl

/-- slices.Sort[[]int,int] -/
def t28 : DFunc := { ntmps := 11, results := [], mode := .full, body :=
 (.seq (.region [⟨(some 3), .move (.t 0), none, .write, 0⟩, ⟨(some 4), .len 1 (.t 3), none, .write, 0⟩, ⟨(some 2), .move (.t 4), none, .write, 0⟩])
 (.region [⟨(some 5), .move (.t 0), none, .write, 0⟩, ⟨(some 6), .move (.t 2), none, .write, 0⟩, ⟨(some 7), .move (.t 2), none, .write, 0⟩, ⟨(some 8), .conv .u64 (.t 7), none, .write, 0⟩, ⟨(some 9), .call (.c (.func 79 [])) [(.t 8)], none, .write, 0⟩, ⟨(some 10), .call (.c (.func 78 [])) [(.t 5), (.c (.int .i64 0)), (.t 6), (.t 9)], none, .write, 0⟩])) }

theorem c28 : compFunc Try.prog Try.f28 .full = some t28 := by kernel_rfl

def t29l0 : DCode :=
 (.seq (.seq (.region [⟨(some 29), .move (.t 5), none, .write, 0⟩, ⟨(some 30), .move (.t 4), none, .write, 0⟩, ⟨(some 31), .len 1 (.t 30), none, .write, 0⟩, ⟨(some 32), .arith .lss (.t 29) (.t 31), none, .write, 0⟩])
 (.cond (.t 32) .skip (.exit 2)))
 (.seq (.block 3 (.seq (.draw [⟨(some 35), .move (.t 4), none, .read, 0⟩, ⟨(some 36), .move (.t 5), none, .read, 0⟩, ⟨(some 37), .indexAddr 1 (.t 35) (.t 36), none, .read, 0⟩, ⟨(some 38), .load none (.t 37), none, .read, 0⟩, ⟨(some 39), .move (.t 4), none, .read, 0⟩, ⟨(some 40), .move (.t 5), none, .read, 0⟩, ⟨(some 41), .arith .sub (.t 40) (.c (.int .i64 1)), none, .read, 0⟩, ⟨(some 42), .indexAddr 1 (.t 39) (.t 41), none, .read, 0⟩, ⟨(some 43), .load none (.t 42), none, .read, 0⟩, ⟨(some 44), .arith .neq (.t 38) (.t 43), none, .read, 0⟩])
 (.cond (.t 44) (.seq (.region [⟨(some 45), .move (.t 0), none, .write, 0⟩, ⟨(some 46), .move (.t 3), none, .write, 0⟩, ⟨(some 47), .move (.t 4), none, .write, 0⟩, ⟨(some 48), .move (.t 5), none, .write, 0⟩, ⟨(some 49), .indexAddr 1 (.t 47) (.t 48), none, .write, 0⟩, ⟨(some 50), .load none (.t 49), none, .write, 0⟩, ⟨(some 51), .indexAddr 1 (.t 45) (.t 46), none, .write, 0⟩, ⟨none, .store 1 (.t 51) (.t 50), none, .write, 0⟩])
 (.region [⟨(some 52), .move (.t 3), none, .write, 0⟩, ⟨(some 53), .arith .add (.t 52) (.c (.int .i64 1)), none, .write, 0⟩, ⟨(some 3), .move (.t 53), none, .write, 0⟩])) .skip)))
 (.region [⟨(some 33), .move (.t 5), none, .write, 0⟩, ⟨(some 34), .arith .add (.t 33) (.c (.int .i64 1)), none, .write, 0⟩, ⟨(some 5), .move (.t 34), none, .write, 0⟩])))

def t29k0 : DCode :=
 (.seq (.region [⟨(some 54), .move (.t 0), none, .write, 0⟩, ⟨(some 55), .move (.t 3), none, .write, 0⟩, ⟨(some 56), .sliceSl 1 (.t 54) (some (.t 55)) none, none, .write, 0⟩, ⟨none, .clear 1 (.int .i64 0) (.t 56), none, .write, 0⟩])
 (.seq (.region [⟨(some 57), .move (.t 0), none, .write, 0⟩, ⟨(some 58), .move (.t 3), none, .write, 0⟩, ⟨(some 59), .sliceSl 1 (.t 57) none (some (.t 58)), none, .write, 0⟩, ⟨(some 2), .move (.t 59), none, .write, 0⟩])
 .ret))

def t29k1 : DCode :=
 (.region [⟨(some 14), .move (.t 3), none, .write, 0⟩, ⟨(some 15), .arith .add (.t 14) (.c (.int .i64 1)), none, .write, 0⟩, ⟨(some 3), .move (.t 15), none, .write, 0⟩])

def t29l1 : DCode :=
 (.seq (.seq (.region [⟨(some 10), .move (.t 3), none, .write, 0⟩, ⟨(some 11), .move (.t 0), none, .write, 0⟩, ⟨(some 12), .len 1 (.t 11), none, .write, 0⟩, ⟨(some 13), .arith .lss (.t 10) (.t 12), none, .write, 0⟩])
 (.cond (.t 13) .skip (.exit 0)))
 (.seq (.block 1 (.seq (.draw [⟨(some 16), .move (.t 0), none, .read, 0⟩, ⟨(some 17), .move (.t 3), none, .read, 0⟩, ⟨(some 18), .indexAddr 1 (.t 16) (.t 17), none, .read, 0⟩, ⟨(some 19), .load none (.t 18), none, .read, 0⟩, ⟨(some 20), .move (.t 0), none, .read, 0⟩, ⟨(some 21), .move (.t 3), none, .read, 0⟩, ⟨(some 22), .arith .sub (.t 21) (.c (.int .i64 1)), none, .read, 0⟩, ⟨(some 23), .indexAddr 1 (.t 20) (.t 22), none, .read, 0⟩, ⟨(some 24), .load none (.t 23), none, .read, 0⟩, ⟨(some 25), .arith .eql (.t 19) (.t 24), none, .read, 0⟩])
 (.cond (.t 25) (.seq (.region [⟨(some 26), .move (.t 0), none, .write, 0⟩, ⟨(some 27), .move (.t 3), none, .write, 0⟩, ⟨(some 28), .sliceSl 1 (.t 26) (some (.t 27)) none, none, .write, 0⟩, ⟨(some 4), .move (.t 28), none, .write, 0⟩])
 (.seq (.seq (.region [⟨(some 5), .move (.c (.int .i64 1)), none, .write, 0⟩])
 (.block 2 (.loop t29l0)))
 t29k0)) .skip)))
 t29k1))

def t29k2 : DCode :=
 (.seq (.region [⟨(some 60), .move (.t 0), none, .write, 0⟩, ⟨(some 2), .move (.t 60), none, .write, 0⟩])
 .ret)

/-- slices.Compact[[]int,int] -/
def t29 : DFunc := { ntmps := 61, results := [(.t 2)], mode := .full, body :=
 (.seq (.region [⟨(some 2), .move (.c .nsl), none, .write, 0⟩])
 (.seq (.seq (.region [⟨(some 6), .move (.t 0), none, .write, 0⟩, ⟨(some 7), .len 1 (.t 6), none, .write, 0⟩, ⟨(some 8), .arith .lss (.t 7) (.c (.int .i64 2)), none, .write, 0⟩])
 (.cond (.t 8) (.seq (.region [⟨(some 9), .move (.t 0), none, .write, 0⟩, ⟨(some 2), .move (.t 9), none, .write, 0⟩])
 .ret) .skip))
 (.seq (.seq (.region [⟨(some 3), .move (.c (.int .i64 1)), none, .write, 0⟩])
 (.block 0 (.loop t29l1)))
 t29k2))) }

theorem c29 : compFunc Try.prog Try.f29 .full = some t29 := by kernel_rfl

/-- broadside/adverts.copied -/
def t30 : DFunc := { ntmps := 24, results := [(.cell 2 (some 6))], mode := .full, body :=
 (.seq (.region [⟨(some 1), .box 30 6 (.t 0), none, .write, 0⟩, ⟨(some 2), .alloc 30 6 (.agg [(.int .i64 0), .nsl, .nsl, .nsl, .nsl, .nsl]), none, .write, 0⟩])
 (.seq (.draw [⟨(some 3), .fieldAddr 1 (.t 1), none, .read, 0⟩, ⟨(some 4), .load none (.t 3), none, .read, 0⟩, ⟨(some 5), .call (.c (.func 27 [])) [(.t 4)], none, .create, 0⟩, ⟨(some 6), .fieldAddr 2 (.t 1), none, .read, 0⟩, ⟨(some 7), .load none (.t 6), none, .read, 0⟩, ⟨(some 8), .call (.c (.func 80 [])) [(.t 7)], none, .create, 0⟩, ⟨(some 9), .fieldAddr 3 (.t 1), none, .read, 0⟩, ⟨(some 10), .load none (.t 9), none, .read, 0⟩, ⟨(some 11), .call (.c (.func 81 [])) [(.t 10)], none, .create, 0⟩, ⟨(some 12), .fieldAddr 4 (.t 1), none, .read, 0⟩, ⟨(some 13), .load none (.t 12), none, .read, 0⟩, ⟨(some 14), .call (.c (.func 62 [])) [(.t 13)], none, .create, 0⟩, ⟨(some 15), .fieldAddr 5 (.t 1), none, .read, 0⟩, ⟨(some 16), .load none (.t 15), none, .read, 0⟩, ⟨(some 17), .call (.c (.func 82 [])) [(.t 16)], none, .write, 4⟩, ⟨(some 18), .fieldAddr 1 (.t 1), none, .read, 1⟩, ⟨none, .store 1 (.t 18) (.t 5), none, .write, 5⟩, ⟨(some 19), .fieldAddr 2 (.t 1), none, .read, 6⟩, ⟨none, .store 1 (.t 19) (.t 8), none, .write, 6⟩, ⟨(some 20), .fieldAddr 3 (.t 1), none, .read, 7⟩, ⟨none, .store 1 (.t 20) (.t 11), none, .write, 7⟩, ⟨(some 21), .fieldAddr 4 (.t 1), none, .read, 8⟩, ⟨none, .store 1 (.t 21) (.t 14), none, .write, 8⟩, ⟨(some 22), .fieldAddr 5 (.t 1), none, .read, 9⟩, ⟨none, .store 1 (.t 22) (.t 17), none, .write, 9⟩])
 (.seq (.region [⟨(some 23), .load (some 6) (.t 1), none, .write, 0⟩, ⟨none, .store 6 (.t 2) (.t 23), none, .write, 0⟩])
 .ret))) }

theorem c30 : compFunc Try.prog Try.f30 .full = some t30 := by kernel_rfl

/-- broadside/adverts.seen -/
def t31 : DFunc := { ntmps := 12, results := [(.t 4), (.t 5)], mode := .pure, body :=
 (.seq (.region [⟨(some 2), .box 30 6 (.t 0), none, .write, 0⟩, ⟨(some 3), .box 35 2 (.t 1), none, .write, 0⟩, ⟨(some 4), .move (.c (.int .i64 0)), none, .write, 0⟩, ⟨(some 5), .move (.c (.bool false)), none, .write, 0⟩])
 (.seq (.region [⟨(some 6), .fieldAddr 3 (.t 2), none, .write, 0⟩, ⟨(some 7), .load none (.t 6), none, .write, 0⟩, ⟨(some 8), .load (some 2) (.t 3), none, .write, 0⟩, ⟨(some 9), .call (.c (.func 83 [])) [(.t 7), (.t 8), (.c (.func 41 []))], none, .write, 0⟩, ⟨(some 10), .extract (.t 9) 0, none, .write, 0⟩, ⟨(some 11), .extract (.t 9) 1, none, .write, 0⟩, ⟨(some 4), .move (.t 10), none, .write, 0⟩, ⟨(some 5), .move (.t 11), none, .write, 0⟩])
 .ret)) }

theorem c31 : compFunc Try.prog Try.f31 .pure = some t31 := by kernel_rfl

/-- broadside/adverts.place -/
def t32 : DFunc := { ntmps := 12, results := [(.t 4), (.t 5)], mode := .pure, body :=
 (.seq (.region [⟨(some 2), .box 30 6 (.t 0), none, .write, 0⟩, ⟨(some 3), .box 35 2 (.t 1), none, .write, 0⟩, ⟨(some 4), .move (.c (.int .i64 0)), none, .write, 0⟩, ⟨(some 5), .move (.c (.bool false)), none, .write, 0⟩])
 (.seq (.region [⟨(some 6), .fieldAddr 2 (.t 2), none, .write, 0⟩, ⟨(some 7), .load none (.t 6), none, .write, 0⟩, ⟨(some 8), .load (some 2) (.t 3), none, .write, 0⟩, ⟨(some 9), .call (.c (.func 84 [])) [(.t 7), (.t 8), (.c (.func 85 []))], none, .write, 0⟩, ⟨(some 10), .extract (.t 9) 0, none, .write, 0⟩, ⟨(some 11), .extract (.t 9) 1, none, .write, 0⟩, ⟨(some 4), .move (.t 10), none, .write, 0⟩, ⟨(some 5), .move (.t 11), none, .write, 0⟩])
 .ret)) }

theorem c32 : compFunc Try.prog Try.f32 .pure = some t32 := by kernel_rfl

/-- slices.Insert[[]broadside/api.Advert,broadside/api.Advert] -/
def t33 : DFunc := { ntmps := 95, results := [(.t 6)], mode := .split, body :=
 (.seq (.region [⟨(some 6), .move (.c .nsl), none, .write, 0⟩])
 (.seq (.region [⟨(some 10), .move (.t 0), none, .write, 0⟩, ⟨(some 11), .move (.t 1), none, .write, 0⟩, ⟨(some 12), .sliceSl 4 (.t 10) (some (.t 11)) none, none, .write, 0⟩])
 (.seq (.region [⟨(some 13), .move (.t 2), none, .write, 0⟩, ⟨(some 14), .len 1 (.t 13), none, .write, 0⟩, ⟨(some 7), .move (.t 14), none, .write, 0⟩])
 (.seq (.seq (.region [⟨(some 15), .move (.t 7), none, .write, 0⟩, ⟨(some 16), .arith .eql (.t 15) (.c (.int .i64 0)), none, .write, 0⟩])
 (.cond (.t 16) (.seq (.region [⟨(some 17), .move (.t 0), none, .write, 0⟩, ⟨(some 6), .move (.t 17), none, .write, 0⟩])
 .ret) .skip))
 (.seq (.region [⟨(some 18), .move (.t 0), none, .write, 0⟩, ⟨(some 19), .len 1 (.t 18), none, .write, 0⟩, ⟨(some 8), .move (.t 19), none, .write, 0⟩])
 (.seq (.seq (.region [⟨(some 20), .move (.t 1), none, .write, 0⟩, ⟨(some 21), .move (.t 8), none, .write, 0⟩, ⟨(some 22), .arith .eql (.t 20) (.t 21), none, .write, 0⟩])
 (.cond (.t 22) (.seq (.region [⟨(some 23), .move (.t 0), none, .write, 0⟩, ⟨(some 24), .move (.t 2), none, .write, 0⟩, ⟨(some 25), .append 41 4 48 (.t 23) (.t 24), none, .write, 0⟩, ⟨(some 6), .move (.t 25), none, .write, 0⟩])
 .ret) .skip))
 (.seq (.seq (.region [⟨(some 26), .move (.t 8), none, .write, 0⟩, ⟨(some 27), .move (.t 7), none, .write, 0⟩, ⟨(some 28), .arith .add (.t 26) (.t 27), none, .write, 0⟩, ⟨(some 29), .move (.t 0), none, .write, 0⟩, ⟨(some 30), .cap (.t 29), none, .write, 0⟩, ⟨(some 31), .arith .gtr (.t 28) (.t 30), none, .write, 0⟩])
 (.cond (.t 31) (.seq (.region [⟨(some 32), .move (.t 0), none, .write, 0⟩, ⟨(some 33), .move (.t 1), none, .write, 0⟩, ⟨(some 34), .sliceSl 4 (.t 32) none (some (.t 33)), none, .write, 0⟩, ⟨(some 35), .move (.t 8), none, .write, 0⟩, ⟨(some 36), .move (.t 7), none, .write, 0⟩, ⟨(some 37), .arith .add (.t 35) (.t 36), none, .write, 0⟩, ⟨(some 38), .move (.t 1), none, .write, 0⟩, ⟨(some 39), .arith .sub (.t 37) (.t 38), none, .write, 0⟩, ⟨(some 40), .appendZ 41 4 48 (.agg [(.int .i64 0), (.int .i64 0), .nsl, (.int .i64 0)]) (.t 34) (.t 39), none, .write, 0⟩, ⟨(some 9), .move (.t 40), none, .write, 0⟩])
 (.seq (.region [⟨(some 41), .move (.t 9), none, .write, 0⟩, ⟨(some 42), .move (.t 1), none, .write, 0⟩, ⟨(some 43), .sliceSl 4 (.t 41) (some (.t 42)) none, none, .write, 0⟩, ⟨(some 44), .move (.t 2), none, .write, 0⟩, ⟨(some 45), .copy 4 (.t 43) (.t 44), none, .write, 0⟩])
 (.seq (.draw [⟨(some 46), .move (.t 9), none, .read, 0⟩, ⟨(some 47), .move (.t 1), none, .read, 0⟩, ⟨(some 48), .move (.t 7), none, .read, 0⟩, ⟨(some 49), .arith .add (.t 47) (.t 48), none, .read, 0⟩, ⟨(some 50), .sliceSl 4 (.t 46) (some (.t 49)) none, none, .read, 0⟩, ⟨(some 51), .move (.t 0), none, .read, 0⟩, ⟨(some 52), .move (.t 1), none, .read, 0⟩, ⟨(some 53), .sliceSl 4 (.t 51) (some (.t 52)) none, none, .read, 0⟩, ⟨(some 54), .copy 4 (.t 50) (.t 53), none, .write, 0⟩])
 (.seq (.region [⟨(some 55), .move (.t 9), none, .write, 0⟩, ⟨(some 6), .move (.t 55), none, .write, 0⟩])
 .ret)))) .skip))
 (.seq (.region [⟨(some 56), .move (.t 0), none, .write, 0⟩, ⟨(some 57), .move (.t 8), none, .write, 0⟩, ⟨(some 58), .move (.t 7), none, .write, 0⟩, ⟨(some 59), .arith .add (.t 57) (.t 58), none, .write, 0⟩, ⟨(some 60), .sliceSl 4 (.t 56) none (some (.t 59)), none, .write, 0⟩, ⟨(some 0), .move (.t 60), none, .write, 0⟩])
 (.seq (.seq (.region [⟨(some 61), .move (.t 2), none, .write, 0⟩, ⟨(some 62), .move (.t 0), none, .write, 0⟩, ⟨(some 63), .move (.t 1), none, .write, 0⟩, ⟨(some 64), .move (.t 7), none, .write, 0⟩, ⟨(some 65), .arith .add (.t 63) (.t 64), none, .write, 0⟩, ⟨(some 66), .sliceSl 4 (.t 62) (some (.t 65)) none, none, .write, 0⟩, ⟨(some 67), .call (.c (.func 86 [])) [(.t 61), (.t 66)], none, .write, 0⟩, ⟨(some 68), .un .not (.t 67), none, .write, 0⟩])
 (.cond (.t 68) (.seq (.draw [⟨(some 69), .move (.t 0), none, .read, 0⟩, ⟨(some 70), .move (.t 1), none, .read, 0⟩, ⟨(some 71), .move (.t 7), none, .read, 0⟩, ⟨(some 72), .arith .add (.t 70) (.t 71), none, .read, 0⟩, ⟨(some 73), .sliceSl 4 (.t 69) (some (.t 72)) none, none, .read, 0⟩, ⟨(some 74), .move (.t 0), none, .read, 0⟩, ⟨(some 75), .move (.t 1), none, .read, 0⟩, ⟨(some 76), .sliceSl 4 (.t 74) (some (.t 75)) none, none, .read, 0⟩, ⟨(some 77), .copy 4 (.t 73) (.t 76), none, .write, 0⟩])
 (.seq (.region [⟨(some 78), .move (.t 0), none, .write, 0⟩, ⟨(some 79), .move (.t 1), none, .write, 0⟩, ⟨(some 80), .sliceSl 4 (.t 78) (some (.t 79)) none, none, .write, 0⟩, ⟨(some 81), .move (.t 2), none, .write, 0⟩, ⟨(some 82), .copy 4 (.t 80) (.t 81), none, .write, 0⟩])
 (.seq (.region [⟨(some 83), .move (.t 0), none, .write, 0⟩, ⟨(some 6), .move (.t 83), none, .write, 0⟩])
 .ret))) .skip))
 (.seq (.region [⟨(some 84), .move (.t 0), none, .write, 0⟩, ⟨(some 85), .move (.t 8), none, .write, 0⟩, ⟨(some 86), .sliceSl 4 (.t 84) (some (.t 85)) none, none, .write, 0⟩, ⟨(some 87), .move (.t 2), none, .write, 0⟩, ⟨(some 88), .copy 4 (.t 86) (.t 87), none, .write, 0⟩])
 (.seq (.region [⟨(some 89), .move (.t 0), none, .write, 0⟩, ⟨(some 90), .move (.t 1), none, .write, 0⟩, ⟨(some 91), .sliceSl 4 (.t 89) (some (.t 90)) none, none, .write, 0⟩, ⟨(some 92), .move (.t 7), none, .write, 0⟩, ⟨(some 93), .call (.c (.func 87 [])) [(.t 91), (.t 92)], none, .write, 0⟩])
 (.seq (.region [⟨(some 94), .move (.t 0), none, .write, 0⟩, ⟨(some 6), .move (.t 94), none, .write, 0⟩])
 .ret)))))))))))) }

theorem c33 : compFunc Try.prog Try.f33 .split = some t33 := by kernel_rfl

/-- slices.Insert[[]broadside/api.ID,broadside/api.ID] -/
def t34 : DFunc := { ntmps := 95, results := [(.t 6)], mode := .split, body :=
 (.seq (.region [⟨(some 6), .move (.c .nsl), none, .write, 0⟩])
 (.seq (.region [⟨(some 10), .move (.t 0), none, .write, 0⟩, ⟨(some 11), .move (.t 1), none, .write, 0⟩, ⟨(some 12), .sliceSl 2 (.t 10) (some (.t 11)) none, none, .write, 0⟩])
 (.seq (.region [⟨(some 13), .move (.t 2), none, .write, 0⟩, ⟨(some 14), .len 1 (.t 13), none, .write, 0⟩, ⟨(some 7), .move (.t 14), none, .write, 0⟩])
 (.seq (.seq (.region [⟨(some 15), .move (.t 7), none, .write, 0⟩, ⟨(some 16), .arith .eql (.t 15) (.c (.int .i64 0)), none, .write, 0⟩])
 (.cond (.t 16) (.seq (.region [⟨(some 17), .move (.t 0), none, .write, 0⟩, ⟨(some 6), .move (.t 17), none, .write, 0⟩])
 .ret) .skip))
 (.seq (.region [⟨(some 18), .move (.t 0), none, .write, 0⟩, ⟨(some 19), .len 1 (.t 18), none, .write, 0⟩, ⟨(some 8), .move (.t 19), none, .write, 0⟩])
 (.seq (.seq (.region [⟨(some 20), .move (.t 1), none, .write, 0⟩, ⟨(some 21), .move (.t 8), none, .write, 0⟩, ⟨(some 22), .arith .eql (.t 20) (.t 21), none, .write, 0⟩])
 (.cond (.t 22) (.seq (.region [⟨(some 23), .move (.t 0), none, .write, 0⟩, ⟨(some 24), .move (.t 2), none, .write, 0⟩, ⟨(some 25), .append 35 2 16 (.t 23) (.t 24), none, .write, 0⟩, ⟨(some 6), .move (.t 25), none, .write, 0⟩])
 .ret) .skip))
 (.seq (.seq (.region [⟨(some 26), .move (.t 8), none, .write, 0⟩, ⟨(some 27), .move (.t 7), none, .write, 0⟩, ⟨(some 28), .arith .add (.t 26) (.t 27), none, .write, 0⟩, ⟨(some 29), .move (.t 0), none, .write, 0⟩, ⟨(some 30), .cap (.t 29), none, .write, 0⟩, ⟨(some 31), .arith .gtr (.t 28) (.t 30), none, .write, 0⟩])
 (.cond (.t 31) (.seq (.region [⟨(some 32), .move (.t 0), none, .write, 0⟩, ⟨(some 33), .move (.t 1), none, .write, 0⟩, ⟨(some 34), .sliceSl 2 (.t 32) none (some (.t 33)), none, .write, 0⟩, ⟨(some 35), .move (.t 8), none, .write, 0⟩, ⟨(some 36), .move (.t 7), none, .write, 0⟩, ⟨(some 37), .arith .add (.t 35) (.t 36), none, .write, 0⟩, ⟨(some 38), .move (.t 1), none, .write, 0⟩, ⟨(some 39), .arith .sub (.t 37) (.t 38), none, .write, 0⟩, ⟨(some 40), .appendZ 35 2 16 (.agg [(.int .i64 0), (.int .i64 0)]) (.t 34) (.t 39), none, .write, 0⟩, ⟨(some 9), .move (.t 40), none, .write, 0⟩])
 (.seq (.region [⟨(some 41), .move (.t 9), none, .write, 0⟩, ⟨(some 42), .move (.t 1), none, .write, 0⟩, ⟨(some 43), .sliceSl 2 (.t 41) (some (.t 42)) none, none, .write, 0⟩, ⟨(some 44), .move (.t 2), none, .write, 0⟩, ⟨(some 45), .copy 2 (.t 43) (.t 44), none, .write, 0⟩])
 (.seq (.draw [⟨(some 46), .move (.t 9), none, .read, 0⟩, ⟨(some 47), .move (.t 1), none, .read, 0⟩, ⟨(some 48), .move (.t 7), none, .read, 0⟩, ⟨(some 49), .arith .add (.t 47) (.t 48), none, .read, 0⟩, ⟨(some 50), .sliceSl 2 (.t 46) (some (.t 49)) none, none, .read, 0⟩, ⟨(some 51), .move (.t 0), none, .read, 0⟩, ⟨(some 52), .move (.t 1), none, .read, 0⟩, ⟨(some 53), .sliceSl 2 (.t 51) (some (.t 52)) none, none, .read, 0⟩, ⟨(some 54), .copy 2 (.t 50) (.t 53), none, .write, 0⟩])
 (.seq (.region [⟨(some 55), .move (.t 9), none, .write, 0⟩, ⟨(some 6), .move (.t 55), none, .write, 0⟩])
 .ret)))) .skip))
 (.seq (.region [⟨(some 56), .move (.t 0), none, .write, 0⟩, ⟨(some 57), .move (.t 8), none, .write, 0⟩, ⟨(some 58), .move (.t 7), none, .write, 0⟩, ⟨(some 59), .arith .add (.t 57) (.t 58), none, .write, 0⟩, ⟨(some 60), .sliceSl 2 (.t 56) none (some (.t 59)), none, .write, 0⟩, ⟨(some 0), .move (.t 60), none, .write, 0⟩])
 (.seq (.seq (.region [⟨(some 61), .move (.t 2), none, .write, 0⟩, ⟨(some 62), .move (.t 0), none, .write, 0⟩, ⟨(some 63), .move (.t 1), none, .write, 0⟩, ⟨(some 64), .move (.t 7), none, .write, 0⟩, ⟨(some 65), .arith .add (.t 63) (.t 64), none, .write, 0⟩, ⟨(some 66), .sliceSl 2 (.t 62) (some (.t 65)) none, none, .write, 0⟩, ⟨(some 67), .call (.c (.func 88 [])) [(.t 61), (.t 66)], none, .write, 0⟩, ⟨(some 68), .un .not (.t 67), none, .write, 0⟩])
 (.cond (.t 68) (.seq (.draw [⟨(some 69), .move (.t 0), none, .read, 0⟩, ⟨(some 70), .move (.t 1), none, .read, 0⟩, ⟨(some 71), .move (.t 7), none, .read, 0⟩, ⟨(some 72), .arith .add (.t 70) (.t 71), none, .read, 0⟩, ⟨(some 73), .sliceSl 2 (.t 69) (some (.t 72)) none, none, .read, 0⟩, ⟨(some 74), .move (.t 0), none, .read, 0⟩, ⟨(some 75), .move (.t 1), none, .read, 0⟩, ⟨(some 76), .sliceSl 2 (.t 74) (some (.t 75)) none, none, .read, 0⟩, ⟨(some 77), .copy 2 (.t 73) (.t 76), none, .write, 0⟩])
 (.seq (.region [⟨(some 78), .move (.t 0), none, .write, 0⟩, ⟨(some 79), .move (.t 1), none, .write, 0⟩, ⟨(some 80), .sliceSl 2 (.t 78) (some (.t 79)) none, none, .write, 0⟩, ⟨(some 81), .move (.t 2), none, .write, 0⟩, ⟨(some 82), .copy 2 (.t 80) (.t 81), none, .write, 0⟩])
 (.seq (.region [⟨(some 83), .move (.t 0), none, .write, 0⟩, ⟨(some 6), .move (.t 83), none, .write, 0⟩])
 .ret))) .skip))
 (.seq (.region [⟨(some 84), .move (.t 0), none, .write, 0⟩, ⟨(some 85), .move (.t 8), none, .write, 0⟩, ⟨(some 86), .sliceSl 2 (.t 84) (some (.t 85)) none, none, .write, 0⟩, ⟨(some 87), .move (.t 2), none, .write, 0⟩, ⟨(some 88), .copy 2 (.t 86) (.t 87), none, .write, 0⟩])
 (.seq (.region [⟨(some 89), .move (.t 0), none, .write, 0⟩, ⟨(some 90), .move (.t 1), none, .write, 0⟩, ⟨(some 91), .sliceSl 2 (.t 89) (some (.t 90)) none, none, .write, 0⟩, ⟨(some 92), .move (.t 7), none, .write, 0⟩, ⟨(some 93), .call (.c (.func 89 [])) [(.t 91), (.t 92)], none, .write, 0⟩])
 (.seq (.region [⟨(some 94), .move (.t 0), none, .write, 0⟩, ⟨(some 6), .move (.t 94), none, .write, 0⟩])
 .ret)))))))))))) }

theorem c34 : compFunc Try.prog Try.f34 .split = some t34 := by kernel_rfl

/-- broadside/broadsidekeep.Names -/
def t35 : DFunc := { ntmps := 2, results := [(.t 0)], mode := .pure, body :=
 (.seq (.region [⟨(some 0), .move (.c .nsl), none, .write, 0⟩])
 (.seq (.region [⟨(some 1), .buildSlice 9 1 (.str []) 7 [(0, (.c (.str [97]))), (1, (.c (.str [98]))), (2, (.c (.str [99]))), (3, (.c (.str [100]))), (4, (.c (.str [101]))), (5, (.c (.str [102]))), (6, (.c (.str [103])))], none, .write, 0⟩, ⟨(some 0), .move (.t 1), none, .write, 0⟩])
 .ret)) }

theorem c35 : compFunc Try.prog Try.f35 .pure = some t35 := by kernel_rfl

/-- broadside/broadsidekeep.Constraint -/
def t36 : DFunc := { ntmps := 44, results := [(.cell 4 (some 5))], mode := .pure, body :=
 (.seq (.region [⟨(some 4), .alloc 63 5 (.agg [(.str []), (.int .i64 0), (.int .i64 0), (.int .i64 0), (.str [])]), none, .write, 0⟩])
 (.seq (.region [⟨(some 6), .move (.t 0), none, .write, 0⟩, ⟨(some 7), .build [(.str []), (.int .i64 0), (.int .i64 0), (.int .i64 0), (.str [])] [(0, 1, (.t 6))], none, .write, 0⟩, ⟨(some 5), .alloc 63 5 (.agg [(.str []), (.int .i64 0), (.int .i64 0), (.int .i64 0), (.str [])]), none, .write, 0⟩, ⟨none, .store 5 (.t 5) (.t 7), none, .write, 0⟩])
 (.seq (.seq (.region [⟨(some 8), .move (.t 1), none, .write, 0⟩, ⟨(some 9), .call (.c (.func 8 [])) [(.t 8), (.c (.int .i64 0)), (.c (.int .i64 3))], none, .write, 0⟩])
 (.block 0 (.seq (.seq (.region [⟨(some 19), .arith .eql (.t 9) (.c (.int .i64 0)), none, .write, 0⟩, ⟨(some 18), .move (.t 19), none, .write, 0⟩])
 (.cond (.t 18) .skip (.region [⟨(some 20), .arith .eql (.t 9) (.c (.int .i64 1)), none, .write, 0⟩, ⟨(some 18), .move (.t 20), none, .write, 0⟩])))
 (.cond (.t 18) (.seq (.region [⟨(some 21), .move (.t 1), none, .write, 0⟩, ⟨(some 22), .arith .quo (.t 21) (.c (.int .i64 4)), none, .write, 0⟩, ⟨(some 23), .call (.c (.func 8 [])) [(.t 22), (.c (.int .i64 0)), (.c (.int .i64 9))], none, .write, 0⟩, ⟨(some 24), .fieldAddr 1 (.t 5), none, .write, 0⟩, ⟨none, .store 1 (.t 24) (.c (.int .i64 1)), none, .write, 0⟩, ⟨(some 25), .fieldAddr 2 (.t 5), none, .write, 0⟩, ⟨none, .store 1 (.t 25) (.t 23), none, .write, 0⟩])
 (.draw [⟨(some 26), .fieldAddr 2 (.t 5), none, .read, 0⟩, ⟨(some 27), .load none (.t 26), none, .read, 0⟩, ⟨(some 28), .move (.t 1), none, .read, 0⟩, ⟨(some 29), .arith .quo (.t 28) (.c (.int .i64 40)), none, .read, 0⟩, ⟨(some 30), .call (.c (.func 8 [])) [(.t 29), (.c (.int .i64 0)), (.c (.int .i64 9))], none, .create, 0⟩, ⟨(some 31), .arith .add (.t 27) (.t 30), none, .read, 1⟩, ⟨(some 32), .fieldAddr 3 (.t 5), none, .read, 1⟩, ⟨none, .store 1 (.t 32) (.t 31), none, .write, 1⟩])) (.seq (.region [⟨(some 34), .arith .eql (.t 9) (.c (.int .i64 2)), none, .write, 0⟩, ⟨(some 33), .move (.t 34), none, .write, 0⟩])
 (.cond (.t 33) (.draw [⟨(some 35), .call (.c (.func 90 [])) [], none, .write, 0⟩, ⟨(some 36), .move (.t 1), none, .read, 0⟩, ⟨(some 37), .arith .quo (.t 36) (.c (.int .i64 4)), none, .read, 0⟩, ⟨(some 38), .call (.c (.func 8 [])) [(.t 37), (.c (.int .i64 0)), (.c (.int .i64 6))], none, .write, 1⟩, ⟨(some 39), .indexAddr 1 (.t 35) (.t 38), none, .read, 2⟩, ⟨(some 40), .load none (.t 39), none, .read, 2⟩, ⟨(some 41), .fieldAddr 1 (.t 5), none, .read, 0⟩, ⟨none, .store 1 (.t 41) (.c (.int .i64 2)), none, .create, 2⟩, ⟨(some 42), .fieldAddr 4 (.t 5), none, .read, 3⟩, ⟨none, .store 1 (.t 42) (.t 40), none, .write, 3⟩]) (.draw [⟨(some 10), .call (.c (.func 90 [])) [], none, .write, 0⟩, ⟨(some 11), .move (.t 1), none, .read, 0⟩, ⟨(some 12), .arith .quo (.t 11) (.c (.int .i64 4)), none, .read, 0⟩, ⟨(some 13), .call (.c (.func 8 [])) [(.t 12), (.c (.int .i64 0)), (.c (.int .i64 6))], none, .write, 1⟩, ⟨(some 14), .indexAddr 1 (.t 10) (.t 13), none, .read, 2⟩, ⟨(some 15), .load none (.t 14), none, .read, 2⟩, ⟨(some 16), .fieldAddr 1 (.t 5), none, .read, 0⟩, ⟨none, .store 1 (.t 16) (.c (.int .i64 3)), none, .create, 2⟩, ⟨(some 17), .fieldAddr 4 (.t 5), none, .read, 3⟩, ⟨none, .store 1 (.t 17) (.t 15), none, .write, 3⟩])))))))
 (.seq (.region [⟨(some 43), .load (some 5) (.t 5), none, .write, 0⟩, ⟨none, .store 5 (.t 4) (.t 43), none, .write, 0⟩])
 .ret)))) }

theorem c36 : compFunc Try.prog Try.f36 .pure = some t36 := by kernel_rfl

/-- broadside/broadsidekeep.pick -/
def t37 : DFunc := { ntmps := 15, results := [(.t 4)], mode := .pure, body :=
 (.seq (.region [⟨(some 4), .move (.c (.int .i64 0)), none, .write, 0⟩])
 (.seq (.seq (.region [⟨(some 5), .move (.t 0), none, .write, 0⟩, ⟨(some 6), .len 1 (.t 5), none, .write, 0⟩, ⟨(some 7), .arith .eql (.t 6) (.c (.int .i64 0)), none, .write, 0⟩])
 (.cond (.t 7) (.seq (.region [⟨(some 4), .move (.c (.int .i64 0)), none, .write, 0⟩])
 .ret) .skip))
 (.seq (.region [⟨(some 8), .move (.t 0), none, .write, 0⟩, ⟨(some 9), .move (.t 1), none, .write, 0⟩, ⟨(some 10), .move (.t 0), none, .write, 0⟩, ⟨(some 11), .len 1 (.t 10), none, .write, 0⟩, ⟨(some 12), .arith .rem (.t 9) (.t 11), none, .write, 0⟩, ⟨(some 13), .indexAddr 1 (.t 8) (.t 12), none, .write, 0⟩, ⟨(some 14), .load none (.t 13), none, .write, 0⟩, ⟨(some 4), .move (.t 14), none, .write, 0⟩])
 .ret))) }

theorem c37 : compFunc Try.prog Try.f37 .pure = some t37 := by kernel_rfl

/-- slices.Delete[[]broadside/api.Advert,broadside/api.Advert] -/
def t38 : DFunc := { ntmps := 33, results := [(.t 6)], mode := .full, body :=
 (.seq (.region [⟨(some 6), .move (.c .nsl), none, .write, 0⟩])
 (.seq (.region [⟨(some 8), .move (.t 0), none, .write, 0⟩, ⟨(some 9), .move (.t 1), none, .write, 0⟩, ⟨(some 10), .move (.t 2), none, .write, 0⟩, ⟨(some 11), .move (.t 0), none, .write, 0⟩, ⟨(some 12), .len 1 (.t 11), none, .write, 0⟩, ⟨(some 13), .slice3 (.t 8) (.t 9) (.t 10) (.t 12), none, .write, 0⟩])
 (.seq (.seq (.region [⟨(some 14), .move (.t 1), none, .write, 0⟩, ⟨(some 15), .move (.t 2), none, .write, 0⟩, ⟨(some 16), .arith .eql (.t 14) (.t 15), none, .write, 0⟩])
 (.cond (.t 16) (.seq (.region [⟨(some 17), .move (.t 0), none, .write, 0⟩, ⟨(some 6), .move (.t 17), none, .write, 0⟩])
 .ret) .skip))
 (.seq (.region [⟨(some 18), .move (.t 0), none, .write, 0⟩, ⟨(some 19), .len 1 (.t 18), none, .write, 0⟩, ⟨(some 7), .move (.t 19), none, .write, 0⟩])
 (.seq (.draw [⟨(some 20), .move (.t 0), none, .read, 0⟩, ⟨(some 21), .move (.t 1), none, .read, 0⟩, ⟨(some 22), .sliceSl 4 (.t 20) none (some (.t 21)), none, .read, 0⟩, ⟨(some 23), .move (.t 0), none, .read, 0⟩, ⟨(some 24), .move (.t 2), none, .read, 0⟩, ⟨(some 25), .sliceSl 4 (.t 23) (some (.t 24)) none, none, .read, 0⟩, ⟨(some 26), .append 41 4 48 (.t 22) (.t 25), none, .write, 0⟩, ⟨(some 0), .move (.t 26), none, .read, 1⟩])
 (.seq (.region [⟨(some 27), .move (.t 0), none, .write, 0⟩, ⟨(some 28), .move (.t 0), none, .write, 0⟩, ⟨(some 29), .len 1 (.t 28), none, .write, 0⟩, ⟨(some 30), .move (.t 7), none, .write, 0⟩, ⟨(some 31), .sliceSl 4 (.t 27) (some (.t 29)) (some (.t 30)), none, .write, 0⟩, ⟨none, .clear 4 (.agg [(.int .i64 0), (.int .i64 0), .nsl, (.int .i64 0)]) (.t 31), none, .write, 0⟩])
 (.seq (.region [⟨(some 32), .move (.t 0), none, .write, 0⟩, ⟨(some 6), .move (.t 32), none, .write, 0⟩])
 .ret))))))) }

theorem c38 : compFunc Try.prog Try.f38 .full = some t38 := by kernel_rfl

def t39l0 : DCode :=
 (.seq (.seq (.region [⟨(some 16), .move (.t 6), none, .write, 0⟩, ⟨(some 17), .move (.t 0), none, .write, 0⟩, ⟨(some 18), .len 1 (.t 17), none, .write, 0⟩, ⟨(some 19), .arith .lss (.t 16) (.t 18), none, .write, 0⟩])
 (.cond (.t 19) .skip (.exit 0)))
 (.seq (.block 1 (.seq (.region [⟨(some 22), .move (.t 0), none, .write, 0⟩, ⟨(some 23), .move (.t 6), none, .write, 0⟩, ⟨(some 24), .indexAddr 7 (.t 22) (.t 23), none, .write, 0⟩, ⟨(some 25), .load (some 7) (.t 24), none, .write, 0⟩, ⟨(some 7), .alloc 53 7 (.agg [(.int .i64 0), (.int .i64 0), (.int .i64 0), (.int .i64 0), .nsl, (.int .i64 0), (.bool false)]), none, .write, 0⟩, ⟨none, .store 7 (.t 7) (.t 25), none, .write, 0⟩])
 (.seq (.region [⟨(some 26), .move (.t 1), none, .write, 0⟩, ⟨(some 27), .load (some 7) (.t 7), none, .write, 0⟩, ⟨(some 28), .call (.t 26) [(.t 27)], none, .write, 0⟩, ⟨(some 29), .un .not (.t 28), none, .write, 0⟩])
 (.cond (.t 29) (.seq (.region [⟨(some 30), .move (.t 0), none, .write, 0⟩, ⟨(some 31), .move (.t 5), none, .write, 0⟩, ⟨(some 32), .load (some 7) (.t 7), none, .write, 0⟩, ⟨(some 33), .indexAddr 7 (.t 30) (.t 31), none, .write, 0⟩, ⟨none, .store 7 (.t 33) (.t 32), none, .write, 0⟩])
 (.region [⟨(some 34), .move (.t 5), none, .write, 0⟩, ⟨(some 35), .arith .add (.t 34) (.c (.int .i64 1)), none, .write, 0⟩, ⟨(some 5), .move (.t 35), none, .write, 0⟩])) .skip))))
 (.region [⟨(some 20), .move (.t 6), none, .write, 0⟩, ⟨(some 21), .arith .add (.t 20) (.c (.int .i64 1)), none, .write, 0⟩, ⟨(some 6), .move (.t 21), none, .write, 0⟩])))

def t39k0 : DCode :=
 (.seq (.region [⟨(some 36), .move (.t 0), none, .write, 0⟩, ⟨(some 37), .move (.t 5), none, .write, 0⟩, ⟨(some 38), .sliceSl 7 (.t 36) (some (.t 37)) none, none, .write, 0⟩, ⟨none, .clear 7 (.agg [(.int .i64 0), (.int .i64 0), (.int .i64 0), (.int .i64 0), .nsl, (.int .i64 0), (.bool false)]) (.t 38), none, .write, 0⟩])
 (.seq (.region [⟨(some 39), .move (.t 0), none, .write, 0⟩, ⟨(some 40), .move (.t 5), none, .write, 0⟩, ⟨(some 41), .sliceSl 7 (.t 39) none (some (.t 40)), none, .write, 0⟩, ⟨(some 4), .move (.t 41), none, .write, 0⟩])
 .ret))

/-- slices.DeleteFunc[[]broadside/api.Entry,broadside/api.Entry] -/
def t39 : DFunc := { ntmps := 42, results := [(.t 4)], mode := .full, body :=
 (.seq (.region [⟨(some 4), .move (.c .nsl), none, .write, 0⟩])
 (.seq (.region [⟨(some 8), .move (.t 0), none, .write, 0⟩, ⟨(some 9), .move (.t 1), none, .write, 0⟩, ⟨(some 10), .call (.c (.func 91 [])) [(.t 8), (.t 9)], none, .write, 0⟩, ⟨(some 5), .move (.t 10), none, .write, 0⟩])
 (.seq (.seq (.region [⟨(some 11), .move (.t 5), none, .write, 0⟩, ⟨(some 12), .arith .eql (.t 11) (.c (.int .i64 (-1))), none, .write, 0⟩])
 (.cond (.t 12) (.seq (.region [⟨(some 13), .move (.t 0), none, .write, 0⟩, ⟨(some 4), .move (.t 13), none, .write, 0⟩])
 .ret) .skip))
 (.seq (.seq (.region [⟨(some 14), .move (.t 5), none, .write, 0⟩, ⟨(some 15), .arith .add (.t 14) (.c (.int .i64 1)), none, .write, 0⟩, ⟨(some 6), .move (.t 15), none, .write, 0⟩])
 (.block 0 (.loop t39l0)))
 t39k0)))) }

theorem c39 : compFunc Try.prog Try.f39 .full = some t39 := by kernel_rfl

/-- broadside/adverts.Forget$1 -/
def t40 : DFunc := { ntmps := 8, results := [(.t 3)], mode := .pure, body :=
 (.seq (.region [⟨(some 2), .box 53 7 (.t 0), none, .write, 0⟩, ⟨(some 3), .move (.c (.bool false)), none, .write, 0⟩])
 (.seq (.region [⟨(some 4), .fieldAddr 0 (.t 2), none, .write, 0⟩, ⟨(some 5), .load (some 2) (.t 4), none, .write, 0⟩, ⟨(some 6), .load (some 2) (.t 1), none, .write, 0⟩, ⟨(some 7), .eqa false [1, 1] (.t 5) (.t 6), none, .write, 0⟩, ⟨(some 3), .move (.t 7), none, .write, 0⟩])
 .ret)) }

theorem c40 : compFunc Try.prog Try.f40 .pure = some t40 := by kernel_rfl

/-- broadside/adverts.compare -/
def t41 : DFunc := { ntmps := 17, results := [(.t 4)], mode := .pure, body :=
 (.seq (.region [⟨(some 2), .box 35 2 (.t 0), none, .write, 0⟩, ⟨(some 3), .box 35 2 (.t 1), none, .write, 0⟩, ⟨(some 4), .move (.c (.int .i64 0)), none, .write, 0⟩])
 (.seq (.draw [⟨(some 5), .fieldAddr 0 (.t 2), none, .read, 0⟩, ⟨(some 6), .load none (.t 5), none, .read, 0⟩, ⟨(some 7), .fieldAddr 0 (.t 3), none, .read, 0⟩, ⟨(some 8), .load none (.t 7), none, .read, 0⟩, ⟨(some 9), .call (.c (.func 92 [])) [(.t 6), (.t 8)], none, .create, 0⟩, ⟨(some 10), .fieldAddr 1 (.t 2), none, .read, 0⟩, ⟨(some 11), .load none (.t 10), none, .read, 0⟩, ⟨(some 12), .fieldAddr 1 (.t 3), none, .read, 0⟩, ⟨(some 13), .load none (.t 12), none, .read, 0⟩, ⟨(some 14), .call (.c (.func 92 [])) [(.t 11), (.t 13)], none, .write, 1⟩, ⟨(some 15), .buildSlice 3 1 (.int .i64 0) 2 [(0, (.t 9)), (1, (.t 14))], none, .create, 0⟩, ⟨(some 16), .call (.c (.func 51 [])) [(.t 15)], none, .write, 3⟩, ⟨(some 4), .move (.t 16), none, .read, 4⟩])
 .ret)) }

theorem c41 : compFunc Try.prog Try.f41 .pure = some t41 := by kernel_rfl

def t42l0 : DCode :=
 (.seq (.seq (.region [⟨(some 6), .move (.t 5), none, .write, 0⟩, ⟨(some 7), .move (.t 0), none, .write, 0⟩, ⟨(some 8), .len 1 (.t 7), none, .write, 0⟩, ⟨(some 9), .arith .lss (.t 6) (.t 8), none, .write, 0⟩])
 (.cond (.t 9) .skip (.exit 0)))
 (.seq (.block 1 (.seq (.draw [⟨(some 13), .move (.t 0), none, .read, 0⟩, ⟨(some 14), .move (.t 5), none, .read, 0⟩, ⟨(some 15), .arith .sub (.t 14) (.c (.int .i64 1)), none, .read, 0⟩, ⟨(some 16), .indexAddr 1 (.t 13) (.t 15), none, .read, 0⟩, ⟨(some 17), .load none (.t 16), none, .read, 0⟩, ⟨(some 18), .move (.t 0), none, .read, 0⟩, ⟨(some 19), .move (.t 5), none, .read, 0⟩, ⟨(some 20), .indexAddr 1 (.t 18) (.t 19), none, .read, 0⟩, ⟨(some 21), .load none (.t 20), none, .read, 0⟩, ⟨(some 12), .move (.t 1), none, .read, 0⟩, ⟨(some 22), .call (.t 12) [(.t 17), (.t 21)], none, .write, 0⟩, ⟨(some 23), .un .not (.t 22), none, .read, 1⟩])
 (.cond (.t 23) (.seq (.region [⟨(some 4), .move (.c (.bool false)), none, .write, 0⟩])
 .ret) .skip)))
 (.region [⟨(some 10), .move (.t 5), none, .write, 0⟩, ⟨(some 11), .arith .add (.t 10) (.c (.int .i64 1)), none, .write, 0⟩, ⟨(some 5), .move (.t 11), none, .write, 0⟩])))

def t42k0 : DCode :=
 (.seq (.region [⟨(some 4), .move (.c (.bool true)), none, .write, 0⟩])
 .ret)

/-- broadside/adverts.rises[int] -/
def t42 : DFunc := { ntmps := 24, results := [(.t 4)], mode := .pure, body :=
 (.seq (.region [⟨(some 4), .move (.c (.bool false)), none, .write, 0⟩])
 (.seq (.seq (.region [⟨(some 5), .move (.c (.int .i64 1)), none, .write, 0⟩])
 (.block 0 (.loop t42l0)))
 t42k0)) }

theorem c42 : compFunc Try.prog Try.f42 .pure = some t42 := by kernel_rfl

/-- broadside/adverts.Right$1 -/
def t43 : DFunc := { ntmps := 8, results := [(.t 4)], mode := .pure, body :=
 (.seq (.region [⟨(some 4), .move (.c (.bool false)), none, .write, 0⟩])
 (.seq (.region [⟨(some 5), .move (.t 0), none, .write, 0⟩, ⟨(some 6), .move (.t 1), none, .write, 0⟩, ⟨(some 7), .arith .lss (.t 5) (.t 6), none, .write, 0⟩, ⟨(some 4), .move (.t 7), none, .write, 0⟩])
 .ret)) }

theorem c43 : compFunc Try.prog Try.f43 .pure = some t43 := by kernel_rfl

def t44l0 : DCode :=
 (.seq (.seq (.region [⟨(some 6), .move (.t 5), none, .write, 0⟩, ⟨(some 7), .move (.t 0), none, .write, 0⟩, ⟨(some 8), .len 1 (.t 7), none, .write, 0⟩, ⟨(some 9), .arith .lss (.t 6) (.t 8), none, .write, 0⟩])
 (.cond (.t 9) .skip (.exit 0)))
 (.seq (.block 1 (.seq (.draw [⟨(some 13), .move (.t 0), none, .read, 0⟩, ⟨(some 14), .move (.t 5), none, .read, 0⟩, ⟨(some 15), .arith .sub (.t 14) (.c (.int .i64 1)), none, .read, 0⟩, ⟨(some 16), .indexAddr 2 (.t 13) (.t 15), none, .read, 0⟩, ⟨(some 17), .load (some 2) (.t 16), none, .read, 0⟩, ⟨(some 18), .move (.t 0), none, .read, 0⟩, ⟨(some 19), .move (.t 5), none, .read, 0⟩, ⟨(some 20), .indexAddr 2 (.t 18) (.t 19), none, .read, 0⟩, ⟨(some 21), .load (some 2) (.t 20), none, .read, 0⟩, ⟨(some 12), .move (.t 1), none, .read, 0⟩, ⟨(some 22), .call (.t 12) [(.t 17), (.t 21)], none, .write, 0⟩, ⟨(some 23), .un .not (.t 22), none, .read, 1⟩])
 (.cond (.t 23) (.seq (.region [⟨(some 4), .move (.c (.bool false)), none, .write, 0⟩])
 .ret) .skip)))
 (.region [⟨(some 10), .move (.t 5), none, .write, 0⟩, ⟨(some 11), .arith .add (.t 10) (.c (.int .i64 1)), none, .write, 0⟩, ⟨(some 5), .move (.t 11), none, .write, 0⟩])))

def t44k0 : DCode :=
 (.seq (.region [⟨(some 4), .move (.c (.bool true)), none, .write, 0⟩])
 .ret)

/-- broadside/adverts.rises[broadside/api.ID] -/
def t44 : DFunc := { ntmps := 24, results := [(.t 4)], mode := .pure, body :=
 (.seq (.region [⟨(some 4), .move (.c (.bool false)), none, .write, 0⟩])
 (.seq (.seq (.region [⟨(some 5), .move (.c (.int .i64 1)), none, .write, 0⟩])
 (.block 0 (.loop t44l0)))
 t44k0)) }

theorem c44 : compFunc Try.prog Try.f44 .pure = some t44 := by kernel_rfl

def t45l0 : DCode :=
 (.seq (.seq (.region [⟨(some 6), .move (.t 5), none, .write, 0⟩, ⟨(some 7), .move (.t 0), none, .write, 0⟩, ⟨(some 8), .len 1 (.t 7), none, .write, 0⟩, ⟨(some 9), .arith .lss (.t 6) (.t 8), none, .write, 0⟩])
 (.cond (.t 9) .skip (.exit 0)))
 (.seq (.block 1 (.seq (.draw [⟨(some 13), .move (.t 0), none, .read, 0⟩, ⟨(some 14), .move (.t 5), none, .read, 0⟩, ⟨(some 15), .arith .sub (.t 14) (.c (.int .i64 1)), none, .read, 0⟩, ⟨(some 16), .indexAddr 4 (.t 13) (.t 15), none, .read, 0⟩, ⟨(some 17), .load (some 4) (.t 16), none, .read, 0⟩, ⟨(some 18), .move (.t 0), none, .read, 0⟩, ⟨(some 19), .move (.t 5), none, .read, 0⟩, ⟨(some 20), .indexAddr 4 (.t 18) (.t 19), none, .read, 0⟩, ⟨(some 21), .load (some 4) (.t 20), none, .read, 0⟩, ⟨(some 12), .move (.t 1), none, .read, 0⟩, ⟨(some 22), .call (.t 12) [(.t 17), (.t 21)], none, .write, 0⟩, ⟨(some 23), .un .not (.t 22), none, .read, 1⟩])
 (.cond (.t 23) (.seq (.region [⟨(some 4), .move (.c (.bool false)), none, .write, 0⟩])
 .ret) .skip)))
 (.region [⟨(some 10), .move (.t 5), none, .write, 0⟩, ⟨(some 11), .arith .add (.t 10) (.c (.int .i64 1)), none, .write, 0⟩, ⟨(some 5), .move (.t 11), none, .write, 0⟩])))

def t45k0 : DCode :=
 (.seq (.region [⟨(some 4), .move (.c (.bool true)), none, .write, 0⟩])
 .ret)

/-- broadside/adverts.rises[broadside/api.Advert] -/
def t45 : DFunc := { ntmps := 24, results := [(.t 4)], mode := .pure, body :=
 (.seq (.region [⟨(some 4), .move (.c (.bool false)), none, .write, 0⟩])
 (.seq (.seq (.region [⟨(some 5), .move (.c (.int .i64 1)), none, .write, 0⟩])
 (.block 0 (.loop t45l0)))
 t45k0)) }

theorem c45 : compFunc Try.prog Try.f45 .pure = some t45 := by kernel_rfl

/-- broadside/adverts.Right$2 -/
def t46 : DFunc := { ntmps := 10, results := [(.t 4)], mode := .pure, body :=
 (.seq (.region [⟨(some 2), .box 41 4 (.t 0), none, .write, 0⟩, ⟨(some 3), .box 41 4 (.t 1), none, .write, 0⟩, ⟨(some 4), .move (.c (.bool false)), none, .write, 0⟩])
 (.seq (.region [⟨(some 5), .fieldAddr 0 (.t 2), none, .write, 0⟩, ⟨(some 6), .load (some 2) (.t 5), none, .write, 0⟩, ⟨(some 7), .fieldAddr 0 (.t 3), none, .write, 0⟩, ⟨(some 8), .load (some 2) (.t 7), none, .write, 0⟩, ⟨(some 9), .call (.c (.func 14 [])) [(.t 6), (.t 8)], none, .write, 0⟩, ⟨(some 4), .move (.t 9), none, .write, 0⟩])
 .ret)) }

theorem c46 : compFunc Try.prog Try.f46 .pure = some t46 := by kernel_rfl

def t47l0 : DCode :=
 (.seq (.seq (.region [⟨(some 6), .move (.t 5), none, .write, 0⟩, ⟨(some 7), .move (.t 0), none, .write, 0⟩, ⟨(some 8), .len 1 (.t 7), none, .write, 0⟩, ⟨(some 9), .arith .lss (.t 6) (.t 8), none, .write, 0⟩])
 (.cond (.t 9) .skip (.exit 0)))
 (.seq (.block 1 (.seq (.draw [⟨(some 13), .move (.t 0), none, .read, 0⟩, ⟨(some 14), .move (.t 5), none, .read, 0⟩, ⟨(some 15), .arith .sub (.t 14) (.c (.int .i64 1)), none, .read, 0⟩, ⟨(some 16), .indexAddr 3 (.t 13) (.t 15), none, .read, 0⟩, ⟨(some 17), .load (some 3) (.t 16), none, .read, 0⟩, ⟨(some 18), .move (.t 0), none, .read, 0⟩, ⟨(some 19), .move (.t 5), none, .read, 0⟩, ⟨(some 20), .indexAddr 3 (.t 18) (.t 19), none, .read, 0⟩, ⟨(some 21), .load (some 3) (.t 20), none, .read, 0⟩, ⟨(some 12), .move (.t 1), none, .read, 0⟩, ⟨(some 22), .call (.t 12) [(.t 17), (.t 21)], none, .write, 0⟩, ⟨(some 23), .un .not (.t 22), none, .read, 1⟩])
 (.cond (.t 23) (.seq (.region [⟨(some 4), .move (.c (.bool false)), none, .write, 0⟩])
 .ret) .skip)))
 (.region [⟨(some 10), .move (.t 5), none, .write, 0⟩, ⟨(some 11), .arith .add (.t 10) (.c (.int .i64 1)), none, .write, 0⟩, ⟨(some 5), .move (.t 11), none, .write, 0⟩])))

def t47k0 : DCode :=
 (.seq (.region [⟨(some 4), .move (.c (.bool true)), none, .write, 0⟩])
 .ret)

/-- broadside/adverts.rises[broadside/api.Own] -/
def t47 : DFunc := { ntmps := 24, results := [(.t 4)], mode := .pure, body :=
 (.seq (.region [⟨(some 4), .move (.c (.bool false)), none, .write, 0⟩])
 (.seq (.seq (.region [⟨(some 5), .move (.c (.int .i64 1)), none, .write, 0⟩])
 (.block 0 (.loop t47l0)))
 t47k0)) }

theorem c47 : compFunc Try.prog Try.f47 .pure = some t47 := by kernel_rfl

/-- broadside/adverts.Right$3 -/
def t48 : DFunc := { ntmps := 10, results := [(.t 4)], mode := .pure, body :=
 (.seq (.region [⟨(some 2), .box 88 3 (.t 0), none, .write, 0⟩, ⟨(some 3), .box 88 3 (.t 1), none, .write, 0⟩, ⟨(some 4), .move (.c (.bool false)), none, .write, 0⟩])
 (.seq (.region [⟨(some 5), .fieldAddr 0 (.t 2), none, .write, 0⟩, ⟨(some 6), .load (some 2) (.t 5), none, .write, 0⟩, ⟨(some 7), .fieldAddr 0 (.t 3), none, .write, 0⟩, ⟨(some 8), .load (some 2) (.t 7), none, .write, 0⟩, ⟨(some 9), .call (.c (.func 14 [])) [(.t 6), (.t 8)], none, .write, 0⟩, ⟨(some 4), .move (.t 9), none, .write, 0⟩])
 .ret)) }

theorem c48 : compFunc Try.prog Try.f48 .pure = some t48 := by kernel_rfl

def t49l0 : DCode :=
 (.seq (.seq (.region [⟨(some 6), .move (.t 5), none, .write, 0⟩, ⟨(some 7), .move (.t 0), none, .write, 0⟩, ⟨(some 8), .len 1 (.t 7), none, .write, 0⟩, ⟨(some 9), .arith .lss (.t 6) (.t 8), none, .write, 0⟩])
 (.cond (.t 9) .skip (.exit 0)))
 (.seq (.block 1 (.seq (.draw [⟨(some 13), .move (.t 0), none, .read, 0⟩, ⟨(some 14), .move (.t 5), none, .read, 0⟩, ⟨(some 15), .arith .sub (.t 14) (.c (.int .i64 1)), none, .read, 0⟩, ⟨(some 16), .indexAddr 7 (.t 13) (.t 15), none, .read, 0⟩, ⟨(some 17), .load (some 7) (.t 16), none, .read, 0⟩, ⟨(some 18), .move (.t 0), none, .read, 0⟩, ⟨(some 19), .move (.t 5), none, .read, 0⟩, ⟨(some 20), .indexAddr 7 (.t 18) (.t 19), none, .read, 0⟩, ⟨(some 21), .load (some 7) (.t 20), none, .read, 0⟩, ⟨(some 12), .move (.t 1), none, .read, 0⟩, ⟨(some 22), .call (.t 12) [(.t 17), (.t 21)], none, .write, 0⟩, ⟨(some 23), .un .not (.t 22), none, .read, 1⟩])
 (.cond (.t 23) (.seq (.region [⟨(some 4), .move (.c (.bool false)), none, .write, 0⟩])
 .ret) .skip)))
 (.region [⟨(some 10), .move (.t 5), none, .write, 0⟩, ⟨(some 11), .arith .add (.t 10) (.c (.int .i64 1)), none, .write, 0⟩, ⟨(some 5), .move (.t 11), none, .write, 0⟩])))

def t49k0 : DCode :=
 (.seq (.region [⟨(some 4), .move (.c (.bool true)), none, .write, 0⟩])
 .ret)

/-- broadside/adverts.rises[broadside/api.Entry] -/
def t49 : DFunc := { ntmps := 24, results := [(.t 4)], mode := .pure, body :=
 (.seq (.region [⟨(some 4), .move (.c (.bool false)), none, .write, 0⟩])
 (.seq (.seq (.region [⟨(some 5), .move (.c (.int .i64 1)), none, .write, 0⟩])
 (.block 0 (.loop t49l0)))
 t49k0)) }

theorem c49 : compFunc Try.prog Try.f49 .pure = some t49 := by kernel_rfl

/-- broadside/adverts.Right$4 -/
def t50 : DFunc := { ntmps := 18, results := [(.t 4)], mode := .pure, body :=
 (.seq (.region [⟨(some 2), .box 53 7 (.t 0), none, .write, 0⟩, ⟨(some 3), .box 53 7 (.t 1), none, .write, 0⟩, ⟨(some 4), .move (.c (.bool false)), none, .write, 0⟩])
 (.seq (.draw [⟨(some 5), .fieldAddr 0 (.t 2), none, .read, 0⟩, ⟨(some 6), .load (some 2) (.t 5), none, .read, 0⟩, ⟨(some 7), .fieldAddr 0 (.t 3), none, .read, 0⟩, ⟨(some 8), .load (some 2) (.t 7), none, .read, 0⟩, ⟨(some 9), .call (.c (.func 41 [])) [(.t 6), (.t 8)], none, .create, 0⟩, ⟨(some 10), .fieldAddr 2 (.t 2), none, .read, 0⟩, ⟨(some 11), .load (some 2) (.t 10), none, .read, 0⟩, ⟨(some 12), .fieldAddr 2 (.t 3), none, .read, 0⟩, ⟨(some 13), .load (some 2) (.t 12), none, .read, 0⟩, ⟨(some 14), .call (.c (.func 41 [])) [(.t 11), (.t 13)], none, .write, 1⟩, ⟨(some 15), .buildSlice 3 1 (.int .i64 0) 2 [(0, (.t 9)), (1, (.t 14))], none, .create, 0⟩, ⟨(some 16), .call (.c (.func 51 [])) [(.t 15)], none, .write, 3⟩, ⟨(some 17), .arith .lss (.t 16) (.c (.int .i64 0)), none, .read, 4⟩, ⟨(some 4), .move (.t 17), none, .read, 4⟩])
 .ret)) }

theorem c50 : compFunc Try.prog Try.f50 .pure = some t50 := by kernel_rfl

end Go.Dm.Tc
