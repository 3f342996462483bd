/-
The table of functions, brought into the machine's form (TabR, part 2). Written by program (wip/tools/table.lean.txt).
-/
import Derived.Test.YtdacnhfdcejahaaGreatDm32
import Derived.Test.YtdacnhfdcejahaaGreatRows
import Derived.KernelRfl
namespace Go.Dm.TabR
open Go.Proofs

/-- slices.rotateRight[broadside/api.ID] -/
def t34 : DFunc := { ntmps := 10, results := [], mode := .full, body :=
 (.region [⟨(some 4), .move (.t 0), none, .write, 0⟩, ⟨(some 5), .move (.t 0), none, .write, 0⟩, ⟨(some 6), .len 1 (.t 5), none, .write, 0⟩, ⟨(some 7), .move (.t 1), none, .write, 0⟩, ⟨(some 8), .arith .sub (.t 6) (.t 7), none, .write, 0⟩, ⟨(some 9), .call (.c (.func 50 [])) [(.t 4), (.t 8)], none, .write, 0⟩]) }

theorem c34 : compFunc Tryz.prog Tryz.f34 .full = some t34 := by kernel_rfl

/-- slices.pdqsortOrdered[int] -/
def t35 : DFunc := { ntmps := 134, results := [], mode := .full, body :=
 (.seq (.region [⟨(some 8), .move (.c (.bool true)), none, .write, 0⟩])
 (.seq (.region [⟨(some 9), .move (.c (.bool true)), none, .write, 0⟩])
 (.block 0 (.loop (.block 1 (.seq (.region [⟨(some 19), .move (.t 2), none, .write, 0⟩, ⟨(some 20), .move (.t 1), none, .write, 0⟩, ⟨(some 21), .arith .sub (.t 19) (.t 20), none, .write, 0⟩, ⟨(some 10), .move (.t 21), none, .write, 0⟩])
 (.seq (.seq (.region [⟨(some 22), .move (.t 10), none, .write, 0⟩, ⟨(some 23), .arith .leq (.t 22) (.c (.int .i64 12)), none, .write, 0⟩])
 (.cond (.t 23) (.seq (.region [⟨(some 24), .move (.t 0), none, .write, 0⟩, ⟨(some 25), .move (.t 1), none, .write, 0⟩, ⟨(some 26), .move (.t 2), none, .write, 0⟩, ⟨(some 27), .call (.c (.func 51 [])) [(.t 24), (.t 25), (.t 26)], none, .write, 0⟩])
 .ret) .skip))
 (.seq (.seq (.region [⟨(some 28), .move (.t 3), none, .write, 0⟩, ⟨(some 29), .arith .eql (.t 28) (.c (.int .i64 0)), none, .write, 0⟩])
 (.cond (.t 29) (.seq (.region [⟨(some 30), .move (.t 0), none, .write, 0⟩, ⟨(some 31), .move (.t 1), none, .write, 0⟩, ⟨(some 32), .move (.t 2), none, .write, 0⟩, ⟨(some 33), .call (.c (.func 52 [])) [(.t 30), (.t 31), (.t 32)], none, .write, 0⟩])
 .ret) .skip))
 (.seq (.seq (.region [⟨(some 34), .move (.t 8), none, .write, 0⟩, ⟨(some 35), .un .not (.t 34), none, .write, 0⟩])
 (.cond (.t 35) (.seq (.region [⟨(some 36), .move (.t 0), none, .write, 0⟩, ⟨(some 37), .move (.t 1), none, .write, 0⟩, ⟨(some 38), .move (.t 2), none, .write, 0⟩, ⟨(some 39), .call (.c (.func 53 [])) [(.t 36), (.t 37), (.t 38)], none, .write, 0⟩])
 (.region [⟨(some 40), .move (.t 3), none, .write, 0⟩, ⟨(some 41), .arith .sub (.t 40) (.c (.int .i64 1)), none, .write, 0⟩, ⟨(some 3), .move (.t 41), none, .write, 0⟩])) .skip))
 (.seq (.region [⟨(some 43), .move (.t 0), none, .write, 0⟩, ⟨(some 44), .move (.t 1), none, .write, 0⟩, ⟨(some 45), .move (.t 2), none, .write, 0⟩, ⟨(some 46), .call (.c (.func 54 [])) [(.t 43), (.t 44), (.t 45)], none, .write, 0⟩, ⟨(some 42), .move (.t 46), none, .write, 0⟩, ⟨(some 47), .extract (.t 42) 0, none, .write, 0⟩, ⟨(some 48), .extract (.t 42) 1, none, .write, 0⟩, ⟨(some 11), .move (.t 47), none, .write, 0⟩, ⟨(some 12), .move (.t 48), none, .write, 0⟩])
 (.seq (.seq (.region [⟨(some 49), .move (.t 12), none, .write, 0⟩, ⟨(some 50), .arith .eql (.t 49) (.c (.int .i64 2)), none, .write, 0⟩])
 (.cond (.t 50) (.seq (.region [⟨(some 51), .move (.t 0), none, .write, 0⟩, ⟨(some 52), .move (.t 1), none, .write, 0⟩, ⟨(some 53), .move (.t 2), none, .write, 0⟩, ⟨(some 54), .call (.c (.func 55 [])) [(.t 51), (.t 52), (.t 53)], none, .write, 0⟩])
 (.seq (.region [⟨(some 55), .move (.t 2), none, .write, 0⟩, ⟨(some 56), .arith .sub (.t 55) (.c (.int .i64 1)), none, .write, 0⟩, ⟨(some 57), .move (.t 11), none, .write, 0⟩, ⟨(some 58), .move (.t 1), none, .write, 0⟩, ⟨(some 59), .arith .sub (.t 57) (.t 58), none, .write, 0⟩, ⟨(some 60), .arith .sub (.t 56) (.t 59), none, .write, 0⟩, ⟨(some 11), .move (.t 60), none, .write, 0⟩])
 (.region [⟨(some 12), .move (.c (.int .i64 1)), none, .write, 0⟩]))) .skip))
 (.seq (.seq (.region [⟨(some 61), .move (.t 8), none, .write, 0⟩, ⟨(some 62), .move (.t 61), none, .write, 0⟩, ⟨(some 63), .move (.t 9), (some (62, true)), .write, 0⟩, ⟨(some 64), .pick (.t 62) (.t 63) (.c (.bool false)), none, .write, 0⟩, ⟨(some 65), .move (.t 64), none, .write, 0⟩, ⟨(some 66), .move (.t 12), (some (65, true)), .write, 0⟩, ⟨(some 67), .arith .eql (.t 66) (.c (.int .i64 1)), (some (65, true)), .write, 0⟩, ⟨(some 68), .pick (.t 65) (.t 67) (.c (.bool false)), none, .write, 0⟩])
 (.cond (.t 68) (.seq (.region [⟨(some 69), .move (.t 0), none, .write, 0⟩, ⟨(some 70), .move (.t 1), none, .write, 0⟩, ⟨(some 71), .move (.t 2), none, .write, 0⟩, ⟨(some 72), .call (.c (.func 56 [])) [(.t 69), (.t 70), (.t 71)], none, .write, 0⟩])
 (.cond (.t 72) .ret .skip)) .skip))
 (.seq (.seq (.draw [⟨(some 73), .move (.t 1), none, .read, 0⟩, ⟨(some 74), .arith .gtr (.t 73) (.c (.int .i64 0)), none, .read, 0⟩, ⟨(some 75), .move (.t 74), none, .read, 0⟩, ⟨(some 76), .move (.t 0), (some (75, true)), .read, 0⟩, ⟨(some 77), .move (.t 1), (some (75, true)), .read, 0⟩, ⟨(some 78), .arith .sub (.t 77) (.c (.int .i64 1)), (some (75, true)), .read, 0⟩, ⟨(some 79), .indexAddr 1 (.t 76) (.t 78), (some (75, true)), .read, 0⟩, ⟨(some 80), .load none (.t 79), (some (75, true)), .read, 0⟩, ⟨(some 81), .move (.t 0), (some (75, true)), .read, 0⟩, ⟨(some 82), .move (.t 11), (some (75, true)), .read, 0⟩, ⟨(some 83), .indexAddr 1 (.t 81) (.t 82), (some (75, true)), .read, 0⟩, ⟨(some 84), .load none (.t 83), (some (75, true)), .read, 0⟩, ⟨(some 85), .call (.c (.func 57 [])) [(.t 80), (.t 84)], (some (75, true)), .write, 0⟩, ⟨(some 86), .un .not (.t 85), (some (75, true)), .read, 1⟩, ⟨(some 87), .pick (.t 75) (.t 86) (.c (.bool false)), none, .read, 1⟩])
 (.cond (.t 87) (.seq (.region [⟨(some 88), .move (.t 0), none, .write, 0⟩, ⟨(some 89), .move (.t 1), none, .write, 0⟩, ⟨(some 90), .move (.t 2), none, .write, 0⟩, ⟨(some 91), .move (.t 11), none, .write, 0⟩, ⟨(some 92), .call (.c (.func 58 [])) [(.t 88), (.t 89), (.t 90), (.t 91)], none, .write, 0⟩, ⟨(some 13), .move (.t 92), none, .write, 0⟩])
 (.seq (.region [⟨(some 93), .move (.t 13), none, .write, 0⟩, ⟨(some 1), .move (.t 93), none, .write, 0⟩])
 (.exit 1))) .skip))
 (.seq (.region [⟨(some 95), .move (.t 0), none, .write, 0⟩, ⟨(some 96), .move (.t 1), none, .write, 0⟩, ⟨(some 97), .move (.t 2), none, .write, 0⟩, ⟨(some 98), .move (.t 11), none, .write, 0⟩, ⟨(some 99), .call (.c (.func 59 [])) [(.t 95), (.t 96), (.t 97), (.t 98)], none, .write, 0⟩, ⟨(some 94), .move (.t 99), none, .write, 0⟩, ⟨(some 100), .extract (.t 94) 0, none, .write, 0⟩, ⟨(some 101), .extract (.t 94) 1, none, .write, 0⟩, ⟨(some 14), .move (.t 100), none, .write, 0⟩, ⟨(some 15), .move (.t 101), none, .write, 0⟩])
 (.seq (.region [⟨(some 102), .move (.t 15), none, .write, 0⟩, ⟨(some 9), .move (.t 102), none, .write, 0⟩])
 (.seq (.region [⟨(some 103), .move (.t 14), none, .write, 0⟩, ⟨(some 104), .move (.t 1), none, .write, 0⟩, ⟨(some 105), .arith .sub (.t 103) (.t 104), none, .write, 0⟩, ⟨(some 106), .move (.t 2), none, .write, 0⟩, ⟨(some 107), .move (.t 14), none, .write, 0⟩, ⟨(some 108), .arith .sub (.t 106) (.t 107), none, .write, 0⟩, ⟨(some 16), .move (.t 105), none, .write, 0⟩, ⟨(some 17), .move (.t 108), none, .write, 0⟩])
 (.seq (.region [⟨(some 109), .move (.t 10), none, .write, 0⟩, ⟨(some 110), .arith .quo (.t 109) (.c (.int .i64 8)), none, .write, 0⟩, ⟨(some 18), .move (.t 110), none, .write, 0⟩])
 (.seq (.region [⟨(some 111), .move (.t 16), none, .write, 0⟩, ⟨(some 112), .move (.t 17), none, .write, 0⟩, ⟨(some 113), .arith .lss (.t 111) (.t 112), none, .write, 0⟩])
 (.cond (.t 113) (.seq (.region [⟨(some 114), .move (.t 16), none, .write, 0⟩, ⟨(some 115), .move (.t 18), none, .write, 0⟩, ⟨(some 116), .arith .geq (.t 114) (.t 115), none, .write, 0⟩, ⟨(some 8), .move (.t 116), none, .write, 0⟩])
 (.seq (.region [⟨(some 117), .move (.t 0), none, .write, 0⟩, ⟨(some 118), .move (.t 1), none, .write, 0⟩, ⟨(some 119), .move (.t 14), none, .write, 0⟩, ⟨(some 120), .move (.t 3), none, .write, 0⟩, ⟨(some 121), .call (.c (.func 35 [])) [(.t 117), (.t 118), (.t 119), (.t 120)], none, .write, 0⟩])
 (.region [⟨(some 122), .move (.t 14), none, .write, 0⟩, ⟨(some 123), .arith .add (.t 122) (.c (.int .i64 1)), none, .write, 0⟩, ⟨(some 1), .move (.t 123), none, .write, 0⟩]))) (.seq (.region [⟨(some 124), .move (.t 17), none, .write, 0⟩, ⟨(some 125), .move (.t 18), none, .write, 0⟩, ⟨(some 126), .arith .geq (.t 124) (.t 125), none, .write, 0⟩, ⟨(some 8), .move (.t 126), none, .write, 0⟩])
 (.seq (.region [⟨(some 127), .move (.t 0), none, .write, 0⟩, ⟨(some 128), .move (.t 14), none, .write, 0⟩, ⟨(some 129), .arith .add (.t 128) (.c (.int .i64 1)), none, .write, 0⟩, ⟨(some 130), .move (.t 2), none, .write, 0⟩, ⟨(some 131), .move (.t 3), none, .write, 0⟩, ⟨(some 132), .call (.c (.func 35 [])) [(.t 127), (.t 129), (.t 130), (.t 131)], none, .write, 0⟩])
 (.region [⟨(some 133), .move (.t 14), none, .write, 0⟩, ⟨(some 2), .move (.t 133), none, .write, 0⟩])))))))))))))))))))))) }

theorem c35 : compFunc Tryz.prog Tryz.f35 .full = some t35 := by kernel_rfl

/-- math/bits.Len -/
def t36 : DFunc := { ntmps := 8, results := [(.t 2)], mode := .full, body :=
 (.seq (.region [⟨(some 2), .move (.c (.int .i64 0)), none, .write, 0⟩])
 (.seq (.cond (.c (.bool false)) (.seq (.region [⟨(some 3), .move (.t 0), none, .write, 0⟩, ⟨(some 4), .conv .u32 (.t 3), none, .write, 0⟩, ⟨(some 5), .call (.c (.func 60 [])) [(.t 4)], none, .write, 0⟩, ⟨(some 2), .move (.t 5), none, .write, 0⟩])
 .ret) .skip)
 (.seq (.region [⟨(some 6), .move (.t 0), none, .write, 0⟩, ⟨(some 7), .call (.c (.func 61 [])) [(.t 6)], none, .write, 0⟩, ⟨(some 2), .move (.t 7), none, .write, 0⟩])
 .ret))) }

theorem c36 : compFunc Tryz.prog Tryz.f36 .full = some t36 := by kernel_rfl

/-- slices.BinarySearchFunc[[]broadside/api.Own,broadside/api.Own,broadside/api.ID] -/
def t37 : DFunc := { ntmps := 49, results := [(.t 6), (.t 7)], mode := .full, body :=
 (.seq (.region [⟨(some 4), .box 23 2 (.t 1), none, .write, 0⟩, ⟨(some 6), .move (.c (.int .i64 0)), none, .write, 0⟩, ⟨(some 7), .move (.c (.bool false)), none, .write, 0⟩])
 (.seq (.region [⟨(some 12), .move (.t 0), none, .write, 0⟩, ⟨(some 13), .len 1 (.t 12), none, .write, 0⟩, ⟨(some 8), .move (.t 13), none, .write, 0⟩])
 (.seq (.region [⟨(some 14), .move (.t 8), none, .write, 0⟩, ⟨(some 9), .move (.c (.int .i64 0)), none, .write, 0⟩, ⟨(some 10), .move (.t 14), none, .write, 0⟩])
 (.seq (.block 0 (.loop (.seq (.seq (.region [⟨(some 15), .move (.t 9), none, .write, 0⟩, ⟨(some 16), .move (.t 10), none, .write, 0⟩, ⟨(some 17), .arith .lss (.t 15) (.t 16), none, .write, 0⟩])
 (.cond (.t 17) .skip (.exit 0)))
 (.block 1 (.seq (.region [⟨(some 18), .move (.t 9), none, .write, 0⟩, ⟨(some 19), .move (.t 10), none, .write, 0⟩, ⟨(some 20), .arith .add (.t 18) (.t 19), none, .write, 0⟩, ⟨(some 21), .conv .u64 (.t 20), none, .write, 0⟩, ⟨(some 22), .arith .shr (.t 21) (.c (.int .u64 1)), none, .write, 0⟩, ⟨(some 23), .conv .i64 (.t 22), none, .write, 0⟩, ⟨(some 11), .move (.t 23), none, .write, 0⟩])
 (.seq (.draw [⟨(some 25), .move (.t 0), none, .read, 0⟩, ⟨(some 26), .move (.t 11), none, .read, 0⟩, ⟨(some 27), .indexAddr 3 (.t 25) (.t 26), none, .read, 0⟩, ⟨(some 28), .load (some 3) (.t 27), none, .read, 0⟩, ⟨(some 29), .load (some 2) (.t 4), none, .read, 0⟩, ⟨(some 24), .move (.t 2), none, .read, 0⟩, ⟨(some 30), .call (.t 24) [(.t 28), (.t 29)], none, .write, 0⟩, ⟨(some 31), .arith .lss (.t 30) (.c (.int .i64 0)), none, .read, 1⟩])
 (.cond (.t 31) (.region [⟨(some 32), .move (.t 11), none, .write, 0⟩, ⟨(some 33), .arith .add (.t 32) (.c (.int .i64 1)), none, .write, 0⟩, ⟨(some 9), .move (.t 33), none, .write, 0⟩]) (.region [⟨(some 34), .move (.t 11), none, .write, 0⟩, ⟨(some 10), .move (.t 34), none, .write, 0⟩]))))))))
 (.seq (.draw [⟨(some 36), .move (.t 9), none, .read, 0⟩, ⟨(some 37), .move (.t 8), none, .read, 0⟩, ⟨(some 38), .arith .lss (.t 36) (.t 37), none, .read, 0⟩, ⟨(some 39), .move (.t 38), none, .read, 0⟩, ⟨(some 41), .move (.t 0), (some (39, true)), .read, 0⟩, ⟨(some 42), .move (.t 9), (some (39, true)), .read, 0⟩, ⟨(some 43), .indexAddr 3 (.t 41) (.t 42), (some (39, true)), .read, 0⟩, ⟨(some 44), .load (some 3) (.t 43), (some (39, true)), .read, 0⟩, ⟨(some 45), .load (some 2) (.t 4), (some (39, true)), .read, 0⟩, ⟨(some 40), .move (.t 2), (some (39, true)), .read, 0⟩, ⟨(some 46), .call (.t 40) [(.t 44), (.t 45)], (some (39, true)), .write, 0⟩, ⟨(some 35), .move (.t 9), none, .read, 0⟩, ⟨(some 47), .arith .eql (.t 46) (.c (.int .i64 0)), (some (39, true)), .read, 1⟩, ⟨(some 48), .pick (.t 39) (.t 47) (.c (.bool false)), none, .read, 1⟩, ⟨(some 6), .move (.t 35), none, .read, 1⟩, ⟨(some 7), .move (.t 48), none, .read, 1⟩])
 .ret))))) }

theorem c37 : compFunc Tryz.prog Tryz.f37 .full = some t37 := by kernel_rfl

/-- broadside/route.own$1 -/
def t38 : DFunc := { ntmps := 15, results := [(.t 4)], mode := .full, body :=
 (.seq (.region [⟨(some 2), .box 57 3 (.t 0), none, .write, 0⟩, ⟨(some 3), .box 23 2 (.t 1), none, .write, 0⟩, ⟨(some 4), .move (.c (.int .i64 0)), none, .write, 0⟩])
 (.seq (.block 0 (.seq (.region [⟨(some 6), .fieldAddr 0 (.t 2), none, .write, 0⟩, ⟨(some 7), .load (some 2) (.t 6), none, .write, 0⟩, ⟨(some 8), .load (some 2) (.t 3), none, .write, 0⟩, ⟨(some 9), .eqa false [1, 1] (.t 7) (.t 8), none, .write, 0⟩, ⟨(some 5), .move (.t 9), none, .write, 0⟩])
 (.cond (.t 5) (.seq (.region [⟨(some 4), .move (.c (.int .i64 0)), none, .write, 0⟩])
 .ret) (.seq (.region [⟨(some 11), .fieldAddr 0 (.t 2), none, .write, 0⟩, ⟨(some 12), .load (some 2) (.t 11), none, .write, 0⟩, ⟨(some 13), .load (some 2) (.t 3), none, .write, 0⟩, ⟨(some 14), .call (.c (.func 39 [])) [(.t 12), (.t 13)], none, .write, 0⟩, ⟨(some 10), .move (.t 14), none, .write, 0⟩])
 (.cond (.t 10) (.seq (.region [⟨(some 4), .move (.c (.int .i64 (-1))), none, .write, 0⟩])
 .ret) .skip)))))
 (.seq (.region [⟨(some 4), .move (.c (.int .i64 1)), none, .write, 0⟩])
 .ret))) }

theorem c38 : compFunc Tryz.prog Tryz.f38 .full = some t38 := by kernel_rfl

/-- broadside/adverts.Less -/
def t39 : DFunc := { ntmps := 9, results := [(.t 4)], mode := .full, body :=
 (.seq (.region [⟨(some 2), .box 23 2 (.t 0), none, .write, 0⟩, ⟨(some 3), .box 23 2 (.t 1), none, .write, 0⟩, ⟨(some 4), .move (.c (.bool false)), none, .write, 0⟩])
 (.seq (.region [⟨(some 5), .load (some 2) (.t 2), none, .write, 0⟩, ⟨(some 6), .load (some 2) (.t 3), none, .write, 0⟩, ⟨(some 7), .call (.c (.func 28 [])) [(.t 5), (.t 6)], none, .write, 0⟩, ⟨(some 8), .arith .lss (.t 7) (.c (.int .i64 0)), none, .write, 0⟩, ⟨(some 4), .move (.t 8), none, .write, 0⟩])
 .ret)) }

theorem c39 : compFunc Tryz.prog Tryz.f39 .full = some t39 := by kernel_rfl

/-- slices.rotateRight[broadside/api.Own] -/
def t41 : DFunc := { ntmps := 10, results := [], mode := .full, body :=
 (.region [⟨(some 4), .move (.t 0), none, .write, 0⟩, ⟨(some 5), .move (.t 0), none, .write, 0⟩, ⟨(some 6), .len 1 (.t 5), none, .write, 0⟩, ⟨(some 7), .move (.t 1), none, .write, 0⟩, ⟨(some 8), .arith .sub (.t 6) (.t 7), none, .write, 0⟩, ⟨(some 9), .call (.c (.func 62 [])) [(.t 4), (.t 8)], none, .write, 0⟩]) }

theorem c41 : compFunc Tryz.prog Tryz.f41 .full = some t41 := by kernel_rfl

/-- broadside/rel.Joint -/
def t42 : DFunc := { ntmps := 21, results := [(.t 4), (.t 5)], mode := .full, body :=
 (.seq (.region [⟨(some 4), .move (.c .nsl), none, .write, 0⟩, ⟨(some 5), .move (.c (.bool false)), none, .write, 0⟩])
 (.seq (.region [⟨(some 9), .buildSlice 126 5 (.agg [(.str []), (.int .i64 0), (.int .i64 0), (.int .i64 0), (.str [])]) 0 [], none, .write, 0⟩, ⟨(some 10), .move (.t 0), none, .write, 0⟩, ⟨(some 11), .append 126 5 56 (.t 9) (.t 10), none, .write, 0⟩, ⟨(some 12), .move (.t 1), none, .write, 0⟩, ⟨(some 13), .append 126 5 56 (.t 11) (.t 12), none, .write, 0⟩, ⟨(some 14), .call (.c (.func 63 [])) [(.t 13)], none, .write, 0⟩, ⟨(some 8), .move (.t 14), none, .write, 0⟩, ⟨(some 15), .extract (.t 8) 0, none, .write, 0⟩, ⟨(some 16), .extract (.t 8) 1, none, .write, 0⟩, ⟨(some 6), .move (.t 15), none, .write, 0⟩, ⟨(some 7), .move (.t 16), none, .write, 0⟩])
 (.seq (.seq (.region [⟨(some 17), .move (.t 7), none, .write, 0⟩, ⟨(some 18), .eqn 4 true (.t 17) (.c .nili), none, .write, 0⟩])
 (.cond (.t 18) (.seq (.region [⟨(some 4), .move (.c .nsl), none, .write, 0⟩, ⟨(some 5), .move (.c (.bool false)), none, .write, 0⟩])
 .ret) .skip))
 (.seq (.region [⟨(some 19), .move (.t 6), none, .write, 0⟩, ⟨(some 20), .call (.c (.func 64 [])) [(.t 19)], none, .write, 0⟩, ⟨(some 4), .move (.t 20), none, .write, 0⟩, ⟨(some 5), .move (.c (.bool true)), none, .write, 0⟩])
 .ret)))) }

theorem c42 : compFunc Tryz.prog Tryz.f42 .full = some t42 := by kernel_rfl

/-- broadside/adverts.Find -/
def t43 : DFunc := { ntmps := 22, results := [(.cell 4 (some 4)), (.t 5)], mode := .full, body :=
 (.seq (.region [⟨(some 2), .box 30 6 (.t 0), none, .write, 0⟩, ⟨(some 3), .box 23 2 (.t 1), none, .write, 0⟩, ⟨(some 4), .alloc 36 4 (.agg [(.int .i64 0), (.int .i64 0), .nsl, (.int .i64 0)]), none, .write, 0⟩, ⟨(some 5), .move (.c (.bool false)), none, .write, 0⟩])
 (.seq (.region [⟨(some 9), .load (some 6) (.t 2), none, .write, 0⟩, ⟨(some 10), .load (some 2) (.t 3), none, .write, 0⟩, ⟨(some 11), .call (.c (.func 11 [])) [(.t 9), (.t 10)], none, .write, 0⟩, ⟨(some 8), .move (.t 11), none, .write, 0⟩, ⟨(some 12), .extract (.t 8) 0, none, .write, 0⟩, ⟨(some 13), .extract (.t 8) 1, none, .write, 0⟩, ⟨(some 6), .move (.t 12), none, .write, 0⟩, ⟨(some 7), .move (.t 13), none, .write, 0⟩])
 (.seq (.seq (.region [⟨(some 14), .move (.t 7), none, .write, 0⟩, ⟨(some 15), .un .not (.t 14), none, .write, 0⟩])
 (.cond (.t 15) (.seq (.region [⟨(some 16), .build [(.int .i64 0), (.int .i64 0), .nsl, (.int .i64 0)] [], none, .write, 0⟩, ⟨none, .store 4 (.t 4) (.t 16), none, .write, 0⟩, ⟨(some 5), .move (.c (.bool false)), none, .write, 0⟩])
 .ret) .skip))
 (.seq (.region [⟨(some 17), .fieldAddr 2 (.t 2), none, .write, 0⟩, ⟨(some 18), .load none (.t 17), none, .write, 0⟩, ⟨(some 19), .move (.t 6), none, .write, 0⟩, ⟨(some 20), .indexAddr 4 (.t 18) (.t 19), none, .write, 0⟩, ⟨(some 21), .load (some 4) (.t 20), none, .write, 0⟩, ⟨none, .store 4 (.t 4) (.t 21), none, .write, 0⟩, ⟨(some 5), .move (.c (.bool true)), none, .write, 0⟩])
 .ret)))) }

theorem c43 : compFunc Tryz.prog Tryz.f43 .full = some t43 := by kernel_rfl

/-- broadside/subs.Add -/
def t44 : DFunc := { ntmps := 73, results := [(.cell 4 (some 6)), (.t 5)], mode := .full, body :=
 (.seq (.region [⟨(some 2), .box 30 6 (.t 0), none, .write, 0⟩, ⟨(some 3), .box 62 7 (.t 1), none, .write, 0⟩, ⟨(some 4), .alloc 30 6 (.agg [(.int .i64 0), .nsl, .nsl, .nsl, .nsl, .nsl]), none, .write, 0⟩, ⟨(some 5), .move (.c (.bool false)), none, .write, 0⟩])
 (.seq (.region [⟨(some 11), .fieldAddr 4 (.t 2), none, .write, 0⟩, ⟨(some 12), .load none (.t 11), none, .write, 0⟩, ⟨(some 13), .call (.c (.func 26 [])) [(.t 12)], none, .write, 0⟩, ⟨(some 14), .fieldAddr 4 (.t 2), none, .write, 0⟩, ⟨none, .store 1 (.t 14) (.t 13), none, .write, 0⟩])
 (.seq (.region [⟨(some 16), .load (some 6) (.t 2), none, .write, 0⟩, ⟨(some 17), .fieldAddr 0 (.t 3), none, .write, 0⟩, ⟨(some 18), .load (some 2) (.t 17), none, .write, 0⟩, ⟨(some 19), .call (.c (.func 43 [])) [(.t 16), (.t 18)], none, .write, 0⟩, ⟨(some 15), .move (.t 19), none, .write, 0⟩, ⟨(some 20), .extract (.t 15) 0, none, .write, 0⟩, ⟨(some 21), .extract (.t 15) 1, none, .write, 0⟩, ⟨(some 6), .alloc 36 4 (.agg [(.int .i64 0), (.int .i64 0), .nsl, (.int .i64 0)]), none, .write, 0⟩, ⟨none, .store 4 (.t 6) (.t 20), none, .write, 0⟩, ⟨(some 7), .move (.t 21), none, .write, 0⟩])
 (.seq (.region [⟨(some 23), .load (some 6) (.t 2), none, .write, 0⟩, ⟨(some 24), .fieldAddr 0 (.t 3), none, .write, 0⟩, ⟨(some 25), .load (some 2) (.t 24), none, .write, 0⟩, ⟨(some 26), .fieldAddr 2 (.t 3), none, .write, 0⟩, ⟨(some 27), .load (some 2) (.t 26), none, .write, 0⟩, ⟨(some 28), .call (.c (.func 65 [])) [(.t 23), (.t 25), (.t 27)], none, .write, 0⟩, ⟨(some 22), .move (.t 28), none, .write, 0⟩, ⟨(some 29), .extract (.t 22) 0, none, .write, 0⟩, ⟨(some 30), .extract (.t 22) 1, none, .write, 0⟩, ⟨(some 8), .move (.t 29), none, .write, 0⟩, ⟨(some 9), .move (.t 30), none, .write, 0⟩])
 (.seq (.region [⟨(some 31), .fieldAddr 3 (.t 6), none, .write, 0⟩, ⟨(some 32), .load none (.t 31), none, .write, 0⟩, ⟨(some 33), .arith .eql (.t 32) (.c (.int .i64 (-1))), none, .write, 0⟩, ⟨(some 10), .move (.t 33), none, .write, 0⟩])
 (.seq (.seq (.region [⟨(some 34), .move (.t 7), none, .write, 0⟩, ⟨(some 35), .un .not (.t 34), none, .write, 0⟩, ⟨(some 36), .move (.t 35), none, .write, 0⟩, ⟨(some 37), .move (.t 9), (some (36, false)), .write, 0⟩, ⟨(some 38), .pick (.t 36) (.c (.bool true)) (.t 37), none, .write, 0⟩, ⟨(some 39), .move (.t 38), none, .write, 0⟩, ⟨(some 40), .fieldAddr 5 (.t 3), (some (39, false)), .write, 0⟩, ⟨(some 41), .load none (.t 40), (some (39, false)), .write, 0⟩, ⟨(some 42), .fieldAddr 3 (.t 6), (some (39, false)), .write, 0⟩, ⟨(some 43), .load none (.t 42), (some (39, false)), .write, 0⟩, ⟨(some 44), .arith .eql (.t 41) (.t 43), (some (39, false)), .write, 0⟩, ⟨(some 45), .move (.t 44), (some (39, false)), .write, 0⟩, ⟨(some 46), .move (.t 10), (some (45, true)), .write, 0⟩, ⟨(some 47), .un .not (.t 46), (some (45, true)), .write, 0⟩, ⟨(some 48), .pick (.t 45) (.t 47) (.c (.bool false)), (some (39, false)), .write, 0⟩, ⟨(some 49), .pick (.t 39) (.c (.bool true)) (.t 48), none, .write, 0⟩])
 (.cond (.t 49) (.seq (.region [⟨(some 50), .load (some 6) (.t 2), none, .write, 0⟩, ⟨none, .store 6 (.t 4) (.t 50), none, .write, 0⟩, ⟨(some 5), .move (.c (.bool false)), none, .write, 0⟩])
 .ret) .skip))
 (.seq (.region [⟨(some 51), .move (.t 10), none, .write, 0⟩, ⟨(some 52), .un .not (.t 51), none, .write, 0⟩, ⟨(some 53), .move (.t 52), none, .write, 0⟩, ⟨(some 54), .load (some 6) (.t 2), (some (53, true)), .write, 0⟩, ⟨(some 55), .fieldAddr 0 (.t 3), (some (53, true)), .write, 0⟩, ⟨(some 56), .load (some 2) (.t 55), (some (53, true)), .write, 0⟩, ⟨(some 57), .fieldAddr 4 (.t 3), (some (53, true)), .write, 0⟩, ⟨(some 58), .load none (.t 57), (some (53, true)), .write, 0⟩, ⟨(some 59), .call (.c (.func 66 [])) [(.t 54), (.t 56), (.t 58)], (some (53, true)), .write, 0⟩, ⟨(some 60), .un .not (.t 59), (some (53, true)), .write, 0⟩, ⟨(some 61), .pick (.t 53) (.t 60) (.c (.bool false)), none, .write, 0⟩, ⟨(some 62), .fieldAddr 6 (.t 3), none, .write, 0⟩, ⟨none, .store 1 (.t 62) (.t 61), none, .write, 0⟩])
 (.seq (.region [⟨(some 63), .fieldAddr 4 (.t 2), none, .write, 0⟩, ⟨(some 64), .load none (.t 63), none, .write, 0⟩, ⟨(some 65), .move (.t 8), none, .write, 0⟩, ⟨(some 66), .load (some 7) (.t 3), none, .write, 0⟩, ⟨(some 67), .buildSlice 62 7 (.agg [(.int .i64 0), (.int .i64 0), (.int .i64 0), (.int .i64 0), .nsl, (.int .i64 0), (.bool false)]) 1 [(0, (.t 66))], none, .write, 0⟩, ⟨(some 68), .call (.c (.func 67 [])) [(.t 64), (.t 65), (.t 67)], none, .write, 0⟩, ⟨(some 69), .fieldAddr 4 (.t 2), none, .write, 0⟩, ⟨none, .store 1 (.t 69) (.t 68), none, .write, 0⟩])
 (.seq (.draw [⟨(some 70), .load (some 6) (.t 2), none, .read, 0⟩, ⟨(some 71), .fieldAddr 6 (.t 3), none, .read, 0⟩, ⟨(some 72), .load none (.t 71), none, .read, 0⟩, ⟨none, .store 6 (.t 4) (.t 70), none, .create, 0⟩, ⟨(some 5), .move (.t 72), none, .read, 1⟩])
 .ret))))))))) }

theorem c44 : compFunc Tryz.prog Tryz.f44 .full = some t44 := by kernel_rfl

/-- broadside/flood.Sub -/
def t45 : DFunc := { ntmps := 10, results := [(.cell 2 (some 7))], mode := .full, body :=
 (.seq (.region [⟨(some 1), .box 62 7 (.t 0), none, .write, 0⟩, ⟨(some 2), .alloc 43 7 (.agg [(.int .i64 0), (.int .i64 0), (.int .i64 0), (.int .i64 0), (.int .i64 0), .nsl, .nsl]), none, .write, 0⟩])
 (.seq (.region [⟨(some 3), .fieldAddr 0 (.t 1), none, .write, 0⟩, ⟨(some 4), .load (some 2) (.t 3), none, .write, 0⟩, ⟨(some 5), .fieldAddr 2 (.t 1), none, .write, 0⟩, ⟨(some 6), .load (some 2) (.t 5), none, .write, 0⟩, ⟨(some 7), .fieldAddr 4 (.t 1), none, .write, 0⟩, ⟨(some 8), .load none (.t 7), none, .write, 0⟩, ⟨(some 9), .build [(.int .i64 0), (.int .i64 0), (.int .i64 0), (.int .i64 0), (.int .i64 0), .nsl, .nsl] [(0, 1, (.c (.int .i64 3))), (1, 2, (.t 4)), (3, 2, (.t 6)), (5, 1, (.t 8))], none, .write, 0⟩, ⟨none, .store 7 (.t 2) (.t 9), none, .write, 0⟩])
 .ret)) }

theorem c45 : compFunc Tryz.prog Tryz.f45 .full = some t45 := by kernel_rfl

/-- broadside/subs.Take -/
def t46 : DFunc := { ntmps := 96, results := [(.cell 8 (some 6)), (.t 9), (.t 10)], mode := .full, body :=
 (.seq (.region [⟨(some 4), .box 30 6 (.t 0), none, .write, 0⟩, ⟨(some 5), .box 23 2 (.t 1), none, .write, 0⟩, ⟨(some 6), .box 23 2 (.t 2), none, .write, 0⟩, ⟨(some 8), .alloc 30 6 (.agg [(.int .i64 0), .nsl, .nsl, .nsl, .nsl, .nsl]), none, .write, 0⟩, ⟨(some 9), .move (.c .nsl), none, .write, 0⟩, ⟨(some 10), .move (.c (.bool false)), none, .write, 0⟩])
 (.seq (.region [⟨(some 15), .fieldAddr 4 (.t 4), none, .write, 0⟩, ⟨(some 16), .load none (.t 15), none, .write, 0⟩, ⟨(some 17), .call (.c (.func 26 [])) [(.t 16)], none, .write, 0⟩, ⟨(some 18), .fieldAddr 4 (.t 4), none, .write, 0⟩, ⟨none, .store 1 (.t 18) (.t 17), none, .write, 0⟩])
 (.seq (.region [⟨(some 20), .load (some 6) (.t 4), none, .write, 0⟩, ⟨(some 21), .load (some 2) (.t 5), none, .write, 0⟩, ⟨(some 22), .load (some 2) (.t 6), none, .write, 0⟩, ⟨(some 23), .call (.c (.func 65 [])) [(.t 20), (.t 21), (.t 22)], none, .write, 0⟩, ⟨(some 19), .move (.t 23), none, .write, 0⟩, ⟨(some 24), .extract (.t 19) 0, none, .write, 0⟩, ⟨(some 25), .extract (.t 19) 1, none, .write, 0⟩, ⟨(some 11), .move (.t 24), none, .write, 0⟩, ⟨(some 12), .move (.t 25), none, .write, 0⟩])
 (.seq (.seq (.region [⟨(some 26), .move (.t 12), none, .write, 0⟩, ⟨(some 27), .un .not (.t 26), none, .write, 0⟩, ⟨(some 28), .move (.t 27), none, .write, 0⟩, ⟨(some 29), .fieldAddr 4 (.t 4), (some (28, false)), .write, 0⟩, ⟨(some 30), .load none (.t 29), (some (28, false)), .write, 0⟩, ⟨(some 31), .move (.t 11), (some (28, false)), .write, 0⟩, ⟨(some 32), .indexAddr 7 (.t 30) (.t 31), (some (28, false)), .write, 0⟩, ⟨(some 33), .fieldAddr 5 (.t 32), (some (28, false)), .write, 0⟩, ⟨(some 34), .load none (.t 33), (some (28, false)), .write, 0⟩, ⟨(some 35), .move (.t 3), (some (28, false)), .write, 0⟩, ⟨(some 36), .arith .neq (.t 34) (.t 35), (some (28, false)), .write, 0⟩, ⟨(some 37), .pick (.t 28) (.c (.bool true)) (.t 36), none, .write, 0⟩])
 (.cond (.t 37) (.seq (.region [⟨(some 38), .load (some 6) (.t 4), none, .write, 0⟩, ⟨none, .store 6 (.t 8) (.t 38), none, .write, 0⟩, ⟨(some 9), .move (.c .nsl), none, .write, 0⟩, ⟨(some 10), .move (.c (.bool false)), none, .write, 0⟩])
 .ret) .skip))
 (.seq (.region [⟨(some 39), .fieldAddr 4 (.t 4), none, .write, 0⟩, ⟨(some 40), .load none (.t 39), none, .write, 0⟩, ⟨(some 41), .move (.t 11), none, .write, 0⟩, ⟨(some 42), .indexAddr 7 (.t 40) (.t 41), none, .write, 0⟩, ⟨(some 43), .fieldAddr 6 (.t 42), none, .write, 0⟩, ⟨(some 44), .load none (.t 43), none, .write, 0⟩, ⟨(some 10), .move (.t 44), none, .write, 0⟩])
 (.seq (.region [⟨(some 45), .fieldAddr 4 (.t 4), none, .write, 0⟩, ⟨(some 46), .load none (.t 45), none, .write, 0⟩, ⟨(some 47), .move (.t 11), none, .write, 0⟩, ⟨(some 48), .move (.t 11), none, .write, 0⟩, ⟨(some 49), .arith .add (.t 48) (.c (.int .i64 1)), none, .write, 0⟩, ⟨(some 50), .call (.c (.func 68 [])) [(.t 46), (.t 47), (.t 49)], none, .write, 0⟩, ⟨(some 51), .fieldAddr 4 (.t 4), none, .write, 0⟩, ⟨none, .store 1 (.t 51) (.t 50), none, .write, 0⟩])
 (.seq (.seq (.region [⟨(some 52), .move (.t 10), none, .write, 0⟩, ⟨(some 53), .un .not (.t 52), none, .write, 0⟩])
 (.cond (.t 53) (.seq (.region [⟨(some 54), .load (some 6) (.t 4), none, .write, 0⟩, ⟨none, .store 6 (.t 8) (.t 54), none, .write, 0⟩, ⟨(some 9), .move (.c .nsl), none, .write, 0⟩, ⟨(some 10), .move (.c (.bool false)), none, .write, 0⟩])
 .ret) .skip))
 (.seq (.seq (.region [⟨(some 55), .fieldAddr 4 (.t 4), none, .write, 0⟩, ⟨(some 56), .load none (.t 55), none, .write, 0⟩, ⟨(some 57), .len 1 (.t 56), none, .write, 0⟩, ⟨(some 58), .move (.c (.int .i64 0)), none, .write, 0⟩])
 (.block 0 (.loop (.seq (.region [⟨(some 59), .arith .lss (.t 58) (.t 57), none, .write, 0⟩])
 (.seq (.cond (.t 59) .skip (.exit 0))
 (.seq (.block 1 (.seq (.region [⟨(some 60), .move (.t 58), none, .write, 0⟩, ⟨(some 61), .indexAddr 7 (.t 56) (.t 58), none, .write, 0⟩, ⟨(some 62), .load (some 7) (.t 61), none, .write, 0⟩, ⟨(some 14), .alloc 62 7 (.agg [(.int .i64 0), (.int .i64 0), (.int .i64 0), (.int .i64 0), .nsl, (.int .i64 0), (.bool false)]), none, .write, 0⟩, ⟨(some 13), .move (.t 60), none, .write, 0⟩, ⟨none, .store 7 (.t 14) (.t 62), none, .write, 0⟩])
 (.seq (.region [⟨(some 63), .fieldAddr 0 (.t 14), none, .write, 0⟩, ⟨(some 64), .load (some 2) (.t 63), none, .write, 0⟩, ⟨(some 65), .load (some 2) (.t 5), none, .write, 0⟩, ⟨(some 66), .eqa false [1, 1] (.t 64) (.t 65), none, .write, 0⟩, ⟨(some 67), .move (.t 66), none, .write, 0⟩, ⟨(some 68), .fieldAddr 6 (.t 14), (some (67, true)), .write, 0⟩, ⟨(some 69), .load none (.t 68), (some (67, true)), .write, 0⟩, ⟨(some 70), .un .not (.t 69), (some (67, true)), .write, 0⟩, ⟨(some 71), .pick (.t 67) (.t 70) (.c (.bool false)), none, .write, 0⟩, ⟨(some 72), .move (.t 71), none, .write, 0⟩, ⟨(some 73), .load (some 6) (.t 4), (some (72, true)), .write, 0⟩, ⟨(some 74), .load (some 2) (.t 5), (some (72, true)), .write, 0⟩, ⟨(some 75), .fieldAddr 4 (.t 14), (some (72, true)), .write, 0⟩, ⟨(some 76), .load none (.t 75), (some (72, true)), .write, 0⟩, ⟨(some 77), .call (.c (.func 66 [])) [(.t 73), (.t 74), (.t 76)], (some (72, true)), .write, 0⟩, ⟨(some 78), .un .not (.t 77), (some (72, true)), .write, 0⟩, ⟨(some 79), .pick (.t 72) (.t 78) (.c (.bool false)), none, .write, 0⟩])
 (.cond (.t 79) (.seq (.region [⟨(some 80), .fieldAddr 4 (.t 4), none, .write, 0⟩, ⟨(some 81), .load none (.t 80), none, .write, 0⟩, ⟨(some 82), .move (.t 13), none, .write, 0⟩, ⟨(some 83), .indexAddr 7 (.t 81) (.t 82), none, .write, 0⟩, ⟨(some 84), .fieldAddr 6 (.t 83), none, .write, 0⟩, ⟨none, .store 1 (.t 84) (.c (.bool true)), none, .write, 0⟩])
 (.region [⟨(some 85), .move (.t 9), none, .write, 0⟩, ⟨(some 86), .fieldAddr 4 (.t 4), none, .write, 0⟩, ⟨(some 87), .load none (.t 86), none, .write, 0⟩, ⟨(some 88), .move (.t 13), none, .write, 0⟩, ⟨(some 89), .indexAddr 7 (.t 87) (.t 88), none, .write, 0⟩, ⟨(some 90), .load (some 7) (.t 89), none, .write, 0⟩, ⟨(some 91), .buildSlice 62 7 (.agg [(.int .i64 0), (.int .i64 0), (.int .i64 0), (.int .i64 0), .nsl, (.int .i64 0), (.bool false)]) 1 [(0, (.t 90))], none, .write, 0⟩, ⟨(some 92), .append 62 7 72 (.t 85) (.t 91), none, .write, 0⟩, ⟨(some 9), .move (.t 92), none, .write, 0⟩])) .skip))))
 (.region [⟨(some 93), .arith .add (.t 58) (.c (.int .i64 1)), none, .write, 0⟩, ⟨(some 58), .move (.t 93), none, .write, 0⟩])))))))
 (.seq (.region [⟨(some 94), .load (some 6) (.t 4), none, .write, 0⟩, ⟨(some 95), .move (.t 9), none, .write, 0⟩, ⟨none, .store 6 (.t 8) (.t 94), none, .write, 0⟩, ⟨(some 9), .move (.t 95), none, .write, 0⟩, ⟨(some 10), .move (.c (.bool true)), none, .write, 0⟩])
 .ret))))))))) }

theorem c46 : compFunc Tryz.prog Tryz.f46 .full = some t46 := by kernel_rfl

end Go.Dm.TabR
