/-
The table of functions, brought into the machine's form (TabN, part 1). Written by program (wip/tools/table.lean.txt).
-/
import Derived.Test.YtdacnhfdcejahaaGreatDoorDm32
import Derived.Test.YtdacnhfdcejahaaGreatDoorRows
import Derived.KernelRfl
namespace Go.Dm.TabN
open Go.Proofs

/-- broadside/flood.Unadvertise -/
def t103 : DFunc := { ntmps := 26, results := [(.cell 6 (some 6)), (.t 7)], mode := .full, body :=
 (.seq (.region [⟨(some 3), .box 28 6 (.t 0), none, .write, 0⟩, ⟨(some 5), .box 45 2 (.t 2), none, .write, 0⟩, ⟨(some 6), .alloc 28 6 (.agg [(.int .i64 0), .nsl, .nsl, .nsl, .nsl, .nsl]), none, .write, 0⟩, ⟨(some 7), .move (.c .nsl), none, .write, 0⟩])
 (.seq (.region [⟨(some 11), .load (some 6) (.t 3), none, .write, 0⟩, ⟨(some 12), .load (some 2) (.t 5), none, .write, 0⟩, ⟨(some 13), .move (.t 1), none, .write, 0⟩, ⟨(some 14), .call (.c (.func 194 [])) [(.t 11), (.t 12), (.t 13)], none, .write, 0⟩, ⟨(some 10), .move (.t 14), none, .write, 0⟩, ⟨(some 15), .extract (.t 10) 0, none, .write, 0⟩, ⟨(some 16), .extract (.t 10) 1, none, .write, 0⟩, ⟨(some 8), .alloc 28 6 (.agg [(.int .i64 0), .nsl, .nsl, .nsl, .nsl, .nsl]), none, .write, 0⟩, ⟨none, .store 6 (.t 8) (.t 15), none, .write, 0⟩, ⟨(some 9), .move (.t 16), none, .write, 0⟩])
 (.seq (.seq (.region [⟨(some 17), .move (.t 9), none, .write, 0⟩, ⟨(some 18), .un .not (.t 17), none, .write, 0⟩])
 (.cond (.t 18) (.seq (.region [⟨(some 19), .load (some 6) (.t 3), none, .write, 0⟩, ⟨none, .store 6 (.t 6) (.t 19), none, .write, 0⟩, ⟨(some 7), .move (.c .nsl), none, .write, 0⟩])
 .ret) .skip))
 (.seq (.draw [⟨(some 20), .load (some 6) (.t 8), none, .read, 0⟩, ⟨(some 21), .load (some 6) (.t 3), none, .read, 0⟩, ⟨(some 23), .load (some 2) (.t 5), none, .read, 0⟩, ⟨(some 22), .move (.t 1), none, .read, 0⟩, ⟨(some 24), .build [(.int .i64 0), (.int .i64 0), (.int .i64 0), (.int .i64 0), (.int .i64 0), .nsl, .nsl] [(0, 1, (.c (.int .i64 2))), (1, 2, (.t 23))], none, .read, 0⟩, ⟨(some 25), .call (.c (.func 155 [])) [(.t 21), (.t 22), (.t 24)], none, .create, 0⟩, ⟨none, .store 6 (.t 6) (.t 20), none, .write, 1⟩, ⟨(some 7), .move (.t 25), none, .read, 2⟩])
 .ret)))) }

theorem c103 : compFunc Tryz.prog Tryz.f103 .full = some t103 := by kernel_rfl

/-- broadside/route.OnSub -/
def t104 : DFunc := { ntmps := 20, results := [(.cell 6 (some 6)), (.t 7)], mode := .full, body :=
 (.seq (.region [⟨(some 3), .box 28 6 (.t 0), none, .write, 0⟩, ⟨(some 5), .box 49 7 (.t 2), none, .write, 0⟩, ⟨(some 6), .alloc 28 6 (.agg [(.int .i64 0), .nsl, .nsl, .nsl, .nsl, .nsl]), none, .write, 0⟩, ⟨(some 7), .move (.c .nsl), none, .write, 0⟩])
 (.seq (.region [⟨(some 8), .load (some 6) (.t 3), none, .write, 0⟩, ⟨(some 9), .fieldAddr 1 (.t 5), none, .write, 0⟩, ⟨(some 10), .load (some 2) (.t 9), none, .write, 0⟩, ⟨(some 11), .fieldAddr 3 (.t 5), none, .write, 0⟩, ⟨(some 12), .load (some 2) (.t 11), none, .write, 0⟩, ⟨(some 13), .fieldAddr 5 (.t 5), none, .write, 0⟩, ⟨(some 14), .load none (.t 13), none, .write, 0⟩, ⟨(some 15), .move (.t 1), none, .write, 0⟩, ⟨(some 16), .build [(.int .i64 0), (.int .i64 0), (.int .i64 0), (.int .i64 0), .nsl, (.int .i64 0), (.bool false)] [(0, 2, (.t 10)), (2, 2, (.t 12)), (4, 1, (.t 14)), (5, 1, (.t 15))], none, .write, 0⟩, ⟨(some 17), .call (.c (.func 164 [])) [(.t 8), (.t 16)], none, .write, 0⟩, ⟨(some 18), .extract (.t 17) 0, none, .write, 0⟩, ⟨(some 19), .extract (.t 17) 1, none, .write, 0⟩, ⟨none, .store 6 (.t 6) (.t 18), none, .write, 0⟩, ⟨(some 7), .move (.t 19), none, .write, 0⟩])
 .ret)) }

theorem c104 : compFunc Tryz.prog Tryz.f104 .full = some t104 := by kernel_rfl

/-- broadside/route.OnUnsub -/
def t105 : DFunc := { ntmps := 17, results := [(.cell 6 (some 6)), (.t 7)], mode := .full, body :=
 (.seq (.region [⟨(some 3), .box 28 6 (.t 0), none, .write, 0⟩, ⟨(some 5), .box 49 7 (.t 2), none, .write, 0⟩, ⟨(some 6), .alloc 28 6 (.agg [(.int .i64 0), .nsl, .nsl, .nsl, .nsl, .nsl]), none, .write, 0⟩, ⟨(some 7), .move (.c .nsl), none, .write, 0⟩])
 (.seq (.region [⟨(some 8), .load (some 6) (.t 3), none, .write, 0⟩, ⟨(some 9), .fieldAddr 1 (.t 5), none, .write, 0⟩, ⟨(some 10), .load (some 2) (.t 9), none, .write, 0⟩, ⟨(some 11), .fieldAddr 3 (.t 5), none, .write, 0⟩, ⟨(some 12), .load (some 2) (.t 11), none, .write, 0⟩, ⟨(some 13), .move (.t 1), none, .write, 0⟩, ⟨(some 14), .call (.c (.func 195 [])) [(.t 8), (.t 10), (.t 12), (.t 13)], none, .write, 0⟩, ⟨(some 15), .extract (.t 14) 0, none, .write, 0⟩, ⟨(some 16), .extract (.t 14) 1, none, .write, 0⟩, ⟨none, .store 6 (.t 6) (.t 15), none, .write, 0⟩, ⟨(some 7), .move (.t 16), none, .write, 0⟩])
 .ret)) }

theorem c105 : compFunc Tryz.prog Tryz.f105 .full = some t105 := by kernel_rfl

/-- slices.pdqsortOrdered[int] -/
def t106 : DFunc := { ntmps := 134, results := [], mode := .full, body :=
 (.seq (.region [⟨(some 8), .move (.c (.bool true)), none, .write, 0⟩])
 (.seq (.region [⟨(some 9), .move (.c (.bool true)), none, .write, 0⟩])
 (.block 0 (.loop (.block 1 (.seq (.region [⟨(some 19), .move (.t 2), none, .write, 0⟩, ⟨(some 20), .move (.t 1), none, .write, 0⟩, ⟨(some 21), .arith .sub (.t 19) (.t 20), none, .write, 0⟩, ⟨(some 10), .move (.t 21), none, .write, 0⟩])
 (.seq (.seq (.region [⟨(some 22), .move (.t 10), none, .write, 0⟩, ⟨(some 23), .arith .leq (.t 22) (.c (.int .i64 12)), none, .write, 0⟩])
 (.cond (.t 23) (.seq (.region [⟨(some 24), .move (.t 0), none, .write, 0⟩, ⟨(some 25), .move (.t 1), none, .write, 0⟩, ⟨(some 26), .move (.t 2), none, .write, 0⟩, ⟨(some 27), .call (.c (.func 196 [])) [(.t 24), (.t 25), (.t 26)], none, .write, 0⟩])
 .ret) .skip))
 (.seq (.seq (.region [⟨(some 28), .move (.t 3), none, .write, 0⟩, ⟨(some 29), .arith .eql (.t 28) (.c (.int .i64 0)), none, .write, 0⟩])
 (.cond (.t 29) (.seq (.region [⟨(some 30), .move (.t 0), none, .write, 0⟩, ⟨(some 31), .move (.t 1), none, .write, 0⟩, ⟨(some 32), .move (.t 2), none, .write, 0⟩, ⟨(some 33), .call (.c (.func 197 [])) [(.t 30), (.t 31), (.t 32)], none, .write, 0⟩])
 .ret) .skip))
 (.seq (.seq (.region [⟨(some 34), .move (.t 8), none, .write, 0⟩, ⟨(some 35), .un .not (.t 34), none, .write, 0⟩])
 (.cond (.t 35) (.seq (.region [⟨(some 36), .move (.t 0), none, .write, 0⟩, ⟨(some 37), .move (.t 1), none, .write, 0⟩, ⟨(some 38), .move (.t 2), none, .write, 0⟩, ⟨(some 39), .call (.c (.func 198 [])) [(.t 36), (.t 37), (.t 38)], none, .write, 0⟩])
 (.region [⟨(some 40), .move (.t 3), none, .write, 0⟩, ⟨(some 41), .arith .sub (.t 40) (.c (.int .i64 1)), none, .write, 0⟩, ⟨(some 3), .move (.t 41), none, .write, 0⟩])) .skip))
 (.seq (.region [⟨(some 43), .move (.t 0), none, .write, 0⟩, ⟨(some 44), .move (.t 1), none, .write, 0⟩, ⟨(some 45), .move (.t 2), none, .write, 0⟩, ⟨(some 46), .call (.c (.func 199 [])) [(.t 43), (.t 44), (.t 45)], none, .write, 0⟩, ⟨(some 42), .move (.t 46), none, .write, 0⟩, ⟨(some 47), .extract (.t 42) 0, none, .write, 0⟩, ⟨(some 48), .extract (.t 42) 1, none, .write, 0⟩, ⟨(some 11), .move (.t 47), none, .write, 0⟩, ⟨(some 12), .move (.t 48), none, .write, 0⟩])
 (.seq (.seq (.region [⟨(some 49), .move (.t 12), none, .write, 0⟩, ⟨(some 50), .arith .eql (.t 49) (.c (.int .i64 2)), none, .write, 0⟩])
 (.cond (.t 50) (.seq (.region [⟨(some 51), .move (.t 0), none, .write, 0⟩, ⟨(some 52), .move (.t 1), none, .write, 0⟩, ⟨(some 53), .move (.t 2), none, .write, 0⟩, ⟨(some 54), .call (.c (.func 200 [])) [(.t 51), (.t 52), (.t 53)], none, .write, 0⟩])
 (.seq (.region [⟨(some 55), .move (.t 2), none, .write, 0⟩, ⟨(some 56), .arith .sub (.t 55) (.c (.int .i64 1)), none, .write, 0⟩, ⟨(some 57), .move (.t 11), none, .write, 0⟩, ⟨(some 58), .move (.t 1), none, .write, 0⟩, ⟨(some 59), .arith .sub (.t 57) (.t 58), none, .write, 0⟩, ⟨(some 60), .arith .sub (.t 56) (.t 59), none, .write, 0⟩, ⟨(some 11), .move (.t 60), none, .write, 0⟩])
 (.region [⟨(some 12), .move (.c (.int .i64 1)), none, .write, 0⟩]))) .skip))
 (.seq (.seq (.region [⟨(some 61), .move (.t 8), none, .write, 0⟩, ⟨(some 62), .move (.t 61), none, .write, 0⟩, ⟨(some 63), .move (.t 9), (some (62, true)), .write, 0⟩, ⟨(some 64), .pick (.t 62) (.t 63) (.c (.bool false)), none, .write, 0⟩, ⟨(some 65), .move (.t 64), none, .write, 0⟩, ⟨(some 66), .move (.t 12), (some (65, true)), .write, 0⟩, ⟨(some 67), .arith .eql (.t 66) (.c (.int .i64 1)), (some (65, true)), .write, 0⟩, ⟨(some 68), .pick (.t 65) (.t 67) (.c (.bool false)), none, .write, 0⟩])
 (.cond (.t 68) (.seq (.region [⟨(some 69), .move (.t 0), none, .write, 0⟩, ⟨(some 70), .move (.t 1), none, .write, 0⟩, ⟨(some 71), .move (.t 2), none, .write, 0⟩, ⟨(some 72), .call (.c (.func 201 [])) [(.t 69), (.t 70), (.t 71)], none, .write, 0⟩])
 (.cond (.t 72) .ret .skip)) .skip))
 (.seq (.seq (.draw [⟨(some 73), .move (.t 1), none, .read, 0⟩, ⟨(some 74), .arith .gtr (.t 73) (.c (.int .i64 0)), none, .read, 0⟩, ⟨(some 75), .move (.t 74), none, .read, 0⟩, ⟨(some 76), .move (.t 0), (some (75, true)), .read, 0⟩, ⟨(some 77), .move (.t 1), (some (75, true)), .read, 0⟩, ⟨(some 78), .arith .sub (.t 77) (.c (.int .i64 1)), (some (75, true)), .read, 0⟩, ⟨(some 79), .indexAddr 1 (.t 76) (.t 78), (some (75, true)), .read, 0⟩, ⟨(some 80), .load none (.t 79), (some (75, true)), .read, 0⟩, ⟨(some 81), .move (.t 0), (some (75, true)), .read, 0⟩, ⟨(some 82), .move (.t 11), (some (75, true)), .read, 0⟩, ⟨(some 83), .indexAddr 1 (.t 81) (.t 82), (some (75, true)), .read, 0⟩, ⟨(some 84), .load none (.t 83), (some (75, true)), .read, 0⟩, ⟨(some 85), .call (.c (.func 202 [])) [(.t 80), (.t 84)], (some (75, true)), .write, 0⟩, ⟨(some 86), .un .not (.t 85), (some (75, true)), .read, 1⟩, ⟨(some 87), .pick (.t 75) (.t 86) (.c (.bool false)), none, .read, 1⟩])
 (.cond (.t 87) (.seq (.region [⟨(some 88), .move (.t 0), none, .write, 0⟩, ⟨(some 89), .move (.t 1), none, .write, 0⟩, ⟨(some 90), .move (.t 2), none, .write, 0⟩, ⟨(some 91), .move (.t 11), none, .write, 0⟩, ⟨(some 92), .call (.c (.func 203 [])) [(.t 88), (.t 89), (.t 90), (.t 91)], none, .write, 0⟩, ⟨(some 13), .move (.t 92), none, .write, 0⟩])
 (.seq (.region [⟨(some 93), .move (.t 13), none, .write, 0⟩, ⟨(some 1), .move (.t 93), none, .write, 0⟩])
 (.exit 1))) .skip))
 (.seq (.region [⟨(some 95), .move (.t 0), none, .write, 0⟩, ⟨(some 96), .move (.t 1), none, .write, 0⟩, ⟨(some 97), .move (.t 2), none, .write, 0⟩, ⟨(some 98), .move (.t 11), none, .write, 0⟩, ⟨(some 99), .call (.c (.func 204 [])) [(.t 95), (.t 96), (.t 97), (.t 98)], none, .write, 0⟩, ⟨(some 94), .move (.t 99), none, .write, 0⟩, ⟨(some 100), .extract (.t 94) 0, none, .write, 0⟩, ⟨(some 101), .extract (.t 94) 1, none, .write, 0⟩, ⟨(some 14), .move (.t 100), none, .write, 0⟩, ⟨(some 15), .move (.t 101), none, .write, 0⟩])
 (.seq (.region [⟨(some 102), .move (.t 15), none, .write, 0⟩, ⟨(some 9), .move (.t 102), none, .write, 0⟩])
 (.seq (.region [⟨(some 103), .move (.t 14), none, .write, 0⟩, ⟨(some 104), .move (.t 1), none, .write, 0⟩, ⟨(some 105), .arith .sub (.t 103) (.t 104), none, .write, 0⟩, ⟨(some 106), .move (.t 2), none, .write, 0⟩, ⟨(some 107), .move (.t 14), none, .write, 0⟩, ⟨(some 108), .arith .sub (.t 106) (.t 107), none, .write, 0⟩, ⟨(some 16), .move (.t 105), none, .write, 0⟩, ⟨(some 17), .move (.t 108), none, .write, 0⟩])
 (.seq (.region [⟨(some 109), .move (.t 10), none, .write, 0⟩, ⟨(some 110), .arith .quo (.t 109) (.c (.int .i64 8)), none, .write, 0⟩, ⟨(some 18), .move (.t 110), none, .write, 0⟩])
 (.seq (.region [⟨(some 111), .move (.t 16), none, .write, 0⟩, ⟨(some 112), .move (.t 17), none, .write, 0⟩, ⟨(some 113), .arith .lss (.t 111) (.t 112), none, .write, 0⟩])
 (.cond (.t 113) (.seq (.region [⟨(some 114), .move (.t 16), none, .write, 0⟩, ⟨(some 115), .move (.t 18), none, .write, 0⟩, ⟨(some 116), .arith .geq (.t 114) (.t 115), none, .write, 0⟩, ⟨(some 8), .move (.t 116), none, .write, 0⟩])
 (.seq (.region [⟨(some 117), .move (.t 0), none, .write, 0⟩, ⟨(some 118), .move (.t 1), none, .write, 0⟩, ⟨(some 119), .move (.t 14), none, .write, 0⟩, ⟨(some 120), .move (.t 3), none, .write, 0⟩, ⟨(some 121), .call (.c (.func 106 [])) [(.t 117), (.t 118), (.t 119), (.t 120)], none, .write, 0⟩])
 (.region [⟨(some 122), .move (.t 14), none, .write, 0⟩, ⟨(some 123), .arith .add (.t 122) (.c (.int .i64 1)), none, .write, 0⟩, ⟨(some 1), .move (.t 123), none, .write, 0⟩]))) (.seq (.region [⟨(some 124), .move (.t 17), none, .write, 0⟩, ⟨(some 125), .move (.t 18), none, .write, 0⟩, ⟨(some 126), .arith .geq (.t 124) (.t 125), none, .write, 0⟩, ⟨(some 8), .move (.t 126), none, .write, 0⟩])
 (.seq (.region [⟨(some 127), .move (.t 0), none, .write, 0⟩, ⟨(some 128), .move (.t 14), none, .write, 0⟩, ⟨(some 129), .arith .add (.t 128) (.c (.int .i64 1)), none, .write, 0⟩, ⟨(some 130), .move (.t 2), none, .write, 0⟩, ⟨(some 131), .move (.t 3), none, .write, 0⟩, ⟨(some 132), .call (.c (.func 106 [])) [(.t 127), (.t 129), (.t 130), (.t 131)], none, .write, 0⟩])
 (.region [⟨(some 133), .move (.t 14), none, .write, 0⟩, ⟨(some 2), .move (.t 133), none, .write, 0⟩])))))))))))))))))))))) }

theorem c106 : compFunc Tryz.prog Tryz.f106 .full = some t106 := by kernel_rfl

/-- math/bits.Len -/
def t107 : DFunc := { ntmps := 8, results := [(.t 2)], mode := .full, body :=
 (.seq (.region [⟨(some 2), .move (.c (.int .i64 0)), none, .write, 0⟩])
 (.seq (.cond (.c (.bool false)) (.seq (.region [⟨(some 3), .move (.t 0), none, .write, 0⟩, ⟨(some 4), .conv .u32 (.t 3), none, .write, 0⟩, ⟨(some 5), .call (.c (.func 205 [])) [(.t 4)], none, .write, 0⟩, ⟨(some 2), .move (.t 5), none, .write, 0⟩])
 .ret) .skip)
 (.seq (.region [⟨(some 6), .move (.t 0), none, .write, 0⟩, ⟨(some 7), .call (.c (.func 206 [])) [(.t 6)], none, .write, 0⟩, ⟨(some 2), .move (.t 7), none, .write, 0⟩])
 .ret))) }

theorem c107 : compFunc Tryz.prog Tryz.f107 .full = some t107 := by kernel_rfl

/-- broadside/adverts.Less -/
def t124 : DFunc := { ntmps := 9, results := [(.t 4)], mode := .full, body :=
 (.seq (.region [⟨(some 2), .box 45 2 (.t 0), none, .write, 0⟩, ⟨(some 3), .box 45 2 (.t 1), none, .write, 0⟩, ⟨(some 4), .move (.c (.bool false)), none, .write, 0⟩])
 (.seq (.region [⟨(some 5), .load (some 2) (.t 2), none, .write, 0⟩, ⟨(some 6), .load (some 2) (.t 3), none, .write, 0⟩, ⟨(some 7), .call (.c (.func 131 [])) [(.t 5), (.t 6)], none, .write, 0⟩, ⟨(some 8), .arith .lss (.t 7) (.c (.int .i64 0)), none, .write, 0⟩, ⟨(some 4), .move (.t 8), none, .write, 0⟩])
 .ret)) }

theorem c124 : compFunc Tryz.prog Tryz.f124 .full = some t124 := by kernel_rfl

/-- broadside/adverts.compare -/
def t131 : DFunc := { ntmps := 17, results := [(.t 4)], mode := .full, body :=
 (.seq (.region [⟨(some 2), .box 45 2 (.t 0), none, .write, 0⟩, ⟨(some 3), .box 45 2 (.t 1), none, .write, 0⟩, ⟨(some 4), .move (.c (.int .i64 0)), none, .write, 0⟩])
 (.seq (.draw [⟨(some 5), .fieldAddr 0 (.t 2), none, .read, 0⟩, ⟨(some 6), .load none (.t 5), none, .read, 0⟩, ⟨(some 7), .fieldAddr 0 (.t 3), none, .read, 0⟩, ⟨(some 8), .load none (.t 7), none, .read, 0⟩, ⟨(some 9), .call (.c (.func 93 [])) [(.t 6), (.t 8)], none, .create, 0⟩, ⟨(some 10), .fieldAddr 1 (.t 2), none, .read, 0⟩, ⟨(some 11), .load none (.t 10), none, .read, 0⟩, ⟨(some 12), .fieldAddr 1 (.t 3), none, .read, 0⟩, ⟨(some 13), .load none (.t 12), none, .read, 0⟩, ⟨(some 14), .call (.c (.func 93 [])) [(.t 11), (.t 13)], none, .write, 1⟩, ⟨(some 15), .buildSlice 3 1 (.int .i64 0) 2 [(0, (.t 9)), (1, (.t 14))], none, .create, 0⟩, ⟨(some 16), .call (.c (.func 92 [])) [(.t 15)], none, .write, 3⟩, ⟨(some 4), .move (.t 16), none, .read, 4⟩])
 .ret)) }

theorem c131 : compFunc Tryz.prog Tryz.f131 .full = some t131 := by kernel_rfl

/-- slices.ContainsFunc[[]broadside/api.Entry,broadside/api.Entry] -/
def t137 : DFunc := { ntmps := 9, results := [(.t 4)], mode := .full, body :=
 (.seq (.region [⟨(some 4), .move (.c (.bool false)), none, .write, 0⟩])
 (.seq (.region [⟨(some 5), .move (.t 0), none, .write, 0⟩, ⟨(some 6), .move (.t 1), none, .write, 0⟩, ⟨(some 7), .call (.c (.func 215 [])) [(.t 5), (.t 6)], none, .write, 0⟩, ⟨(some 8), .arith .geq (.t 7) (.c (.int .i64 0)), none, .write, 0⟩, ⟨(some 4), .move (.t 8), none, .write, 0⟩])
 .ret)) }

theorem c137 : compFunc Tryz.prog Tryz.f137 .full = some t137 := by kernel_rfl

/-- broadside/subs.Covered -/
def t142 : DFunc := { ntmps := 12, results := [(.t 6)], mode := .full, body :=
 (.seq (.region [⟨(some 3), .box 28 6 (.t 0), none, .write, 0⟩, ⟨(some 4), .box 45 2 (.t 1), none, .write, 0⟩, ⟨(some 5), .box 46 1 (.t 2), none, .write, 0⟩, ⟨(some 6), .move (.c (.bool false)), none, .write, 0⟩])
 (.seq (.region [⟨(some 7), .load (some 6) (.t 3), none, .write, 0⟩, ⟨(some 8), .load (some 2) (.t 4), none, .write, 0⟩, ⟨(some 9), .call (.c (.func 217 [])) [(.t 7), (.t 8)], none, .write, 0⟩, ⟨(some 10), .makeFunc 218 [(.t 5)], none, .write, 0⟩, ⟨(some 11), .call (.c (.func 137 [])) [(.t 9), (.t 10)], none, .write, 0⟩, ⟨(some 6), .move (.t 11), none, .write, 0⟩])
 .ret)) }

theorem c142 : compFunc Tryz.prog Tryz.f142 .full = some t142 := by kernel_rfl

/-- broadside/rel.Meets -/
def t148 : DFunc := { ntmps := 14, results := [(.t 4)], mode := .full, body :=
 (.seq (.region [⟨(some 4), .move (.c (.bool false)), none, .write, 0⟩])
 (.seq (.region [⟨(some 8), .move (.t 0), none, .write, 0⟩, ⟨(some 9), .move (.t 1), none, .write, 0⟩, ⟨(some 10), .call (.c (.func 225 [])) [(.t 8), (.t 9)], none, .write, 0⟩, ⟨(some 7), .move (.t 10), none, .write, 0⟩, ⟨(some 11), .extract (.t 7) 0, none, .write, 0⟩, ⟨(some 12), .extract (.t 7) 1, none, .write, 0⟩, ⟨(some 5), .move (.t 11), none, .write, 0⟩, ⟨(some 6), .move (.t 12), none, .write, 0⟩])
 (.seq (.region [⟨(some 13), .move (.t 6), none, .write, 0⟩, ⟨(some 4), .move (.t 13), none, .write, 0⟩])
 .ret))) }

theorem c148 : compFunc Tryz.prog Tryz.f148 .full = some t148 := by kernel_rfl

/-- broadside/graph.joined -/
def t151 : DFunc := { ntmps := 14, results := [(.cell 2 (some 2))], mode := .full, body :=
 (.seq (.region [⟨(some 1), .box 64 2 (.t 0), none, .write, 0⟩, ⟨(some 2), .alloc 64 2 (.agg [(.int .i64 0), (.int .i64 0)]), none, .write, 0⟩])
 (.seq (.region [⟨(some 3), .indexArr 2 1 (.t 1) (.c (.int .i64 0)), none, .write, 0⟩, ⟨(some 4), .load none (.t 3), none, .write, 0⟩, ⟨(some 5), .indexArr 2 1 (.t 1) (.c (.int .i64 1)), none, .write, 0⟩, ⟨(some 6), .load none (.t 5), none, .write, 0⟩, ⟨(some 7), .minmax false (.t 4) (.t 6), none, .write, 0⟩, ⟨(some 8), .indexArr 2 1 (.t 1) (.c (.int .i64 0)), none, .write, 0⟩, ⟨(some 9), .load none (.t 8), none, .write, 0⟩, ⟨(some 10), .indexArr 2 1 (.t 1) (.c (.int .i64 1)), none, .write, 0⟩, ⟨(some 11), .load none (.t 10), none, .write, 0⟩, ⟨(some 12), .minmax true (.t 9) (.t 11), none, .write, 0⟩, ⟨(some 13), .build [(.int .i64 0), (.int .i64 0)] [(0, 1, (.t 7)), (1, 1, (.t 12))], none, .write, 0⟩, ⟨none, .store 2 (.t 2) (.t 13), none, .write, 0⟩])
 .ret)) }

theorem c151 : compFunc Tryz.prog Tryz.f151 .full = some t151 := by kernel_rfl

/-- broadside/graph.reach -/
def t152 : DFunc := { ntmps := 53, results := [(.t 4)], mode := .full, body :=
 (.seq (.region [⟨(some 2), .box 56 2 (.t 0), none, .write, 0⟩, ⟨(some 4), .move (.c .nmap), none, .write, 0⟩])
 (.seq (.region [⟨(some 11), .makeMap, none, .write, 0⟩, ⟨(some 12), .move (.t 1), none, .write, 0⟩, ⟨none, .mapUpdate (.prim 1) (.t 11) (.t 12) (.c (.int .i64 0)), none, .write, 0⟩, ⟨(some 13), .move (.t 11), none, .write, 0⟩, ⟨(some 5), .move (.t 13), none, .write, 0⟩])
 (.seq (.seq (.region [⟨(some 14), .move (.t 1), none, .write, 0⟩, ⟨(some 15), .buildSlice 3 1 (.int .i64 0) 1 [(0, (.t 14))], none, .write, 0⟩, ⟨(some 6), .move (.t 15), none, .write, 0⟩])
 (.block 0 (.loop (.seq (.seq (.region [⟨(some 16), .move (.t 6), none, .write, 0⟩, ⟨(some 17), .len 1 (.t 16), none, .write, 0⟩, ⟨(some 18), .arith .gtr (.t 17) (.c (.int .i64 0)), none, .write, 0⟩])
 (.cond (.t 18) .skip (.exit 0)))
 (.seq (.block 1 (.seq (.draw [⟨(some 21), .load (some 2) (.t 2), none, .read, 0⟩, ⟨(some 22), .move (.t 6), none, .read, 0⟩, ⟨(some 23), .indexAddr 1 (.t 22) (.c (.int .i64 0)), none, .read, 0⟩, ⟨(some 24), .load none (.t 23), none, .read, 0⟩, ⟨(some 25), .call (.c (.func 66 [])) [(.t 21), (.t 24)], none, .write, 0⟩, ⟨(some 26), .len 1 (.t 25), none, .read, 1⟩, ⟨(some 27), .move (.c (.int .i64 0)), none, .read, 0⟩])
 (.block 2 (.loop (.seq (.region [⟨(some 28), .arith .lss (.t 27) (.t 26), none, .write, 0⟩])
 (.seq (.cond (.t 28) .skip (.exit 2))
 (.seq (.block 3 (.seq (.region [⟨(some 29), .indexAddr 1 (.t 25) (.t 27), none, .write, 0⟩, ⟨(some 30), .load none (.t 29), none, .write, 0⟩, ⟨(some 8), .move (.t 30), none, .write, 0⟩])
 (.seq (.region [⟨(some 32), .move (.t 5), none, .write, 0⟩, ⟨(some 33), .move (.t 8), none, .write, 0⟩, ⟨(some 34), .lookup (.prim 1) (.int .i64 0) true (.t 32) (.t 33), none, .write, 0⟩, ⟨(some 31), .move (.t 34), none, .write, 0⟩, ⟨(some 35), .extract (.t 31) 0, none, .write, 0⟩, ⟨(some 36), .extract (.t 31) 1, none, .write, 0⟩, ⟨(some 9), .move (.t 35), none, .write, 0⟩, ⟨(some 10), .move (.t 36), none, .write, 0⟩])
 (.seq (.region [⟨(some 37), .move (.t 10), none, .write, 0⟩, ⟨(some 38), .un .not (.t 37), none, .write, 0⟩])
 (.cond (.t 38) (.seq (.region [⟨(some 39), .move (.t 5), none, .write, 0⟩, ⟨(some 40), .move (.t 8), none, .write, 0⟩, ⟨(some 41), .move (.t 5), none, .write, 0⟩, ⟨(some 42), .move (.t 6), none, .write, 0⟩, ⟨(some 43), .indexAddr 1 (.t 42) (.c (.int .i64 0)), none, .write, 0⟩, ⟨(some 44), .load none (.t 43), none, .write, 0⟩, ⟨(some 45), .lookup (.prim 1) (.int .i64 0) false (.t 41) (.t 44), none, .write, 0⟩, ⟨(some 46), .arith .add (.t 45) (.c (.int .i64 1)), none, .write, 0⟩, ⟨none, .mapUpdate (.prim 1) (.t 39) (.t 40) (.t 46), none, .write, 0⟩])
 (.region [⟨(some 47), .move (.t 6), none, .write, 0⟩, ⟨(some 48), .move (.t 8), none, .write, 0⟩, ⟨(some 49), .buildSlice 3 1 (.int .i64 0) 1 [(0, (.t 48))], none, .write, 0⟩, ⟨(some 50), .append 3 1 8 (.t 47) (.t 49), none, .write, 0⟩, ⟨(some 6), .move (.t 50), none, .write, 0⟩])) .skip)))))
 (.region [⟨(some 51), .arith .add (.t 27) (.c (.int .i64 1)), none, .write, 0⟩, ⟨(some 27), .move (.t 51), none, .write, 0⟩]))))))))
 (.region [⟨(some 19), .move (.t 6), none, .write, 0⟩, ⟨(some 20), .sliceSl 1 (.t 19) (some (.c (.int .i64 1))) none, none, .write, 0⟩, ⟨(some 6), .move (.t 20), none, .write, 0⟩]))))))
 (.seq (.region [⟨(some 52), .move (.t 5), none, .write, 0⟩, ⟨(some 4), .move (.t 52), none, .write, 0⟩])
 .ret)))) }

theorem c152 : compFunc Tryz.prog Tryz.f152 .full = some t152 := by kernel_rfl

/-- broadside/adverts.Learn -/
def t154 : DFunc := { ntmps := 44, results := [(.cell 4 (some 6)), (.t 5)], mode := .full, body :=
 (.seq (.region [⟨(some 2), .box 28 6 (.t 0), none, .write, 0⟩, ⟨(some 3), .box 70 4 (.t 1), none, .write, 0⟩, ⟨(some 4), .alloc 28 6 (.agg [(.int .i64 0), .nsl, .nsl, .nsl, .nsl, .nsl]), none, .write, 0⟩, ⟨(some 5), .move (.c (.bool false)), none, .write, 0⟩])
 (.seq (.region [⟨(some 10), .load (some 6) (.t 2), none, .write, 0⟩, ⟨(some 11), .call (.c (.func 232 [])) [(.t 10)], none, .write, 0⟩, ⟨none, .store 6 (.t 2) (.t 11), none, .write, 0⟩])
 (.seq (.region [⟨(some 13), .load (some 6) (.t 2), none, .write, 0⟩, ⟨(some 14), .fieldAddr 0 (.t 3), none, .write, 0⟩, ⟨(some 15), .load (some 2) (.t 14), none, .write, 0⟩, ⟨(some 16), .call (.c (.func 212 [])) [(.t 13), (.t 15)], none, .write, 0⟩, ⟨(some 12), .move (.t 16), none, .write, 0⟩, ⟨(some 17), .extract (.t 12) 0, none, .write, 0⟩, ⟨(some 18), .extract (.t 12) 1, none, .write, 0⟩, ⟨(some 6), .move (.t 17), none, .write, 0⟩, ⟨(some 7), .move (.t 18), none, .write, 0⟩])
 (.seq (.seq (.region [⟨(some 19), .move (.t 7), none, .write, 0⟩])
 (.cond (.t 19) (.seq (.region [⟨(some 20), .load (some 6) (.t 2), none, .write, 0⟩, ⟨none, .store 6 (.t 4) (.t 20), none, .write, 0⟩, ⟨(some 5), .move (.c (.bool false)), none, .write, 0⟩])
 .ret) .skip))
 (.seq (.region [⟨(some 22), .load (some 6) (.t 2), none, .write, 0⟩, ⟨(some 23), .fieldAddr 0 (.t 3), none, .write, 0⟩, ⟨(some 24), .load (some 2) (.t 23), none, .write, 0⟩, ⟨(some 25), .call (.c (.func 73 [])) [(.t 22), (.t 24)], none, .write, 0⟩, ⟨(some 21), .move (.t 25), none, .write, 0⟩, ⟨(some 26), .extract (.t 21) 0, none, .write, 0⟩, ⟨(some 27), .extract (.t 21) 1, none, .write, 0⟩, ⟨(some 8), .move (.t 26), none, .write, 0⟩, ⟨(some 9), .move (.t 27), none, .write, 0⟩])
 (.seq (.region [⟨(some 28), .fieldAddr 2 (.t 2), none, .write, 0⟩, ⟨(some 29), .load none (.t 28), none, .write, 0⟩, ⟨(some 30), .move (.t 8), none, .write, 0⟩, ⟨(some 31), .load (some 4) (.t 3), none, .write, 0⟩, ⟨(some 32), .buildSlice 70 4 (.agg [(.int .i64 0), (.int .i64 0), .nsl, (.int .i64 0)]) 1 [(0, (.t 31))], none, .write, 0⟩, ⟨(some 33), .call (.c (.func 177 [])) [(.t 29), (.t 30), (.t 32)], none, .write, 0⟩, ⟨(some 34), .fieldAddr 2 (.t 2), none, .write, 0⟩, ⟨none, .store 1 (.t 34) (.t 33), none, .write, 0⟩])
 (.seq (.region [⟨(some 35), .fieldAddr 3 (.t 2), none, .write, 0⟩, ⟨(some 36), .load none (.t 35), none, .write, 0⟩, ⟨(some 37), .move (.t 6), none, .write, 0⟩, ⟨(some 38), .fieldAddr 0 (.t 3), none, .write, 0⟩, ⟨(some 39), .load (some 2) (.t 38), none, .write, 0⟩, ⟨(some 40), .buildSlice 45 2 (.agg [(.int .i64 0), (.int .i64 0)]) 1 [(0, (.t 39))], none, .write, 0⟩, ⟨(some 41), .call (.c (.func 233 [])) [(.t 36), (.t 37), (.t 40)], none, .write, 0⟩, ⟨(some 42), .fieldAddr 3 (.t 2), none, .write, 0⟩, ⟨none, .store 1 (.t 42) (.t 41), none, .write, 0⟩])
 (.seq (.region [⟨(some 43), .load (some 6) (.t 2), none, .write, 0⟩, ⟨none, .store 6 (.t 4) (.t 43), none, .write, 0⟩, ⟨(some 5), .move (.c (.bool true)), none, .write, 0⟩])
 .ret)))))))) }

theorem c154 : compFunc Tryz.prog Tryz.f154 .full = some t154 := by kernel_rfl

/-- broadside/flood.Others -/
def t155 : DFunc := { ntmps := 28, results := [(.t 6)], mode := .full, body :=
 (.seq (.region [⟨(some 3), .box 28 6 (.t 0), none, .write, 0⟩, ⟨(some 5), .box 49 7 (.t 2), none, .write, 0⟩, ⟨(some 6), .move (.c .nsl), none, .write, 0⟩])
 (.seq (.region [⟨(some 7), .move (.c .nsl), none, .write, 0⟩])
 (.seq (.seq (.region [⟨(some 10), .fieldAddr 1 (.t 3), none, .write, 0⟩, ⟨(some 11), .load none (.t 10), none, .write, 0⟩, ⟨(some 12), .len 1 (.t 11), none, .write, 0⟩, ⟨(some 13), .move (.c (.int .i64 0)), none, .write, 0⟩])
 (.block 0 (.loop (.seq (.region [⟨(some 14), .arith .lss (.t 13) (.t 12), none, .write, 0⟩])
 (.seq (.cond (.t 14) .skip (.exit 0))
 (.seq (.block 1 (.seq (.region [⟨(some 15), .indexAddr 1 (.t 11) (.t 13), none, .write, 0⟩, ⟨(some 16), .load none (.t 15), none, .write, 0⟩, ⟨(some 9), .move (.t 16), none, .write, 0⟩])
 (.seq (.region [⟨(some 17), .move (.t 9), none, .write, 0⟩, ⟨(some 18), .move (.t 1), none, .write, 0⟩, ⟨(some 19), .arith .neq (.t 17) (.t 18), none, .write, 0⟩])
 (.cond (.t 19) (.region [⟨(some 20), .move (.t 7), none, .write, 0⟩, ⟨(some 21), .move (.t 9), none, .write, 0⟩, ⟨(some 22), .load (some 7) (.t 5), none, .write, 0⟩, ⟨(some 23), .build [(.int .i64 0), (.int .i64 0), (.int .i64 0), (.int .i64 0), (.int .i64 0), (.int .i64 0), .nsl, .nsl] [(0, 1, (.t 21)), (1, 7, (.t 22))], none, .write, 0⟩, ⟨(some 24), .buildSlice 254 8 (.agg [(.int .i64 0), (.int .i64 0), (.int .i64 0), (.int .i64 0), (.int .i64 0), (.int .i64 0), .nsl, .nsl]) 1 [(0, (.t 23))], none, .write, 0⟩, ⟨(some 25), .append 254 8 96 (.t 20) (.t 24), none, .write, 0⟩, ⟨(some 7), .move (.t 25), none, .write, 0⟩]) .skip))))
 (.region [⟨(some 26), .arith .add (.t 13) (.c (.int .i64 1)), none, .write, 0⟩, ⟨(some 13), .move (.t 26), none, .write, 0⟩])))))))
 (.seq (.region [⟨(some 27), .move (.t 7), none, .write, 0⟩, ⟨(some 6), .move (.t 27), none, .write, 0⟩])
 .ret)))) }

theorem c155 : compFunc Tryz.prog Tryz.f155 .full = some t155 := by kernel_rfl

/-- broadside/subs.Add -/
def t156 : DFunc := { ntmps := 73, results := [(.cell 4 (some 6)), (.t 5)], mode := .full, body :=
 (.seq (.region [⟨(some 2), .box 28 6 (.t 0), none, .write, 0⟩, ⟨(some 3), .box 156 7 (.t 1), none, .write, 0⟩, ⟨(some 4), .alloc 28 6 (.agg [(.int .i64 0), .nsl, .nsl, .nsl, .nsl, .nsl]), none, .write, 0⟩, ⟨(some 5), .move (.c (.bool false)), none, .write, 0⟩])
 (.seq (.region [⟨(some 11), .fieldAddr 4 (.t 2), none, .write, 0⟩, ⟨(some 12), .load none (.t 11), none, .write, 0⟩, ⟨(some 13), .call (.c (.func 77 [])) [(.t 12)], none, .write, 0⟩, ⟨(some 14), .fieldAddr 4 (.t 2), none, .write, 0⟩, ⟨none, .store 1 (.t 14) (.t 13), none, .write, 0⟩])
 (.seq (.region [⟨(some 16), .load (some 6) (.t 2), none, .write, 0⟩, ⟨(some 17), .fieldAddr 0 (.t 3), none, .write, 0⟩, ⟨(some 18), .load (some 2) (.t 17), none, .write, 0⟩, ⟨(some 19), .call (.c (.func 26 [])) [(.t 16), (.t 18)], none, .write, 0⟩, ⟨(some 15), .move (.t 19), none, .write, 0⟩, ⟨(some 20), .extract (.t 15) 0, none, .write, 0⟩, ⟨(some 21), .extract (.t 15) 1, none, .write, 0⟩, ⟨(some 6), .alloc 70 4 (.agg [(.int .i64 0), (.int .i64 0), .nsl, (.int .i64 0)]), none, .write, 0⟩, ⟨none, .store 4 (.t 6) (.t 20), none, .write, 0⟩, ⟨(some 7), .move (.t 21), none, .write, 0⟩])
 (.seq (.region [⟨(some 23), .load (some 6) (.t 2), none, .write, 0⟩, ⟨(some 24), .fieldAddr 0 (.t 3), none, .write, 0⟩, ⟨(some 25), .load (some 2) (.t 24), none, .write, 0⟩, ⟨(some 26), .fieldAddr 2 (.t 3), none, .write, 0⟩, ⟨(some 27), .load (some 2) (.t 26), none, .write, 0⟩, ⟨(some 28), .call (.c (.func 234 [])) [(.t 23), (.t 25), (.t 27)], none, .write, 0⟩, ⟨(some 22), .move (.t 28), none, .write, 0⟩, ⟨(some 29), .extract (.t 22) 0, none, .write, 0⟩, ⟨(some 30), .extract (.t 22) 1, none, .write, 0⟩, ⟨(some 8), .move (.t 29), none, .write, 0⟩, ⟨(some 9), .move (.t 30), none, .write, 0⟩])
 (.seq (.region [⟨(some 31), .fieldAddr 3 (.t 6), none, .write, 0⟩, ⟨(some 32), .load none (.t 31), none, .write, 0⟩, ⟨(some 33), .arith .eql (.t 32) (.c (.int .i64 (-1))), none, .write, 0⟩, ⟨(some 10), .move (.t 33), none, .write, 0⟩])
 (.seq (.seq (.region [⟨(some 34), .move (.t 7), none, .write, 0⟩, ⟨(some 35), .un .not (.t 34), none, .write, 0⟩, ⟨(some 36), .move (.t 35), none, .write, 0⟩, ⟨(some 37), .move (.t 9), (some (36, false)), .write, 0⟩, ⟨(some 38), .pick (.t 36) (.c (.bool true)) (.t 37), none, .write, 0⟩, ⟨(some 39), .move (.t 38), none, .write, 0⟩, ⟨(some 40), .fieldAddr 5 (.t 3), (some (39, false)), .write, 0⟩, ⟨(some 41), .load none (.t 40), (some (39, false)), .write, 0⟩, ⟨(some 42), .fieldAddr 3 (.t 6), (some (39, false)), .write, 0⟩, ⟨(some 43), .load none (.t 42), (some (39, false)), .write, 0⟩, ⟨(some 44), .arith .eql (.t 41) (.t 43), (some (39, false)), .write, 0⟩, ⟨(some 45), .move (.t 44), (some (39, false)), .write, 0⟩, ⟨(some 46), .move (.t 10), (some (45, true)), .write, 0⟩, ⟨(some 47), .un .not (.t 46), (some (45, true)), .write, 0⟩, ⟨(some 48), .pick (.t 45) (.t 47) (.c (.bool false)), (some (39, false)), .write, 0⟩, ⟨(some 49), .pick (.t 39) (.c (.bool true)) (.t 48), none, .write, 0⟩])
 (.cond (.t 49) (.seq (.region [⟨(some 50), .load (some 6) (.t 2), none, .write, 0⟩, ⟨none, .store 6 (.t 4) (.t 50), none, .write, 0⟩, ⟨(some 5), .move (.c (.bool false)), none, .write, 0⟩])
 .ret) .skip))
 (.seq (.region [⟨(some 51), .move (.t 10), none, .write, 0⟩, ⟨(some 52), .un .not (.t 51), none, .write, 0⟩, ⟨(some 53), .move (.t 52), none, .write, 0⟩, ⟨(some 54), .load (some 6) (.t 2), (some (53, true)), .write, 0⟩, ⟨(some 55), .fieldAddr 0 (.t 3), (some (53, true)), .write, 0⟩, ⟨(some 56), .load (some 2) (.t 55), (some (53, true)), .write, 0⟩, ⟨(some 57), .fieldAddr 4 (.t 3), (some (53, true)), .write, 0⟩, ⟨(some 58), .load none (.t 57), (some (53, true)), .write, 0⟩, ⟨(some 59), .call (.c (.func 142 [])) [(.t 54), (.t 56), (.t 58)], (some (53, true)), .write, 0⟩, ⟨(some 60), .un .not (.t 59), (some (53, true)), .write, 0⟩, ⟨(some 61), .pick (.t 53) (.t 60) (.c (.bool false)), none, .write, 0⟩, ⟨(some 62), .fieldAddr 6 (.t 3), none, .write, 0⟩, ⟨none, .store 1 (.t 62) (.t 61), none, .write, 0⟩])
 (.seq (.region [⟨(some 63), .fieldAddr 4 (.t 2), none, .write, 0⟩, ⟨(some 64), .load none (.t 63), none, .write, 0⟩, ⟨(some 65), .move (.t 8), none, .write, 0⟩, ⟨(some 66), .load (some 7) (.t 3), none, .write, 0⟩, ⟨(some 67), .buildSlice 156 7 (.agg [(.int .i64 0), (.int .i64 0), (.int .i64 0), (.int .i64 0), .nsl, (.int .i64 0), (.bool false)]) 1 [(0, (.t 66))], none, .write, 0⟩, ⟨(some 68), .call (.c (.func 235 [])) [(.t 64), (.t 65), (.t 67)], none, .write, 0⟩, ⟨(some 69), .fieldAddr 4 (.t 2), none, .write, 0⟩, ⟨none, .store 1 (.t 69) (.t 68), none, .write, 0⟩])
 (.seq (.draw [⟨(some 70), .load (some 6) (.t 2), none, .read, 0⟩, ⟨(some 71), .fieldAddr 6 (.t 3), none, .read, 0⟩, ⟨(some 72), .load none (.t 71), none, .read, 0⟩, ⟨none, .store 6 (.t 4) (.t 70), none, .create, 0⟩, ⟨(some 5), .move (.t 72), none, .read, 1⟩])
 .ret))))))))) }

theorem c156 : compFunc Tryz.prog Tryz.f156 .full = some t156 := by kernel_rfl

/-- broadside/flood.Sub -/
def t157 : DFunc := { ntmps := 10, results := [(.cell 2 (some 7))], mode := .full, body :=
 (.seq (.region [⟨(some 1), .box 156 7 (.t 0), none, .write, 0⟩, ⟨(some 2), .alloc 49 7 (.agg [(.int .i64 0), (.int .i64 0), (.int .i64 0), (.int .i64 0), (.int .i64 0), .nsl, .nsl]), none, .write, 0⟩])
 (.seq (.region [⟨(some 3), .fieldAddr 0 (.t 1), none, .write, 0⟩, ⟨(some 4), .load (some 2) (.t 3), none, .write, 0⟩, ⟨(some 5), .fieldAddr 2 (.t 1), none, .write, 0⟩, ⟨(some 6), .load (some 2) (.t 5), none, .write, 0⟩, ⟨(some 7), .fieldAddr 4 (.t 1), none, .write, 0⟩, ⟨(some 8), .load none (.t 7), none, .write, 0⟩, ⟨(some 9), .build [(.int .i64 0), (.int .i64 0), (.int .i64 0), (.int .i64 0), (.int .i64 0), .nsl, .nsl] [(0, 1, (.c (.int .i64 3))), (1, 2, (.t 4)), (3, 2, (.t 6)), (5, 1, (.t 8))], none, .write, 0⟩, ⟨none, .store 7 (.t 2) (.t 9), none, .write, 0⟩])
 .ret)) }

theorem c157 : compFunc Tryz.prog Tryz.f157 .full = some t157 := by kernel_rfl

/-- broadside/queue.none -/
def t158 : DFunc := { ntmps := 6, results := [(.t 2)], mode := .full, body :=
 (.seq (.region [⟨(some 2), .move (.c .nili), none, .write, 0⟩])
 (.seq (.region [⟨(some 3), .move (.t 0), none, .write, 0⟩, ⟨(some 4), .makeIface 37 (.c (.int .i64 8)), none, .write, 0⟩, ⟨(some 5), .call (.c (.func 47 [])) [(.c (.str [113, 117, 101, 117, 101])), (.t 3), (.t 4)], none, .write, 0⟩, ⟨(some 2), .move (.t 5), none, .write, 0⟩])
 .ret)) }

theorem c158 : compFunc Tryz.prog Tryz.f158 .full = some t158 := by kernel_rfl

/-- (*broadside/queue.Queues).Push -/
def t159 : DFunc := { ntmps := 34, results := [(.t 8)], mode := .full, body :=
 (.seq (.region [⟨(some 8), .move (.c .nili), none, .write, 0⟩])
 (.seq (.seq (.region [⟨(some 10), .move (.t 0), none, .write, 0⟩, ⟨(some 11), .move (.t 1), none, .write, 0⟩, ⟨(some 12), .move (.t 2), none, .write, 0⟩, ⟨(some 13), .call (.c (.func 236 [])) [(.t 10), (.t 11), (.t 12)], none, .write, 0⟩, ⟨(some 14), .un .not (.t 13), none, .write, 0⟩])
 (.cond (.t 14) (.seq (.region [⟨(some 15), .move (.t 1), none, .write, 0⟩, ⟨(some 16), .call (.c (.func 158 [])) [(.t 15)], none, .write, 0⟩, ⟨(some 8), .move (.t 16), none, .write, 0⟩])
 .ret) .skip))
 (.seq (.region [⟨(some 17), .move (.t 1), none, .write, 0⟩, ⟨(some 18), .move (.t 2), none, .write, 0⟩, ⟨(some 19), .build [(.int .i64 0), (.int .i64 0)] [(0, 1, (.t 17)), (1, 1, (.t 18))], none, .write, 0⟩, ⟨(some 9), .alloc 64 2 (.agg [(.int .i64 0), (.int .i64 0)]), none, .write, 0⟩, ⟨none, .store 2 (.t 9) (.t 19), none, .write, 0⟩])
 (.seq (.draw [⟨(some 20), .move (.t 0), none, .read, 0⟩, ⟨(some 21), .nilCheck (.t 20), none, .read, 0⟩, ⟨(some 22), .fieldAddr 1 (.t 21), none, .read, 0⟩, ⟨(some 23), .load none (.t 22), none, .read, 0⟩, ⟨(some 24), .load (some 2) (.t 9), none, .read, 0⟩, ⟨(some 25), .move (.t 0), none, .read, 0⟩, ⟨(some 26), .nilCheck (.t 25), none, .read, 0⟩, ⟨(some 27), .fieldAddr 1 (.t 26), none, .read, 0⟩, ⟨(some 28), .load none (.t 27), none, .read, 0⟩, ⟨(some 29), .load (some 2) (.t 9), none, .read, 0⟩, ⟨(some 30), .lookup (.agg [1, 1]) .nsl false (.t 28) (.t 29), none, .read, 0⟩, ⟨(some 31), .move (.t 3), none, .read, 0⟩, ⟨(some 32), .buildSlice 255 1 .nsl 2 [(0, (.t 30)), (1, (.t 31))], none, .create, 0⟩, ⟨(some 33), .call (.c (.func 237 [])) [(.t 32)], none, .create, 0⟩, ⟨none, .mapUpdate (.agg [1, 1]) (.t 23) (.t 24) (.t 33), none, .write, 2⟩])
 (.seq (.region [⟨(some 8), .move (.c .nili), none, .write, 0⟩])
 .ret))))) }

theorem c159 : compFunc Tryz.prog Tryz.f159 .full = some t159 := by kernel_rfl

/-- slices.BinarySearchFunc[[]broadside/api.Advert,broadside/api.Advert,broadside/api.ID] -/
def t160 : DFunc := { ntmps := 49, results := [(.t 6), (.t 7)], mode := .full, body :=
 (.seq (.region [⟨(some 4), .box 45 2 (.t 1), none, .write, 0⟩, ⟨(some 6), .move (.c (.int .i64 0)), none, .write, 0⟩, ⟨(some 7), .move (.c (.bool false)), none, .write, 0⟩])
 (.seq (.region [⟨(some 12), .move (.t 0), none, .write, 0⟩, ⟨(some 13), .len 1 (.t 12), none, .write, 0⟩, ⟨(some 8), .move (.t 13), none, .write, 0⟩])
 (.seq (.region [⟨(some 14), .move (.t 8), none, .write, 0⟩, ⟨(some 9), .move (.c (.int .i64 0)), none, .write, 0⟩, ⟨(some 10), .move (.t 14), none, .write, 0⟩])
 (.seq (.block 0 (.loop (.seq (.seq (.region [⟨(some 15), .move (.t 9), none, .write, 0⟩, ⟨(some 16), .move (.t 10), none, .write, 0⟩, ⟨(some 17), .arith .lss (.t 15) (.t 16), none, .write, 0⟩])
 (.cond (.t 17) .skip (.exit 0)))
 (.block 1 (.seq (.region [⟨(some 18), .move (.t 9), none, .write, 0⟩, ⟨(some 19), .move (.t 10), none, .write, 0⟩, ⟨(some 20), .arith .add (.t 18) (.t 19), none, .write, 0⟩, ⟨(some 21), .conv .u64 (.t 20), none, .write, 0⟩, ⟨(some 22), .arith .shr (.t 21) (.c (.int .u64 1)), none, .write, 0⟩, ⟨(some 23), .conv .i64 (.t 22), none, .write, 0⟩, ⟨(some 11), .move (.t 23), none, .write, 0⟩])
 (.seq (.draw [⟨(some 25), .move (.t 0), none, .read, 0⟩, ⟨(some 26), .move (.t 11), none, .read, 0⟩, ⟨(some 27), .indexAddr 4 (.t 25) (.t 26), none, .read, 0⟩, ⟨(some 28), .load (some 4) (.t 27), none, .read, 0⟩, ⟨(some 29), .load (some 2) (.t 4), none, .read, 0⟩, ⟨(some 24), .move (.t 2), none, .read, 0⟩, ⟨(some 30), .call (.t 24) [(.t 28), (.t 29)], none, .write, 0⟩, ⟨(some 31), .arith .lss (.t 30) (.c (.int .i64 0)), none, .read, 1⟩])
 (.cond (.t 31) (.region [⟨(some 32), .move (.t 11), none, .write, 0⟩, ⟨(some 33), .arith .add (.t 32) (.c (.int .i64 1)), none, .write, 0⟩, ⟨(some 9), .move (.t 33), none, .write, 0⟩]) (.region [⟨(some 34), .move (.t 11), none, .write, 0⟩, ⟨(some 10), .move (.t 34), none, .write, 0⟩]))))))))
 (.seq (.draw [⟨(some 36), .move (.t 9), none, .read, 0⟩, ⟨(some 37), .move (.t 8), none, .read, 0⟩, ⟨(some 38), .arith .lss (.t 36) (.t 37), none, .read, 0⟩, ⟨(some 39), .move (.t 38), none, .read, 0⟩, ⟨(some 41), .move (.t 0), (some (39, true)), .read, 0⟩, ⟨(some 42), .move (.t 9), (some (39, true)), .read, 0⟩, ⟨(some 43), .indexAddr 4 (.t 41) (.t 42), (some (39, true)), .read, 0⟩, ⟨(some 44), .load (some 4) (.t 43), (some (39, true)), .read, 0⟩, ⟨(some 45), .load (some 2) (.t 4), (some (39, true)), .read, 0⟩, ⟨(some 40), .move (.t 2), (some (39, true)), .read, 0⟩, ⟨(some 46), .call (.t 40) [(.t 44), (.t 45)], (some (39, true)), .write, 0⟩, ⟨(some 35), .move (.t 9), none, .read, 0⟩, ⟨(some 47), .arith .eql (.t 46) (.c (.int .i64 0)), (some (39, true)), .read, 1⟩, ⟨(some 48), .pick (.t 39) (.t 47) (.c (.bool false)), none, .read, 1⟩, ⟨(some 6), .move (.t 35), none, .read, 1⟩, ⟨(some 7), .move (.t 48), none, .read, 1⟩])
 .ret))))) }

theorem c160 : compFunc Tryz.prog Tryz.f160 .full = some t160 := by kernel_rfl

/-- broadside/adverts.place$1 -/
def t161 : DFunc := { ntmps := 9, results := [(.t 4)], mode := .full, body :=
 (.seq (.region [⟨(some 2), .box 70 4 (.t 0), none, .write, 0⟩, ⟨(some 3), .box 45 2 (.t 1), none, .write, 0⟩, ⟨(some 4), .move (.c (.int .i64 0)), none, .write, 0⟩])
 (.seq (.region [⟨(some 5), .fieldAddr 0 (.t 2), none, .write, 0⟩, ⟨(some 6), .load (some 2) (.t 5), none, .write, 0⟩, ⟨(some 7), .load (some 2) (.t 3), none, .write, 0⟩, ⟨(some 8), .call (.c (.func 131 [])) [(.t 6), (.t 7)], none, .write, 0⟩, ⟨(some 4), .move (.t 8), none, .write, 0⟩])
 .ret)) }

theorem c161 : compFunc Tryz.prog Tryz.f161 .full = some t161 := by kernel_rfl

/-- broadside/route.add -/
def t164 : DFunc := { ntmps := 32, results := [(.cell 4 (some 6)), (.t 5)], mode := .full, body :=
 (.seq (.region [⟨(some 2), .box 28 6 (.t 0), none, .write, 0⟩, ⟨(some 3), .box 156 7 (.t 1), none, .write, 0⟩, ⟨(some 4), .alloc 28 6 (.agg [(.int .i64 0), .nsl, .nsl, .nsl, .nsl, .nsl]), none, .write, 0⟩, ⟨(some 5), .move (.c .nsl), none, .write, 0⟩])
 (.seq (.region [⟨(some 10), .load (some 6) (.t 2), none, .write, 0⟩, ⟨(some 11), .fieldAddr 0 (.t 3), none, .write, 0⟩, ⟨(some 12), .load (some 2) (.t 11), none, .write, 0⟩, ⟨(some 13), .call (.c (.func 26 [])) [(.t 10), (.t 12)], none, .write, 0⟩, ⟨(some 9), .move (.t 13), none, .write, 0⟩, ⟨(some 14), .extract (.t 9) 0, none, .write, 0⟩, ⟨(some 15), .extract (.t 9) 1, none, .write, 0⟩, ⟨(some 6), .alloc 70 4 (.agg [(.int .i64 0), (.int .i64 0), .nsl, (.int .i64 0)]), none, .write, 0⟩, ⟨none, .store 4 (.t 6) (.t 14), none, .write, 0⟩, ⟨(some 7), .move (.t 15), none, .write, 0⟩])
 (.seq (.region [⟨(some 17), .load (some 6) (.t 2), none, .write, 0⟩, ⟨(some 18), .load (some 7) (.t 3), none, .write, 0⟩, ⟨(some 19), .call (.c (.func 156 [])) [(.t 17), (.t 18)], none, .write, 0⟩, ⟨(some 16), .move (.t 19), none, .write, 0⟩, ⟨(some 20), .extract (.t 16) 0, none, .write, 0⟩, ⟨(some 21), .extract (.t 16) 1, none, .write, 0⟩, ⟨none, .store 6 (.t 2) (.t 20), none, .write, 0⟩, ⟨(some 8), .move (.t 21), none, .write, 0⟩])
 (.seq (.seq (.region [⟨(some 22), .move (.t 8), none, .write, 0⟩, ⟨(some 23), .un .not (.t 22), none, .write, 0⟩])
 (.cond (.t 23) (.seq (.region [⟨(some 24), .load (some 6) (.t 2), none, .write, 0⟩, ⟨none, .store 6 (.t 4) (.t 24), none, .write, 0⟩, ⟨(some 5), .move (.c .nsl), none, .write, 0⟩])
 .ret) .skip))
 (.seq (.draw [⟨(some 25), .load (some 6) (.t 2), none, .read, 0⟩, ⟨(some 26), .fieldAddr 3 (.t 6), none, .read, 0⟩, ⟨(some 27), .load none (.t 26), none, .read, 0⟩, ⟨(some 28), .load (some 7) (.t 3), none, .read, 0⟩, ⟨(some 29), .call (.c (.func 157 [])) [(.t 28)], none, .create, 0⟩, ⟨none, .store 6 (.t 4) (.t 25), none, .create, 0⟩, ⟨(some 30), .build [(.int .i64 0), (.int .i64 0), (.int .i64 0), (.int .i64 0), (.int .i64 0), (.int .i64 0), .nsl, .nsl] [(0, 1, (.t 27)), (1, 7, (.t 29))], none, .read, 1⟩, ⟨(some 31), .buildSlice 254 8 (.agg [(.int .i64 0), (.int .i64 0), (.int .i64 0), (.int .i64 0), (.int .i64 0), (.int .i64 0), .nsl, .nsl]) 1 [(0, (.t 30))], none, .create, 0⟩, ⟨(some 5), .move (.t 31), none, .read, 3⟩])
 .ret))))) }

theorem c164 : compFunc Tryz.prog Tryz.f164 .full = some t164 := by kernel_rfl

/-- broadside/carry.To -/
def t165 : DFunc := { ntmps := 35, results := [(.t 6)], mode := .full, body :=
 (.seq (.region [⟨(some 3), .box 28 6 (.t 0), none, .write, 0⟩, ⟨(some 4), .box 45 2 (.t 1), none, .write, 0⟩, ⟨(some 6), .move (.c .nsl), none, .write, 0⟩])
 (.seq (.region [⟨(some 7), .move (.c .nsl), none, .write, 0⟩])
 (.seq (.seq (.region [⟨(some 10), .load (some 6) (.t 3), none, .write, 0⟩, ⟨(some 11), .load (some 2) (.t 4), none, .write, 0⟩, ⟨(some 12), .call (.c (.func 217 [])) [(.t 10), (.t 11)], none, .write, 0⟩, ⟨(some 13), .len 1 (.t 12), none, .write, 0⟩, ⟨(some 14), .move (.c (.int .i64 0)), none, .write, 0⟩])
 (.block 0 (.loop (.seq (.region [⟨(some 15), .arith .lss (.t 14) (.t 13), none, .write, 0⟩])
 (.seq (.cond (.t 15) .skip (.exit 0))
 (.seq (.block 1 (.seq (.region [⟨(some 16), .indexAddr 7 (.t 12) (.t 14), none, .write, 0⟩, ⟨(some 17), .load (some 7) (.t 16), none, .write, 0⟩, ⟨(some 9), .alloc 156 7 (.agg [(.int .i64 0), (.int .i64 0), (.int .i64 0), (.int .i64 0), .nsl, (.int .i64 0), (.bool false)]), none, .write, 0⟩, ⟨none, .store 7 (.t 9) (.t 17), none, .write, 0⟩])
 (.seq (.region [⟨(some 18), .fieldAddr 5 (.t 9), none, .write, 0⟩, ⟨(some 19), .load none (.t 18), none, .write, 0⟩, ⟨(some 20), .arith .neq (.t 19) (.c (.int .i64 (-1))), none, .write, 0⟩, ⟨(some 21), .move (.t 20), none, .write, 0⟩, ⟨(some 22), .fieldAddr 4 (.t 9), (some (21, true)), .write, 0⟩, ⟨(some 23), .load none (.t 22), (some (21, true)), .write, 0⟩, ⟨(some 24), .move (.t 2), (some (21, true)), .write, 0⟩, ⟨(some 25), .call (.c (.func 242 [])) [(.t 23), (.t 24)], (some (21, true)), .write, 0⟩, ⟨(some 26), .pick (.t 21) (.t 25) (.c (.bool false)), none, .write, 0⟩])
 (.cond (.t 26) (.region [⟨(some 27), .move (.t 7), none, .write, 0⟩, ⟨(some 28), .fieldAddr 5 (.t 9), none, .write, 0⟩, ⟨(some 29), .load none (.t 28), none, .write, 0⟩, ⟨(some 30), .buildSlice 3 1 (.int .i64 0) 1 [(0, (.t 29))], none, .write, 0⟩, ⟨(some 31), .append 3 1 8 (.t 27) (.t 30), none, .write, 0⟩, ⟨(some 7), .move (.t 31), none, .write, 0⟩]) .skip))))
 (.region [⟨(some 32), .arith .add (.t 14) (.c (.int .i64 1)), none, .write, 0⟩, ⟨(some 14), .move (.t 32), none, .write, 0⟩])))))))
 (.seq (.region [⟨(some 33), .move (.t 7), none, .write, 0⟩, ⟨(some 34), .call (.c (.func 243 [])) [(.t 33)], none, .write, 0⟩, ⟨(some 6), .move (.t 34), none, .write, 0⟩])
 .ret)))) }

theorem c165 : compFunc Tryz.prog Tryz.f165 .full = some t165 := by kernel_rfl

/-- broadside/carry.Clients -/
def t166 : DFunc := { ntmps := 28, results := [(.t 4)], mode := .full, body :=
 (.seq (.region [⟨(some 2), .box 28 6 (.t 0), none, .write, 0⟩, ⟨(some 4), .move (.c .nsl), none, .write, 0⟩])
 (.seq (.region [⟨(some 5), .move (.c .nsl), none, .write, 0⟩])
 (.seq (.seq (.region [⟨(some 8), .fieldAddr 5 (.t 2), none, .write, 0⟩, ⟨(some 9), .load none (.t 8), none, .write, 0⟩, ⟨(some 10), .len 1 (.t 9), none, .write, 0⟩, ⟨(some 11), .move (.c (.int .i64 0)), none, .write, 0⟩])
 (.block 0 (.loop (.seq (.region [⟨(some 12), .arith .lss (.t 11) (.t 10), none, .write, 0⟩])
 (.seq (.cond (.t 12) .skip (.exit 0))
 (.seq (.block 1 (.seq (.region [⟨(some 13), .indexAddr 3 (.t 9) (.t 11), none, .write, 0⟩, ⟨(some 14), .load (some 3) (.t 13), none, .write, 0⟩, ⟨(some 7), .alloc 159 3 (.agg [(.int .i64 0), (.int .i64 0), .nsl]), none, .write, 0⟩, ⟨none, .store 3 (.t 7) (.t 14), none, .write, 0⟩])
 (.seq (.region [⟨(some 15), .fieldAddr 2 (.t 7), none, .write, 0⟩, ⟨(some 16), .load none (.t 15), none, .write, 0⟩, ⟨(some 17), .move (.t 1), none, .write, 0⟩, ⟨(some 18), .call (.c (.func 242 [])) [(.t 16), (.t 17)], none, .write, 0⟩])
 (.cond (.t 18) (.region [⟨(some 19), .move (.t 5), none, .write, 0⟩, ⟨(some 20), .fieldAddr 0 (.t 7), none, .write, 0⟩, ⟨(some 21), .fieldAddr 0 (.t 20), none, .write, 0⟩, ⟨(some 22), .load none (.t 21), none, .write, 0⟩, ⟨(some 23), .buildSlice 3 1 (.int .i64 0) 1 [(0, (.t 22))], none, .write, 0⟩, ⟨(some 24), .append 3 1 8 (.t 19) (.t 23), none, .write, 0⟩, ⟨(some 5), .move (.t 24), none, .write, 0⟩]) .skip))))
 (.region [⟨(some 25), .arith .add (.t 11) (.c (.int .i64 1)), none, .write, 0⟩, ⟨(some 11), .move (.t 25), none, .write, 0⟩])))))))
 (.seq (.region [⟨(some 26), .move (.t 5), none, .write, 0⟩, ⟨(some 27), .call (.c (.func 243 [])) [(.t 26)], none, .write, 0⟩, ⟨(some 4), .move (.t 27), none, .write, 0⟩])
 .ret)))) }

theorem c166 : compFunc Tryz.prog Tryz.f166 .full = some t166 := by kernel_rfl

/-- broadside/graph.broker -/
def t172 : DFunc := { ntmps := 13, results := [(.t 4)], mode := .full, body :=
 (.seq (.region [⟨(some 2), .box 56 2 (.t 0), none, .write, 0⟩, ⟨(some 4), .move (.c (.bool false)), none, .write, 0⟩])
 (.seq (.region [⟨(some 5), .move (.t 1), none, .write, 0⟩, ⟨(some 6), .arith .geq (.t 5) (.c (.int .i64 0)), none, .write, 0⟩, ⟨(some 7), .move (.t 6), none, .write, 0⟩, ⟨(some 8), .move (.t 1), (some (7, true)), .write, 0⟩, ⟨(some 9), .fieldAddr 0 (.t 2), (some (7, true)), .write, 0⟩, ⟨(some 10), .load none (.t 9), (some (7, true)), .write, 0⟩, ⟨(some 11), .arith .lss (.t 8) (.t 10), (some (7, true)), .write, 0⟩, ⟨(some 12), .pick (.t 7) (.t 11) (.c (.bool false)), none, .write, 0⟩, ⟨(some 4), .move (.t 12), none, .write, 0⟩])
 .ret)) }

theorem c172 : compFunc Tryz.prog Tryz.f172 .full = some t172 := by kernel_rfl

/-- slices.pdqsortCmpFunc[[2]int] -/
def t173 : DFunc := { ntmps := 148, results := [], mode := .full, body :=
 (.seq (.region [⟨(some 10), .move (.c (.bool true)), none, .write, 0⟩])
 (.seq (.region [⟨(some 11), .move (.c (.bool true)), none, .write, 0⟩])
 (.block 0 (.loop (.block 1 (.seq (.region [⟨(some 21), .move (.t 2), none, .write, 0⟩, ⟨(some 22), .move (.t 1), none, .write, 0⟩, ⟨(some 23), .arith .sub (.t 21) (.t 22), none, .write, 0⟩, ⟨(some 12), .move (.t 23), none, .write, 0⟩])
 (.seq (.seq (.region [⟨(some 24), .move (.t 12), none, .write, 0⟩, ⟨(some 25), .arith .leq (.t 24) (.c (.int .i64 12)), none, .write, 0⟩])
 (.cond (.t 25) (.seq (.region [⟨(some 26), .move (.t 0), none, .write, 0⟩, ⟨(some 27), .move (.t 1), none, .write, 0⟩, ⟨(some 28), .move (.t 2), none, .write, 0⟩, ⟨(some 29), .move (.t 4), none, .write, 0⟩, ⟨(some 30), .call (.c (.func 250 [])) [(.t 26), (.t 27), (.t 28), (.t 29)], none, .write, 0⟩])
 .ret) .skip))
 (.seq (.seq (.region [⟨(some 31), .move (.t 3), none, .write, 0⟩, ⟨(some 32), .arith .eql (.t 31) (.c (.int .i64 0)), none, .write, 0⟩])
 (.cond (.t 32) (.seq (.region [⟨(some 33), .move (.t 0), none, .write, 0⟩, ⟨(some 34), .move (.t 1), none, .write, 0⟩, ⟨(some 35), .move (.t 2), none, .write, 0⟩, ⟨(some 36), .move (.t 4), none, .write, 0⟩, ⟨(some 37), .call (.c (.func 251 [])) [(.t 33), (.t 34), (.t 35), (.t 36)], none, .write, 0⟩])
 .ret) .skip))
 (.seq (.seq (.region [⟨(some 38), .move (.t 10), none, .write, 0⟩, ⟨(some 39), .un .not (.t 38), none, .write, 0⟩])
 (.cond (.t 39) (.seq (.region [⟨(some 40), .move (.t 0), none, .write, 0⟩, ⟨(some 41), .move (.t 1), none, .write, 0⟩, ⟨(some 42), .move (.t 2), none, .write, 0⟩, ⟨(some 43), .move (.t 4), none, .write, 0⟩, ⟨(some 44), .call (.c (.func 252 [])) [(.t 40), (.t 41), (.t 42), (.t 43)], none, .write, 0⟩])
 (.region [⟨(some 45), .move (.t 3), none, .write, 0⟩, ⟨(some 46), .arith .sub (.t 45) (.c (.int .i64 1)), none, .write, 0⟩, ⟨(some 3), .move (.t 46), none, .write, 0⟩])) .skip))
 (.seq (.region [⟨(some 48), .move (.t 0), none, .write, 0⟩, ⟨(some 49), .move (.t 1), none, .write, 0⟩, ⟨(some 50), .move (.t 2), none, .write, 0⟩, ⟨(some 51), .move (.t 4), none, .write, 0⟩, ⟨(some 52), .call (.c (.func 253 [])) [(.t 48), (.t 49), (.t 50), (.t 51)], none, .write, 0⟩, ⟨(some 47), .move (.t 52), none, .write, 0⟩, ⟨(some 53), .extract (.t 47) 0, none, .write, 0⟩, ⟨(some 54), .extract (.t 47) 1, none, .write, 0⟩, ⟨(some 13), .move (.t 53), none, .write, 0⟩, ⟨(some 14), .move (.t 54), none, .write, 0⟩])
 (.seq (.seq (.region [⟨(some 55), .move (.t 14), none, .write, 0⟩, ⟨(some 56), .arith .eql (.t 55) (.c (.int .i64 2)), none, .write, 0⟩])
 (.cond (.t 56) (.seq (.region [⟨(some 57), .move (.t 0), none, .write, 0⟩, ⟨(some 58), .move (.t 1), none, .write, 0⟩, ⟨(some 59), .move (.t 2), none, .write, 0⟩, ⟨(some 60), .move (.t 4), none, .write, 0⟩, ⟨(some 61), .call (.c (.func 254 [])) [(.t 57), (.t 58), (.t 59), (.t 60)], none, .write, 0⟩])
 (.seq (.region [⟨(some 62), .move (.t 2), none, .write, 0⟩, ⟨(some 63), .arith .sub (.t 62) (.c (.int .i64 1)), none, .write, 0⟩, ⟨(some 64), .move (.t 13), none, .write, 0⟩, ⟨(some 65), .move (.t 1), none, .write, 0⟩, ⟨(some 66), .arith .sub (.t 64) (.t 65), none, .write, 0⟩, ⟨(some 67), .arith .sub (.t 63) (.t 66), none, .write, 0⟩, ⟨(some 13), .move (.t 67), none, .write, 0⟩])
 (.region [⟨(some 14), .move (.c (.int .i64 1)), none, .write, 0⟩]))) .skip))
 (.seq (.seq (.region [⟨(some 68), .move (.t 10), none, .write, 0⟩, ⟨(some 69), .move (.t 68), none, .write, 0⟩, ⟨(some 70), .move (.t 11), (some (69, true)), .write, 0⟩, ⟨(some 71), .pick (.t 69) (.t 70) (.c (.bool false)), none, .write, 0⟩, ⟨(some 72), .move (.t 71), none, .write, 0⟩, ⟨(some 73), .move (.t 14), (some (72, true)), .write, 0⟩, ⟨(some 74), .arith .eql (.t 73) (.c (.int .i64 1)), (some (72, true)), .write, 0⟩, ⟨(some 75), .pick (.t 72) (.t 74) (.c (.bool false)), none, .write, 0⟩])
 (.cond (.t 75) (.seq (.region [⟨(some 76), .move (.t 0), none, .write, 0⟩, ⟨(some 77), .move (.t 1), none, .write, 0⟩, ⟨(some 78), .move (.t 2), none, .write, 0⟩, ⟨(some 79), .move (.t 4), none, .write, 0⟩, ⟨(some 80), .call (.c (.func 255 [])) [(.t 76), (.t 77), (.t 78), (.t 79)], none, .write, 0⟩])
 (.cond (.t 80) .ret .skip)) .skip))
 (.seq (.seq (.draw [⟨(some 81), .move (.t 1), none, .read, 0⟩, ⟨(some 82), .arith .gtr (.t 81) (.c (.int .i64 0)), none, .read, 0⟩, ⟨(some 83), .move (.t 82), none, .read, 0⟩, ⟨(some 85), .move (.t 0), (some (83, true)), .read, 0⟩, ⟨(some 86), .move (.t 1), (some (83, true)), .read, 0⟩, ⟨(some 87), .arith .sub (.t 86) (.c (.int .i64 1)), (some (83, true)), .read, 0⟩, ⟨(some 88), .indexAddr 2 (.t 85) (.t 87), (some (83, true)), .read, 0⟩, ⟨(some 89), .load (some 2) (.t 88), (some (83, true)), .read, 0⟩, ⟨(some 90), .move (.t 0), (some (83, true)), .read, 0⟩, ⟨(some 91), .move (.t 13), (some (83, true)), .read, 0⟩, ⟨(some 92), .indexAddr 2 (.t 90) (.t 91), (some (83, true)), .read, 0⟩, ⟨(some 93), .load (some 2) (.t 92), (some (83, true)), .read, 0⟩, ⟨(some 84), .move (.t 4), (some (83, true)), .read, 0⟩, ⟨(some 94), .call (.t 84) [(.t 89), (.t 93)], (some (83, true)), .write, 0⟩, ⟨(some 95), .arith .lss (.t 94) (.c (.int .i64 0)), (some (83, true)), .read, 1⟩, ⟨(some 96), .un .not (.t 95), (some (83, true)), .read, 1⟩, ⟨(some 97), .pick (.t 83) (.t 96) (.c (.bool false)), none, .read, 1⟩])
 (.cond (.t 97) (.seq (.region [⟨(some 98), .move (.t 0), none, .write, 0⟩, ⟨(some 99), .move (.t 1), none, .write, 0⟩, ⟨(some 100), .move (.t 2), none, .write, 0⟩, ⟨(some 101), .move (.t 13), none, .write, 0⟩, ⟨(some 102), .move (.t 4), none, .write, 0⟩, ⟨(some 103), .call (.c (.func 256 [])) [(.t 98), (.t 99), (.t 100), (.t 101), (.t 102)], none, .write, 0⟩, ⟨(some 15), .move (.t 103), none, .write, 0⟩])
 (.seq (.region [⟨(some 104), .move (.t 15), none, .write, 0⟩, ⟨(some 1), .move (.t 104), none, .write, 0⟩])
 (.exit 1))) .skip))
 (.seq (.region [⟨(some 106), .move (.t 0), none, .write, 0⟩, ⟨(some 107), .move (.t 1), none, .write, 0⟩, ⟨(some 108), .move (.t 2), none, .write, 0⟩, ⟨(some 109), .move (.t 13), none, .write, 0⟩, ⟨(some 110), .move (.t 4), none, .write, 0⟩, ⟨(some 111), .call (.c (.func 257 [])) [(.t 106), (.t 107), (.t 108), (.t 109), (.t 110)], none, .write, 0⟩, ⟨(some 105), .move (.t 111), none, .write, 0⟩, ⟨(some 112), .extract (.t 105) 0, none, .write, 0⟩, ⟨(some 113), .extract (.t 105) 1, none, .write, 0⟩, ⟨(some 16), .move (.t 112), none, .write, 0⟩, ⟨(some 17), .move (.t 113), none, .write, 0⟩])
 (.seq (.region [⟨(some 114), .move (.t 17), none, .write, 0⟩, ⟨(some 11), .move (.t 114), none, .write, 0⟩])
 (.seq (.region [⟨(some 115), .move (.t 16), none, .write, 0⟩, ⟨(some 116), .move (.t 1), none, .write, 0⟩, ⟨(some 117), .arith .sub (.t 115) (.t 116), none, .write, 0⟩, ⟨(some 118), .move (.t 2), none, .write, 0⟩, ⟨(some 119), .move (.t 16), none, .write, 0⟩, ⟨(some 120), .arith .sub (.t 118) (.t 119), none, .write, 0⟩, ⟨(some 18), .move (.t 117), none, .write, 0⟩, ⟨(some 19), .move (.t 120), none, .write, 0⟩])
 (.seq (.region [⟨(some 121), .move (.t 12), none, .write, 0⟩, ⟨(some 122), .arith .quo (.t 121) (.c (.int .i64 8)), none, .write, 0⟩, ⟨(some 20), .move (.t 122), none, .write, 0⟩])
 (.seq (.region [⟨(some 123), .move (.t 18), none, .write, 0⟩, ⟨(some 124), .move (.t 19), none, .write, 0⟩, ⟨(some 125), .arith .lss (.t 123) (.t 124), none, .write, 0⟩])
 (.cond (.t 125) (.seq (.region [⟨(some 126), .move (.t 18), none, .write, 0⟩, ⟨(some 127), .move (.t 20), none, .write, 0⟩, ⟨(some 128), .arith .geq (.t 126) (.t 127), none, .write, 0⟩, ⟨(some 10), .move (.t 128), none, .write, 0⟩])
 (.seq (.region [⟨(some 129), .move (.t 0), none, .write, 0⟩, ⟨(some 130), .move (.t 1), none, .write, 0⟩, ⟨(some 131), .move (.t 16), none, .write, 0⟩, ⟨(some 132), .move (.t 3), none, .write, 0⟩, ⟨(some 133), .move (.t 4), none, .write, 0⟩, ⟨(some 134), .call (.c (.func 173 [])) [(.t 129), (.t 130), (.t 131), (.t 132), (.t 133)], none, .write, 0⟩])
 (.region [⟨(some 135), .move (.t 16), none, .write, 0⟩, ⟨(some 136), .arith .add (.t 135) (.c (.int .i64 1)), none, .write, 0⟩, ⟨(some 1), .move (.t 136), none, .write, 0⟩]))) (.seq (.region [⟨(some 137), .move (.t 19), none, .write, 0⟩, ⟨(some 138), .move (.t 20), none, .write, 0⟩, ⟨(some 139), .arith .geq (.t 137) (.t 138), none, .write, 0⟩, ⟨(some 10), .move (.t 139), none, .write, 0⟩])
 (.seq (.region [⟨(some 140), .move (.t 0), none, .write, 0⟩, ⟨(some 141), .move (.t 16), none, .write, 0⟩, ⟨(some 142), .arith .add (.t 141) (.c (.int .i64 1)), none, .write, 0⟩, ⟨(some 143), .move (.t 2), none, .write, 0⟩, ⟨(some 144), .move (.t 3), none, .write, 0⟩, ⟨(some 145), .move (.t 4), none, .write, 0⟩, ⟨(some 146), .call (.c (.func 173 [])) [(.t 140), (.t 142), (.t 143), (.t 144), (.t 145)], none, .write, 0⟩])
 (.region [⟨(some 147), .move (.t 16), none, .write, 0⟩, ⟨(some 2), .move (.t 147), none, .write, 0⟩])))))))))))))))))))))) }

theorem c173 : compFunc Tryz.prog Tryz.f173 .full = some t173 := by kernel_rfl

/-- cmp.isNaN[int] -/
def t174 : DFunc := { ntmps := 6, results := [(.t 2)], mode := .full, body :=
 (.seq (.region [⟨(some 2), .move (.c (.bool false)), none, .write, 0⟩])
 (.seq (.region [⟨(some 3), .move (.t 0), none, .write, 0⟩, ⟨(some 4), .move (.t 0), none, .write, 0⟩, ⟨(some 5), .arith .neq (.t 3) (.t 4), none, .write, 0⟩, ⟨(some 2), .move (.t 5), none, .write, 0⟩])
 .ret)) }

theorem c174 : compFunc Tryz.prog Tryz.f174 .full = some t174 := by kernel_rfl

/-- broadside/pred.Make -/
def t175 : DFunc := { ntmps := 75, results := [(.t 2), (.t 3)], mode := .full, body :=
 (.seq (.region [⟨(some 2), .move (.c .nsl), none, .write, 0⟩, ⟨(some 3), .move (.c .nili), none, .write, 0⟩])
 (.seq (.seq (.region [⟨(some 13), .move (.t 0), none, .write, 0⟩, ⟨(some 14), .len 1 (.t 13), none, .write, 0⟩, ⟨(some 15), .move (.c (.int .i64 0)), none, .write, 0⟩])
 (.block 0 (.loop (.seq (.region [⟨(some 16), .arith .lss (.t 15) (.t 14), none, .write, 0⟩])
 (.seq (.cond (.t 16) .skip (.exit 0))
 (.seq (.block 1 (.seq (.region [⟨(some 17), .move (.t 15), none, .write, 0⟩, ⟨(some 18), .indexAddr 5 (.t 13) (.t 15), none, .write, 0⟩, ⟨(some 19), .load (some 5) (.t 18), none, .write, 0⟩, ⟨(some 5), .alloc 288 5 (.agg [(.str []), (.int .i64 0), (.int .i64 0), (.int .i64 0), (.str [])]), none, .write, 0⟩, ⟨(some 4), .move (.t 17), none, .write, 0⟩, ⟨none, .store 5 (.t 5) (.t 19), none, .write, 0⟩])
 (.seq (.region [⟨(some 20), .load (some 5) (.t 5), none, .write, 0⟩, ⟨(some 21), .call (.c (.func 214 [])) [(.t 20)], none, .write, 0⟩, ⟨(some 22), .un .not (.t 21), none, .write, 0⟩])
 (.cond (.t 22) (.seq (.region [⟨(some 23), .move (.t 4), none, .write, 0⟩, ⟨(some 24), .makeIface 37 (.c (.int .i64 1)), none, .write, 0⟩, ⟨(some 25), .call (.c (.func 47 [])) [(.c (.str [112, 114, 101, 100])), (.t 23), (.t 24)], none, .write, 0⟩, ⟨(some 2), .move (.c .nsl), none, .write, 0⟩, ⟨(some 3), .move (.t 25), none, .write, 0⟩])
 .ret) .skip))))
 (.region [⟨(some 26), .arith .add (.t 15) (.c (.int .i64 1)), none, .write, 0⟩, ⟨(some 15), .move (.t 26), none, .write, 0⟩])))))))
 (.seq (.region [⟨(some 6), .move (.c .nsl), none, .write, 0⟩])
 (.seq (.seq (.region [⟨(some 27), .move (.t 0), none, .write, 0⟩, ⟨(some 28), .len 1 (.t 27), none, .write, 0⟩, ⟨(some 29), .move (.c (.int .i64 0)), none, .write, 0⟩])
 (.block 2 (.loop (.seq (.region [⟨(some 30), .arith .lss (.t 29) (.t 28), none, .write, 0⟩])
 (.seq (.cond (.t 30) .skip (.exit 2))
 (.seq (.block 3 (.seq (.region [⟨(some 31), .move (.t 29), none, .write, 0⟩, ⟨(some 32), .indexAddr 5 (.t 27) (.t 29), none, .write, 0⟩, ⟨(some 33), .load (some 5) (.t 32), none, .write, 0⟩, ⟨(some 8), .alloc 288 5 (.agg [(.str []), (.int .i64 0), (.int .i64 0), (.int .i64 0), (.str [])]), none, .write, 0⟩, ⟨(some 7), .move (.t 31), none, .write, 0⟩, ⟨none, .store 5 (.t 8) (.t 33), none, .write, 0⟩])
 (.seq (.region [⟨(some 35), .move (.t 6), none, .write, 0⟩, ⟨(some 36), .fieldAddr 0 (.t 8), none, .write, 0⟩, ⟨(some 37), .load none (.t 36), none, .write, 0⟩, ⟨(some 38), .call (.c (.func 258 [])) [(.t 35), (.t 37), (.c (.func 259 []))], none, .write, 0⟩, ⟨(some 34), .move (.t 38), none, .write, 0⟩, ⟨(some 39), .extract (.t 34) 0, none, .write, 0⟩, ⟨(some 40), .extract (.t 34) 1, none, .write, 0⟩, ⟨(some 9), .move (.t 39), none, .write, 0⟩, ⟨(some 10), .move (.t 40), none, .write, 0⟩])
 (.block 4 (.seq (.region [⟨(some 47), .move (.t 10), none, .write, 0⟩, ⟨(some 46), .move (.t 47), none, .write, 0⟩])
 (.cond (.t 46) (.seq (.draw [⟨(some 49), .move (.t 6), none, .read, 0⟩, ⟨(some 50), .move (.t 9), none, .read, 0⟩, ⟨(some 51), .indexAddr 5 (.t 49) (.t 50), none, .read, 0⟩, ⟨(some 52), .load (some 5) (.t 51), none, .read, 0⟩, ⟨(some 53), .load (some 5) (.t 8), none, .read, 0⟩, ⟨(some 54), .call (.c (.func 261 [])) [(.t 52), (.t 53)], none, .write, 0⟩, ⟨(some 48), .move (.t 54), none, .read, 1⟩, ⟨(some 55), .extract (.t 48) 0, none, .read, 1⟩, ⟨(some 11), .alloc 288 5 (.agg [(.str []), (.int .i64 0), (.int .i64 0), (.int .i64 0), (.str [])]), none, .create, 0⟩, ⟨none, .store 5 (.t 11) (.t 55), none, .write, 2⟩, ⟨(some 56), .extract (.t 48) 1, none, .read, 1⟩, ⟨(some 12), .move (.t 56), none, .read, 3⟩])
 (.seq (.seq (.region [⟨(some 57), .move (.t 12), none, .write, 0⟩, ⟨(some 58), .un .not (.t 57), none, .write, 0⟩])
 (.cond (.t 58) (.seq (.region [⟨(some 59), .move (.t 7), none, .write, 0⟩, ⟨(some 60), .makeIface 37 (.c (.int .i64 5)), none, .write, 0⟩, ⟨(some 61), .call (.c (.func 47 [])) [(.c (.str [112, 114, 101, 100])), (.t 59), (.t 60)], none, .write, 0⟩, ⟨(some 2), .move (.c .nsl), none, .write, 0⟩, ⟨(some 3), .move (.t 61), none, .write, 0⟩])
 .ret) .skip))
 (.region [⟨(some 62), .move (.t 6), none, .write, 0⟩, ⟨(some 63), .move (.t 9), none, .write, 0⟩, ⟨(some 64), .load (some 5) (.t 11), none, .write, 0⟩, ⟨(some 65), .indexAddr 5 (.t 62) (.t 63), none, .write, 0⟩, ⟨none, .store 5 (.t 65) (.t 64), none, .write, 0⟩]))) (.seq (.region [⟨(some 67), .move (.t 6), none, .write, 0⟩, ⟨(some 68), .len 1 (.t 67), none, .write, 0⟩, ⟨(some 69), .arith .eql (.t 68) (.c (.int .i64 5)), none, .write, 0⟩, ⟨(some 66), .move (.t 69), none, .write, 0⟩])
 (.cond (.t 66) (.seq (.region [⟨(some 70), .move (.t 7), none, .write, 0⟩, ⟨(some 71), .makeIface 37 (.c (.int .i64 7)), none, .write, 0⟩, ⟨(some 72), .call (.c (.func 47 [])) [(.c (.str [112, 114, 101, 100])), (.t 70), (.t 71)], none, .write, 0⟩, ⟨(some 2), .move (.c .nsl), none, .write, 0⟩, ⟨(some 3), .move (.t 72), none, .write, 0⟩])
 .ret) (.region [⟨(some 41), .move (.t 6), none, .write, 0⟩, ⟨(some 42), .move (.t 9), none, .write, 0⟩, ⟨(some 43), .load (some 5) (.t 8), none, .write, 0⟩, ⟨(some 44), .buildSlice 288 5 (.agg [(.str []), (.int .i64 0), (.int .i64 0), (.int .i64 0), (.str [])]) 1 [(0, (.t 43))], none, .write, 0⟩, ⟨(some 45), .call (.c (.func 262 [])) [(.t 41), (.t 42), (.t 44)], none, .write, 0⟩, ⟨(some 6), .move (.t 45), none, .write, 0⟩])))))))))
 (.region [⟨(some 73), .arith .add (.t 29) (.c (.int .i64 1)), none, .write, 0⟩, ⟨(some 29), .move (.t 73), none, .write, 0⟩])))))))
 (.seq (.region [⟨(some 74), .move (.t 6), none, .write, 0⟩, ⟨(some 2), .move (.t 74), none, .write, 0⟩, ⟨(some 3), .move (.c .nili), none, .write, 0⟩])
 .ret))))) }

theorem c175 : compFunc Tryz.prog Tryz.f175 .full = some t175 := by kernel_rfl

/-- slices.Insert[[]broadside/api.Advert,broadside/api.Advert] -/
def t177 : DFunc := { ntmps := 95, results := [(.t 6)], mode := .split, body :=
 (.seq (.region [⟨(some 6), .move (.c .nsl), none, .write, 0⟩])
 (.seq (.region [⟨(some 10), .move (.t 0), none, .write, 0⟩, ⟨(some 11), .move (.t 1), none, .write, 0⟩, ⟨(some 12), .sliceSl 4 (.t 10) (some (.t 11)) none, none, .write, 0⟩])
 (.seq (.region [⟨(some 13), .move (.t 2), none, .write, 0⟩, ⟨(some 14), .len 1 (.t 13), none, .write, 0⟩, ⟨(some 7), .move (.t 14), none, .write, 0⟩])
 (.seq (.seq (.region [⟨(some 15), .move (.t 7), none, .write, 0⟩, ⟨(some 16), .arith .eql (.t 15) (.c (.int .i64 0)), none, .write, 0⟩])
 (.cond (.t 16) (.seq (.region [⟨(some 17), .move (.t 0), none, .write, 0⟩, ⟨(some 6), .move (.t 17), none, .write, 0⟩])
 .ret) .skip))
 (.seq (.region [⟨(some 18), .move (.t 0), none, .write, 0⟩, ⟨(some 19), .len 1 (.t 18), none, .write, 0⟩, ⟨(some 8), .move (.t 19), none, .write, 0⟩])
 (.seq (.seq (.region [⟨(some 20), .move (.t 1), none, .write, 0⟩, ⟨(some 21), .move (.t 8), none, .write, 0⟩, ⟨(some 22), .arith .eql (.t 20) (.t 21), none, .write, 0⟩])
 (.cond (.t 22) (.seq (.region [⟨(some 23), .move (.t 0), none, .write, 0⟩, ⟨(some 24), .move (.t 2), none, .write, 0⟩, ⟨(some 25), .append 70 4 48 (.t 23) (.t 24), none, .write, 0⟩, ⟨(some 6), .move (.t 25), none, .write, 0⟩])
 .ret) .skip))
 (.seq (.seq (.region [⟨(some 26), .move (.t 8), none, .write, 0⟩, ⟨(some 27), .move (.t 7), none, .write, 0⟩, ⟨(some 28), .arith .add (.t 26) (.t 27), none, .write, 0⟩, ⟨(some 29), .move (.t 0), none, .write, 0⟩, ⟨(some 30), .cap (.t 29), none, .write, 0⟩, ⟨(some 31), .arith .gtr (.t 28) (.t 30), none, .write, 0⟩])
 (.cond (.t 31) (.seq (.region [⟨(some 32), .move (.t 0), none, .write, 0⟩, ⟨(some 33), .move (.t 1), none, .write, 0⟩, ⟨(some 34), .sliceSl 4 (.t 32) none (some (.t 33)), none, .write, 0⟩, ⟨(some 35), .move (.t 8), none, .write, 0⟩, ⟨(some 36), .move (.t 7), none, .write, 0⟩, ⟨(some 37), .arith .add (.t 35) (.t 36), none, .write, 0⟩, ⟨(some 38), .move (.t 1), none, .write, 0⟩, ⟨(some 39), .arith .sub (.t 37) (.t 38), none, .write, 0⟩, ⟨(some 40), .appendZ 70 4 48 (.agg [(.int .i64 0), (.int .i64 0), .nsl, (.int .i64 0)]) (.t 34) (.t 39), none, .write, 0⟩, ⟨(some 9), .move (.t 40), none, .write, 0⟩])
 (.seq (.region [⟨(some 41), .move (.t 9), none, .write, 0⟩, ⟨(some 42), .move (.t 1), none, .write, 0⟩, ⟨(some 43), .sliceSl 4 (.t 41) (some (.t 42)) none, none, .write, 0⟩, ⟨(some 44), .move (.t 2), none, .write, 0⟩, ⟨(some 45), .copy 4 (.t 43) (.t 44), none, .write, 0⟩])
 (.seq (.draw [⟨(some 46), .move (.t 9), none, .read, 0⟩, ⟨(some 47), .move (.t 1), none, .read, 0⟩, ⟨(some 48), .move (.t 7), none, .read, 0⟩, ⟨(some 49), .arith .add (.t 47) (.t 48), none, .read, 0⟩, ⟨(some 50), .sliceSl 4 (.t 46) (some (.t 49)) none, none, .read, 0⟩, ⟨(some 51), .move (.t 0), none, .read, 0⟩, ⟨(some 52), .move (.t 1), none, .read, 0⟩, ⟨(some 53), .sliceSl 4 (.t 51) (some (.t 52)) none, none, .read, 0⟩, ⟨(some 54), .copy 4 (.t 50) (.t 53), none, .write, 0⟩])
 (.seq (.region [⟨(some 55), .move (.t 9), none, .write, 0⟩, ⟨(some 6), .move (.t 55), none, .write, 0⟩])
 .ret)))) .skip))
 (.seq (.region [⟨(some 56), .move (.t 0), none, .write, 0⟩, ⟨(some 57), .move (.t 8), none, .write, 0⟩, ⟨(some 58), .move (.t 7), none, .write, 0⟩, ⟨(some 59), .arith .add (.t 57) (.t 58), none, .write, 0⟩, ⟨(some 60), .sliceSl 4 (.t 56) none (some (.t 59)), none, .write, 0⟩, ⟨(some 0), .move (.t 60), none, .write, 0⟩])
 (.seq (.seq (.region [⟨(some 61), .move (.t 2), none, .write, 0⟩, ⟨(some 62), .move (.t 0), none, .write, 0⟩, ⟨(some 63), .move (.t 1), none, .write, 0⟩, ⟨(some 64), .move (.t 7), none, .write, 0⟩, ⟨(some 65), .arith .add (.t 63) (.t 64), none, .write, 0⟩, ⟨(some 66), .sliceSl 4 (.t 62) (some (.t 65)) none, none, .write, 0⟩, ⟨(some 67), .call (.c (.func 265 [])) [(.t 61), (.t 66)], none, .write, 0⟩, ⟨(some 68), .un .not (.t 67), none, .write, 0⟩])
 (.cond (.t 68) (.seq (.draw [⟨(some 69), .move (.t 0), none, .read, 0⟩, ⟨(some 70), .move (.t 1), none, .read, 0⟩, ⟨(some 71), .move (.t 7), none, .read, 0⟩, ⟨(some 72), .arith .add (.t 70) (.t 71), none, .read, 0⟩, ⟨(some 73), .sliceSl 4 (.t 69) (some (.t 72)) none, none, .read, 0⟩, ⟨(some 74), .move (.t 0), none, .read, 0⟩, ⟨(some 75), .move (.t 1), none, .read, 0⟩, ⟨(some 76), .sliceSl 4 (.t 74) (some (.t 75)) none, none, .read, 0⟩, ⟨(some 77), .copy 4 (.t 73) (.t 76), none, .write, 0⟩])
 (.seq (.region [⟨(some 78), .move (.t 0), none, .write, 0⟩, ⟨(some 79), .move (.t 1), none, .write, 0⟩, ⟨(some 80), .sliceSl 4 (.t 78) (some (.t 79)) none, none, .write, 0⟩, ⟨(some 81), .move (.t 2), none, .write, 0⟩, ⟨(some 82), .copy 4 (.t 80) (.t 81), none, .write, 0⟩])
 (.seq (.region [⟨(some 83), .move (.t 0), none, .write, 0⟩, ⟨(some 6), .move (.t 83), none, .write, 0⟩])
 .ret))) .skip))
 (.seq (.region [⟨(some 84), .move (.t 0), none, .write, 0⟩, ⟨(some 85), .move (.t 8), none, .write, 0⟩, ⟨(some 86), .sliceSl 4 (.t 84) (some (.t 85)) none, none, .write, 0⟩, ⟨(some 87), .move (.t 2), none, .write, 0⟩, ⟨(some 88), .copy 4 (.t 86) (.t 87), none, .write, 0⟩])
 (.seq (.region [⟨(some 89), .move (.t 0), none, .write, 0⟩, ⟨(some 90), .move (.t 1), none, .write, 0⟩, ⟨(some 91), .sliceSl 4 (.t 89) (some (.t 90)) none, none, .write, 0⟩, ⟨(some 92), .move (.t 7), none, .write, 0⟩, ⟨(some 93), .call (.c (.func 266 [])) [(.t 91), (.t 92)], none, .write, 0⟩])
 (.seq (.region [⟨(some 94), .move (.t 0), none, .write, 0⟩, ⟨(some 6), .move (.t 94), none, .write, 0⟩])
 .ret)))))))))))) }

theorem c177 : compFunc Tryz.prog Tryz.f177 .split = some t177 := by kernel_rfl

/-- slices.Delete[[]broadside/api.Advert,broadside/api.Advert] -/
def t181 : DFunc := { ntmps := 33, results := [(.t 6)], mode := .full, body :=
 (.seq (.region [⟨(some 6), .move (.c .nsl), none, .write, 0⟩])
 (.seq (.region [⟨(some 8), .move (.t 0), none, .write, 0⟩, ⟨(some 9), .move (.t 1), none, .write, 0⟩, ⟨(some 10), .move (.t 2), none, .write, 0⟩, ⟨(some 11), .move (.t 0), none, .write, 0⟩, ⟨(some 12), .len 1 (.t 11), none, .write, 0⟩, ⟨(some 13), .slice3 (.t 8) (.t 9) (.t 10) (.t 12), none, .write, 0⟩])
 (.seq (.seq (.region [⟨(some 14), .move (.t 1), none, .write, 0⟩, ⟨(some 15), .move (.t 2), none, .write, 0⟩, ⟨(some 16), .arith .eql (.t 14) (.t 15), none, .write, 0⟩])
 (.cond (.t 16) (.seq (.region [⟨(some 17), .move (.t 0), none, .write, 0⟩, ⟨(some 6), .move (.t 17), none, .write, 0⟩])
 .ret) .skip))
 (.seq (.region [⟨(some 18), .move (.t 0), none, .write, 0⟩, ⟨(some 19), .len 1 (.t 18), none, .write, 0⟩, ⟨(some 7), .move (.t 19), none, .write, 0⟩])
 (.seq (.draw [⟨(some 20), .move (.t 0), none, .read, 0⟩, ⟨(some 21), .move (.t 1), none, .read, 0⟩, ⟨(some 22), .sliceSl 4 (.t 20) none (some (.t 21)), none, .read, 0⟩, ⟨(some 23), .move (.t 0), none, .read, 0⟩, ⟨(some 24), .move (.t 2), none, .read, 0⟩, ⟨(some 25), .sliceSl 4 (.t 23) (some (.t 24)) none, none, .read, 0⟩, ⟨(some 26), .append 70 4 48 (.t 22) (.t 25), none, .write, 0⟩, ⟨(some 0), .move (.t 26), none, .read, 1⟩])
 (.seq (.region [⟨(some 27), .move (.t 0), none, .write, 0⟩, ⟨(some 28), .move (.t 0), none, .write, 0⟩, ⟨(some 29), .len 1 (.t 28), none, .write, 0⟩, ⟨(some 30), .move (.t 7), none, .write, 0⟩, ⟨(some 31), .sliceSl 4 (.t 27) (some (.t 29)) (some (.t 30)), none, .write, 0⟩, ⟨none, .clear 4 (.agg [(.int .i64 0), (.int .i64 0), .nsl, (.int .i64 0)]) (.t 31), none, .write, 0⟩])
 (.seq (.region [⟨(some 32), .move (.t 0), none, .write, 0⟩, ⟨(some 6), .move (.t 32), none, .write, 0⟩])
 .ret))))))) }

theorem c181 : compFunc Tryz.prog Tryz.f181 .full = some t181 := by kernel_rfl

/-- broadside/adverts.Forget -/
def t194 : DFunc := { ntmps := 44, results := [(.cell 6 (some 6)), (.t 7)], mode := .full, body :=
 (.seq (.region [⟨(some 3), .box 28 6 (.t 0), none, .write, 0⟩, ⟨(some 4), .box 45 2 (.t 1), none, .write, 0⟩, ⟨(some 6), .alloc 28 6 (.agg [(.int .i64 0), .nsl, .nsl, .nsl, .nsl, .nsl]), none, .write, 0⟩, ⟨(some 7), .move (.c (.bool false)), none, .write, 0⟩])
 (.seq (.region [⟨(some 10), .load (some 6) (.t 3), none, .write, 0⟩, ⟨(some 11), .call (.c (.func 232 [])) [(.t 10)], none, .write, 0⟩, ⟨none, .store 6 (.t 3) (.t 11), none, .write, 0⟩])
 (.seq (.region [⟨(some 13), .load (some 6) (.t 3), none, .write, 0⟩, ⟨(some 14), .load (some 2) (.t 4), none, .write, 0⟩, ⟨(some 15), .call (.c (.func 73 [])) [(.t 13), (.t 14)], none, .write, 0⟩, ⟨(some 12), .move (.t 15), none, .write, 0⟩, ⟨(some 16), .extract (.t 12) 0, none, .write, 0⟩, ⟨(some 17), .extract (.t 12) 1, none, .write, 0⟩, ⟨(some 8), .move (.t 16), none, .write, 0⟩, ⟨(some 9), .move (.t 17), none, .write, 0⟩])
 (.seq (.seq (.region [⟨(some 18), .move (.t 9), none, .write, 0⟩, ⟨(some 19), .un .not (.t 18), none, .write, 0⟩, ⟨(some 20), .move (.t 19), none, .write, 0⟩, ⟨(some 21), .fieldAddr 2 (.t 3), (some (20, false)), .write, 0⟩, ⟨(some 22), .load none (.t 21), (some (20, false)), .write, 0⟩, ⟨(some 23), .move (.t 8), (some (20, false)), .write, 0⟩, ⟨(some 24), .indexAddr 4 (.t 22) (.t 23), (some (20, false)), .write, 0⟩, ⟨(some 25), .fieldAddr 3 (.t 24), (some (20, false)), .write, 0⟩, ⟨(some 26), .load none (.t 25), (some (20, false)), .write, 0⟩, ⟨(some 27), .move (.t 2), (some (20, false)), .write, 0⟩, ⟨(some 28), .arith .neq (.t 26) (.t 27), (some (20, false)), .write, 0⟩, ⟨(some 29), .pick (.t 20) (.c (.bool true)) (.t 28), none, .write, 0⟩])
 (.cond (.t 29) (.seq (.region [⟨(some 30), .load (some 6) (.t 3), none, .write, 0⟩, ⟨none, .store 6 (.t 6) (.t 30), none, .write, 0⟩, ⟨(some 7), .move (.c (.bool false)), none, .write, 0⟩])
 .ret) .skip))
 (.seq (.region [⟨(some 31), .fieldAddr 2 (.t 3), none, .write, 0⟩, ⟨(some 32), .load none (.t 31), none, .write, 0⟩, ⟨(some 33), .move (.t 8), none, .write, 0⟩, ⟨(some 34), .move (.t 8), none, .write, 0⟩, ⟨(some 35), .arith .add (.t 34) (.c (.int .i64 1)), none, .write, 0⟩, ⟨(some 36), .call (.c (.func 181 [])) [(.t 32), (.t 33), (.t 35)], none, .write, 0⟩, ⟨(some 37), .fieldAddr 2 (.t 3), none, .write, 0⟩, ⟨none, .store 1 (.t 37) (.t 36), none, .write, 0⟩])
 (.seq (.region [⟨(some 38), .fieldAddr 4 (.t 3), none, .write, 0⟩, ⟨(some 39), .load none (.t 38), none, .write, 0⟩, ⟨(some 40), .makeFunc 280 [(.t 4)], none, .write, 0⟩, ⟨(some 41), .call (.c (.func 279 [])) [(.t 39), (.t 40)], none, .write, 0⟩, ⟨(some 42), .fieldAddr 4 (.t 3), none, .write, 0⟩, ⟨none, .store 1 (.t 42) (.t 41), none, .write, 0⟩])
 (.seq (.region [⟨(some 43), .load (some 6) (.t 3), none, .write, 0⟩, ⟨none, .store 6 (.t 6) (.t 43), none, .write, 0⟩, ⟨(some 7), .move (.c (.bool true)), none, .write, 0⟩])
 .ret))))))) }

theorem c194 : compFunc Tryz.prog Tryz.f194 .full = some t194 := by kernel_rfl

/-- broadside/route.take -/
def t195 : DFunc := { ntmps := 60, results := [(.cell 8 (some 6)), (.t 9)], mode := .full, body :=
 (.seq (.region [⟨(some 4), .box 28 6 (.t 0), none, .write, 0⟩, ⟨(some 5), .box 45 2 (.t 1), none, .write, 0⟩, ⟨(some 6), .box 45 2 (.t 2), none, .write, 0⟩, ⟨(some 8), .alloc 28 6 (.agg [(.int .i64 0), .nsl, .nsl, .nsl, .nsl, .nsl]), none, .write, 0⟩, ⟨(some 9), .move (.c .nsl), none, .write, 0⟩])
 (.seq (.region [⟨(some 18), .load (some 6) (.t 4), none, .write, 0⟩, ⟨(some 19), .load (some 2) (.t 5), none, .write, 0⟩, ⟨(some 20), .call (.c (.func 26 [])) [(.t 18), (.t 19)], none, .write, 0⟩, ⟨(some 17), .move (.t 20), none, .write, 0⟩, ⟨(some 21), .extract (.t 17) 0, none, .write, 0⟩, ⟨(some 22), .extract (.t 17) 1, none, .write, 0⟩, ⟨(some 10), .alloc 70 4 (.agg [(.int .i64 0), (.int .i64 0), .nsl, (.int .i64 0)]), none, .write, 0⟩, ⟨none, .store 4 (.t 10) (.t 21), none, .write, 0⟩, ⟨(some 11), .move (.t 22), none, .write, 0⟩])
 (.seq (.region [⟨(some 24), .load (some 6) (.t 4), none, .write, 0⟩, ⟨(some 25), .load (some 2) (.t 5), none, .write, 0⟩, ⟨(some 26), .load (some 2) (.t 6), none, .write, 0⟩, ⟨(some 27), .move (.t 3), none, .write, 0⟩, ⟨(some 28), .call (.c (.func 281 [])) [(.t 24), (.t 25), (.t 26), (.t 27)], none, .write, 0⟩, ⟨(some 23), .move (.t 28), none, .write, 0⟩, ⟨(some 29), .extract (.t 23) 0, none, .write, 0⟩, ⟨(some 30), .extract (.t 23) 1, none, .write, 0⟩, ⟨(some 31), .extract (.t 23) 2, none, .write, 0⟩, ⟨none, .store 6 (.t 4) (.t 29), none, .write, 0⟩, ⟨(some 12), .move (.t 30), none, .write, 0⟩, ⟨(some 13), .move (.t 31), none, .write, 0⟩])
 (.seq (.seq (.region [⟨(some 32), .move (.t 13), none, .write, 0⟩, ⟨(some 33), .un .not (.t 32), none, .write, 0⟩])
 (.cond (.t 33) (.seq (.region [⟨(some 34), .load (some 6) (.t 4), none, .write, 0⟩, ⟨none, .store 6 (.t 8) (.t 34), none, .write, 0⟩, ⟨(some 9), .move (.c .nsl), none, .write, 0⟩])
 .ret) .skip))
 (.seq (.region [⟨(some 14), .move (.c .nsl), none, .write, 0⟩])
 (.seq (.seq (.region [⟨(some 35), .move (.t 12), none, .write, 0⟩, ⟨(some 36), .len 1 (.t 35), none, .write, 0⟩, ⟨(some 37), .move (.c (.int .i64 0)), none, .write, 0⟩])
 (.block 0 (.loop (.seq (.region [⟨(some 38), .arith .lss (.t 37) (.t 36), none, .write, 0⟩])
 (.seq (.cond (.t 38) .skip (.exit 0))
 (.seq (.block 1 (.seq (.region [⟨(some 39), .indexAddr 7 (.t 35) (.t 37), none, .write, 0⟩, ⟨(some 40), .load (some 7) (.t 39), none, .write, 0⟩, ⟨(some 16), .alloc 156 7 (.agg [(.int .i64 0), (.int .i64 0), (.int .i64 0), (.int .i64 0), .nsl, (.int .i64 0), (.bool false)]), none, .write, 0⟩, ⟨none, .store 7 (.t 16) (.t 40), none, .write, 0⟩])
 (.draw [⟨(some 42), .fieldAddr 3 (.t 10), none, .read, 0⟩, ⟨(some 43), .load none (.t 42), none, .read, 0⟩, ⟨(some 44), .load (some 7) (.t 16), none, .read, 0⟩, ⟨(some 45), .call (.c (.func 157 [])) [(.t 44)], none, .create, 0⟩, ⟨(some 41), .move (.t 14), none, .read, 0⟩, ⟨(some 46), .build [(.int .i64 0), (.int .i64 0), (.int .i64 0), (.int .i64 0), (.int .i64 0), (.int .i64 0), .nsl, .nsl] [(0, 1, (.t 43)), (1, 7, (.t 45))], none, .read, 1⟩, ⟨(some 47), .buildSlice 254 8 (.agg [(.int .i64 0), (.int .i64 0), (.int .i64 0), (.int .i64 0), (.int .i64 0), (.int .i64 0), .nsl, .nsl]) 1 [(0, (.t 46))], none, .create, 0⟩, ⟨(some 48), .append 254 8 96 (.t 41) (.t 47), none, .write, 2⟩, ⟨(some 14), .move (.t 48), none, .read, 3⟩])))
 (.region [⟨(some 49), .arith .add (.t 37) (.c (.int .i64 1)), none, .write, 0⟩, ⟨(some 37), .move (.t 49), none, .write, 0⟩])))))))
 (.seq (.draw [⟨(some 50), .load (some 6) (.t 4), none, .read, 0⟩, ⟨(some 52), .fieldAddr 3 (.t 10), none, .read, 0⟩, ⟨(some 53), .load none (.t 52), none, .read, 0⟩, ⟨(some 54), .load (some 2) (.t 5), none, .read, 0⟩, ⟨(some 55), .load (some 2) (.t 6), none, .read, 0⟩, ⟨(some 51), .move (.t 14), none, .read, 0⟩, ⟨(some 56), .build [(.int .i64 0), (.int .i64 0), (.int .i64 0), (.int .i64 0), (.int .i64 0), .nsl, .nsl] [(0, 1, (.c (.int .i64 4))), (1, 2, (.t 54)), (3, 2, (.t 55))], none, .read, 0⟩, ⟨(some 57), .build [(.int .i64 0), (.int .i64 0), (.int .i64 0), (.int .i64 0), (.int .i64 0), (.int .i64 0), .nsl, .nsl] [(0, 1, (.t 53)), (1, 7, (.t 56))], none, .read, 0⟩, ⟨(some 58), .buildSlice 254 8 (.agg [(.int .i64 0), (.int .i64 0), (.int .i64 0), (.int .i64 0), (.int .i64 0), (.int .i64 0), .nsl, .nsl]) 1 [(0, (.t 57))], none, .create, 0⟩, ⟨(some 59), .append 254 8 96 (.t 51) (.t 58), none, .create, 0⟩, ⟨none, .store 6 (.t 8) (.t 50), none, .write, 2⟩, ⟨(some 9), .move (.t 59), none, .read, 3⟩])
 .ret))))))) }

theorem c195 : compFunc Tryz.prog Tryz.f195 .full = some t195 := by kernel_rfl

/-- slices.insertionSortOrdered[int] -/
def t196 : DFunc := { ntmps := 49, results := [], mode := .full, body :=
 (.seq (.region [⟨(some 8), .move (.t 1), none, .write, 0⟩, ⟨(some 9), .arith .add (.t 8) (.c (.int .i64 1)), none, .write, 0⟩, ⟨(some 6), .move (.t 9), none, .write, 0⟩])
 (.block 0 (.loop (.seq (.seq (.region [⟨(some 10), .move (.t 6), none, .write, 0⟩, ⟨(some 11), .move (.t 2), none, .write, 0⟩, ⟨(some 12), .arith .lss (.t 10) (.t 11), none, .write, 0⟩])
 (.cond (.t 12) .skip (.exit 0)))
 (.seq (.block 1 (.seq (.region [⟨(some 15), .move (.t 6), none, .write, 0⟩, ⟨(some 7), .move (.t 15), none, .write, 0⟩])
 (.block 2 (.loop (.seq (.seq (.draw [⟨(some 16), .move (.t 7), none, .read, 0⟩, ⟨(some 17), .move (.t 1), none, .read, 0⟩, ⟨(some 18), .arith .gtr (.t 16) (.t 17), none, .read, 0⟩, ⟨(some 19), .move (.t 18), none, .read, 0⟩, ⟨(some 20), .move (.t 0), (some (19, true)), .read, 0⟩, ⟨(some 21), .move (.t 7), (some (19, true)), .read, 0⟩, ⟨(some 22), .indexAddr 1 (.t 20) (.t 21), (some (19, true)), .read, 0⟩, ⟨(some 23), .load none (.t 22), (some (19, true)), .read, 0⟩, ⟨(some 24), .move (.t 0), (some (19, true)), .read, 0⟩, ⟨(some 25), .move (.t 7), (some (19, true)), .read, 0⟩, ⟨(some 26), .arith .sub (.t 25) (.c (.int .i64 1)), (some (19, true)), .read, 0⟩, ⟨(some 27), .indexAddr 1 (.t 24) (.t 26), (some (19, true)), .read, 0⟩, ⟨(some 28), .load none (.t 27), (some (19, true)), .read, 0⟩, ⟨(some 29), .call (.c (.func 202 [])) [(.t 23), (.t 28)], (some (19, true)), .write, 0⟩, ⟨(some 30), .pick (.t 19) (.t 29) (.c (.bool false)), none, .read, 1⟩])
 (.cond (.t 30) .skip (.exit 2)))
 (.seq (.block 3 (.draw [⟨(some 38), .move (.t 0), none, .read, 0⟩, ⟨(some 39), .move (.t 7), none, .read, 0⟩, ⟨(some 40), .arith .sub (.t 39) (.c (.int .i64 1)), none, .read, 0⟩, ⟨(some 41), .indexAddr 1 (.t 38) (.t 40), none, .read, 0⟩, ⟨(some 42), .load none (.t 41), none, .read, 0⟩, ⟨(some 43), .move (.t 0), none, .read, 0⟩, ⟨(some 44), .move (.t 7), none, .read, 0⟩, ⟨(some 45), .indexAddr 1 (.t 43) (.t 44), none, .read, 0⟩, ⟨(some 46), .load none (.t 45), none, .read, 0⟩, ⟨(some 33), .move (.t 0), none, .read, 0⟩, ⟨(some 34), .move (.t 7), none, .read, 0⟩, ⟨(some 47), .indexAddr 1 (.t 33) (.t 34), none, .read, 0⟩, ⟨none, .store 1 (.t 47) (.t 42), none, .write, 0⟩, ⟨(some 35), .move (.t 0), none, .read, 0⟩, ⟨(some 36), .move (.t 7), none, .read, 0⟩, ⟨(some 37), .arith .sub (.t 36) (.c (.int .i64 1)), none, .read, 0⟩, ⟨(some 48), .indexAddr 1 (.t 35) (.t 37), none, .read, 1⟩, ⟨none, .store 1 (.t 48) (.t 46), none, .write, 1⟩]))
 (.region [⟨(some 31), .move (.t 7), none, .write, 0⟩, ⟨(some 32), .arith .sub (.t 31) (.c (.int .i64 1)), none, .write, 0⟩, ⟨(some 7), .move (.t 32), none, .write, 0⟩])))))))
 (.region [⟨(some 13), .move (.t 6), none, .write, 0⟩, ⟨(some 14), .arith .add (.t 13) (.c (.int .i64 1)), none, .write, 0⟩, ⟨(some 6), .move (.t 14), none, .write, 0⟩])))))) }

theorem c196 : compFunc Tryz.prog Tryz.f196 .full = some t196 := by kernel_rfl

/-- slices.heapSortOrdered[int] -/
def t197 : DFunc := { ntmps := 56, results := [], mode := .full, body :=
 (.seq (.region [⟨(some 11), .move (.t 1), none, .write, 0⟩, ⟨(some 6), .move (.t 11), none, .write, 0⟩])
 (.seq (.region [⟨(some 7), .move (.c (.int .i64 0)), none, .write, 0⟩])
 (.seq (.region [⟨(some 12), .move (.t 2), none, .write, 0⟩, ⟨(some 13), .move (.t 1), none, .write, 0⟩, ⟨(some 14), .arith .sub (.t 12) (.t 13), none, .write, 0⟩, ⟨(some 8), .move (.t 14), none, .write, 0⟩])
 (.seq (.seq (.region [⟨(some 15), .move (.t 8), none, .write, 0⟩, ⟨(some 16), .arith .sub (.t 15) (.c (.int .i64 1)), none, .write, 0⟩, ⟨(some 17), .arith .quo (.t 16) (.c (.int .i64 2)), none, .write, 0⟩, ⟨(some 9), .move (.t 17), none, .write, 0⟩])
 (.block 0 (.loop (.seq (.seq (.region [⟨(some 18), .move (.t 9), none, .write, 0⟩, ⟨(some 19), .arith .geq (.t 18) (.c (.int .i64 0)), none, .write, 0⟩])
 (.cond (.t 19) .skip (.exit 0)))
 (.seq (.block 1 (.region [⟨(some 22), .move (.t 0), none, .write, 0⟩, ⟨(some 23), .move (.t 9), none, .write, 0⟩, ⟨(some 24), .move (.t 8), none, .write, 0⟩, ⟨(some 25), .move (.t 6), none, .write, 0⟩, ⟨(some 26), .call (.c (.func 282 [])) [(.t 22), (.t 23), (.t 24), (.t 25)], none, .write, 0⟩]))
 (.region [⟨(some 20), .move (.t 9), none, .write, 0⟩, ⟨(some 21), .arith .sub (.t 20) (.c (.int .i64 1)), none, .write, 0⟩, ⟨(some 9), .move (.t 21), none, .write, 0⟩]))))))
 (.seq (.region [⟨(some 27), .move (.t 8), none, .write, 0⟩, ⟨(some 28), .arith .sub (.t 27) (.c (.int .i64 1)), none, .write, 0⟩, ⟨(some 10), .move (.t 28), none, .write, 0⟩])
 (.block 2 (.loop (.seq (.seq (.region [⟨(some 29), .move (.t 10), none, .write, 0⟩, ⟨(some 30), .arith .geq (.t 29) (.c (.int .i64 0)), none, .write, 0⟩])
 (.cond (.t 30) .skip (.exit 2)))
 (.seq (.block 3 (.seq (.draw [⟨(some 39), .move (.t 0), none, .read, 0⟩, ⟨(some 40), .move (.t 6), none, .read, 0⟩, ⟨(some 41), .move (.t 10), none, .read, 0⟩, ⟨(some 42), .arith .add (.t 40) (.t 41), none, .read, 0⟩, ⟨(some 43), .indexAddr 1 (.t 39) (.t 42), none, .read, 0⟩, ⟨(some 44), .load none (.t 43), none, .read, 0⟩, ⟨(some 45), .move (.t 0), none, .read, 0⟩, ⟨(some 46), .move (.t 6), none, .read, 0⟩, ⟨(some 47), .indexAddr 1 (.t 45) (.t 46), none, .read, 0⟩, ⟨(some 48), .load none (.t 47), none, .read, 0⟩, ⟨(some 33), .move (.t 0), none, .read, 0⟩, ⟨(some 34), .move (.t 6), none, .read, 0⟩, ⟨(some 49), .indexAddr 1 (.t 33) (.t 34), none, .read, 0⟩, ⟨none, .store 1 (.t 49) (.t 44), none, .write, 0⟩, ⟨(some 35), .move (.t 0), none, .read, 0⟩, ⟨(some 36), .move (.t 6), none, .read, 0⟩, ⟨(some 37), .move (.t 10), none, .read, 0⟩, ⟨(some 38), .arith .add (.t 36) (.t 37), none, .read, 0⟩, ⟨(some 50), .indexAddr 1 (.t 35) (.t 38), none, .read, 1⟩, ⟨none, .store 1 (.t 50) (.t 48), none, .write, 1⟩])
 (.region [⟨(some 51), .move (.t 0), none, .write, 0⟩, ⟨(some 52), .move (.t 7), none, .write, 0⟩, ⟨(some 53), .move (.t 10), none, .write, 0⟩, ⟨(some 54), .move (.t 6), none, .write, 0⟩, ⟨(some 55), .call (.c (.func 282 [])) [(.t 51), (.t 52), (.t 53), (.t 54)], none, .write, 0⟩])))
 (.region [⟨(some 31), .move (.t 10), none, .write, 0⟩, ⟨(some 32), .arith .sub (.t 31) (.c (.int .i64 1)), none, .write, 0⟩, ⟨(some 10), .move (.t 32), none, .write, 0⟩])))))))))) }

theorem c197 : compFunc Tryz.prog Tryz.f197 .full = some t197 := by kernel_rfl

/-- slices.breakPatternsOrdered[int] -/
def t198 : DFunc := { ntmps := 65, results := [], mode := .full, body :=
 (.seq (.region [⟨(some 11), .move (.t 2), none, .write, 0⟩, ⟨(some 12), .move (.t 1), none, .write, 0⟩, ⟨(some 13), .arith .sub (.t 11) (.t 12), none, .write, 0⟩, ⟨(some 6), .move (.t 13), none, .write, 0⟩])
 (.seq (.region [⟨(some 14), .move (.t 6), none, .write, 0⟩, ⟨(some 15), .arith .geq (.t 14) (.c (.int .i64 8)), none, .write, 0⟩])
 (.cond (.t 15) (.seq (.region [⟨(some 16), .move (.t 6), none, .write, 0⟩, ⟨(some 17), .conv .u64 (.t 16), none, .write, 0⟩, ⟨(some 7), .alloc 385 1 (.int .u64 0), none, .write, 0⟩, ⟨none, .store 1 (.t 7) (.t 17), none, .write, 0⟩])
 (.seq (.region [⟨(some 18), .move (.t 6), none, .write, 0⟩, ⟨(some 19), .call (.c (.func 283 [])) [(.t 18)], none, .write, 0⟩, ⟨(some 8), .move (.t 19), none, .write, 0⟩])
 (.seq (.region [⟨(some 20), .move (.t 1), none, .write, 0⟩, ⟨(some 21), .move (.t 6), none, .write, 0⟩, ⟨(some 22), .arith .quo (.t 21) (.c (.int .i64 4)), none, .write, 0⟩, ⟨(some 23), .arith .mul (.t 22) (.c (.int .i64 2)), none, .write, 0⟩, ⟨(some 24), .arith .add (.t 20) (.t 23), none, .write, 0⟩, ⟨(some 25), .arith .sub (.t 24) (.c (.int .i64 1)), none, .write, 0⟩, ⟨(some 9), .move (.t 25), none, .write, 0⟩])
 (.block 0 (.loop (.seq (.seq (.region [⟨(some 26), .move (.t 9), none, .write, 0⟩, ⟨(some 27), .move (.t 1), none, .write, 0⟩, ⟨(some 28), .move (.t 6), none, .write, 0⟩, ⟨(some 29), .arith .quo (.t 28) (.c (.int .i64 4)), none, .write, 0⟩, ⟨(some 30), .arith .mul (.t 29) (.c (.int .i64 2)), none, .write, 0⟩, ⟨(some 31), .arith .add (.t 27) (.t 30), none, .write, 0⟩, ⟨(some 32), .arith .add (.t 31) (.c (.int .i64 1)), none, .write, 0⟩, ⟨(some 33), .arith .leq (.t 26) (.t 32), none, .write, 0⟩])
 (.cond (.t 33) .skip (.exit 0)))
 (.seq (.block 1 (.seq (.region [⟨(some 36), .call (.c (.func 284 [])) [(.t 7)], none, .write, 0⟩, ⟨(some 37), .move (.t 8), none, .write, 0⟩, ⟨(some 38), .arith .sub (.t 37) (.c (.int .u64 1)), none, .write, 0⟩, ⟨(some 39), .arith .and (.t 36) (.t 38), none, .write, 0⟩, ⟨(some 40), .conv .i64 (.t 39), none, .write, 0⟩, ⟨(some 10), .move (.t 40), none, .write, 0⟩])
 (.seq (.seq (.region [⟨(some 41), .move (.t 10), none, .write, 0⟩, ⟨(some 42), .move (.t 6), none, .write, 0⟩, ⟨(some 43), .arith .geq (.t 41) (.t 42), none, .write, 0⟩])
 (.cond (.t 43) (.region [⟨(some 44), .move (.t 10), none, .write, 0⟩, ⟨(some 45), .move (.t 6), none, .write, 0⟩, ⟨(some 46), .arith .sub (.t 44) (.t 45), none, .write, 0⟩, ⟨(some 10), .move (.t 46), none, .write, 0⟩]) .skip))
 (.draw [⟨(some 53), .move (.t 0), none, .read, 0⟩, ⟨(some 54), .move (.t 1), none, .read, 0⟩, ⟨(some 55), .move (.t 10), none, .read, 0⟩, ⟨(some 56), .arith .add (.t 54) (.t 55), none, .read, 0⟩, ⟨(some 57), .indexAddr 1 (.t 53) (.t 56), none, .read, 0⟩, ⟨(some 58), .load none (.t 57), none, .read, 0⟩, ⟨(some 59), .move (.t 0), none, .read, 0⟩, ⟨(some 60), .move (.t 9), none, .read, 0⟩, ⟨(some 61), .indexAddr 1 (.t 59) (.t 60), none, .read, 0⟩, ⟨(some 62), .load none (.t 61), none, .read, 0⟩, ⟨(some 47), .move (.t 0), none, .read, 0⟩, ⟨(some 48), .move (.t 9), none, .read, 0⟩, ⟨(some 63), .indexAddr 1 (.t 47) (.t 48), none, .read, 0⟩, ⟨none, .store 1 (.t 63) (.t 58), none, .write, 0⟩, ⟨(some 49), .move (.t 0), none, .read, 0⟩, ⟨(some 50), .move (.t 1), none, .read, 0⟩, ⟨(some 51), .move (.t 10), none, .read, 0⟩, ⟨(some 52), .arith .add (.t 50) (.t 51), none, .read, 0⟩, ⟨(some 64), .indexAddr 1 (.t 49) (.t 52), none, .read, 1⟩, ⟨none, .store 1 (.t 64) (.t 62), none, .write, 1⟩]))))
 (.region [⟨(some 34), .move (.t 9), none, .write, 0⟩, ⟨(some 35), .arith .add (.t 34) (.c (.int .i64 1)), none, .write, 0⟩, ⟨(some 9), .move (.t 35), none, .write, 0⟩])))))))) .skip))) }

theorem c198 : compFunc Tryz.prog Tryz.f198 .full = some t198 := by kernel_rfl

/-- slices.choosePivotOrdered[int] -/
def t199 : DFunc := { ntmps := 57, results := [(.t 6), (.t 7)], mode := .full, body :=
 (.seq (.region [⟨(some 6), .move (.c (.int .i64 0)), none, .write, 0⟩, ⟨(some 7), .move (.c (.int .i64 0)), none, .write, 0⟩])
 (.seq (.region [⟨(some 13), .move (.t 2), none, .write, 0⟩, ⟨(some 14), .move (.t 1), none, .write, 0⟩, ⟨(some 15), .arith .sub (.t 13) (.t 14), none, .write, 0⟩, ⟨(some 8), .move (.t 15), none, .write, 0⟩])
 (.seq (.region [⟨(some 9), .alloc 3 1 (.int .i64 0), none, .write, 0⟩])
 (.seq (.region [⟨(some 16), .move (.t 1), none, .write, 0⟩, ⟨(some 17), .move (.t 8), none, .write, 0⟩, ⟨(some 18), .arith .quo (.t 17) (.c (.int .i64 4)), none, .write, 0⟩, ⟨(some 19), .arith .mul (.t 18) (.c (.int .i64 1)), none, .write, 0⟩, ⟨(some 20), .arith .add (.t 16) (.t 19), none, .write, 0⟩, ⟨(some 10), .move (.t 20), none, .write, 0⟩])
 (.seq (.region [⟨(some 21), .move (.t 1), none, .write, 0⟩, ⟨(some 22), .move (.t 8), none, .write, 0⟩, ⟨(some 23), .arith .quo (.t 22) (.c (.int .i64 4)), none, .write, 0⟩, ⟨(some 24), .arith .mul (.t 23) (.c (.int .i64 2)), none, .write, 0⟩, ⟨(some 25), .arith .add (.t 21) (.t 24), none, .write, 0⟩, ⟨(some 11), .move (.t 25), none, .write, 0⟩])
 (.seq (.region [⟨(some 26), .move (.t 1), none, .write, 0⟩, ⟨(some 27), .move (.t 8), none, .write, 0⟩, ⟨(some 28), .arith .quo (.t 27) (.c (.int .i64 4)), none, .write, 0⟩, ⟨(some 29), .arith .mul (.t 28) (.c (.int .i64 3)), none, .write, 0⟩, ⟨(some 30), .arith .add (.t 26) (.t 29), none, .write, 0⟩, ⟨(some 12), .move (.t 30), none, .write, 0⟩])
 (.seq (.seq (.region [⟨(some 31), .move (.t 8), none, .write, 0⟩, ⟨(some 32), .arith .geq (.t 31) (.c (.int .i64 8)), none, .write, 0⟩])
 (.cond (.t 32) (.seq (.seq (.region [⟨(some 33), .move (.t 8), none, .write, 0⟩, ⟨(some 34), .arith .geq (.t 33) (.c (.int .i64 50)), none, .write, 0⟩])
 (.cond (.t 34) (.seq (.region [⟨(some 35), .move (.t 0), none, .write, 0⟩, ⟨(some 36), .move (.t 10), none, .write, 0⟩, ⟨(some 37), .call (.c (.func 285 [])) [(.t 35), (.t 36), (.t 9)], none, .write, 0⟩, ⟨(some 10), .move (.t 37), none, .write, 0⟩])
 (.seq (.region [⟨(some 38), .move (.t 0), none, .write, 0⟩, ⟨(some 39), .move (.t 11), none, .write, 0⟩, ⟨(some 40), .call (.c (.func 285 [])) [(.t 38), (.t 39), (.t 9)], none, .write, 0⟩, ⟨(some 11), .move (.t 40), none, .write, 0⟩])
 (.region [⟨(some 41), .move (.t 0), none, .write, 0⟩, ⟨(some 42), .move (.t 12), none, .write, 0⟩, ⟨(some 43), .call (.c (.func 285 [])) [(.t 41), (.t 42), (.t 9)], none, .write, 0⟩, ⟨(some 12), .move (.t 43), none, .write, 0⟩]))) .skip))
 (.region [⟨(some 44), .move (.t 0), none, .write, 0⟩, ⟨(some 45), .move (.t 10), none, .write, 0⟩, ⟨(some 46), .move (.t 11), none, .write, 0⟩, ⟨(some 47), .move (.t 12), none, .write, 0⟩, ⟨(some 48), .call (.c (.func 286 [])) [(.t 44), (.t 45), (.t 46), (.t 47), (.t 9)], none, .write, 0⟩, ⟨(some 11), .move (.t 48), none, .write, 0⟩])) .skip))
 (.seq (.region [⟨(some 49), .load none (.t 9), none, .write, 0⟩])
 (.block 0 (.seq (.region [⟨(some 52), .arith .eql (.t 49) (.c (.int .i64 0)), none, .write, 0⟩, ⟨(some 51), .move (.t 52), none, .write, 0⟩])
 (.cond (.t 51) (.seq (.region [⟨(some 53), .move (.t 11), none, .write, 0⟩, ⟨(some 6), .move (.t 53), none, .write, 0⟩, ⟨(some 7), .move (.c (.int .i64 1)), none, .write, 0⟩])
 .ret) (.seq (.region [⟨(some 55), .arith .eql (.t 49) (.c (.int .i64 12)), none, .write, 0⟩, ⟨(some 54), .move (.t 55), none, .write, 0⟩])
 (.cond (.t 54) (.seq (.region [⟨(some 56), .move (.t 11), none, .write, 0⟩, ⟨(some 6), .move (.t 56), none, .write, 0⟩, ⟨(some 7), .move (.c (.int .i64 2)), none, .write, 0⟩])
 .ret) (.seq (.region [⟨(some 50), .move (.t 11), none, .write, 0⟩, ⟨(some 6), .move (.t 50), none, .write, 0⟩, ⟨(some 7), .move (.c (.int .i64 0)), none, .write, 0⟩])
 .ret)))))))))))))) }

theorem c199 : compFunc Tryz.prog Tryz.f199 .full = some t199 := by kernel_rfl

/-- slices.reverseRangeOrdered[int] -/
def t200 : DFunc := { ntmps := 32, results := [], mode := .full, body :=
 (.seq (.region [⟨(some 8), .move (.t 1), none, .write, 0⟩, ⟨(some 6), .move (.t 8), none, .write, 0⟩])
 (.seq (.region [⟨(some 9), .move (.t 2), none, .write, 0⟩, ⟨(some 10), .arith .sub (.t 9) (.c (.int .i64 1)), none, .write, 0⟩, ⟨(some 7), .move (.t 10), none, .write, 0⟩])
 (.block 0 (.loop (.seq (.seq (.region [⟨(some 11), .move (.t 6), none, .write, 0⟩, ⟨(some 12), .move (.t 7), none, .write, 0⟩, ⟨(some 13), .arith .lss (.t 11) (.t 12), none, .write, 0⟩])
 (.cond (.t 13) .skip (.exit 0)))
 (.block 1 (.seq (.draw [⟨(some 18), .move (.t 0), none, .read, 0⟩, ⟨(some 19), .move (.t 7), none, .read, 0⟩, ⟨(some 20), .indexAddr 1 (.t 18) (.t 19), none, .read, 0⟩, ⟨(some 21), .load none (.t 20), none, .read, 0⟩, ⟨(some 22), .move (.t 0), none, .read, 0⟩, ⟨(some 23), .move (.t 6), none, .read, 0⟩, ⟨(some 24), .indexAddr 1 (.t 22) (.t 23), none, .read, 0⟩, ⟨(some 25), .load none (.t 24), none, .read, 0⟩, ⟨(some 14), .move (.t 0), none, .read, 0⟩, ⟨(some 15), .move (.t 6), none, .read, 0⟩, ⟨(some 26), .indexAddr 1 (.t 14) (.t 15), none, .read, 0⟩, ⟨none, .store 1 (.t 26) (.t 21), none, .write, 0⟩, ⟨(some 16), .move (.t 0), none, .read, 0⟩, ⟨(some 17), .move (.t 7), none, .read, 0⟩, ⟨(some 27), .indexAddr 1 (.t 16) (.t 17), none, .read, 1⟩, ⟨none, .store 1 (.t 27) (.t 25), none, .write, 1⟩])
 (.seq (.region [⟨(some 28), .move (.t 6), none, .write, 0⟩, ⟨(some 29), .arith .add (.t 28) (.c (.int .i64 1)), none, .write, 0⟩, ⟨(some 6), .move (.t 29), none, .write, 0⟩])
 (.region [⟨(some 30), .move (.t 7), none, .write, 0⟩, ⟨(some 31), .arith .sub (.t 30) (.c (.int .i64 1)), none, .write, 0⟩, ⟨(some 7), .move (.t 31), none, .write, 0⟩]))))))))) }

theorem c200 : compFunc Tryz.prog Tryz.f200 .full = some t200 := by kernel_rfl

end Go.Dm.TabN
