/-
The table of functions, brought into the machine's form (TabF, part 1). Written by program (wip/tools/table.lean.txt).
-/
import Derived.Test.YtdacnhfdcejahaaDm32
import Derived.Test.YtdacnhfdcejahaaRows
import Derived.KernelRfl
namespace Go.Dm.TabF
open Go.Proofs

/-- slices.pdqsortOrdered[int] -/
def t16 : DFunc := { ntmps := 134, results := [], mode := .full, body :=
 (.seq (.region [⟨(some 8), .move (.c (.bool true)), none, .write, 0⟩])
 (.seq (.region [⟨(some 9), .move (.c (.bool true)), none, .write, 0⟩])
 (.block 0 (.loop (.block 1 (.seq (.region [⟨(some 19), .move (.t 2), none, .write, 0⟩, ⟨(some 20), .move (.t 1), none, .write, 0⟩, ⟨(some 21), .arith .sub (.t 19) (.t 20), none, .write, 0⟩, ⟨(some 10), .move (.t 21), none, .write, 0⟩])
 (.seq (.seq (.region [⟨(some 22), .move (.t 10), none, .write, 0⟩, ⟨(some 23), .arith .leq (.t 22) (.c (.int .i64 12)), none, .write, 0⟩])
 (.cond (.t 23) (.seq (.region [⟨(some 24), .move (.t 0), none, .write, 0⟩, ⟨(some 25), .move (.t 1), none, .write, 0⟩, ⟨(some 26), .move (.t 2), none, .write, 0⟩, ⟨(some 27), .call (.c (.func 32 [])) [(.t 24), (.t 25), (.t 26)], none, .write, 0⟩])
 .ret) .skip))
 (.seq (.seq (.region [⟨(some 28), .move (.t 3), none, .write, 0⟩, ⟨(some 29), .arith .eql (.t 28) (.c (.int .i64 0)), none, .write, 0⟩])
 (.cond (.t 29) (.seq (.region [⟨(some 30), .move (.t 0), none, .write, 0⟩, ⟨(some 31), .move (.t 1), none, .write, 0⟩, ⟨(some 32), .move (.t 2), none, .write, 0⟩, ⟨(some 33), .call (.c (.func 33 [])) [(.t 30), (.t 31), (.t 32)], none, .write, 0⟩])
 .ret) .skip))
 (.seq (.seq (.region [⟨(some 34), .move (.t 8), none, .write, 0⟩, ⟨(some 35), .un .not (.t 34), none, .write, 0⟩])
 (.cond (.t 35) (.seq (.region [⟨(some 36), .move (.t 0), none, .write, 0⟩, ⟨(some 37), .move (.t 1), none, .write, 0⟩, ⟨(some 38), .move (.t 2), none, .write, 0⟩, ⟨(some 39), .call (.c (.func 34 [])) [(.t 36), (.t 37), (.t 38)], none, .write, 0⟩])
 (.region [⟨(some 40), .move (.t 3), none, .write, 0⟩, ⟨(some 41), .arith .sub (.t 40) (.c (.int .i64 1)), none, .write, 0⟩, ⟨(some 3), .move (.t 41), none, .write, 0⟩])) .skip))
 (.seq (.region [⟨(some 43), .move (.t 0), none, .write, 0⟩, ⟨(some 44), .move (.t 1), none, .write, 0⟩, ⟨(some 45), .move (.t 2), none, .write, 0⟩, ⟨(some 46), .call (.c (.func 35 [])) [(.t 43), (.t 44), (.t 45)], none, .write, 0⟩, ⟨(some 42), .move (.t 46), none, .write, 0⟩, ⟨(some 47), .extract (.t 42) 0, none, .write, 0⟩, ⟨(some 48), .extract (.t 42) 1, none, .write, 0⟩, ⟨(some 11), .move (.t 47), none, .write, 0⟩, ⟨(some 12), .move (.t 48), none, .write, 0⟩])
 (.seq (.seq (.region [⟨(some 49), .move (.t 12), none, .write, 0⟩, ⟨(some 50), .arith .eql (.t 49) (.c (.int .i64 2)), none, .write, 0⟩])
 (.cond (.t 50) (.seq (.region [⟨(some 51), .move (.t 0), none, .write, 0⟩, ⟨(some 52), .move (.t 1), none, .write, 0⟩, ⟨(some 53), .move (.t 2), none, .write, 0⟩, ⟨(some 54), .call (.c (.func 36 [])) [(.t 51), (.t 52), (.t 53)], none, .write, 0⟩])
 (.seq (.region [⟨(some 55), .move (.t 2), none, .write, 0⟩, ⟨(some 56), .arith .sub (.t 55) (.c (.int .i64 1)), none, .write, 0⟩, ⟨(some 57), .move (.t 11), none, .write, 0⟩, ⟨(some 58), .move (.t 1), none, .write, 0⟩, ⟨(some 59), .arith .sub (.t 57) (.t 58), none, .write, 0⟩, ⟨(some 60), .arith .sub (.t 56) (.t 59), none, .write, 0⟩, ⟨(some 11), .move (.t 60), none, .write, 0⟩])
 (.region [⟨(some 12), .move (.c (.int .i64 1)), none, .write, 0⟩]))) .skip))
 (.seq (.seq (.region [⟨(some 61), .move (.t 8), none, .write, 0⟩, ⟨(some 62), .move (.t 61), none, .write, 0⟩, ⟨(some 63), .move (.t 9), (some (62, true)), .write, 0⟩, ⟨(some 64), .pick (.t 62) (.t 63) (.c (.bool false)), none, .write, 0⟩, ⟨(some 65), .move (.t 64), none, .write, 0⟩, ⟨(some 66), .move (.t 12), (some (65, true)), .write, 0⟩, ⟨(some 67), .arith .eql (.t 66) (.c (.int .i64 1)), (some (65, true)), .write, 0⟩, ⟨(some 68), .pick (.t 65) (.t 67) (.c (.bool false)), none, .write, 0⟩])
 (.cond (.t 68) (.seq (.region [⟨(some 69), .move (.t 0), none, .write, 0⟩, ⟨(some 70), .move (.t 1), none, .write, 0⟩, ⟨(some 71), .move (.t 2), none, .write, 0⟩, ⟨(some 72), .call (.c (.func 37 [])) [(.t 69), (.t 70), (.t 71)], none, .write, 0⟩])
 (.cond (.t 72) .ret .skip)) .skip))
 (.seq (.seq (.draw [⟨(some 73), .move (.t 1), none, .read, 0⟩, ⟨(some 74), .arith .gtr (.t 73) (.c (.int .i64 0)), none, .read, 0⟩, ⟨(some 75), .move (.t 74), none, .read, 0⟩, ⟨(some 76), .move (.t 0), (some (75, true)), .read, 0⟩, ⟨(some 77), .move (.t 1), (some (75, true)), .read, 0⟩, ⟨(some 78), .arith .sub (.t 77) (.c (.int .i64 1)), (some (75, true)), .read, 0⟩, ⟨(some 79), .indexAddr 1 (.t 76) (.t 78), (some (75, true)), .read, 0⟩, ⟨(some 80), .load none (.t 79), (some (75, true)), .read, 0⟩, ⟨(some 81), .move (.t 0), (some (75, true)), .read, 0⟩, ⟨(some 82), .move (.t 11), (some (75, true)), .read, 0⟩, ⟨(some 83), .indexAddr 1 (.t 81) (.t 82), (some (75, true)), .read, 0⟩, ⟨(some 84), .load none (.t 83), (some (75, true)), .read, 0⟩, ⟨(some 85), .call (.c (.func 38 [])) [(.t 80), (.t 84)], (some (75, true)), .write, 0⟩, ⟨(some 86), .un .not (.t 85), (some (75, true)), .read, 1⟩, ⟨(some 87), .pick (.t 75) (.t 86) (.c (.bool false)), none, .read, 1⟩])
 (.cond (.t 87) (.seq (.region [⟨(some 88), .move (.t 0), none, .write, 0⟩, ⟨(some 89), .move (.t 1), none, .write, 0⟩, ⟨(some 90), .move (.t 2), none, .write, 0⟩, ⟨(some 91), .move (.t 11), none, .write, 0⟩, ⟨(some 92), .call (.c (.func 39 [])) [(.t 88), (.t 89), (.t 90), (.t 91)], none, .write, 0⟩, ⟨(some 13), .move (.t 92), none, .write, 0⟩])
 (.seq (.region [⟨(some 93), .move (.t 13), none, .write, 0⟩, ⟨(some 1), .move (.t 93), none, .write, 0⟩])
 (.exit 1))) .skip))
 (.seq (.region [⟨(some 95), .move (.t 0), none, .write, 0⟩, ⟨(some 96), .move (.t 1), none, .write, 0⟩, ⟨(some 97), .move (.t 2), none, .write, 0⟩, ⟨(some 98), .move (.t 11), none, .write, 0⟩, ⟨(some 99), .call (.c (.func 40 [])) [(.t 95), (.t 96), (.t 97), (.t 98)], none, .write, 0⟩, ⟨(some 94), .move (.t 99), none, .write, 0⟩, ⟨(some 100), .extract (.t 94) 0, none, .write, 0⟩, ⟨(some 101), .extract (.t 94) 1, none, .write, 0⟩, ⟨(some 14), .move (.t 100), none, .write, 0⟩, ⟨(some 15), .move (.t 101), none, .write, 0⟩])
 (.seq (.region [⟨(some 102), .move (.t 15), none, .write, 0⟩, ⟨(some 9), .move (.t 102), none, .write, 0⟩])
 (.seq (.region [⟨(some 103), .move (.t 14), none, .write, 0⟩, ⟨(some 104), .move (.t 1), none, .write, 0⟩, ⟨(some 105), .arith .sub (.t 103) (.t 104), none, .write, 0⟩, ⟨(some 106), .move (.t 2), none, .write, 0⟩, ⟨(some 107), .move (.t 14), none, .write, 0⟩, ⟨(some 108), .arith .sub (.t 106) (.t 107), none, .write, 0⟩, ⟨(some 16), .move (.t 105), none, .write, 0⟩, ⟨(some 17), .move (.t 108), none, .write, 0⟩])
 (.seq (.region [⟨(some 109), .move (.t 10), none, .write, 0⟩, ⟨(some 110), .arith .quo (.t 109) (.c (.int .i64 8)), none, .write, 0⟩, ⟨(some 18), .move (.t 110), none, .write, 0⟩])
 (.seq (.region [⟨(some 111), .move (.t 16), none, .write, 0⟩, ⟨(some 112), .move (.t 17), none, .write, 0⟩, ⟨(some 113), .arith .lss (.t 111) (.t 112), none, .write, 0⟩])
 (.cond (.t 113) (.seq (.region [⟨(some 114), .move (.t 16), none, .write, 0⟩, ⟨(some 115), .move (.t 18), none, .write, 0⟩, ⟨(some 116), .arith .geq (.t 114) (.t 115), none, .write, 0⟩, ⟨(some 8), .move (.t 116), none, .write, 0⟩])
 (.seq (.region [⟨(some 117), .move (.t 0), none, .write, 0⟩, ⟨(some 118), .move (.t 1), none, .write, 0⟩, ⟨(some 119), .move (.t 14), none, .write, 0⟩, ⟨(some 120), .move (.t 3), none, .write, 0⟩, ⟨(some 121), .call (.c (.func 16 [])) [(.t 117), (.t 118), (.t 119), (.t 120)], none, .write, 0⟩])
 (.region [⟨(some 122), .move (.t 14), none, .write, 0⟩, ⟨(some 123), .arith .add (.t 122) (.c (.int .i64 1)), none, .write, 0⟩, ⟨(some 1), .move (.t 123), none, .write, 0⟩]))) (.seq (.region [⟨(some 124), .move (.t 17), none, .write, 0⟩, ⟨(some 125), .move (.t 18), none, .write, 0⟩, ⟨(some 126), .arith .geq (.t 124) (.t 125), none, .write, 0⟩, ⟨(some 8), .move (.t 126), none, .write, 0⟩])
 (.seq (.region [⟨(some 127), .move (.t 0), none, .write, 0⟩, ⟨(some 128), .move (.t 14), none, .write, 0⟩, ⟨(some 129), .arith .add (.t 128) (.c (.int .i64 1)), none, .write, 0⟩, ⟨(some 130), .move (.t 2), none, .write, 0⟩, ⟨(some 131), .move (.t 3), none, .write, 0⟩, ⟨(some 132), .call (.c (.func 16 [])) [(.t 127), (.t 129), (.t 130), (.t 131)], none, .write, 0⟩])
 (.region [⟨(some 133), .move (.t 14), none, .write, 0⟩, ⟨(some 2), .move (.t 133), none, .write, 0⟩])))))))))))))))))))))) }

theorem c16 : compFunc Try.prog Try.f16 .full = some t16 := by kernel_rfl

/-- math/bits.Len -/
def t17 : DFunc := { ntmps := 8, results := [(.t 2)], mode := .full, body :=
 (.seq (.region [⟨(some 2), .move (.c (.int .i64 0)), none, .write, 0⟩])
 (.seq (.cond (.c (.bool false)) (.seq (.region [⟨(some 3), .move (.t 0), none, .write, 0⟩, ⟨(some 4), .conv .u32 (.t 3), none, .write, 0⟩, ⟨(some 5), .call (.c (.func 41 [])) [(.t 4)], none, .write, 0⟩, ⟨(some 2), .move (.t 5), none, .write, 0⟩])
 .ret) .skip)
 (.seq (.region [⟨(some 6), .move (.t 0), none, .write, 0⟩, ⟨(some 7), .call (.c (.func 42 [])) [(.t 6)], none, .write, 0⟩, ⟨(some 2), .move (.t 7), none, .write, 0⟩])
 .ret))) }

theorem c17 : compFunc Try.prog Try.f17 .full = some t17 := by kernel_rfl

/-- broadside/adverts.copied -/
def t18 : DFunc := { ntmps := 24, results := [(.cell 2 (some 6))], mode := .full, body :=
 (.seq (.region [⟨(some 1), .box 28 6 (.t 0), none, .write, 0⟩, ⟨(some 2), .alloc 28 6 (.agg [(.int .i64 0), .nsl, .nsl, .nsl, .nsl, .nsl]), none, .write, 0⟩])
 (.seq (.draw [⟨(some 3), .fieldAddr 1 (.t 1), none, .read, 0⟩, ⟨(some 4), .load none (.t 3), none, .read, 0⟩, ⟨(some 5), .call (.c (.func 7 [])) [(.t 4)], none, .create, 0⟩, ⟨(some 6), .fieldAddr 2 (.t 1), none, .read, 0⟩, ⟨(some 7), .load none (.t 6), none, .read, 0⟩, ⟨(some 8), .call (.c (.func 43 [])) [(.t 7)], none, .create, 0⟩, ⟨(some 9), .fieldAddr 3 (.t 1), none, .read, 0⟩, ⟨(some 10), .load none (.t 9), none, .read, 0⟩, ⟨(some 11), .call (.c (.func 44 [])) [(.t 10)], none, .create, 0⟩, ⟨(some 12), .fieldAddr 4 (.t 1), none, .read, 0⟩, ⟨(some 13), .load none (.t 12), none, .read, 0⟩, ⟨(some 14), .call (.c (.func 24 [])) [(.t 13)], none, .create, 0⟩, ⟨(some 15), .fieldAddr 5 (.t 1), none, .read, 0⟩, ⟨(some 16), .load none (.t 15), none, .read, 0⟩, ⟨(some 17), .call (.c (.func 45 [])) [(.t 16)], none, .write, 4⟩, ⟨(some 18), .fieldAddr 1 (.t 1), none, .read, 1⟩, ⟨none, .store 1 (.t 18) (.t 5), none, .write, 5⟩, ⟨(some 19), .fieldAddr 2 (.t 1), none, .read, 6⟩, ⟨none, .store 1 (.t 19) (.t 8), none, .write, 6⟩, ⟨(some 20), .fieldAddr 3 (.t 1), none, .read, 7⟩, ⟨none, .store 1 (.t 20) (.t 11), none, .write, 7⟩, ⟨(some 21), .fieldAddr 4 (.t 1), none, .read, 8⟩, ⟨none, .store 1 (.t 21) (.t 14), none, .write, 8⟩, ⟨(some 22), .fieldAddr 5 (.t 1), none, .read, 9⟩, ⟨none, .store 1 (.t 22) (.t 17), none, .write, 9⟩])
 (.seq (.region [⟨(some 23), .load (some 6) (.t 1), none, .write, 0⟩, ⟨none, .store 6 (.t 2) (.t 23), none, .write, 0⟩])
 .ret))) }

theorem c18 : compFunc Try.prog Try.f18 .full = some t18 := by kernel_rfl

/-- broadside/adverts.seen -/
def t19 : DFunc := { ntmps := 12, results := [(.t 4), (.t 5)], mode := .full, body :=
 (.seq (.region [⟨(some 2), .box 28 6 (.t 0), none, .write, 0⟩, ⟨(some 3), .box 31 2 (.t 1), none, .write, 0⟩, ⟨(some 4), .move (.c (.int .i64 0)), none, .write, 0⟩, ⟨(some 5), .move (.c (.bool false)), none, .write, 0⟩])
 (.seq (.region [⟨(some 6), .fieldAddr 3 (.t 2), none, .write, 0⟩, ⟨(some 7), .load none (.t 6), none, .write, 0⟩, ⟨(some 8), .load (some 2) (.t 3), none, .write, 0⟩, ⟨(some 9), .call (.c (.func 46 [])) [(.t 7), (.t 8), (.c (.func 47 []))], none, .write, 0⟩, ⟨(some 10), .extract (.t 9) 0, none, .write, 0⟩, ⟨(some 11), .extract (.t 9) 1, none, .write, 0⟩, ⟨(some 4), .move (.t 10), none, .write, 0⟩, ⟨(some 5), .move (.t 11), none, .write, 0⟩])
 .ret)) }

theorem c19 : compFunc Try.prog Try.f19 .full = some t19 := by kernel_rfl

/-- broadside/adverts.place -/
def t20 : DFunc := { ntmps := 12, results := [(.t 4), (.t 5)], mode := .full, body :=
 (.seq (.region [⟨(some 2), .box 28 6 (.t 0), none, .write, 0⟩, ⟨(some 3), .box 31 2 (.t 1), none, .write, 0⟩, ⟨(some 4), .move (.c (.int .i64 0)), none, .write, 0⟩, ⟨(some 5), .move (.c (.bool false)), none, .write, 0⟩])
 (.seq (.region [⟨(some 6), .fieldAddr 2 (.t 2), none, .write, 0⟩, ⟨(some 7), .load none (.t 6), none, .write, 0⟩, ⟨(some 8), .load (some 2) (.t 3), none, .write, 0⟩, ⟨(some 9), .call (.c (.func 48 [])) [(.t 7), (.t 8), (.c (.func 49 []))], none, .write, 0⟩, ⟨(some 10), .extract (.t 9) 0, none, .write, 0⟩, ⟨(some 11), .extract (.t 9) 1, none, .write, 0⟩, ⟨(some 4), .move (.t 10), none, .write, 0⟩, ⟨(some 5), .move (.t 11), none, .write, 0⟩])
 .ret)) }

theorem c20 : compFunc Try.prog Try.f20 .full = some t20 := by kernel_rfl

/-- slices.Insert[[]broadside/api.Advert,broadside/api.Advert] -/
def t21 : DFunc := { ntmps := 95, results := [(.t 6)], mode := .split, body :=
 (.seq (.region [⟨(some 6), .move (.c .nsl), none, .write, 0⟩])
 (.seq (.region [⟨(some 10), .move (.t 0), none, .write, 0⟩, ⟨(some 11), .move (.t 1), none, .write, 0⟩, ⟨(some 12), .sliceSl 4 (.t 10) (some (.t 11)) none, none, .write, 0⟩])
 (.seq (.region [⟨(some 13), .move (.t 2), none, .write, 0⟩, ⟨(some 14), .len 1 (.t 13), none, .write, 0⟩, ⟨(some 7), .move (.t 14), none, .write, 0⟩])
 (.seq (.seq (.region [⟨(some 15), .move (.t 7), none, .write, 0⟩, ⟨(some 16), .arith .eql (.t 15) (.c (.int .i64 0)), none, .write, 0⟩])
 (.cond (.t 16) (.seq (.region [⟨(some 17), .move (.t 0), none, .write, 0⟩, ⟨(some 6), .move (.t 17), none, .write, 0⟩])
 .ret) .skip))
 (.seq (.region [⟨(some 18), .move (.t 0), none, .write, 0⟩, ⟨(some 19), .len 1 (.t 18), none, .write, 0⟩, ⟨(some 8), .move (.t 19), none, .write, 0⟩])
 (.seq (.seq (.region [⟨(some 20), .move (.t 1), none, .write, 0⟩, ⟨(some 21), .move (.t 8), none, .write, 0⟩, ⟨(some 22), .arith .eql (.t 20) (.t 21), none, .write, 0⟩])
 (.cond (.t 22) (.seq (.region [⟨(some 23), .move (.t 0), none, .write, 0⟩, ⟨(some 24), .move (.t 2), none, .write, 0⟩, ⟨(some 25), .append 50 4 48 (.t 23) (.t 24), none, .write, 0⟩, ⟨(some 6), .move (.t 25), none, .write, 0⟩])
 .ret) .skip))
 (.seq (.seq (.region [⟨(some 26), .move (.t 8), none, .write, 0⟩, ⟨(some 27), .move (.t 7), none, .write, 0⟩, ⟨(some 28), .arith .add (.t 26) (.t 27), none, .write, 0⟩, ⟨(some 29), .move (.t 0), none, .write, 0⟩, ⟨(some 30), .cap (.t 29), none, .write, 0⟩, ⟨(some 31), .arith .gtr (.t 28) (.t 30), none, .write, 0⟩])
 (.cond (.t 31) (.seq (.region [⟨(some 32), .move (.t 0), none, .write, 0⟩, ⟨(some 33), .move (.t 1), none, .write, 0⟩, ⟨(some 34), .sliceSl 4 (.t 32) none (some (.t 33)), none, .write, 0⟩, ⟨(some 35), .move (.t 8), none, .write, 0⟩, ⟨(some 36), .move (.t 7), none, .write, 0⟩, ⟨(some 37), .arith .add (.t 35) (.t 36), none, .write, 0⟩, ⟨(some 38), .move (.t 1), none, .write, 0⟩, ⟨(some 39), .arith .sub (.t 37) (.t 38), none, .write, 0⟩, ⟨(some 40), .appendZ 50 4 48 (.agg [(.int .i64 0), (.int .i64 0), .nsl, (.int .i64 0)]) (.t 34) (.t 39), none, .write, 0⟩, ⟨(some 9), .move (.t 40), none, .write, 0⟩])
 (.seq (.region [⟨(some 41), .move (.t 9), none, .write, 0⟩, ⟨(some 42), .move (.t 1), none, .write, 0⟩, ⟨(some 43), .sliceSl 4 (.t 41) (some (.t 42)) none, none, .write, 0⟩, ⟨(some 44), .move (.t 2), none, .write, 0⟩, ⟨(some 45), .copy 4 (.t 43) (.t 44), none, .write, 0⟩])
 (.seq (.draw [⟨(some 46), .move (.t 9), none, .read, 0⟩, ⟨(some 47), .move (.t 1), none, .read, 0⟩, ⟨(some 48), .move (.t 7), none, .read, 0⟩, ⟨(some 49), .arith .add (.t 47) (.t 48), none, .read, 0⟩, ⟨(some 50), .sliceSl 4 (.t 46) (some (.t 49)) none, none, .read, 0⟩, ⟨(some 51), .move (.t 0), none, .read, 0⟩, ⟨(some 52), .move (.t 1), none, .read, 0⟩, ⟨(some 53), .sliceSl 4 (.t 51) (some (.t 52)) none, none, .read, 0⟩, ⟨(some 54), .copy 4 (.t 50) (.t 53), none, .write, 0⟩])
 (.seq (.region [⟨(some 55), .move (.t 9), none, .write, 0⟩, ⟨(some 6), .move (.t 55), none, .write, 0⟩])
 .ret)))) .skip))
 (.seq (.region [⟨(some 56), .move (.t 0), none, .write, 0⟩, ⟨(some 57), .move (.t 8), none, .write, 0⟩, ⟨(some 58), .move (.t 7), none, .write, 0⟩, ⟨(some 59), .arith .add (.t 57) (.t 58), none, .write, 0⟩, ⟨(some 60), .sliceSl 4 (.t 56) none (some (.t 59)), none, .write, 0⟩, ⟨(some 0), .move (.t 60), none, .write, 0⟩])
 (.seq (.seq (.region [⟨(some 61), .move (.t 2), none, .write, 0⟩, ⟨(some 62), .move (.t 0), none, .write, 0⟩, ⟨(some 63), .move (.t 1), none, .write, 0⟩, ⟨(some 64), .move (.t 7), none, .write, 0⟩, ⟨(some 65), .arith .add (.t 63) (.t 64), none, .write, 0⟩, ⟨(some 66), .sliceSl 4 (.t 62) (some (.t 65)) none, none, .write, 0⟩, ⟨(some 67), .call (.c (.func 50 [])) [(.t 61), (.t 66)], none, .write, 0⟩, ⟨(some 68), .un .not (.t 67), none, .write, 0⟩])
 (.cond (.t 68) (.seq (.draw [⟨(some 69), .move (.t 0), none, .read, 0⟩, ⟨(some 70), .move (.t 1), none, .read, 0⟩, ⟨(some 71), .move (.t 7), none, .read, 0⟩, ⟨(some 72), .arith .add (.t 70) (.t 71), none, .read, 0⟩, ⟨(some 73), .sliceSl 4 (.t 69) (some (.t 72)) none, none, .read, 0⟩, ⟨(some 74), .move (.t 0), none, .read, 0⟩, ⟨(some 75), .move (.t 1), none, .read, 0⟩, ⟨(some 76), .sliceSl 4 (.t 74) (some (.t 75)) none, none, .read, 0⟩, ⟨(some 77), .copy 4 (.t 73) (.t 76), none, .write, 0⟩])
 (.seq (.region [⟨(some 78), .move (.t 0), none, .write, 0⟩, ⟨(some 79), .move (.t 1), none, .write, 0⟩, ⟨(some 80), .sliceSl 4 (.t 78) (some (.t 79)) none, none, .write, 0⟩, ⟨(some 81), .move (.t 2), none, .write, 0⟩, ⟨(some 82), .copy 4 (.t 80) (.t 81), none, .write, 0⟩])
 (.seq (.region [⟨(some 83), .move (.t 0), none, .write, 0⟩, ⟨(some 6), .move (.t 83), none, .write, 0⟩])
 .ret))) .skip))
 (.seq (.region [⟨(some 84), .move (.t 0), none, .write, 0⟩, ⟨(some 85), .move (.t 8), none, .write, 0⟩, ⟨(some 86), .sliceSl 4 (.t 84) (some (.t 85)) none, none, .write, 0⟩, ⟨(some 87), .move (.t 2), none, .write, 0⟩, ⟨(some 88), .copy 4 (.t 86) (.t 87), none, .write, 0⟩])
 (.seq (.region [⟨(some 89), .move (.t 0), none, .write, 0⟩, ⟨(some 90), .move (.t 1), none, .write, 0⟩, ⟨(some 91), .sliceSl 4 (.t 89) (some (.t 90)) none, none, .write, 0⟩, ⟨(some 92), .move (.t 7), none, .write, 0⟩, ⟨(some 93), .call (.c (.func 51 [])) [(.t 91), (.t 92)], none, .write, 0⟩])
 (.seq (.region [⟨(some 94), .move (.t 0), none, .write, 0⟩, ⟨(some 6), .move (.t 94), none, .write, 0⟩])
 .ret)))))))))))) }

theorem c21 : compFunc Try.prog Try.f21 .split = some t21 := by kernel_rfl

/-- slices.Insert[[]broadside/api.ID,broadside/api.ID] -/
def t22 : DFunc := { ntmps := 95, results := [(.t 6)], mode := .split, body :=
 (.seq (.region [⟨(some 6), .move (.c .nsl), none, .write, 0⟩])
 (.seq (.region [⟨(some 10), .move (.t 0), none, .write, 0⟩, ⟨(some 11), .move (.t 1), none, .write, 0⟩, ⟨(some 12), .sliceSl 2 (.t 10) (some (.t 11)) none, none, .write, 0⟩])
 (.seq (.region [⟨(some 13), .move (.t 2), none, .write, 0⟩, ⟨(some 14), .len 1 (.t 13), none, .write, 0⟩, ⟨(some 7), .move (.t 14), none, .write, 0⟩])
 (.seq (.seq (.region [⟨(some 15), .move (.t 7), none, .write, 0⟩, ⟨(some 16), .arith .eql (.t 15) (.c (.int .i64 0)), none, .write, 0⟩])
 (.cond (.t 16) (.seq (.region [⟨(some 17), .move (.t 0), none, .write, 0⟩, ⟨(some 6), .move (.t 17), none, .write, 0⟩])
 .ret) .skip))
 (.seq (.region [⟨(some 18), .move (.t 0), none, .write, 0⟩, ⟨(some 19), .len 1 (.t 18), none, .write, 0⟩, ⟨(some 8), .move (.t 19), none, .write, 0⟩])
 (.seq (.seq (.region [⟨(some 20), .move (.t 1), none, .write, 0⟩, ⟨(some 21), .move (.t 8), none, .write, 0⟩, ⟨(some 22), .arith .eql (.t 20) (.t 21), none, .write, 0⟩])
 (.cond (.t 22) (.seq (.region [⟨(some 23), .move (.t 0), none, .write, 0⟩, ⟨(some 24), .move (.t 2), none, .write, 0⟩, ⟨(some 25), .append 31 2 16 (.t 23) (.t 24), none, .write, 0⟩, ⟨(some 6), .move (.t 25), none, .write, 0⟩])
 .ret) .skip))
 (.seq (.seq (.region [⟨(some 26), .move (.t 8), none, .write, 0⟩, ⟨(some 27), .move (.t 7), none, .write, 0⟩, ⟨(some 28), .arith .add (.t 26) (.t 27), none, .write, 0⟩, ⟨(some 29), .move (.t 0), none, .write, 0⟩, ⟨(some 30), .cap (.t 29), none, .write, 0⟩, ⟨(some 31), .arith .gtr (.t 28) (.t 30), none, .write, 0⟩])
 (.cond (.t 31) (.seq (.region [⟨(some 32), .move (.t 0), none, .write, 0⟩, ⟨(some 33), .move (.t 1), none, .write, 0⟩, ⟨(some 34), .sliceSl 2 (.t 32) none (some (.t 33)), none, .write, 0⟩, ⟨(some 35), .move (.t 8), none, .write, 0⟩, ⟨(some 36), .move (.t 7), none, .write, 0⟩, ⟨(some 37), .arith .add (.t 35) (.t 36), none, .write, 0⟩, ⟨(some 38), .move (.t 1), none, .write, 0⟩, ⟨(some 39), .arith .sub (.t 37) (.t 38), none, .write, 0⟩, ⟨(some 40), .appendZ 31 2 16 (.agg [(.int .i64 0), (.int .i64 0)]) (.t 34) (.t 39), none, .write, 0⟩, ⟨(some 9), .move (.t 40), none, .write, 0⟩])
 (.seq (.region [⟨(some 41), .move (.t 9), none, .write, 0⟩, ⟨(some 42), .move (.t 1), none, .write, 0⟩, ⟨(some 43), .sliceSl 2 (.t 41) (some (.t 42)) none, none, .write, 0⟩, ⟨(some 44), .move (.t 2), none, .write, 0⟩, ⟨(some 45), .copy 2 (.t 43) (.t 44), none, .write, 0⟩])
 (.seq (.draw [⟨(some 46), .move (.t 9), none, .read, 0⟩, ⟨(some 47), .move (.t 1), none, .read, 0⟩, ⟨(some 48), .move (.t 7), none, .read, 0⟩, ⟨(some 49), .arith .add (.t 47) (.t 48), none, .read, 0⟩, ⟨(some 50), .sliceSl 2 (.t 46) (some (.t 49)) none, none, .read, 0⟩, ⟨(some 51), .move (.t 0), none, .read, 0⟩, ⟨(some 52), .move (.t 1), none, .read, 0⟩, ⟨(some 53), .sliceSl 2 (.t 51) (some (.t 52)) none, none, .read, 0⟩, ⟨(some 54), .copy 2 (.t 50) (.t 53), none, .write, 0⟩])
 (.seq (.region [⟨(some 55), .move (.t 9), none, .write, 0⟩, ⟨(some 6), .move (.t 55), none, .write, 0⟩])
 .ret)))) .skip))
 (.seq (.region [⟨(some 56), .move (.t 0), none, .write, 0⟩, ⟨(some 57), .move (.t 8), none, .write, 0⟩, ⟨(some 58), .move (.t 7), none, .write, 0⟩, ⟨(some 59), .arith .add (.t 57) (.t 58), none, .write, 0⟩, ⟨(some 60), .sliceSl 2 (.t 56) none (some (.t 59)), none, .write, 0⟩, ⟨(some 0), .move (.t 60), none, .write, 0⟩])
 (.seq (.seq (.region [⟨(some 61), .move (.t 2), none, .write, 0⟩, ⟨(some 62), .move (.t 0), none, .write, 0⟩, ⟨(some 63), .move (.t 1), none, .write, 0⟩, ⟨(some 64), .move (.t 7), none, .write, 0⟩, ⟨(some 65), .arith .add (.t 63) (.t 64), none, .write, 0⟩, ⟨(some 66), .sliceSl 2 (.t 62) (some (.t 65)) none, none, .write, 0⟩, ⟨(some 67), .call (.c (.func 52 [])) [(.t 61), (.t 66)], none, .write, 0⟩, ⟨(some 68), .un .not (.t 67), none, .write, 0⟩])
 (.cond (.t 68) (.seq (.draw [⟨(some 69), .move (.t 0), none, .read, 0⟩, ⟨(some 70), .move (.t 1), none, .read, 0⟩, ⟨(some 71), .move (.t 7), none, .read, 0⟩, ⟨(some 72), .arith .add (.t 70) (.t 71), none, .read, 0⟩, ⟨(some 73), .sliceSl 2 (.t 69) (some (.t 72)) none, none, .read, 0⟩, ⟨(some 74), .move (.t 0), none, .read, 0⟩, ⟨(some 75), .move (.t 1), none, .read, 0⟩, ⟨(some 76), .sliceSl 2 (.t 74) (some (.t 75)) none, none, .read, 0⟩, ⟨(some 77), .copy 2 (.t 73) (.t 76), none, .write, 0⟩])
 (.seq (.region [⟨(some 78), .move (.t 0), none, .write, 0⟩, ⟨(some 79), .move (.t 1), none, .write, 0⟩, ⟨(some 80), .sliceSl 2 (.t 78) (some (.t 79)) none, none, .write, 0⟩, ⟨(some 81), .move (.t 2), none, .write, 0⟩, ⟨(some 82), .copy 2 (.t 80) (.t 81), none, .write, 0⟩])
 (.seq (.region [⟨(some 83), .move (.t 0), none, .write, 0⟩, ⟨(some 6), .move (.t 83), none, .write, 0⟩])
 .ret))) .skip))
 (.seq (.region [⟨(some 84), .move (.t 0), none, .write, 0⟩, ⟨(some 85), .move (.t 8), none, .write, 0⟩, ⟨(some 86), .sliceSl 2 (.t 84) (some (.t 85)) none, none, .write, 0⟩, ⟨(some 87), .move (.t 2), none, .write, 0⟩, ⟨(some 88), .copy 2 (.t 86) (.t 87), none, .write, 0⟩])
 (.seq (.region [⟨(some 89), .move (.t 0), none, .write, 0⟩, ⟨(some 90), .move (.t 1), none, .write, 0⟩, ⟨(some 91), .sliceSl 2 (.t 89) (some (.t 90)) none, none, .write, 0⟩, ⟨(some 92), .move (.t 7), none, .write, 0⟩, ⟨(some 93), .call (.c (.func 53 [])) [(.t 91), (.t 92)], none, .write, 0⟩])
 (.seq (.region [⟨(some 94), .move (.t 0), none, .write, 0⟩, ⟨(some 6), .move (.t 94), none, .write, 0⟩])
 .ret)))))))))))) }

theorem c22 : compFunc Try.prog Try.f22 .split = some t22 := by kernel_rfl

/-- broadside/rel.Joint -/
def t23 : DFunc := { ntmps := 21, results := [(.t 4), (.t 5)], mode := .full, body :=
 (.seq (.region [⟨(some 4), .move (.c .nsl), none, .write, 0⟩, ⟨(some 5), .move (.c (.bool false)), none, .write, 0⟩])
 (.seq (.region [⟨(some 9), .buildSlice 123 5 (.agg [(.str []), (.int .i64 0), (.int .i64 0), (.int .i64 0), (.str [])]) 0 [], none, .write, 0⟩, ⟨(some 10), .move (.t 0), none, .write, 0⟩, ⟨(some 11), .append 123 5 56 (.t 9) (.t 10), none, .write, 0⟩, ⟨(some 12), .move (.t 1), none, .write, 0⟩, ⟨(some 13), .append 123 5 56 (.t 11) (.t 12), none, .write, 0⟩, ⟨(some 14), .call (.c (.func 54 [])) [(.t 13)], none, .write, 0⟩, ⟨(some 8), .move (.t 14), none, .write, 0⟩, ⟨(some 15), .extract (.t 8) 0, none, .write, 0⟩, ⟨(some 16), .extract (.t 8) 1, none, .write, 0⟩, ⟨(some 6), .move (.t 15), none, .write, 0⟩, ⟨(some 7), .move (.t 16), none, .write, 0⟩])
 (.seq (.seq (.region [⟨(some 17), .move (.t 7), none, .write, 0⟩, ⟨(some 18), .eqn 4 true (.t 17) (.c .nili), none, .write, 0⟩])
 (.cond (.t 18) (.seq (.region [⟨(some 4), .move (.c .nsl), none, .write, 0⟩, ⟨(some 5), .move (.c (.bool false)), none, .write, 0⟩])
 .ret) .skip))
 (.seq (.region [⟨(some 19), .move (.t 6), none, .write, 0⟩, ⟨(some 20), .call (.c (.func 55 [])) [(.t 19)], none, .write, 0⟩, ⟨(some 4), .move (.t 20), none, .write, 0⟩, ⟨(some 5), .move (.c (.bool true)), none, .write, 0⟩])
 .ret)))) }

theorem c23 : compFunc Try.prog Try.f23 .full = some t23 := by kernel_rfl

/-- broadside/adverts.Find -/
def t25 : DFunc := { ntmps := 22, results := [(.cell 4 (some 4)), (.t 5)], mode := .full, body :=
 (.seq (.region [⟨(some 2), .box 28 6 (.t 0), none, .write, 0⟩, ⟨(some 3), .box 31 2 (.t 1), none, .write, 0⟩, ⟨(some 4), .alloc 50 4 (.agg [(.int .i64 0), (.int .i64 0), .nsl, (.int .i64 0)]), none, .write, 0⟩, ⟨(some 5), .move (.c (.bool false)), none, .write, 0⟩])
 (.seq (.region [⟨(some 9), .load (some 6) (.t 2), none, .write, 0⟩, ⟨(some 10), .load (some 2) (.t 3), none, .write, 0⟩, ⟨(some 11), .call (.c (.func 20 [])) [(.t 9), (.t 10)], none, .write, 0⟩, ⟨(some 8), .move (.t 11), none, .write, 0⟩, ⟨(some 12), .extract (.t 8) 0, none, .write, 0⟩, ⟨(some 13), .extract (.t 8) 1, none, .write, 0⟩, ⟨(some 6), .move (.t 12), none, .write, 0⟩, ⟨(some 7), .move (.t 13), none, .write, 0⟩])
 (.seq (.seq (.region [⟨(some 14), .move (.t 7), none, .write, 0⟩, ⟨(some 15), .un .not (.t 14), none, .write, 0⟩])
 (.cond (.t 15) (.seq (.region [⟨(some 16), .build [(.int .i64 0), (.int .i64 0), .nsl, (.int .i64 0)] [], none, .write, 0⟩, ⟨none, .store 4 (.t 4) (.t 16), none, .write, 0⟩, ⟨(some 5), .move (.c (.bool false)), none, .write, 0⟩])
 .ret) .skip))
 (.seq (.region [⟨(some 17), .fieldAddr 2 (.t 2), none, .write, 0⟩, ⟨(some 18), .load none (.t 17), none, .write, 0⟩, ⟨(some 19), .move (.t 6), none, .write, 0⟩, ⟨(some 20), .indexAddr 4 (.t 18) (.t 19), none, .write, 0⟩, ⟨(some 21), .load (some 4) (.t 20), none, .write, 0⟩, ⟨none, .store 4 (.t 4) (.t 21), none, .write, 0⟩, ⟨(some 5), .move (.c (.bool true)), none, .write, 0⟩])
 .ret)))) }

theorem c25 : compFunc Try.prog Try.f25 .full = some t25 := by kernel_rfl

/-- broadside/subs.place -/
def t26 : DFunc := { ntmps := 15, results := [(.t 6), (.t 7)], mode := .full, body :=
 (.seq (.region [⟨(some 3), .box 28 6 (.t 0), none, .write, 0⟩, ⟨(some 4), .box 31 2 (.t 1), none, .write, 0⟩, ⟨(some 5), .box 31 2 (.t 2), none, .write, 0⟩, ⟨(some 6), .move (.c (.int .i64 0)), none, .write, 0⟩, ⟨(some 7), .move (.c (.bool false)), none, .write, 0⟩])
 (.seq (.region [⟨(some 8), .fieldAddr 4 (.t 3), none, .write, 0⟩, ⟨(some 9), .load none (.t 8), none, .write, 0⟩, ⟨(some 10), .load (some 2) (.t 5), none, .write, 0⟩, ⟨(some 11), .makeFunc 57 [(.t 4)], none, .write, 0⟩, ⟨(some 12), .call (.c (.func 56 [])) [(.t 9), (.t 10), (.t 11)], none, .write, 0⟩, ⟨(some 13), .extract (.t 12) 0, none, .write, 0⟩, ⟨(some 14), .extract (.t 12) 1, none, .write, 0⟩, ⟨(some 6), .move (.t 13), none, .write, 0⟩, ⟨(some 7), .move (.t 14), none, .write, 0⟩])
 .ret)) }

theorem c26 : compFunc Try.prog Try.f26 .full = some t26 := by kernel_rfl

/-- broadside/subs.Covered -/
def t27 : DFunc := { ntmps := 12, results := [(.t 6)], mode := .full, body :=
 (.seq (.region [⟨(some 3), .box 28 6 (.t 0), none, .write, 0⟩, ⟨(some 4), .box 31 2 (.t 1), none, .write, 0⟩, ⟨(some 5), .box 32 1 (.t 2), none, .write, 0⟩, ⟨(some 6), .move (.c (.bool false)), none, .write, 0⟩])
 (.seq (.region [⟨(some 7), .load (some 6) (.t 3), none, .write, 0⟩, ⟨(some 8), .load (some 2) (.t 4), none, .write, 0⟩, ⟨(some 9), .call (.c (.func 60 [])) [(.t 7), (.t 8)], none, .write, 0⟩, ⟨(some 10), .makeFunc 61 [(.t 5)], none, .write, 0⟩, ⟨(some 11), .call (.c (.func 59 [])) [(.t 9), (.t 10)], none, .write, 0⟩, ⟨(some 6), .move (.t 11), none, .write, 0⟩])
 .ret)) }

theorem c27 : compFunc Try.prog Try.f27 .full = some t27 := by kernel_rfl

/-- slices.Insert[[]broadside/api.Entry,broadside/api.Entry] -/
def t28 : DFunc := { ntmps := 95, results := [(.t 6)], mode := .split, body :=
 (.seq (.region [⟨(some 6), .move (.c .nsl), none, .write, 0⟩])
 (.seq (.region [⟨(some 10), .move (.t 0), none, .write, 0⟩, ⟨(some 11), .move (.t 1), none, .write, 0⟩, ⟨(some 12), .sliceSl 7 (.t 10) (some (.t 11)) none, none, .write, 0⟩])
 (.seq (.region [⟨(some 13), .move (.t 2), none, .write, 0⟩, ⟨(some 14), .len 1 (.t 13), none, .write, 0⟩, ⟨(some 7), .move (.t 14), none, .write, 0⟩])
 (.seq (.seq (.region [⟨(some 15), .move (.t 7), none, .write, 0⟩, ⟨(some 16), .arith .eql (.t 15) (.c (.int .i64 0)), none, .write, 0⟩])
 (.cond (.t 16) (.seq (.region [⟨(some 17), .move (.t 0), none, .write, 0⟩, ⟨(some 6), .move (.t 17), none, .write, 0⟩])
 .ret) .skip))
 (.seq (.region [⟨(some 18), .move (.t 0), none, .write, 0⟩, ⟨(some 19), .len 1 (.t 18), none, .write, 0⟩, ⟨(some 8), .move (.t 19), none, .write, 0⟩])
 (.seq (.seq (.region [⟨(some 20), .move (.t 1), none, .write, 0⟩, ⟨(some 21), .move (.t 8), none, .write, 0⟩, ⟨(some 22), .arith .eql (.t 20) (.t 21), none, .write, 0⟩])
 (.cond (.t 22) (.seq (.region [⟨(some 23), .move (.t 0), none, .write, 0⟩, ⟨(some 24), .move (.t 2), none, .write, 0⟩, ⟨(some 25), .append 54 7 72 (.t 23) (.t 24), none, .write, 0⟩, ⟨(some 6), .move (.t 25), none, .write, 0⟩])
 .ret) .skip))
 (.seq (.seq (.region [⟨(some 26), .move (.t 8), none, .write, 0⟩, ⟨(some 27), .move (.t 7), none, .write, 0⟩, ⟨(some 28), .arith .add (.t 26) (.t 27), none, .write, 0⟩, ⟨(some 29), .move (.t 0), none, .write, 0⟩, ⟨(some 30), .cap (.t 29), none, .write, 0⟩, ⟨(some 31), .arith .gtr (.t 28) (.t 30), none, .write, 0⟩])
 (.cond (.t 31) (.seq (.region [⟨(some 32), .move (.t 0), none, .write, 0⟩, ⟨(some 33), .move (.t 1), none, .write, 0⟩, ⟨(some 34), .sliceSl 7 (.t 32) none (some (.t 33)), none, .write, 0⟩, ⟨(some 35), .move (.t 8), none, .write, 0⟩, ⟨(some 36), .move (.t 7), none, .write, 0⟩, ⟨(some 37), .arith .add (.t 35) (.t 36), none, .write, 0⟩, ⟨(some 38), .move (.t 1), none, .write, 0⟩, ⟨(some 39), .arith .sub (.t 37) (.t 38), none, .write, 0⟩, ⟨(some 40), .appendZ 54 7 72 (.agg [(.int .i64 0), (.int .i64 0), (.int .i64 0), (.int .i64 0), .nsl, (.int .i64 0), (.bool false)]) (.t 34) (.t 39), none, .write, 0⟩, ⟨(some 9), .move (.t 40), none, .write, 0⟩])
 (.seq (.region [⟨(some 41), .move (.t 9), none, .write, 0⟩, ⟨(some 42), .move (.t 1), none, .write, 0⟩, ⟨(some 43), .sliceSl 7 (.t 41) (some (.t 42)) none, none, .write, 0⟩, ⟨(some 44), .move (.t 2), none, .write, 0⟩, ⟨(some 45), .copy 7 (.t 43) (.t 44), none, .write, 0⟩])
 (.seq (.draw [⟨(some 46), .move (.t 9), none, .read, 0⟩, ⟨(some 47), .move (.t 1), none, .read, 0⟩, ⟨(some 48), .move (.t 7), none, .read, 0⟩, ⟨(some 49), .arith .add (.t 47) (.t 48), none, .read, 0⟩, ⟨(some 50), .sliceSl 7 (.t 46) (some (.t 49)) none, none, .read, 0⟩, ⟨(some 51), .move (.t 0), none, .read, 0⟩, ⟨(some 52), .move (.t 1), none, .read, 0⟩, ⟨(some 53), .sliceSl 7 (.t 51) (some (.t 52)) none, none, .read, 0⟩, ⟨(some 54), .copy 7 (.t 50) (.t 53), none, .write, 0⟩])
 (.seq (.region [⟨(some 55), .move (.t 9), none, .write, 0⟩, ⟨(some 6), .move (.t 55), none, .write, 0⟩])
 .ret)))) .skip))
 (.seq (.region [⟨(some 56), .move (.t 0), none, .write, 0⟩, ⟨(some 57), .move (.t 8), none, .write, 0⟩, ⟨(some 58), .move (.t 7), none, .write, 0⟩, ⟨(some 59), .arith .add (.t 57) (.t 58), none, .write, 0⟩, ⟨(some 60), .sliceSl 7 (.t 56) none (some (.t 59)), none, .write, 0⟩, ⟨(some 0), .move (.t 60), none, .write, 0⟩])
 (.seq (.seq (.region [⟨(some 61), .move (.t 2), none, .write, 0⟩, ⟨(some 62), .move (.t 0), none, .write, 0⟩, ⟨(some 63), .move (.t 1), none, .write, 0⟩, ⟨(some 64), .move (.t 7), none, .write, 0⟩, ⟨(some 65), .arith .add (.t 63) (.t 64), none, .write, 0⟩, ⟨(some 66), .sliceSl 7 (.t 62) (some (.t 65)) none, none, .write, 0⟩, ⟨(some 67), .call (.c (.func 63 [])) [(.t 61), (.t 66)], none, .write, 0⟩, ⟨(some 68), .un .not (.t 67), none, .write, 0⟩])
 (.cond (.t 68) (.seq (.draw [⟨(some 69), .move (.t 0), none, .read, 0⟩, ⟨(some 70), .move (.t 1), none, .read, 0⟩, ⟨(some 71), .move (.t 7), none, .read, 0⟩, ⟨(some 72), .arith .add (.t 70) (.t 71), none, .read, 0⟩, ⟨(some 73), .sliceSl 7 (.t 69) (some (.t 72)) none, none, .read, 0⟩, ⟨(some 74), .move (.t 0), none, .read, 0⟩, ⟨(some 75), .move (.t 1), none, .read, 0⟩, ⟨(some 76), .sliceSl 7 (.t 74) (some (.t 75)) none, none, .read, 0⟩, ⟨(some 77), .copy 7 (.t 73) (.t 76), none, .write, 0⟩])
 (.seq (.region [⟨(some 78), .move (.t 0), none, .write, 0⟩, ⟨(some 79), .move (.t 1), none, .write, 0⟩, ⟨(some 80), .sliceSl 7 (.t 78) (some (.t 79)) none, none, .write, 0⟩, ⟨(some 81), .move (.t 2), none, .write, 0⟩, ⟨(some 82), .copy 7 (.t 80) (.t 81), none, .write, 0⟩])
 (.seq (.region [⟨(some 83), .move (.t 0), none, .write, 0⟩, ⟨(some 6), .move (.t 83), none, .write, 0⟩])
 .ret))) .skip))
 (.seq (.region [⟨(some 84), .move (.t 0), none, .write, 0⟩, ⟨(some 85), .move (.t 8), none, .write, 0⟩, ⟨(some 86), .sliceSl 7 (.t 84) (some (.t 85)) none, none, .write, 0⟩, ⟨(some 87), .move (.t 2), none, .write, 0⟩, ⟨(some 88), .copy 7 (.t 86) (.t 87), none, .write, 0⟩])
 (.seq (.region [⟨(some 89), .move (.t 0), none, .write, 0⟩, ⟨(some 90), .move (.t 1), none, .write, 0⟩, ⟨(some 91), .sliceSl 7 (.t 89) (some (.t 90)) none, none, .write, 0⟩, ⟨(some 92), .move (.t 7), none, .write, 0⟩, ⟨(some 93), .call (.c (.func 64 [])) [(.t 91), (.t 92)], none, .write, 0⟩])
 (.seq (.region [⟨(some 94), .move (.t 0), none, .write, 0⟩, ⟨(some 6), .move (.t 94), none, .write, 0⟩])
 .ret)))))))))))) }

theorem c28 : compFunc Try.prog Try.f28 .split = some t28 := by kernel_rfl

end Go.Dm.TabF
