/-
The table of functions, brought into the machine's form (TabB, part 4). Written by program (wip/tools/table.lean.txt).
-/
import Derived.Test.YtniceconboecgaaDm28
import Derived.Test.YtniceconboecgaaRows
import Derived.KernelRfl
namespace Go.Dm.TabB
open Go.Proofs

/-- broadside/adverts.place$1 -/
def t99 : DFunc := { ntmps := 9, results := [(.t 4)], mode := .full, body :=
 (.seq (.region [⟨(some 2), .box 45 4 (.t 0), none, .write, 0⟩, ⟨(some 3), .box 42 2 (.t 1), none, .write, 0⟩, ⟨(some 4), .move (.c (.int .i64 0)), none, .write, 0⟩])
 (.seq (.region [⟨(some 5), .fieldAddr 0 (.t 2), none, .write, 0⟩, ⟨(some 6), .load (some 2) (.t 5), none, .write, 0⟩, ⟨(some 7), .load (some 2) (.t 3), none, .write, 0⟩, ⟨(some 8), .call (.c (.func 65 [])) [(.t 6), (.t 7)], none, .write, 0⟩, ⟨(some 4), .move (.t 8), none, .write, 0⟩])
 .ret)) }

theorem c99 : compFunc Try.prog Try.f99 .full = some t99 := by kernel_rfl

/-- slices.rotateRight[broadside/api.Advert] -/
def t101 : DFunc := { ntmps := 10, results := [], mode := .full, body :=
 (.region [⟨(some 4), .move (.t 0), none, .write, 0⟩, ⟨(some 5), .move (.t 0), none, .write, 0⟩, ⟨(some 6), .len 1 (.t 5), none, .write, 0⟩, ⟨(some 7), .move (.t 1), none, .write, 0⟩, ⟨(some 8), .arith .sub (.t 6) (.t 7), none, .write, 0⟩, ⟨(some 9), .call (.c (.func 121 [])) [(.t 4), (.t 8)], none, .write, 0⟩]) }

theorem c101 : compFunc Try.prog Try.f101 .full = some t101 := by kernel_rfl

/-- slices.rotateRight[broadside/api.ID] -/
def t103 : DFunc := { ntmps := 10, results := [], mode := .full, body :=
 (.region [⟨(some 4), .move (.t 0), none, .write, 0⟩, ⟨(some 5), .move (.t 0), none, .write, 0⟩, ⟨(some 6), .len 1 (.t 5), none, .write, 0⟩, ⟨(some 7), .move (.t 1), none, .write, 0⟩, ⟨(some 8), .arith .sub (.t 6) (.t 7), none, .write, 0⟩, ⟨(some 9), .call (.c (.func 122 [])) [(.t 4), (.t 8)], none, .write, 0⟩]) }

theorem c103 : compFunc Try.prog Try.f103 .full = some t103 := by kernel_rfl

/-- slices.pdqsortOrdered[int] -/
def t104 : DFunc := { ntmps := 134, results := [], mode := .full, body :=
 (.seq (.region [⟨(some 8), .move (.c (.bool true)), none, .write, 0⟩])
 (.seq (.region [⟨(some 9), .move (.c (.bool true)), none, .write, 0⟩])
 (.block 0 (.loop (.block 1 (.seq (.region [⟨(some 19), .move (.t 2), none, .write, 0⟩, ⟨(some 20), .move (.t 1), none, .write, 0⟩, ⟨(some 21), .arith .sub (.t 19) (.t 20), none, .write, 0⟩, ⟨(some 10), .move (.t 21), none, .write, 0⟩])
 (.seq (.seq (.region [⟨(some 22), .move (.t 10), none, .write, 0⟩, ⟨(some 23), .arith .leq (.t 22) (.c (.int .i64 12)), none, .write, 0⟩])
 (.cond (.t 23) (.seq (.region [⟨(some 24), .move (.t 0), none, .write, 0⟩, ⟨(some 25), .move (.t 1), none, .write, 0⟩, ⟨(some 26), .move (.t 2), none, .write, 0⟩, ⟨(some 27), .call (.c (.func 123 [])) [(.t 24), (.t 25), (.t 26)], none, .write, 0⟩])
 .ret) .skip))
 (.seq (.seq (.region [⟨(some 28), .move (.t 3), none, .write, 0⟩, ⟨(some 29), .arith .eql (.t 28) (.c (.int .i64 0)), none, .write, 0⟩])
 (.cond (.t 29) (.seq (.region [⟨(some 30), .move (.t 0), none, .write, 0⟩, ⟨(some 31), .move (.t 1), none, .write, 0⟩, ⟨(some 32), .move (.t 2), none, .write, 0⟩, ⟨(some 33), .call (.c (.func 124 [])) [(.t 30), (.t 31), (.t 32)], none, .write, 0⟩])
 .ret) .skip))
 (.seq (.seq (.region [⟨(some 34), .move (.t 8), none, .write, 0⟩, ⟨(some 35), .un .not (.t 34), none, .write, 0⟩])
 (.cond (.t 35) (.seq (.region [⟨(some 36), .move (.t 0), none, .write, 0⟩, ⟨(some 37), .move (.t 1), none, .write, 0⟩, ⟨(some 38), .move (.t 2), none, .write, 0⟩, ⟨(some 39), .call (.c (.func 125 [])) [(.t 36), (.t 37), (.t 38)], none, .write, 0⟩])
 (.region [⟨(some 40), .move (.t 3), none, .write, 0⟩, ⟨(some 41), .arith .sub (.t 40) (.c (.int .i64 1)), none, .write, 0⟩, ⟨(some 3), .move (.t 41), none, .write, 0⟩])) .skip))
 (.seq (.region [⟨(some 43), .move (.t 0), none, .write, 0⟩, ⟨(some 44), .move (.t 1), none, .write, 0⟩, ⟨(some 45), .move (.t 2), none, .write, 0⟩, ⟨(some 46), .call (.c (.func 126 [])) [(.t 43), (.t 44), (.t 45)], none, .write, 0⟩, ⟨(some 42), .move (.t 46), none, .write, 0⟩, ⟨(some 47), .extract (.t 42) 0, none, .write, 0⟩, ⟨(some 48), .extract (.t 42) 1, none, .write, 0⟩, ⟨(some 11), .move (.t 47), none, .write, 0⟩, ⟨(some 12), .move (.t 48), none, .write, 0⟩])
 (.seq (.seq (.region [⟨(some 49), .move (.t 12), none, .write, 0⟩, ⟨(some 50), .arith .eql (.t 49) (.c (.int .i64 2)), none, .write, 0⟩])
 (.cond (.t 50) (.seq (.region [⟨(some 51), .move (.t 0), none, .write, 0⟩, ⟨(some 52), .move (.t 1), none, .write, 0⟩, ⟨(some 53), .move (.t 2), none, .write, 0⟩, ⟨(some 54), .call (.c (.func 127 [])) [(.t 51), (.t 52), (.t 53)], none, .write, 0⟩])
 (.seq (.region [⟨(some 55), .move (.t 2), none, .write, 0⟩, ⟨(some 56), .arith .sub (.t 55) (.c (.int .i64 1)), none, .write, 0⟩, ⟨(some 57), .move (.t 11), none, .write, 0⟩, ⟨(some 58), .move (.t 1), none, .write, 0⟩, ⟨(some 59), .arith .sub (.t 57) (.t 58), none, .write, 0⟩, ⟨(some 60), .arith .sub (.t 56) (.t 59), none, .write, 0⟩, ⟨(some 11), .move (.t 60), none, .write, 0⟩])
 (.region [⟨(some 12), .move (.c (.int .i64 1)), none, .write, 0⟩]))) .skip))
 (.seq (.seq (.region [⟨(some 61), .move (.t 8), none, .write, 0⟩, ⟨(some 62), .move (.t 61), none, .write, 0⟩, ⟨(some 63), .move (.t 9), (some (62, true)), .write, 0⟩, ⟨(some 64), .pick (.t 62) (.t 63) (.c (.bool false)), none, .write, 0⟩, ⟨(some 65), .move (.t 64), none, .write, 0⟩, ⟨(some 66), .move (.t 12), (some (65, true)), .write, 0⟩, ⟨(some 67), .arith .eql (.t 66) (.c (.int .i64 1)), (some (65, true)), .write, 0⟩, ⟨(some 68), .pick (.t 65) (.t 67) (.c (.bool false)), none, .write, 0⟩])
 (.cond (.t 68) (.seq (.region [⟨(some 69), .move (.t 0), none, .write, 0⟩, ⟨(some 70), .move (.t 1), none, .write, 0⟩, ⟨(some 71), .move (.t 2), none, .write, 0⟩, ⟨(some 72), .call (.c (.func 128 [])) [(.t 69), (.t 70), (.t 71)], none, .write, 0⟩])
 (.cond (.t 72) .ret .skip)) .skip))
 (.seq (.seq (.draw [⟨(some 73), .move (.t 1), none, .read, 0⟩, ⟨(some 74), .arith .gtr (.t 73) (.c (.int .i64 0)), none, .read, 0⟩, ⟨(some 75), .move (.t 74), none, .read, 0⟩, ⟨(some 76), .move (.t 0), (some (75, true)), .read, 0⟩, ⟨(some 77), .move (.t 1), (some (75, true)), .read, 0⟩, ⟨(some 78), .arith .sub (.t 77) (.c (.int .i64 1)), (some (75, true)), .read, 0⟩, ⟨(some 79), .indexAddr 1 (.t 76) (.t 78), (some (75, true)), .read, 0⟩, ⟨(some 80), .load none (.t 79), (some (75, true)), .read, 0⟩, ⟨(some 81), .move (.t 0), (some (75, true)), .read, 0⟩, ⟨(some 82), .move (.t 11), (some (75, true)), .read, 0⟩, ⟨(some 83), .indexAddr 1 (.t 81) (.t 82), (some (75, true)), .read, 0⟩, ⟨(some 84), .load none (.t 83), (some (75, true)), .read, 0⟩, ⟨(some 85), .call (.c (.func 129 [])) [(.t 80), (.t 84)], (some (75, true)), .write, 0⟩, ⟨(some 86), .un .not (.t 85), (some (75, true)), .read, 1⟩, ⟨(some 87), .pick (.t 75) (.t 86) (.c (.bool false)), none, .read, 1⟩])
 (.cond (.t 87) (.seq (.region [⟨(some 88), .move (.t 0), none, .write, 0⟩, ⟨(some 89), .move (.t 1), none, .write, 0⟩, ⟨(some 90), .move (.t 2), none, .write, 0⟩, ⟨(some 91), .move (.t 11), none, .write, 0⟩, ⟨(some 92), .call (.c (.func 130 [])) [(.t 88), (.t 89), (.t 90), (.t 91)], none, .write, 0⟩, ⟨(some 13), .move (.t 92), none, .write, 0⟩])
 (.seq (.region [⟨(some 93), .move (.t 13), none, .write, 0⟩, ⟨(some 1), .move (.t 93), none, .write, 0⟩])
 (.exit 1))) .skip))
 (.seq (.region [⟨(some 95), .move (.t 0), none, .write, 0⟩, ⟨(some 96), .move (.t 1), none, .write, 0⟩, ⟨(some 97), .move (.t 2), none, .write, 0⟩, ⟨(some 98), .move (.t 11), none, .write, 0⟩, ⟨(some 99), .call (.c (.func 131 [])) [(.t 95), (.t 96), (.t 97), (.t 98)], none, .write, 0⟩, ⟨(some 94), .move (.t 99), none, .write, 0⟩, ⟨(some 100), .extract (.t 94) 0, none, .write, 0⟩, ⟨(some 101), .extract (.t 94) 1, none, .write, 0⟩, ⟨(some 14), .move (.t 100), none, .write, 0⟩, ⟨(some 15), .move (.t 101), none, .write, 0⟩])
 (.seq (.region [⟨(some 102), .move (.t 15), none, .write, 0⟩, ⟨(some 9), .move (.t 102), none, .write, 0⟩])
 (.seq (.region [⟨(some 103), .move (.t 14), none, .write, 0⟩, ⟨(some 104), .move (.t 1), none, .write, 0⟩, ⟨(some 105), .arith .sub (.t 103) (.t 104), none, .write, 0⟩, ⟨(some 106), .move (.t 2), none, .write, 0⟩, ⟨(some 107), .move (.t 14), none, .write, 0⟩, ⟨(some 108), .arith .sub (.t 106) (.t 107), none, .write, 0⟩, ⟨(some 16), .move (.t 105), none, .write, 0⟩, ⟨(some 17), .move (.t 108), none, .write, 0⟩])
 (.seq (.region [⟨(some 109), .move (.t 10), none, .write, 0⟩, ⟨(some 110), .arith .quo (.t 109) (.c (.int .i64 8)), none, .write, 0⟩, ⟨(some 18), .move (.t 110), none, .write, 0⟩])
 (.seq (.region [⟨(some 111), .move (.t 16), none, .write, 0⟩, ⟨(some 112), .move (.t 17), none, .write, 0⟩, ⟨(some 113), .arith .lss (.t 111) (.t 112), none, .write, 0⟩])
 (.cond (.t 113) (.seq (.region [⟨(some 114), .move (.t 16), none, .write, 0⟩, ⟨(some 115), .move (.t 18), none, .write, 0⟩, ⟨(some 116), .arith .geq (.t 114) (.t 115), none, .write, 0⟩, ⟨(some 8), .move (.t 116), none, .write, 0⟩])
 (.seq (.region [⟨(some 117), .move (.t 0), none, .write, 0⟩, ⟨(some 118), .move (.t 1), none, .write, 0⟩, ⟨(some 119), .move (.t 14), none, .write, 0⟩, ⟨(some 120), .move (.t 3), none, .write, 0⟩, ⟨(some 121), .call (.c (.func 104 [])) [(.t 117), (.t 118), (.t 119), (.t 120)], none, .write, 0⟩])
 (.region [⟨(some 122), .move (.t 14), none, .write, 0⟩, ⟨(some 123), .arith .add (.t 122) (.c (.int .i64 1)), none, .write, 0⟩, ⟨(some 1), .move (.t 123), none, .write, 0⟩]))) (.seq (.region [⟨(some 124), .move (.t 17), none, .write, 0⟩, ⟨(some 125), .move (.t 18), none, .write, 0⟩, ⟨(some 126), .arith .geq (.t 124) (.t 125), none, .write, 0⟩, ⟨(some 8), .move (.t 126), none, .write, 0⟩])
 (.seq (.region [⟨(some 127), .move (.t 0), none, .write, 0⟩, ⟨(some 128), .move (.t 14), none, .write, 0⟩, ⟨(some 129), .arith .add (.t 128) (.c (.int .i64 1)), none, .write, 0⟩, ⟨(some 130), .move (.t 2), none, .write, 0⟩, ⟨(some 131), .move (.t 3), none, .write, 0⟩, ⟨(some 132), .call (.c (.func 104 [])) [(.t 127), (.t 129), (.t 130), (.t 131)], none, .write, 0⟩])
 (.region [⟨(some 133), .move (.t 14), none, .write, 0⟩, ⟨(some 2), .move (.t 133), none, .write, 0⟩])))))))))))))))))))))) }

theorem c104 : compFunc Try.prog Try.f104 .full = some t104 := by kernel_rfl

/-- math/bits.Len -/
def t105 : DFunc := { ntmps := 8, results := [(.t 2)], mode := .full, body :=
 (.seq (.region [⟨(some 2), .move (.c (.int .i64 0)), none, .write, 0⟩])
 (.seq (.cond (.c (.bool false)) (.seq (.region [⟨(some 3), .move (.t 0), none, .write, 0⟩, ⟨(some 4), .conv .u32 (.t 3), none, .write, 0⟩, ⟨(some 5), .call (.c (.func 132 [])) [(.t 4)], none, .write, 0⟩, ⟨(some 2), .move (.t 5), none, .write, 0⟩])
 .ret) .skip)
 (.seq (.region [⟨(some 6), .move (.t 0), none, .write, 0⟩, ⟨(some 7), .call (.c (.func 133 [])) [(.t 6)], none, .write, 0⟩, ⟨(some 2), .move (.t 7), none, .write, 0⟩])
 .ret))) }

theorem c105 : compFunc Try.prog Try.f105 .full = some t105 := by kernel_rfl

/-- slices.IndexFunc[[]broadside/api.Entry,broadside/api.Entry] -/
def t106 : DFunc := { ntmps := 19, results := [(.t 4)], mode := .full, body :=
 (.seq (.region [⟨(some 4), .move (.c (.int .i64 0)), none, .write, 0⟩])
 (.seq (.seq (.region [⟨(some 6), .move (.t 0), none, .write, 0⟩, ⟨(some 7), .len 1 (.t 6), none, .write, 0⟩, ⟨(some 8), .move (.c (.int .i64 0)), none, .write, 0⟩])
 (.block 0 (.loop (.seq (.region [⟨(some 9), .arith .lss (.t 8) (.t 7), none, .write, 0⟩])
 (.seq (.cond (.t 9) .skip (.exit 0))
 (.seq (.block 1 (.seq (.region [⟨(some 10), .move (.t 8), none, .write, 0⟩, ⟨(some 5), .move (.t 10), none, .write, 0⟩])
 (.seq (.region [⟨(some 11), .move (.t 1), none, .write, 0⟩, ⟨(some 12), .move (.t 0), none, .write, 0⟩, ⟨(some 13), .move (.t 5), none, .write, 0⟩, ⟨(some 14), .indexAddr 7 (.t 12) (.t 13), none, .write, 0⟩, ⟨(some 15), .load (some 7) (.t 14), none, .write, 0⟩, ⟨(some 16), .call (.t 11) [(.t 15)], none, .write, 0⟩])
 (.cond (.t 16) (.seq (.region [⟨(some 17), .move (.t 5), none, .write, 0⟩, ⟨(some 4), .move (.t 17), none, .write, 0⟩])
 .ret) .skip))))
 (.region [⟨(some 18), .arith .add (.t 8) (.c (.int .i64 1)), none, .write, 0⟩, ⟨(some 8), .move (.t 18), none, .write, 0⟩])))))))
 (.seq (.region [⟨(some 4), .move (.c (.int .i64 (-1))), none, .write, 0⟩])
 .ret))) }

theorem c106 : compFunc Try.prog Try.f106 .full = some t106 := by kernel_rfl

/-- cmp.Compare[int] -/
def t107 : DFunc := { ntmps := 20, results := [(.t 4)], mode := .full, body :=
 (.seq (.region [⟨(some 4), .move (.c (.int .i64 0)), none, .write, 0⟩])
 (.seq (.region [⟨(some 7), .move (.t 0), none, .write, 0⟩, ⟨(some 8), .call (.c (.func 134 [])) [(.t 7)], none, .write, 0⟩, ⟨(some 5), .move (.t 8), none, .write, 0⟩])
 (.seq (.region [⟨(some 9), .move (.t 1), none, .write, 0⟩, ⟨(some 10), .call (.c (.func 134 [])) [(.t 9)], none, .write, 0⟩, ⟨(some 6), .move (.t 10), none, .write, 0⟩])
 (.seq (.seq (.region [⟨(some 11), .move (.t 5), none, .write, 0⟩])
 (.cond (.t 11) (.seq (.seq (.region [⟨(some 12), .move (.t 6), none, .write, 0⟩])
 (.cond (.t 12) (.seq (.region [⟨(some 4), .move (.c (.int .i64 0)), none, .write, 0⟩])
 .ret) .skip))
 (.seq (.region [⟨(some 4), .move (.c (.int .i64 (-1))), none, .write, 0⟩])
 .ret)) .skip))
 (.seq (.seq (.region [⟨(some 13), .move (.t 6), none, .write, 0⟩])
 (.cond (.t 13) (.seq (.region [⟨(some 4), .move (.c (.int .i64 1)), none, .write, 0⟩])
 .ret) .skip))
 (.seq (.seq (.region [⟨(some 14), .move (.t 0), none, .write, 0⟩, ⟨(some 15), .move (.t 1), none, .write, 0⟩, ⟨(some 16), .arith .lss (.t 14) (.t 15), none, .write, 0⟩])
 (.cond (.t 16) (.seq (.region [⟨(some 4), .move (.c (.int .i64 (-1))), none, .write, 0⟩])
 .ret) .skip))
 (.seq (.seq (.region [⟨(some 17), .move (.t 0), none, .write, 0⟩, ⟨(some 18), .move (.t 1), none, .write, 0⟩, ⟨(some 19), .arith .gtr (.t 17) (.t 18), none, .write, 0⟩])
 (.cond (.t 19) (.seq (.region [⟨(some 4), .move (.c (.int .i64 1)), none, .write, 0⟩])
 .ret) .skip))
 (.seq (.region [⟨(some 4), .move (.c (.int .i64 0)), none, .write, 0⟩])
 .ret)))))))) }

theorem c107 : compFunc Try.prog Try.f107 .full = some t107 := by kernel_rfl

/-- slices.IndexFunc[[]broadside/api.Advert,broadside/api.Advert] -/
def t108 : DFunc := { ntmps := 19, results := [(.t 4)], mode := .full, body :=
 (.seq (.region [⟨(some 4), .move (.c (.int .i64 0)), none, .write, 0⟩])
 (.seq (.seq (.region [⟨(some 6), .move (.t 0), none, .write, 0⟩, ⟨(some 7), .len 1 (.t 6), none, .write, 0⟩, ⟨(some 8), .move (.c (.int .i64 0)), none, .write, 0⟩])
 (.block 0 (.loop (.seq (.region [⟨(some 9), .arith .lss (.t 8) (.t 7), none, .write, 0⟩])
 (.seq (.cond (.t 9) .skip (.exit 0))
 (.seq (.block 1 (.seq (.region [⟨(some 10), .move (.t 8), none, .write, 0⟩, ⟨(some 5), .move (.t 10), none, .write, 0⟩])
 (.seq (.region [⟨(some 11), .move (.t 1), none, .write, 0⟩, ⟨(some 12), .move (.t 0), none, .write, 0⟩, ⟨(some 13), .move (.t 5), none, .write, 0⟩, ⟨(some 14), .indexAddr 4 (.t 12) (.t 13), none, .write, 0⟩, ⟨(some 15), .load (some 4) (.t 14), none, .write, 0⟩, ⟨(some 16), .call (.t 11) [(.t 15)], none, .write, 0⟩])
 (.cond (.t 16) (.seq (.region [⟨(some 17), .move (.t 5), none, .write, 0⟩, ⟨(some 4), .move (.t 17), none, .write, 0⟩])
 .ret) .skip))))
 (.region [⟨(some 18), .arith .add (.t 8) (.c (.int .i64 1)), none, .write, 0⟩, ⟨(some 8), .move (.t 18), none, .write, 0⟩])))))))
 (.seq (.region [⟨(some 4), .move (.c (.int .i64 (-1))), none, .write, 0⟩])
 .ret))) }

theorem c108 : compFunc Try.prog Try.f108 .full = some t108 := by kernel_rfl

/-- broadside/pred.RightOne -/
def t109 : DFunc := { ntmps := 43, results := [(.t 2)], mode := .full, body :=
 (.seq (.region [⟨(some 1), .box 67 5 (.t 0), none, .write, 0⟩, ⟨(some 2), .move (.c (.bool false)), none, .write, 0⟩])
 (.seq (.seq (.region [⟨(some 3), .fieldAddr 0 (.t 1), none, .write, 0⟩, ⟨(some 4), .load none (.t 3), none, .write, 0⟩, ⟨(some 5), .call (.c (.func 135 [])) [(.t 4)], none, .write, 0⟩, ⟨(some 6), .un .not (.t 5), none, .write, 0⟩])
 (.cond (.t 6) (.seq (.region [⟨(some 2), .move (.c (.bool false)), none, .write, 0⟩])
 .ret) .skip))
 (.seq (.seq (.region [⟨(some 7), .fieldAddr 1 (.t 1), none, .write, 0⟩, ⟨(some 8), .load none (.t 7), none, .write, 0⟩])
 (.block 0 (.seq (.block 3 (.seq (.block 2 (.seq (.block 1 (.seq (.seq (.seq (.region [⟨(some 10), .arith .eql (.t 8) (.c (.int .i64 1)), none, .write, 0⟩, ⟨(some 9), .move (.t 10), none, .write, 0⟩])
 (.cond (.t 9) (.exit 1) .skip))
 (.seq (.seq (.region [⟨(some 12), .arith .eql (.t 8) (.c (.int .i64 3)), none, .write, 0⟩, ⟨(some 11), .move (.t 12), none, .write, 0⟩])
 (.cond (.t 11) (.exit 2) .skip))
 (.seq (.region [⟨(some 14), .arith .eql (.t 8) (.c (.int .i64 2)), none, .write, 0⟩, ⟨(some 13), .move (.t 14), none, .write, 0⟩])
 (.cond (.t 13) (.exit 3) .skip))))
 (.exit 0)))
 (.seq (.seq (.region [⟨(some 15), .fieldAddr 2 (.t 1), none, .write, 0⟩, ⟨(some 16), .load none (.t 15), none, .write, 0⟩, ⟨(some 17), .fieldAddr 3 (.t 1), none, .write, 0⟩, ⟨(some 18), .load none (.t 17), none, .write, 0⟩, ⟨(some 19), .arith .leq (.t 16) (.t 18), none, .write, 0⟩, ⟨(some 20), .move (.t 19), none, .write, 0⟩, ⟨(some 21), .fieldAddr 4 (.t 1), (some (20, true)), .write, 0⟩, ⟨(some 22), .load none (.t 21), (some (20, true)), .write, 0⟩, ⟨(some 23), .arith .eql (.t 22) (.c (.str [])), (some (20, true)), .write, 0⟩, ⟨(some 24), .pick (.t 20) (.t 23) (.c (.bool false)), none, .write, 0⟩, ⟨(some 2), .move (.t 24), none, .write, 0⟩])
 .ret)
 (.exit 0))))
 (.seq (.region [⟨(some 25), .fieldAddr 4 (.t 1), none, .write, 0⟩, ⟨(some 26), .load none (.t 25), none, .write, 0⟩, ⟨(some 27), .len 0 (.t 26), none, .write, 0⟩, ⟨(some 28), .arith .eql (.t 27) (.c (.int .i64 12)), none, .write, 0⟩])
 (.cond (.t 28) (.seq (.region [⟨(some 2), .move (.c (.bool false)), none, .write, 0⟩])
 .ret) .skip))))
 (.seq (.seq (.region [⟨(some 29), .fieldAddr 2 (.t 1), none, .write, 0⟩, ⟨(some 30), .load none (.t 29), none, .write, 0⟩, ⟨(some 31), .arith .eql (.t 30) (.c (.int .i64 0)), none, .write, 0⟩, ⟨(some 32), .move (.t 31), none, .write, 0⟩, ⟨(some 33), .fieldAddr 3 (.t 1), (some (32, true)), .write, 0⟩, ⟨(some 34), .load none (.t 33), (some (32, true)), .write, 0⟩, ⟨(some 35), .arith .eql (.t 34) (.c (.int .i64 0)), (some (32, true)), .write, 0⟩, ⟨(some 36), .pick (.t 32) (.t 35) (.c (.bool false)), none, .write, 0⟩, ⟨(some 37), .move (.t 36), none, .write, 0⟩, ⟨(some 38), .fieldAddr 4 (.t 1), (some (37, true)), .write, 0⟩, ⟨(some 39), .load none (.t 38), (some (37, true)), .write, 0⟩, ⟨(some 40), .len 0 (.t 39), (some (37, true)), .write, 0⟩, ⟨(some 41), .arith .leq (.t 40) (.c (.int .i64 12)), (some (37, true)), .write, 0⟩, ⟨(some 42), .pick (.t 37) (.t 41) (.c (.bool false)), none, .write, 0⟩, ⟨(some 2), .move (.t 42), none, .write, 0⟩])
 .ret)
 (.exit 0)))))
 (.seq (.region [⟨(some 2), .move (.c (.bool false)), none, .write, 0⟩])
 .ret)))) }

theorem c109 : compFunc Try.prog Try.f109 .full = some t109 := by kernel_rfl

/-- slices.IndexFunc[[]broadside/api.Own,broadside/api.Own] -/
def t110 : DFunc := { ntmps := 19, results := [(.t 4)], mode := .full, body :=
 (.seq (.region [⟨(some 4), .move (.c (.int .i64 0)), none, .write, 0⟩])
 (.seq (.seq (.region [⟨(some 6), .move (.t 0), none, .write, 0⟩, ⟨(some 7), .len 1 (.t 6), none, .write, 0⟩, ⟨(some 8), .move (.c (.int .i64 0)), none, .write, 0⟩])
 (.block 0 (.loop (.seq (.region [⟨(some 9), .arith .lss (.t 8) (.t 7), none, .write, 0⟩])
 (.seq (.cond (.t 9) .skip (.exit 0))
 (.seq (.block 1 (.seq (.region [⟨(some 10), .move (.t 8), none, .write, 0⟩, ⟨(some 5), .move (.t 10), none, .write, 0⟩])
 (.seq (.region [⟨(some 11), .move (.t 1), none, .write, 0⟩, ⟨(some 12), .move (.t 0), none, .write, 0⟩, ⟨(some 13), .move (.t 5), none, .write, 0⟩, ⟨(some 14), .indexAddr 3 (.t 12) (.t 13), none, .write, 0⟩, ⟨(some 15), .load (some 3) (.t 14), none, .write, 0⟩, ⟨(some 16), .call (.t 11) [(.t 15)], none, .write, 0⟩])
 (.cond (.t 16) (.seq (.region [⟨(some 17), .move (.t 5), none, .write, 0⟩, ⟨(some 4), .move (.t 17), none, .write, 0⟩])
 .ret) .skip))))
 (.region [⟨(some 18), .arith .add (.t 8) (.c (.int .i64 1)), none, .write, 0⟩, ⟨(some 8), .move (.t 18), none, .write, 0⟩])))))))
 (.seq (.region [⟨(some 4), .move (.c (.int .i64 (-1))), none, .write, 0⟩])
 .ret))) }

theorem c110 : compFunc Try.prog Try.f110 .full = some t110 := by kernel_rfl

/-- slices.rotateLeft[broadside/api.Advert] -/
def t121 : DFunc := { ntmps := 14, results := [], mode := .full, body :=
 (.seq (.region [⟨(some 4), .move (.t 0), none, .write, 0⟩, ⟨(some 5), .move (.t 1), none, .write, 0⟩, ⟨(some 6), .sliceSl 4 (.t 4) none (some (.t 5)), none, .write, 0⟩, ⟨(some 7), .call (.c (.func 138 [])) [(.t 6)], none, .write, 0⟩])
 (.seq (.region [⟨(some 8), .move (.t 0), none, .write, 0⟩, ⟨(some 9), .move (.t 1), none, .write, 0⟩, ⟨(some 10), .sliceSl 4 (.t 8) (some (.t 9)) none, none, .write, 0⟩, ⟨(some 11), .call (.c (.func 138 [])) [(.t 10)], none, .write, 0⟩])
 (.region [⟨(some 12), .move (.t 0), none, .write, 0⟩, ⟨(some 13), .call (.c (.func 138 [])) [(.t 12)], none, .write, 0⟩]))) }

theorem c121 : compFunc Try.prog Try.f121 .full = some t121 := by kernel_rfl

/-- slices.rotateLeft[broadside/api.ID] -/
def t122 : DFunc := { ntmps := 14, results := [], mode := .full, body :=
 (.seq (.region [⟨(some 4), .move (.t 0), none, .write, 0⟩, ⟨(some 5), .move (.t 1), none, .write, 0⟩, ⟨(some 6), .sliceSl 2 (.t 4) none (some (.t 5)), none, .write, 0⟩, ⟨(some 7), .call (.c (.func 139 [])) [(.t 6)], none, .write, 0⟩])
 (.seq (.region [⟨(some 8), .move (.t 0), none, .write, 0⟩, ⟨(some 9), .move (.t 1), none, .write, 0⟩, ⟨(some 10), .sliceSl 2 (.t 8) (some (.t 9)) none, none, .write, 0⟩, ⟨(some 11), .call (.c (.func 139 [])) [(.t 10)], none, .write, 0⟩])
 (.region [⟨(some 12), .move (.t 0), none, .write, 0⟩, ⟨(some 13), .call (.c (.func 139 [])) [(.t 12)], none, .write, 0⟩]))) }

theorem c122 : compFunc Try.prog Try.f122 .full = some t122 := by kernel_rfl

end Go.Dm.TabB
