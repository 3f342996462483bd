/-
The table of functions, brought into the machine's form (TabR, part 4). Written by program (wip/tools/table.lean.txt).
-/
import Derived.Test.YtdacnhfdcejahaaGreatDm32
import Derived.Test.YtdacnhfdcejahaaGreatRows
import Derived.KernelRfl
namespace Go.Dm.TabR
open Go.Proofs

/-- slices.partitionOrdered[int] -/
def t59 : DFunc := { ntmps := 168, results := [(.t 8), (.t 9)], mode := .full, body :=
 (.seq (.region [⟨(some 8), .move (.c (.int .i64 0)), none, .write, 0⟩, ⟨(some 9), .move (.c (.bool false)), none, .write, 0⟩])
 (.seq (.draw [⟨(some 16), .move (.t 0), none, .read, 0⟩, ⟨(some 17), .move (.t 3), none, .read, 0⟩, ⟨(some 18), .indexAddr 1 (.t 16) (.t 17), none, .read, 0⟩, ⟨(some 19), .load none (.t 18), none, .read, 0⟩, ⟨(some 20), .move (.t 0), none, .read, 0⟩, ⟨(some 21), .move (.t 1), none, .read, 0⟩, ⟨(some 22), .indexAddr 1 (.t 20) (.t 21), none, .read, 0⟩, ⟨(some 23), .load none (.t 22), none, .read, 0⟩, ⟨(some 12), .move (.t 0), none, .read, 0⟩, ⟨(some 13), .move (.t 1), none, .read, 0⟩, ⟨(some 24), .indexAddr 1 (.t 12) (.t 13), none, .read, 0⟩, ⟨none, .store 1 (.t 24) (.t 19), none, .write, 0⟩, ⟨(some 14), .move (.t 0), none, .read, 0⟩, ⟨(some 15), .move (.t 3), none, .read, 0⟩, ⟨(some 25), .indexAddr 1 (.t 14) (.t 15), none, .read, 1⟩, ⟨none, .store 1 (.t 25) (.t 23), none, .write, 1⟩])
 (.seq (.region [⟨(some 26), .move (.t 1), none, .write, 0⟩, ⟨(some 27), .arith .add (.t 26) (.c (.int .i64 1)), none, .write, 0⟩, ⟨(some 28), .move (.t 2), none, .write, 0⟩, ⟨(some 29), .arith .sub (.t 28) (.c (.int .i64 1)), none, .write, 0⟩, ⟨(some 10), .move (.t 27), none, .write, 0⟩, ⟨(some 11), .move (.t 29), none, .write, 0⟩])
 (.seq (.block 0 (.loop (.seq (.seq (.draw [⟨(some 30), .move (.t 10), none, .read, 0⟩, ⟨(some 31), .move (.t 11), none, .read, 0⟩, ⟨(some 32), .arith .leq (.t 30) (.t 31), none, .read, 0⟩, ⟨(some 33), .move (.t 32), none, .read, 0⟩, ⟨(some 34), .move (.t 0), (some (33, true)), .read, 0⟩, ⟨(some 35), .move (.t 10), (some (33, true)), .read, 0⟩, ⟨(some 36), .indexAddr 1 (.t 34) (.t 35), (some (33, true)), .read, 0⟩, ⟨(some 37), .load none (.t 36), (some (33, true)), .read, 0⟩, ⟨(some 38), .move (.t 0), (some (33, true)), .read, 0⟩, ⟨(some 39), .move (.t 1), (some (33, true)), .read, 0⟩, ⟨(some 40), .indexAddr 1 (.t 38) (.t 39), (some (33, true)), .read, 0⟩, ⟨(some 41), .load none (.t 40), (some (33, true)), .read, 0⟩, ⟨(some 42), .call (.c (.func 57 [])) [(.t 37), (.t 41)], (some (33, true)), .write, 0⟩, ⟨(some 43), .pick (.t 33) (.t 42) (.c (.bool false)), none, .read, 1⟩])
 (.cond (.t 43) .skip (.exit 0)))
 (.block 1 (.region [⟨(some 44), .move (.t 10), none, .write, 0⟩, ⟨(some 45), .arith .add (.t 44) (.c (.int .i64 1)), none, .write, 0⟩, ⟨(some 10), .move (.t 45), none, .write, 0⟩])))))
 (.seq (.block 2 (.loop (.seq (.seq (.draw [⟨(some 46), .move (.t 10), none, .read, 0⟩, ⟨(some 47), .move (.t 11), none, .read, 0⟩, ⟨(some 48), .arith .leq (.t 46) (.t 47), none, .read, 0⟩, ⟨(some 49), .move (.t 48), none, .read, 0⟩, ⟨(some 50), .move (.t 0), (some (49, true)), .read, 0⟩, ⟨(some 51), .move (.t 11), (some (49, true)), .read, 0⟩, ⟨(some 52), .indexAddr 1 (.t 50) (.t 51), (some (49, true)), .read, 0⟩, ⟨(some 53), .load none (.t 52), (some (49, true)), .read, 0⟩, ⟨(some 54), .move (.t 0), (some (49, true)), .read, 0⟩, ⟨(some 55), .move (.t 1), (some (49, true)), .read, 0⟩, ⟨(some 56), .indexAddr 1 (.t 54) (.t 55), (some (49, true)), .read, 0⟩, ⟨(some 57), .load none (.t 56), (some (49, true)), .read, 0⟩, ⟨(some 58), .call (.c (.func 57 [])) [(.t 53), (.t 57)], (some (49, true)), .write, 0⟩, ⟨(some 59), .un .not (.t 58), (some (49, true)), .read, 1⟩, ⟨(some 60), .pick (.t 49) (.t 59) (.c (.bool false)), none, .read, 1⟩])
 (.cond (.t 60) .skip (.exit 2)))
 (.block 3 (.region [⟨(some 61), .move (.t 11), none, .write, 0⟩, ⟨(some 62), .arith .sub (.t 61) (.c (.int .i64 1)), none, .write, 0⟩, ⟨(some 11), .move (.t 62), none, .write, 0⟩])))))
 (.seq (.seq (.region [⟨(some 63), .move (.t 10), none, .write, 0⟩, ⟨(some 64), .move (.t 11), none, .write, 0⟩, ⟨(some 65), .arith .gtr (.t 63) (.t 64), none, .write, 0⟩])
 (.cond (.t 65) (.seq (.draw [⟨(some 70), .move (.t 0), none, .read, 0⟩, ⟨(some 71), .move (.t 1), none, .read, 0⟩, ⟨(some 72), .indexAddr 1 (.t 70) (.t 71), none, .read, 0⟩, ⟨(some 73), .load none (.t 72), none, .read, 0⟩, ⟨(some 74), .move (.t 0), none, .read, 0⟩, ⟨(some 75), .move (.t 11), none, .read, 0⟩, ⟨(some 76), .indexAddr 1 (.t 74) (.t 75), none, .read, 0⟩, ⟨(some 77), .load none (.t 76), none, .read, 0⟩, ⟨(some 66), .move (.t 0), none, .read, 0⟩, ⟨(some 67), .move (.t 11), none, .read, 0⟩, ⟨(some 78), .indexAddr 1 (.t 66) (.t 67), none, .read, 0⟩, ⟨none, .store 1 (.t 78) (.t 73), none, .write, 0⟩, ⟨(some 68), .move (.t 0), none, .read, 0⟩, ⟨(some 69), .move (.t 1), none, .read, 0⟩, ⟨(some 79), .indexAddr 1 (.t 68) (.t 69), none, .read, 1⟩, ⟨none, .store 1 (.t 79) (.t 77), none, .write, 1⟩])
 (.seq (.region [⟨(some 80), .move (.t 11), none, .write, 0⟩, ⟨(some 8), .move (.t 80), none, .write, 0⟩, ⟨(some 9), .move (.c (.bool true)), none, .write, 0⟩])
 .ret)) .skip))
 (.seq (.draw [⟨(some 85), .move (.t 0), none, .read, 0⟩, ⟨(some 86), .move (.t 11), none, .read, 0⟩, ⟨(some 87), .indexAddr 1 (.t 85) (.t 86), none, .read, 0⟩, ⟨(some 88), .load none (.t 87), none, .read, 0⟩, ⟨(some 89), .move (.t 0), none, .read, 0⟩, ⟨(some 90), .move (.t 10), none, .read, 0⟩, ⟨(some 91), .indexAddr 1 (.t 89) (.t 90), none, .read, 0⟩, ⟨(some 92), .load none (.t 91), none, .read, 0⟩, ⟨(some 81), .move (.t 0), none, .read, 0⟩, ⟨(some 82), .move (.t 10), none, .read, 0⟩, ⟨(some 93), .indexAddr 1 (.t 81) (.t 82), none, .read, 0⟩, ⟨none, .store 1 (.t 93) (.t 88), none, .write, 0⟩, ⟨(some 83), .move (.t 0), none, .read, 0⟩, ⟨(some 84), .move (.t 11), none, .read, 0⟩, ⟨(some 94), .indexAddr 1 (.t 83) (.t 84), none, .read, 1⟩, ⟨none, .store 1 (.t 94) (.t 92), none, .write, 1⟩])
 (.seq (.region [⟨(some 95), .move (.t 10), none, .write, 0⟩, ⟨(some 96), .arith .add (.t 95) (.c (.int .i64 1)), none, .write, 0⟩, ⟨(some 10), .move (.t 96), none, .write, 0⟩])
 (.seq (.region [⟨(some 97), .move (.t 11), none, .write, 0⟩, ⟨(some 98), .arith .sub (.t 97) (.c (.int .i64 1)), none, .write, 0⟩, ⟨(some 11), .move (.t 98), none, .write, 0⟩])
 (.seq (.block 4 (.loop (.block 5 (.seq (.block 6 (.loop (.seq (.seq (.draw [⟨(some 99), .move (.t 10), none, .read, 0⟩, ⟨(some 100), .move (.t 11), none, .read, 0⟩, ⟨(some 101), .arith .leq (.t 99) (.t 100), none, .read, 0⟩, ⟨(some 102), .move (.t 101), none, .read, 0⟩, ⟨(some 103), .move (.t 0), (some (102, true)), .read, 0⟩, ⟨(some 104), .move (.t 10), (some (102, true)), .read, 0⟩, ⟨(some 105), .indexAddr 1 (.t 103) (.t 104), (some (102, true)), .read, 0⟩, ⟨(some 106), .load none (.t 105), (some (102, true)), .read, 0⟩, ⟨(some 107), .move (.t 0), (some (102, true)), .read, 0⟩, ⟨(some 108), .move (.t 1), (some (102, true)), .read, 0⟩, ⟨(some 109), .indexAddr 1 (.t 107) (.t 108), (some (102, true)), .read, 0⟩, ⟨(some 110), .load none (.t 109), (some (102, true)), .read, 0⟩, ⟨(some 111), .call (.c (.func 57 [])) [(.t 106), (.t 110)], (some (102, true)), .write, 0⟩, ⟨(some 112), .pick (.t 102) (.t 111) (.c (.bool false)), none, .read, 1⟩])
 (.cond (.t 112) .skip (.exit 6)))
 (.block 7 (.region [⟨(some 113), .move (.t 10), none, .write, 0⟩, ⟨(some 114), .arith .add (.t 113) (.c (.int .i64 1)), none, .write, 0⟩, ⟨(some 10), .move (.t 114), none, .write, 0⟩])))))
 (.seq (.block 8 (.loop (.seq (.seq (.draw [⟨(some 115), .move (.t 10), none, .read, 0⟩, ⟨(some 116), .move (.t 11), none, .read, 0⟩, ⟨(some 117), .arith .leq (.t 115) (.t 116), none, .read, 0⟩, ⟨(some 118), .move (.t 117), none, .read, 0⟩, ⟨(some 119), .move (.t 0), (some (118, true)), .read, 0⟩, ⟨(some 120), .move (.t 11), (some (118, true)), .read, 0⟩, ⟨(some 121), .indexAddr 1 (.t 119) (.t 120), (some (118, true)), .read, 0⟩, ⟨(some 122), .load none (.t 121), (some (118, true)), .read, 0⟩, ⟨(some 123), .move (.t 0), (some (118, true)), .read, 0⟩, ⟨(some 124), .move (.t 1), (some (118, true)), .read, 0⟩, ⟨(some 125), .indexAddr 1 (.t 123) (.t 124), (some (118, true)), .read, 0⟩, ⟨(some 126), .load none (.t 125), (some (118, true)), .read, 0⟩, ⟨(some 127), .call (.c (.func 57 [])) [(.t 122), (.t 126)], (some (118, true)), .write, 0⟩, ⟨(some 128), .un .not (.t 127), (some (118, true)), .read, 1⟩, ⟨(some 129), .pick (.t 118) (.t 128) (.c (.bool false)), none, .read, 1⟩])
 (.cond (.t 129) .skip (.exit 8)))
 (.block 9 (.region [⟨(some 130), .move (.t 11), none, .write, 0⟩, ⟨(some 131), .arith .sub (.t 130) (.c (.int .i64 1)), none, .write, 0⟩, ⟨(some 11), .move (.t 131), none, .write, 0⟩])))))
 (.seq (.seq (.region [⟨(some 132), .move (.t 10), none, .write, 0⟩, ⟨(some 133), .move (.t 11), none, .write, 0⟩, ⟨(some 134), .arith .gtr (.t 132) (.t 133), none, .write, 0⟩])
 (.cond (.t 134) (.exit 4) .skip))
 (.seq (.draw [⟨(some 139), .move (.t 0), none, .read, 0⟩, ⟨(some 140), .move (.t 11), none, .read, 0⟩, ⟨(some 141), .indexAddr 1 (.t 139) (.t 140), none, .read, 0⟩, ⟨(some 142), .load none (.t 141), none, .read, 0⟩, ⟨(some 143), .move (.t 0), none, .read, 0⟩, ⟨(some 144), .move (.t 10), none, .read, 0⟩, ⟨(some 145), .indexAddr 1 (.t 143) (.t 144), none, .read, 0⟩, ⟨(some 146), .load none (.t 145), none, .read, 0⟩, ⟨(some 135), .move (.t 0), none, .read, 0⟩, ⟨(some 136), .move (.t 10), none, .read, 0⟩, ⟨(some 147), .indexAddr 1 (.t 135) (.t 136), none, .read, 0⟩, ⟨none, .store 1 (.t 147) (.t 142), none, .write, 0⟩, ⟨(some 137), .move (.t 0), none, .read, 0⟩, ⟨(some 138), .move (.t 11), none, .read, 0⟩, ⟨(some 148), .indexAddr 1 (.t 137) (.t 138), none, .read, 1⟩, ⟨none, .store 1 (.t 148) (.t 146), none, .write, 1⟩])
 (.seq (.region [⟨(some 149), .move (.t 10), none, .write, 0⟩, ⟨(some 150), .arith .add (.t 149) (.c (.int .i64 1)), none, .write, 0⟩, ⟨(some 10), .move (.t 150), none, .write, 0⟩])
 (.region [⟨(some 151), .move (.t 11), none, .write, 0⟩, ⟨(some 152), .arith .sub (.t 151) (.c (.int .i64 1)), none, .write, 0⟩, ⟨(some 11), .move (.t 152), none, .write, 0⟩])))))))))
 (.seq (.draw [⟨(some 157), .move (.t 0), none, .read, 0⟩, ⟨(some 158), .move (.t 1), none, .read, 0⟩, ⟨(some 159), .indexAddr 1 (.t 157) (.t 158), none, .read, 0⟩, ⟨(some 160), .load none (.t 159), none, .read, 0⟩, ⟨(some 161), .move (.t 0), none, .read, 0⟩, ⟨(some 162), .move (.t 11), none, .read, 0⟩, ⟨(some 163), .indexAddr 1 (.t 161) (.t 162), none, .read, 0⟩, ⟨(some 164), .load none (.t 163), none, .read, 0⟩, ⟨(some 153), .move (.t 0), none, .read, 0⟩, ⟨(some 154), .move (.t 11), none, .read, 0⟩, ⟨(some 165), .indexAddr 1 (.t 153) (.t 154), none, .read, 0⟩, ⟨none, .store 1 (.t 165) (.t 160), none, .write, 0⟩, ⟨(some 155), .move (.t 0), none, .read, 0⟩, ⟨(some 156), .move (.t 1), none, .read, 0⟩, ⟨(some 166), .indexAddr 1 (.t 155) (.t 156), none, .read, 1⟩, ⟨none, .store 1 (.t 166) (.t 164), none, .write, 1⟩])
 (.seq (.region [⟨(some 167), .move (.t 11), none, .write, 0⟩, ⟨(some 8), .move (.t 167), none, .write, 0⟩, ⟨(some 9), .move (.c (.bool false)), none, .write, 0⟩])
 .ret)))))))))))) }

theorem c59 : compFunc Tryz.prog Tryz.f59 .full = some t59 := by kernel_rfl

/-- math/bits.Len32 -/
def t60 : DFunc := { ntmps := 19, results := [(.t 2)], mode := .full, body :=
 (.seq (.region [⟨(some 2), .move (.c (.int .i64 0)), none, .write, 0⟩])
 (.seq (.seq (.region [⟨(some 3), .move (.t 0), none, .write, 0⟩, ⟨(some 4), .arith .geq (.t 3) (.c (.int .u32 65536)), none, .write, 0⟩])
 (.cond (.t 4) (.seq (.region [⟨(some 5), .move (.t 0), none, .write, 0⟩, ⟨(some 6), .arith .shr (.t 5) (.c (.int .u64 16)), none, .write, 0⟩, ⟨(some 0), .move (.t 6), none, .write, 0⟩])
 (.region [⟨(some 2), .move (.c (.int .i64 16)), none, .write, 0⟩])) .skip))
 (.seq (.seq (.region [⟨(some 7), .move (.t 0), none, .write, 0⟩, ⟨(some 8), .arith .geq (.t 7) (.c (.int .u32 256)), none, .write, 0⟩])
 (.cond (.t 8) (.seq (.region [⟨(some 9), .move (.t 0), none, .write, 0⟩, ⟨(some 10), .arith .shr (.t 9) (.c (.int .u64 8)), none, .write, 0⟩, ⟨(some 0), .move (.t 10), none, .write, 0⟩])
 (.region [⟨(some 11), .move (.t 2), none, .write, 0⟩, ⟨(some 12), .arith .add (.t 11) (.c (.int .i64 8)), none, .write, 0⟩, ⟨(some 2), .move (.t 12), none, .write, 0⟩])) .skip))
 (.seq (.region [⟨(some 13), .move (.t 2), none, .write, 0⟩, ⟨(some 14), .move (.t 0), none, .write, 0⟩, ⟨(some 15), .conv .u8 (.t 14), none, .write, 0⟩, ⟨(some 16), .indexStr (.c (.str [0, 1, 2, 2, 3, 3, 3, 3, 4, 4, 4, 4, 4, 4, 4, 4, 5, 5, 5, 5, 5, 5, 5, 5, 5, 5, 5, 5, 5, 5, 5, 5, 6, 6, 6, 6, 6, 6, 6, 6, 6, 6, 6, 6, 6, 6, 6, 6, 6, 6, 6, 6, 6, 6, 6, 6, 6, 6, 6, 6, 6, 6, 6, 6, 7, 7, 7, 7, 7, 7, 7, 7, 7, 7, 7, 7, 7, 7, 7, 7, 7, 7, 7, 7, 7, 7, 7, 7, 7, 7, 7, 7, 7, 7, 7, 7, 7, 7, 7, 7, 7, 7, 7, 7, 7, 7, 7, 7, 7, 7, 7, 7, 7, 7, 7, 7, 7, 7, 7, 7, 7, 7, 7, 7, 7, 7, 7, 7, 8, 8, 8, 8, 8, 8, 8, 8, 8, 8, 8, 8, 8, 8, 8, 8, 8, 8, 8, 8, 8, 8, 8, 8, 8, 8, 8, 8, 8, 8, 8, 8, 8, 8, 8, 8, 8, 8, 8, 8, 8, 8, 8, 8, 8, 8, 8, 8, 8, 8, 8, 8, 8, 8, 8, 8, 8, 8, 8, 8, 8, 8, 8, 8, 8, 8, 8, 8, 8, 8, 8, 8, 8, 8, 8, 8, 8, 8, 8, 8, 8, 8, 8, 8, 8, 8, 8, 8, 8, 8, 8, 8, 8, 8, 8, 8, 8, 8, 8, 8, 8, 8, 8, 8, 8, 8, 8, 8, 8, 8, 8, 8, 8, 8, 8, 8, 8, 8, 8, 8, 8, 8, 8, 8, 8, 8, 8, 8])) (.t 15), none, .write, 0⟩, ⟨(some 17), .conv .i64 (.t 16), none, .write, 0⟩, ⟨(some 18), .arith .add (.t 13) (.t 17), none, .write, 0⟩, ⟨(some 2), .move (.t 18), none, .write, 0⟩])
 .ret)))) }

theorem c60 : compFunc Tryz.prog Tryz.f60 .full = some t60 := by kernel_rfl

/-- math/bits.Len64 -/
def t61 : DFunc := { ntmps := 25, results := [(.t 2)], mode := .full, body :=
 (.seq (.region [⟨(some 2), .move (.c (.int .i64 0)), none, .write, 0⟩])
 (.seq (.seq (.region [⟨(some 3), .move (.t 0), none, .write, 0⟩, ⟨(some 4), .arith .geq (.t 3) (.c (.int .u64 4294967296)), none, .write, 0⟩])
 (.cond (.t 4) (.seq (.region [⟨(some 5), .move (.t 0), none, .write, 0⟩, ⟨(some 6), .arith .shr (.t 5) (.c (.int .u64 32)), none, .write, 0⟩, ⟨(some 0), .move (.t 6), none, .write, 0⟩])
 (.region [⟨(some 2), .move (.c (.int .i64 32)), none, .write, 0⟩])) .skip))
 (.seq (.seq (.region [⟨(some 7), .move (.t 0), none, .write, 0⟩, ⟨(some 8), .arith .geq (.t 7) (.c (.int .u64 65536)), none, .write, 0⟩])
 (.cond (.t 8) (.seq (.region [⟨(some 9), .move (.t 0), none, .write, 0⟩, ⟨(some 10), .arith .shr (.t 9) (.c (.int .u64 16)), none, .write, 0⟩, ⟨(some 0), .move (.t 10), none, .write, 0⟩])
 (.region [⟨(some 11), .move (.t 2), none, .write, 0⟩, ⟨(some 12), .arith .add (.t 11) (.c (.int .i64 16)), none, .write, 0⟩, ⟨(some 2), .move (.t 12), none, .write, 0⟩])) .skip))
 (.seq (.seq (.region [⟨(some 13), .move (.t 0), none, .write, 0⟩, ⟨(some 14), .arith .geq (.t 13) (.c (.int .u64 256)), none, .write, 0⟩])
 (.cond (.t 14) (.seq (.region [⟨(some 15), .move (.t 0), none, .write, 0⟩, ⟨(some 16), .arith .shr (.t 15) (.c (.int .u64 8)), none, .write, 0⟩, ⟨(some 0), .move (.t 16), none, .write, 0⟩])
 (.region [⟨(some 17), .move (.t 2), none, .write, 0⟩, ⟨(some 18), .arith .add (.t 17) (.c (.int .i64 8)), none, .write, 0⟩, ⟨(some 2), .move (.t 18), none, .write, 0⟩])) .skip))
 (.seq (.region [⟨(some 19), .move (.t 2), none, .write, 0⟩, ⟨(some 20), .move (.t 0), none, .write, 0⟩, ⟨(some 21), .conv .u8 (.t 20), none, .write, 0⟩, ⟨(some 22), .indexStr (.c (.str [0, 1, 2, 2, 3, 3, 3, 3, 4, 4, 4, 4, 4, 4, 4, 4, 5, 5, 5, 5, 5, 5, 5, 5, 5, 5, 5, 5, 5, 5, 5, 5, 6, 6, 6, 6, 6, 6, 6, 6, 6, 6, 6, 6, 6, 6, 6, 6, 6, 6, 6, 6, 6, 6, 6, 6, 6, 6, 6, 6, 6, 6, 6, 6, 7, 7, 7, 7, 7, 7, 7, 7, 7, 7, 7, 7, 7, 7, 7, 7, 7, 7, 7, 7, 7, 7, 7, 7, 7, 7, 7, 7, 7, 7, 7, 7, 7, 7, 7, 7, 7, 7, 7, 7, 7, 7, 7, 7, 7, 7, 7, 7, 7, 7, 7, 7, 7, 7, 7, 7, 7, 7, 7, 7, 7, 7, 7, 7, 8, 8, 8, 8, 8, 8, 8, 8, 8, 8, 8, 8, 8, 8, 8, 8, 8, 8, 8, 8, 8, 8, 8, 8, 8, 8, 8, 8, 8, 8, 8, 8, 8, 8, 8, 8, 8, 8, 8, 8, 8, 8, 8, 8, 8, 8, 8, 8, 8, 8, 8, 8, 8, 8, 8, 8, 8, 8, 8, 8, 8, 8, 8, 8, 8, 8, 8, 8, 8, 8, 8, 8, 8, 8, 8, 8, 8, 8, 8, 8, 8, 8, 8, 8, 8, 8, 8, 8, 8, 8, 8, 8, 8, 8, 8, 8, 8, 8, 8, 8, 8, 8, 8, 8, 8, 8, 8, 8, 8, 8, 8, 8, 8, 8, 8, 8, 8, 8, 8, 8, 8, 8, 8, 8, 8, 8, 8, 8])) (.t 21), none, .write, 0⟩, ⟨(some 23), .conv .i64 (.t 22), none, .write, 0⟩, ⟨(some 24), .arith .add (.t 19) (.t 23), none, .write, 0⟩, ⟨(some 2), .move (.t 24), none, .write, 0⟩])
 .ret))))) }

theorem c61 : compFunc Tryz.prog Tryz.f61 .full = some t61 := by kernel_rfl

/-- slices.rotateLeft[broadside/api.Own] -/
def t62 : DFunc := { ntmps := 14, results := [], mode := .full, body :=
 (.seq (.region [⟨(some 4), .move (.t 0), none, .write, 0⟩, ⟨(some 5), .move (.t 1), none, .write, 0⟩, ⟨(some 6), .sliceSl 3 (.t 4) none (some (.t 5)), none, .write, 0⟩, ⟨(some 7), .call (.c (.func 77 [])) [(.t 6)], none, .write, 0⟩])
 (.seq (.region [⟨(some 8), .move (.t 0), none, .write, 0⟩, ⟨(some 9), .move (.t 1), none, .write, 0⟩, ⟨(some 10), .sliceSl 3 (.t 8) (some (.t 9)) none, none, .write, 0⟩, ⟨(some 11), .call (.c (.func 77 [])) [(.t 10)], none, .write, 0⟩])
 (.region [⟨(some 12), .move (.t 0), none, .write, 0⟩, ⟨(some 13), .call (.c (.func 77 [])) [(.t 12)], none, .write, 0⟩]))) }

theorem c62 : compFunc Tryz.prog Tryz.f62 .full = some t62 := by kernel_rfl

/-- broadside/pred.Make -/
def t63 : DFunc := { ntmps := 75, results := [(.t 2), (.t 3)], mode := .full, body :=
 (.seq (.region [⟨(some 2), .move (.c .nsl), none, .write, 0⟩, ⟨(some 3), .move (.c .nili), none, .write, 0⟩])
 (.seq (.seq (.region [⟨(some 13), .move (.t 0), none, .write, 0⟩, ⟨(some 14), .len 1 (.t 13), none, .write, 0⟩, ⟨(some 15), .move (.c (.int .i64 0)), none, .write, 0⟩])
 (.block 0 (.loop (.seq (.region [⟨(some 16), .arith .lss (.t 15) (.t 14), none, .write, 0⟩])
 (.seq (.cond (.t 16) .skip (.exit 0))
 (.seq (.block 1 (.seq (.region [⟨(some 17), .move (.t 15), none, .write, 0⟩, ⟨(some 18), .indexAddr 5 (.t 13) (.t 15), none, .write, 0⟩, ⟨(some 19), .load (some 5) (.t 18), none, .write, 0⟩, ⟨(some 5), .alloc 126 5 (.agg [(.str []), (.int .i64 0), (.int .i64 0), (.int .i64 0), (.str [])]), none, .write, 0⟩, ⟨(some 4), .move (.t 17), none, .write, 0⟩, ⟨none, .store 5 (.t 5) (.t 19), none, .write, 0⟩])
 (.seq (.region [⟨(some 20), .load (some 5) (.t 5), none, .write, 0⟩, ⟨(some 21), .call (.c (.func 78 [])) [(.t 20)], none, .write, 0⟩, ⟨(some 22), .un .not (.t 21), none, .write, 0⟩])
 (.cond (.t 22) (.seq (.region [⟨(some 23), .move (.t 4), none, .write, 0⟩, ⟨(some 24), .makeIface 129 (.c (.int .i64 1)), none, .write, 0⟩, ⟨(some 25), .call (.c (.func 79 [])) [(.c (.str [112, 114, 101, 100])), (.t 23), (.t 24)], none, .write, 0⟩, ⟨(some 2), .move (.c .nsl), none, .write, 0⟩, ⟨(some 3), .move (.t 25), none, .write, 0⟩])
 .ret) .skip))))
 (.region [⟨(some 26), .arith .add (.t 15) (.c (.int .i64 1)), none, .write, 0⟩, ⟨(some 15), .move (.t 26), none, .write, 0⟩])))))))
 (.seq (.region [⟨(some 6), .move (.c .nsl), none, .write, 0⟩])
 (.seq (.seq (.region [⟨(some 27), .move (.t 0), none, .write, 0⟩, ⟨(some 28), .len 1 (.t 27), none, .write, 0⟩, ⟨(some 29), .move (.c (.int .i64 0)), none, .write, 0⟩])
 (.block 2 (.loop (.seq (.region [⟨(some 30), .arith .lss (.t 29) (.t 28), none, .write, 0⟩])
 (.seq (.cond (.t 30) .skip (.exit 2))
 (.seq (.block 3 (.seq (.region [⟨(some 31), .move (.t 29), none, .write, 0⟩, ⟨(some 32), .indexAddr 5 (.t 27) (.t 29), none, .write, 0⟩, ⟨(some 33), .load (some 5) (.t 32), none, .write, 0⟩, ⟨(some 8), .alloc 126 5 (.agg [(.str []), (.int .i64 0), (.int .i64 0), (.int .i64 0), (.str [])]), none, .write, 0⟩, ⟨(some 7), .move (.t 31), none, .write, 0⟩, ⟨none, .store 5 (.t 8) (.t 33), none, .write, 0⟩])
 (.seq (.region [⟨(some 35), .move (.t 6), none, .write, 0⟩, ⟨(some 36), .fieldAddr 0 (.t 8), none, .write, 0⟩, ⟨(some 37), .load none (.t 36), none, .write, 0⟩, ⟨(some 38), .call (.c (.func 80 [])) [(.t 35), (.t 37), (.c (.func 81 []))], none, .write, 0⟩, ⟨(some 34), .move (.t 38), none, .write, 0⟩, ⟨(some 39), .extract (.t 34) 0, none, .write, 0⟩, ⟨(some 40), .extract (.t 34) 1, none, .write, 0⟩, ⟨(some 9), .move (.t 39), none, .write, 0⟩, ⟨(some 10), .move (.t 40), none, .write, 0⟩])
 (.block 4 (.seq (.region [⟨(some 47), .move (.t 10), none, .write, 0⟩, ⟨(some 46), .move (.t 47), none, .write, 0⟩])
 (.cond (.t 46) (.seq (.draw [⟨(some 49), .move (.t 6), none, .read, 0⟩, ⟨(some 50), .move (.t 9), none, .read, 0⟩, ⟨(some 51), .indexAddr 5 (.t 49) (.t 50), none, .read, 0⟩, ⟨(some 52), .load (some 5) (.t 51), none, .read, 0⟩, ⟨(some 53), .load (some 5) (.t 8), none, .read, 0⟩, ⟨(some 54), .call (.c (.func 83 [])) [(.t 52), (.t 53)], none, .write, 0⟩, ⟨(some 48), .move (.t 54), none, .read, 1⟩, ⟨(some 55), .extract (.t 48) 0, none, .read, 1⟩, ⟨(some 11), .alloc 126 5 (.agg [(.str []), (.int .i64 0), (.int .i64 0), (.int .i64 0), (.str [])]), none, .create, 0⟩, ⟨none, .store 5 (.t 11) (.t 55), none, .write, 2⟩, ⟨(some 56), .extract (.t 48) 1, none, .read, 1⟩, ⟨(some 12), .move (.t 56), none, .read, 3⟩])
 (.seq (.seq (.region [⟨(some 57), .move (.t 12), none, .write, 0⟩, ⟨(some 58), .un .not (.t 57), none, .write, 0⟩])
 (.cond (.t 58) (.seq (.region [⟨(some 59), .move (.t 7), none, .write, 0⟩, ⟨(some 60), .makeIface 129 (.c (.int .i64 5)), none, .write, 0⟩, ⟨(some 61), .call (.c (.func 79 [])) [(.c (.str [112, 114, 101, 100])), (.t 59), (.t 60)], none, .write, 0⟩, ⟨(some 2), .move (.c .nsl), none, .write, 0⟩, ⟨(some 3), .move (.t 61), none, .write, 0⟩])
 .ret) .skip))
 (.region [⟨(some 62), .move (.t 6), none, .write, 0⟩, ⟨(some 63), .move (.t 9), none, .write, 0⟩, ⟨(some 64), .load (some 5) (.t 11), none, .write, 0⟩, ⟨(some 65), .indexAddr 5 (.t 62) (.t 63), none, .write, 0⟩, ⟨none, .store 5 (.t 65) (.t 64), none, .write, 0⟩]))) (.seq (.region [⟨(some 67), .move (.t 6), none, .write, 0⟩, ⟨(some 68), .len 1 (.t 67), none, .write, 0⟩, ⟨(some 69), .arith .eql (.t 68) (.c (.int .i64 5)), none, .write, 0⟩, ⟨(some 66), .move (.t 69), none, .write, 0⟩])
 (.cond (.t 66) (.seq (.region [⟨(some 70), .move (.t 7), none, .write, 0⟩, ⟨(some 71), .makeIface 129 (.c (.int .i64 7)), none, .write, 0⟩, ⟨(some 72), .call (.c (.func 79 [])) [(.c (.str [112, 114, 101, 100])), (.t 70), (.t 71)], none, .write, 0⟩, ⟨(some 2), .move (.c .nsl), none, .write, 0⟩, ⟨(some 3), .move (.t 72), none, .write, 0⟩])
 .ret) (.region [⟨(some 41), .move (.t 6), none, .write, 0⟩, ⟨(some 42), .move (.t 9), none, .write, 0⟩, ⟨(some 43), .load (some 5) (.t 8), none, .write, 0⟩, ⟨(some 44), .buildSlice 126 5 (.agg [(.str []), (.int .i64 0), (.int .i64 0), (.int .i64 0), (.str [])]) 1 [(0, (.t 43))], none, .write, 0⟩, ⟨(some 45), .call (.c (.func 84 [])) [(.t 41), (.t 42), (.t 44)], none, .write, 0⟩, ⟨(some 6), .move (.t 45), none, .write, 0⟩])))))))))
 (.region [⟨(some 73), .arith .add (.t 29) (.c (.int .i64 1)), none, .write, 0⟩, ⟨(some 29), .move (.t 73), none, .write, 0⟩])))))))
 (.seq (.region [⟨(some 74), .move (.t 6), none, .write, 0⟩, ⟨(some 2), .move (.t 74), none, .write, 0⟩, ⟨(some 3), .move (.c .nili), none, .write, 0⟩])
 .ret))))) }

theorem c63 : compFunc Tryz.prog Tryz.f63 .full = some t63 := by kernel_rfl

/-- broadside/rel.Sample -/
def t64 : DFunc := { ntmps := 31, results := [(.t 2)], mode := .full, body :=
 (.seq (.region [⟨(some 2), .move (.c .nsl), none, .write, 0⟩])
 (.seq (.region [⟨(some 3), .move (.c .nsl), none, .write, 0⟩])
 (.seq (.seq (.region [⟨(some 7), .move (.t 0), none, .write, 0⟩, ⟨(some 8), .len 1 (.t 7), none, .write, 0⟩, ⟨(some 9), .move (.c (.int .i64 0)), none, .write, 0⟩])
 (.block 0 (.loop (.seq (.region [⟨(some 10), .arith .lss (.t 9) (.t 8), none, .write, 0⟩])
 (.seq (.cond (.t 10) .skip (.exit 0))
 (.seq (.block 1 (.seq (.region [⟨(some 11), .indexAddr 5 (.t 7) (.t 9), none, .write, 0⟩, ⟨(some 12), .load (some 5) (.t 11), none, .write, 0⟩, ⟨(some 5), .alloc 126 5 (.agg [(.str []), (.int .i64 0), (.int .i64 0), (.int .i64 0), (.str [])]), none, .write, 0⟩, ⟨none, .store 5 (.t 5) (.t 12), none, .write, 0⟩])
 (.seq (.region [⟨(some 13), .fieldAddr 4 (.t 5), none, .write, 0⟩, ⟨(some 14), .load none (.t 13), none, .write, 0⟩, ⟨(some 15), .call (.c (.func 85 [])) [(.t 14)], none, .write, 0⟩, ⟨(some 6), .alloc 137 3 (.agg [(.bool false), (.int .i64 0), (.str [])]), none, .write, 0⟩, ⟨none, .store 3 (.t 6) (.t 15), none, .write, 0⟩])
 (.seq (.seq (.region [⟨(some 16), .fieldAddr 1 (.t 5), none, .write, 0⟩, ⟨(some 17), .load none (.t 16), none, .write, 0⟩, ⟨(some 18), .arith .eql (.t 17) (.c (.int .i64 1)), none, .write, 0⟩])
 (.cond (.t 18) (.region [⟨(some 19), .fieldAddr 2 (.t 5), none, .write, 0⟩, ⟨(some 20), .load none (.t 19), none, .write, 0⟩, ⟨(some 21), .call (.c (.func 86 [])) [(.t 20)], none, .write, 0⟩, ⟨none, .store 3 (.t 6) (.t 21), none, .write, 0⟩]) .skip))
 (.region [⟨(some 22), .move (.t 3), none, .write, 0⟩, ⟨(some 23), .fieldAddr 0 (.t 5), none, .write, 0⟩, ⟨(some 24), .load none (.t 23), none, .write, 0⟩, ⟨(some 25), .load (some 3) (.t 6), none, .write, 0⟩, ⟨(some 26), .build [(.str []), (.bool false), (.int .i64 0), (.str [])] [(0, 1, (.t 24)), (1, 3, (.t 25))], none, .write, 0⟩, ⟨(some 27), .buildSlice 141 4 (.agg [(.str []), (.bool false), (.int .i64 0), (.str [])]) 1 [(0, (.t 26))], none, .write, 0⟩, ⟨(some 28), .append 141 4 48 (.t 22) (.t 27), none, .write, 0⟩, ⟨(some 3), .move (.t 28), none, .write, 0⟩])))))
 (.region [⟨(some 29), .arith .add (.t 9) (.c (.int .i64 1)), none, .write, 0⟩, ⟨(some 9), .move (.t 29), none, .write, 0⟩])))))))
 (.seq (.region [⟨(some 30), .move (.t 3), none, .write, 0⟩, ⟨(some 2), .move (.t 30), none, .write, 0⟩])
 .ret)))) }

theorem c64 : compFunc Tryz.prog Tryz.f64 .full = some t64 := by kernel_rfl

/-- broadside/subs.place -/
def t65 : DFunc := { ntmps := 15, results := [(.t 6), (.t 7)], mode := .full, body :=
 (.seq (.region [⟨(some 3), .box 30 6 (.t 0), none, .write, 0⟩, ⟨(some 4), .box 23 2 (.t 1), none, .write, 0⟩, ⟨(some 5), .box 23 2 (.t 2), none, .write, 0⟩, ⟨(some 6), .move (.c (.int .i64 0)), none, .write, 0⟩, ⟨(some 7), .move (.c (.bool false)), none, .write, 0⟩])
 (.seq (.region [⟨(some 8), .fieldAddr 4 (.t 3), none, .write, 0⟩, ⟨(some 9), .load none (.t 8), none, .write, 0⟩, ⟨(some 10), .load (some 2) (.t 5), none, .write, 0⟩, ⟨(some 11), .makeFunc 88 [(.t 4)], none, .write, 0⟩, ⟨(some 12), .call (.c (.func 87 [])) [(.t 9), (.t 10), (.t 11)], none, .write, 0⟩, ⟨(some 13), .extract (.t 12) 0, none, .write, 0⟩, ⟨(some 14), .extract (.t 12) 1, none, .write, 0⟩, ⟨(some 6), .move (.t 13), none, .write, 0⟩, ⟨(some 7), .move (.t 14), none, .write, 0⟩])
 .ret)) }

theorem c65 : compFunc Tryz.prog Tryz.f65 .full = some t65 := by kernel_rfl

/-- broadside/subs.Covered -/
def t66 : DFunc := { ntmps := 12, results := [(.t 6)], mode := .full, body :=
 (.seq (.region [⟨(some 3), .box 30 6 (.t 0), none, .write, 0⟩, ⟨(some 4), .box 23 2 (.t 1), none, .write, 0⟩, ⟨(some 5), .box 34 1 (.t 2), none, .write, 0⟩, ⟨(some 6), .move (.c (.bool false)), none, .write, 0⟩])
 (.seq (.region [⟨(some 7), .load (some 6) (.t 3), none, .write, 0⟩, ⟨(some 8), .load (some 2) (.t 4), none, .write, 0⟩, ⟨(some 9), .call (.c (.func 90 [])) [(.t 7), (.t 8)], none, .write, 0⟩, ⟨(some 10), .makeFunc 91 [(.t 5)], none, .write, 0⟩, ⟨(some 11), .call (.c (.func 89 [])) [(.t 9), (.t 10)], none, .write, 0⟩, ⟨(some 6), .move (.t 11), none, .write, 0⟩])
 .ret)) }

theorem c66 : compFunc Tryz.prog Tryz.f66 .full = some t66 := by kernel_rfl

/-- slices.Insert[[]broadside/api.Entry,broadside/api.Entry] -/
def t67 : DFunc := { ntmps := 95, results := [(.t 6)], mode := .split, body :=
 (.seq (.region [⟨(some 6), .move (.c .nsl), none, .write, 0⟩])
 (.seq (.region [⟨(some 10), .move (.t 0), none, .write, 0⟩, ⟨(some 11), .move (.t 1), none, .write, 0⟩, ⟨(some 12), .sliceSl 7 (.t 10) (some (.t 11)) none, none, .write, 0⟩])
 (.seq (.region [⟨(some 13), .move (.t 2), none, .write, 0⟩, ⟨(some 14), .len 1 (.t 13), none, .write, 0⟩, ⟨(some 7), .move (.t 14), none, .write, 0⟩])
 (.seq (.seq (.region [⟨(some 15), .move (.t 7), none, .write, 0⟩, ⟨(some 16), .arith .eql (.t 15) (.c (.int .i64 0)), none, .write, 0⟩])
 (.cond (.t 16) (.seq (.region [⟨(some 17), .move (.t 0), none, .write, 0⟩, ⟨(some 6), .move (.t 17), none, .write, 0⟩])
 .ret) .skip))
 (.seq (.region [⟨(some 18), .move (.t 0), none, .write, 0⟩, ⟨(some 19), .len 1 (.t 18), none, .write, 0⟩, ⟨(some 8), .move (.t 19), none, .write, 0⟩])
 (.seq (.seq (.region [⟨(some 20), .move (.t 1), none, .write, 0⟩, ⟨(some 21), .move (.t 8), none, .write, 0⟩, ⟨(some 22), .arith .eql (.t 20) (.t 21), none, .write, 0⟩])
 (.cond (.t 22) (.seq (.region [⟨(some 23), .move (.t 0), none, .write, 0⟩, ⟨(some 24), .move (.t 2), none, .write, 0⟩, ⟨(some 25), .append 62 7 72 (.t 23) (.t 24), none, .write, 0⟩, ⟨(some 6), .move (.t 25), none, .write, 0⟩])
 .ret) .skip))
 (.seq (.seq (.region [⟨(some 26), .move (.t 8), none, .write, 0⟩, ⟨(some 27), .move (.t 7), none, .write, 0⟩, ⟨(some 28), .arith .add (.t 26) (.t 27), none, .write, 0⟩, ⟨(some 29), .move (.t 0), none, .write, 0⟩, ⟨(some 30), .cap (.t 29), none, .write, 0⟩, ⟨(some 31), .arith .gtr (.t 28) (.t 30), none, .write, 0⟩])
 (.cond (.t 31) (.seq (.region [⟨(some 32), .move (.t 0), none, .write, 0⟩, ⟨(some 33), .move (.t 1), none, .write, 0⟩, ⟨(some 34), .sliceSl 7 (.t 32) none (some (.t 33)), none, .write, 0⟩, ⟨(some 35), .move (.t 8), none, .write, 0⟩, ⟨(some 36), .move (.t 7), none, .write, 0⟩, ⟨(some 37), .arith .add (.t 35) (.t 36), none, .write, 0⟩, ⟨(some 38), .move (.t 1), none, .write, 0⟩, ⟨(some 39), .arith .sub (.t 37) (.t 38), none, .write, 0⟩, ⟨(some 40), .appendZ 62 7 72 (.agg [(.int .i64 0), (.int .i64 0), (.int .i64 0), (.int .i64 0), .nsl, (.int .i64 0), (.bool false)]) (.t 34) (.t 39), none, .write, 0⟩, ⟨(some 9), .move (.t 40), none, .write, 0⟩])
 (.seq (.region [⟨(some 41), .move (.t 9), none, .write, 0⟩, ⟨(some 42), .move (.t 1), none, .write, 0⟩, ⟨(some 43), .sliceSl 7 (.t 41) (some (.t 42)) none, none, .write, 0⟩, ⟨(some 44), .move (.t 2), none, .write, 0⟩, ⟨(some 45), .copy 7 (.t 43) (.t 44), none, .write, 0⟩])
 (.seq (.draw [⟨(some 46), .move (.t 9), none, .read, 0⟩, ⟨(some 47), .move (.t 1), none, .read, 0⟩, ⟨(some 48), .move (.t 7), none, .read, 0⟩, ⟨(some 49), .arith .add (.t 47) (.t 48), none, .read, 0⟩, ⟨(some 50), .sliceSl 7 (.t 46) (some (.t 49)) none, none, .read, 0⟩, ⟨(some 51), .move (.t 0), none, .read, 0⟩, ⟨(some 52), .move (.t 1), none, .read, 0⟩, ⟨(some 53), .sliceSl 7 (.t 51) (some (.t 52)) none, none, .read, 0⟩, ⟨(some 54), .copy 7 (.t 50) (.t 53), none, .write, 0⟩])
 (.seq (.region [⟨(some 55), .move (.t 9), none, .write, 0⟩, ⟨(some 6), .move (.t 55), none, .write, 0⟩])
 .ret)))) .skip))
 (.seq (.region [⟨(some 56), .move (.t 0), none, .write, 0⟩, ⟨(some 57), .move (.t 8), none, .write, 0⟩, ⟨(some 58), .move (.t 7), none, .write, 0⟩, ⟨(some 59), .arith .add (.t 57) (.t 58), none, .write, 0⟩, ⟨(some 60), .sliceSl 7 (.t 56) none (some (.t 59)), none, .write, 0⟩, ⟨(some 0), .move (.t 60), none, .write, 0⟩])
 (.seq (.seq (.region [⟨(some 61), .move (.t 2), none, .write, 0⟩, ⟨(some 62), .move (.t 0), none, .write, 0⟩, ⟨(some 63), .move (.t 1), none, .write, 0⟩, ⟨(some 64), .move (.t 7), none, .write, 0⟩, ⟨(some 65), .arith .add (.t 63) (.t 64), none, .write, 0⟩, ⟨(some 66), .sliceSl 7 (.t 62) (some (.t 65)) none, none, .write, 0⟩, ⟨(some 67), .call (.c (.func 93 [])) [(.t 61), (.t 66)], none, .write, 0⟩, ⟨(some 68), .un .not (.t 67), none, .write, 0⟩])
 (.cond (.t 68) (.seq (.draw [⟨(some 69), .move (.t 0), none, .read, 0⟩, ⟨(some 70), .move (.t 1), none, .read, 0⟩, ⟨(some 71), .move (.t 7), none, .read, 0⟩, ⟨(some 72), .arith .add (.t 70) (.t 71), none, .read, 0⟩, ⟨(some 73), .sliceSl 7 (.t 69) (some (.t 72)) none, none, .read, 0⟩, ⟨(some 74), .move (.t 0), none, .read, 0⟩, ⟨(some 75), .move (.t 1), none, .read, 0⟩, ⟨(some 76), .sliceSl 7 (.t 74) (some (.t 75)) none, none, .read, 0⟩, ⟨(some 77), .copy 7 (.t 73) (.t 76), none, .write, 0⟩])
 (.seq (.region [⟨(some 78), .move (.t 0), none, .write, 0⟩, ⟨(some 79), .move (.t 1), none, .write, 0⟩, ⟨(some 80), .sliceSl 7 (.t 78) (some (.t 79)) none, none, .write, 0⟩, ⟨(some 81), .move (.t 2), none, .write, 0⟩, ⟨(some 82), .copy 7 (.t 80) (.t 81), none, .write, 0⟩])
 (.seq (.region [⟨(some 83), .move (.t 0), none, .write, 0⟩, ⟨(some 6), .move (.t 83), none, .write, 0⟩])
 .ret))) .skip))
 (.seq (.region [⟨(some 84), .move (.t 0), none, .write, 0⟩, ⟨(some 85), .move (.t 8), none, .write, 0⟩, ⟨(some 86), .sliceSl 7 (.t 84) (some (.t 85)) none, none, .write, 0⟩, ⟨(some 87), .move (.t 2), none, .write, 0⟩, ⟨(some 88), .copy 7 (.t 86) (.t 87), none, .write, 0⟩])
 (.seq (.region [⟨(some 89), .move (.t 0), none, .write, 0⟩, ⟨(some 90), .move (.t 1), none, .write, 0⟩, ⟨(some 91), .sliceSl 7 (.t 89) (some (.t 90)) none, none, .write, 0⟩, ⟨(some 92), .move (.t 7), none, .write, 0⟩, ⟨(some 93), .call (.c (.func 94 [])) [(.t 91), (.t 92)], none, .write, 0⟩])
 (.seq (.region [⟨(some 94), .move (.t 0), none, .write, 0⟩, ⟨(some 6), .move (.t 94), none, .write, 0⟩])
 .ret)))))))))))) }

theorem c67 : compFunc Tryz.prog Tryz.f67 .split = some t67 := by kernel_rfl

/-- slices.Delete[[]broadside/api.Entry,broadside/api.Entry] -/
def t68 : DFunc := { ntmps := 33, results := [(.t 6)], mode := .full, body :=
 (.seq (.region [⟨(some 6), .move (.c .nsl), none, .write, 0⟩])
 (.seq (.region [⟨(some 8), .move (.t 0), none, .write, 0⟩, ⟨(some 9), .move (.t 1), none, .write, 0⟩, ⟨(some 10), .move (.t 2), none, .write, 0⟩, ⟨(some 11), .move (.t 0), none, .write, 0⟩, ⟨(some 12), .len 1 (.t 11), none, .write, 0⟩, ⟨(some 13), .slice3 (.t 8) (.t 9) (.t 10) (.t 12), none, .write, 0⟩])
 (.seq (.seq (.region [⟨(some 14), .move (.t 1), none, .write, 0⟩, ⟨(some 15), .move (.t 2), none, .write, 0⟩, ⟨(some 16), .arith .eql (.t 14) (.t 15), none, .write, 0⟩])
 (.cond (.t 16) (.seq (.region [⟨(some 17), .move (.t 0), none, .write, 0⟩, ⟨(some 6), .move (.t 17), none, .write, 0⟩])
 .ret) .skip))
 (.seq (.region [⟨(some 18), .move (.t 0), none, .write, 0⟩, ⟨(some 19), .len 1 (.t 18), none, .write, 0⟩, ⟨(some 7), .move (.t 19), none, .write, 0⟩])
 (.seq (.draw [⟨(some 20), .move (.t 0), none, .read, 0⟩, ⟨(some 21), .move (.t 1), none, .read, 0⟩, ⟨(some 22), .sliceSl 7 (.t 20) none (some (.t 21)), none, .read, 0⟩, ⟨(some 23), .move (.t 0), none, .read, 0⟩, ⟨(some 24), .move (.t 2), none, .read, 0⟩, ⟨(some 25), .sliceSl 7 (.t 23) (some (.t 24)) none, none, .read, 0⟩, ⟨(some 26), .append 62 7 72 (.t 22) (.t 25), none, .write, 0⟩, ⟨(some 0), .move (.t 26), none, .read, 1⟩])
 (.seq (.region [⟨(some 27), .move (.t 0), none, .write, 0⟩, ⟨(some 28), .move (.t 0), none, .write, 0⟩, ⟨(some 29), .len 1 (.t 28), none, .write, 0⟩, ⟨(some 30), .move (.t 7), none, .write, 0⟩, ⟨(some 31), .sliceSl 7 (.t 27) (some (.t 29)) (some (.t 30)), none, .write, 0⟩, ⟨none, .clear 7 (.agg [(.int .i64 0), (.int .i64 0), (.int .i64 0), (.int .i64 0), .nsl, (.int .i64 0), (.bool false)]) (.t 31), none, .write, 0⟩])
 (.seq (.region [⟨(some 32), .move (.t 0), none, .write, 0⟩, ⟨(some 6), .move (.t 32), none, .write, 0⟩])
 .ret))))))) }

theorem c68 : compFunc Tryz.prog Tryz.f68 .full = some t68 := by kernel_rfl

/-- cmp.isNaN[int] -/
def t69 : DFunc := { ntmps := 6, results := [(.t 2)], mode := .full, body :=
 (.seq (.region [⟨(some 2), .move (.c (.bool false)), none, .write, 0⟩])
 (.seq (.region [⟨(some 3), .move (.t 0), none, .write, 0⟩, ⟨(some 4), .move (.t 0), none, .write, 0⟩, ⟨(some 5), .arith .neq (.t 3) (.t 4), none, .write, 0⟩, ⟨(some 2), .move (.t 5), none, .write, 0⟩])
 .ret)) }

theorem c69 : compFunc Tryz.prog Tryz.f69 .full = some t69 := by kernel_rfl

/-- slices.Reverse[[]broadside/api.Advert,broadside/api.Advert] -/
def t70 : DFunc := { ntmps := 28, results := [], mode := .full, body :=
 (.seq (.region [⟨(some 4), .move (.t 0), none, .write, 0⟩, ⟨(some 5), .len 1 (.t 4), none, .write, 0⟩, ⟨(some 6), .arith .sub (.t 5) (.c (.int .i64 1)), none, .write, 0⟩, ⟨(some 2), .move (.c (.int .i64 0)), none, .write, 0⟩, ⟨(some 3), .move (.t 6), none, .write, 0⟩])
 (.block 0 (.loop (.seq (.seq (.region [⟨(some 7), .move (.t 2), none, .write, 0⟩, ⟨(some 8), .move (.t 3), none, .write, 0⟩, ⟨(some 9), .arith .lss (.t 7) (.t 8), none, .write, 0⟩])
 (.cond (.t 9) .skip (.exit 0)))
 (.seq (.block 1 (.draw [⟨(some 18), .move (.t 0), none, .read, 0⟩, ⟨(some 19), .move (.t 3), none, .read, 0⟩, ⟨(some 20), .indexAddr 4 (.t 18) (.t 19), none, .read, 0⟩, ⟨(some 21), .load (some 4) (.t 20), none, .read, 0⟩, ⟨(some 22), .move (.t 0), none, .read, 0⟩, ⟨(some 23), .move (.t 2), none, .read, 0⟩, ⟨(some 24), .indexAddr 4 (.t 22) (.t 23), none, .read, 0⟩, ⟨(some 25), .load (some 4) (.t 24), none, .read, 0⟩, ⟨(some 14), .move (.t 0), none, .read, 0⟩, ⟨(some 15), .move (.t 2), none, .read, 0⟩, ⟨(some 26), .indexAddr 4 (.t 14) (.t 15), none, .read, 0⟩, ⟨none, .store 4 (.t 26) (.t 21), none, .write, 0⟩, ⟨(some 16), .move (.t 0), none, .read, 0⟩, ⟨(some 17), .move (.t 3), none, .read, 0⟩, ⟨(some 27), .indexAddr 4 (.t 16) (.t 17), none, .read, 1⟩, ⟨none, .store 4 (.t 27) (.t 25), none, .write, 1⟩]))
 (.region [⟨(some 10), .move (.t 2), none, .write, 0⟩, ⟨(some 11), .arith .add (.t 10) (.c (.int .i64 1)), none, .write, 0⟩, ⟨(some 12), .move (.t 3), none, .write, 0⟩, ⟨(some 13), .arith .sub (.t 12) (.c (.int .i64 1)), none, .write, 0⟩, ⟨(some 2), .move (.t 11), none, .write, 0⟩, ⟨(some 3), .move (.t 13), none, .write, 0⟩])))))) }

theorem c70 : compFunc Tryz.prog Tryz.f70 .full = some t70 := by kernel_rfl

end Go.Dm.TabR
