/-
The table of functions, brought into the machine's form (TabA, part 2). Written by program (wip/tools/table.lean.txt).
-/
import Derived.Test.YtniceconboecgaaDm28
import Derived.Test.YtniceconboecgaaRows
import Derived.KernelRfl
namespace Go.Dm.TabA
open Go.Proofs

/-- slices.partitionOrdered[int] -/
def t131 : DFunc := { ntmps := 168, results := [(.t 8), (.t 9)], mode := .full, body :=
 (.seq (.region [⟨(some 8), .move (.c (.int .i64 0)), none, .write, 0⟩, ⟨(some 9), .move (.c (.bool false)), none, .write, 0⟩])
 (.seq (.draw [⟨(some 16), .move (.t 0), none, .read, 0⟩, ⟨(some 17), .move (.t 3), none, .read, 0⟩, ⟨(some 18), .indexAddr 1 (.t 16) (.t 17), none, .read, 0⟩, ⟨(some 19), .load none (.t 18), none, .read, 0⟩, ⟨(some 20), .move (.t 0), none, .read, 0⟩, ⟨(some 21), .move (.t 1), none, .read, 0⟩, ⟨(some 22), .indexAddr 1 (.t 20) (.t 21), none, .read, 0⟩, ⟨(some 23), .load none (.t 22), none, .read, 0⟩, ⟨(some 12), .move (.t 0), none, .read, 0⟩, ⟨(some 13), .move (.t 1), none, .read, 0⟩, ⟨(some 24), .indexAddr 1 (.t 12) (.t 13), none, .read, 0⟩, ⟨none, .store 1 (.t 24) (.t 19), none, .write, 0⟩, ⟨(some 14), .move (.t 0), none, .read, 0⟩, ⟨(some 15), .move (.t 3), none, .read, 0⟩, ⟨(some 25), .indexAddr 1 (.t 14) (.t 15), none, .read, 1⟩, ⟨none, .store 1 (.t 25) (.t 23), none, .write, 1⟩])
 (.seq (.region [⟨(some 26), .move (.t 1), none, .write, 0⟩, ⟨(some 27), .arith .add (.t 26) (.c (.int .i64 1)), none, .write, 0⟩, ⟨(some 28), .move (.t 2), none, .write, 0⟩, ⟨(some 29), .arith .sub (.t 28) (.c (.int .i64 1)), none, .write, 0⟩, ⟨(some 10), .move (.t 27), none, .write, 0⟩, ⟨(some 11), .move (.t 29), none, .write, 0⟩])
 (.seq (.block 0 (.loop (.seq (.seq (.draw [⟨(some 30), .move (.t 10), none, .read, 0⟩, ⟨(some 31), .move (.t 11), none, .read, 0⟩, ⟨(some 32), .arith .leq (.t 30) (.t 31), none, .read, 0⟩, ⟨(some 33), .move (.t 32), none, .read, 0⟩, ⟨(some 34), .move (.t 0), (some (33, true)), .read, 0⟩, ⟨(some 35), .move (.t 10), (some (33, true)), .read, 0⟩, ⟨(some 36), .indexAddr 1 (.t 34) (.t 35), (some (33, true)), .read, 0⟩, ⟨(some 37), .load none (.t 36), (some (33, true)), .read, 0⟩, ⟨(some 38), .move (.t 0), (some (33, true)), .read, 0⟩, ⟨(some 39), .move (.t 1), (some (33, true)), .read, 0⟩, ⟨(some 40), .indexAddr 1 (.t 38) (.t 39), (some (33, true)), .read, 0⟩, ⟨(some 41), .load none (.t 40), (some (33, true)), .read, 0⟩, ⟨(some 42), .call (.c (.func 129 [])) [(.t 37), (.t 41)], (some (33, true)), .write, 0⟩, ⟨(some 43), .pick (.t 33) (.t 42) (.c (.bool false)), none, .read, 1⟩])
 (.cond (.t 43) .skip (.exit 0)))
 (.block 1 (.region [⟨(some 44), .move (.t 10), none, .write, 0⟩, ⟨(some 45), .arith .add (.t 44) (.c (.int .i64 1)), none, .write, 0⟩, ⟨(some 10), .move (.t 45), none, .write, 0⟩])))))
 (.seq (.block 2 (.loop (.seq (.seq (.draw [⟨(some 46), .move (.t 10), none, .read, 0⟩, ⟨(some 47), .move (.t 11), none, .read, 0⟩, ⟨(some 48), .arith .leq (.t 46) (.t 47), none, .read, 0⟩, ⟨(some 49), .move (.t 48), none, .read, 0⟩, ⟨(some 50), .move (.t 0), (some (49, true)), .read, 0⟩, ⟨(some 51), .move (.t 11), (some (49, true)), .read, 0⟩, ⟨(some 52), .indexAddr 1 (.t 50) (.t 51), (some (49, true)), .read, 0⟩, ⟨(some 53), .load none (.t 52), (some (49, true)), .read, 0⟩, ⟨(some 54), .move (.t 0), (some (49, true)), .read, 0⟩, ⟨(some 55), .move (.t 1), (some (49, true)), .read, 0⟩, ⟨(some 56), .indexAddr 1 (.t 54) (.t 55), (some (49, true)), .read, 0⟩, ⟨(some 57), .load none (.t 56), (some (49, true)), .read, 0⟩, ⟨(some 58), .call (.c (.func 129 [])) [(.t 53), (.t 57)], (some (49, true)), .write, 0⟩, ⟨(some 59), .un .not (.t 58), (some (49, true)), .read, 1⟩, ⟨(some 60), .pick (.t 49) (.t 59) (.c (.bool false)), none, .read, 1⟩])
 (.cond (.t 60) .skip (.exit 2)))
 (.block 3 (.region [⟨(some 61), .move (.t 11), none, .write, 0⟩, ⟨(some 62), .arith .sub (.t 61) (.c (.int .i64 1)), none, .write, 0⟩, ⟨(some 11), .move (.t 62), none, .write, 0⟩])))))
 (.seq (.seq (.region [⟨(some 63), .move (.t 10), none, .write, 0⟩, ⟨(some 64), .move (.t 11), none, .write, 0⟩, ⟨(some 65), .arith .gtr (.t 63) (.t 64), none, .write, 0⟩])
 (.cond (.t 65) (.seq (.draw [⟨(some 70), .move (.t 0), none, .read, 0⟩, ⟨(some 71), .move (.t 1), none, .read, 0⟩, ⟨(some 72), .indexAddr 1 (.t 70) (.t 71), none, .read, 0⟩, ⟨(some 73), .load none (.t 72), none, .read, 0⟩, ⟨(some 74), .move (.t 0), none, .read, 0⟩, ⟨(some 75), .move (.t 11), none, .read, 0⟩, ⟨(some 76), .indexAddr 1 (.t 74) (.t 75), none, .read, 0⟩, ⟨(some 77), .load none (.t 76), none, .read, 0⟩, ⟨(some 66), .move (.t 0), none, .read, 0⟩, ⟨(some 67), .move (.t 11), none, .read, 0⟩, ⟨(some 78), .indexAddr 1 (.t 66) (.t 67), none, .read, 0⟩, ⟨none, .store 1 (.t 78) (.t 73), none, .write, 0⟩, ⟨(some 68), .move (.t 0), none, .read, 0⟩, ⟨(some 69), .move (.t 1), none, .read, 0⟩, ⟨(some 79), .indexAddr 1 (.t 68) (.t 69), none, .read, 1⟩, ⟨none, .store 1 (.t 79) (.t 77), none, .write, 1⟩])
 (.seq (.region [⟨(some 80), .move (.t 11), none, .write, 0⟩, ⟨(some 8), .move (.t 80), none, .write, 0⟩, ⟨(some 9), .move (.c (.bool true)), none, .write, 0⟩])
 .ret)) .skip))
 (.seq (.draw [⟨(some 85), .move (.t 0), none, .read, 0⟩, ⟨(some 86), .move (.t 11), none, .read, 0⟩, ⟨(some 87), .indexAddr 1 (.t 85) (.t 86), none, .read, 0⟩, ⟨(some 88), .load none (.t 87), none, .read, 0⟩, ⟨(some 89), .move (.t 0), none, .read, 0⟩, ⟨(some 90), .move (.t 10), none, .read, 0⟩, ⟨(some 91), .indexAddr 1 (.t 89) (.t 90), none, .read, 0⟩, ⟨(some 92), .load none (.t 91), none, .read, 0⟩, ⟨(some 81), .move (.t 0), none, .read, 0⟩, ⟨(some 82), .move (.t 10), none, .read, 0⟩, ⟨(some 93), .indexAddr 1 (.t 81) (.t 82), none, .read, 0⟩, ⟨none, .store 1 (.t 93) (.t 88), none, .write, 0⟩, ⟨(some 83), .move (.t 0), none, .read, 0⟩, ⟨(some 84), .move (.t 11), none, .read, 0⟩, ⟨(some 94), .indexAddr 1 (.t 83) (.t 84), none, .read, 1⟩, ⟨none, .store 1 (.t 94) (.t 92), none, .write, 1⟩])
 (.seq (.region [⟨(some 95), .move (.t 10), none, .write, 0⟩, ⟨(some 96), .arith .add (.t 95) (.c (.int .i64 1)), none, .write, 0⟩, ⟨(some 10), .move (.t 96), none, .write, 0⟩])
 (.seq (.region [⟨(some 97), .move (.t 11), none, .write, 0⟩, ⟨(some 98), .arith .sub (.t 97) (.c (.int .i64 1)), none, .write, 0⟩, ⟨(some 11), .move (.t 98), none, .write, 0⟩])
 (.seq (.block 4 (.loop (.block 5 (.seq (.block 6 (.loop (.seq (.seq (.draw [⟨(some 99), .move (.t 10), none, .read, 0⟩, ⟨(some 100), .move (.t 11), none, .read, 0⟩, ⟨(some 101), .arith .leq (.t 99) (.t 100), none, .read, 0⟩, ⟨(some 102), .move (.t 101), none, .read, 0⟩, ⟨(some 103), .move (.t 0), (some (102, true)), .read, 0⟩, ⟨(some 104), .move (.t 10), (some (102, true)), .read, 0⟩, ⟨(some 105), .indexAddr 1 (.t 103) (.t 104), (some (102, true)), .read, 0⟩, ⟨(some 106), .load none (.t 105), (some (102, true)), .read, 0⟩, ⟨(some 107), .move (.t 0), (some (102, true)), .read, 0⟩, ⟨(some 108), .move (.t 1), (some (102, true)), .read, 0⟩, ⟨(some 109), .indexAddr 1 (.t 107) (.t 108), (some (102, true)), .read, 0⟩, ⟨(some 110), .load none (.t 109), (some (102, true)), .read, 0⟩, ⟨(some 111), .call (.c (.func 129 [])) [(.t 106), (.t 110)], (some (102, true)), .write, 0⟩, ⟨(some 112), .pick (.t 102) (.t 111) (.c (.bool false)), none, .read, 1⟩])
 (.cond (.t 112) .skip (.exit 6)))
 (.block 7 (.region [⟨(some 113), .move (.t 10), none, .write, 0⟩, ⟨(some 114), .arith .add (.t 113) (.c (.int .i64 1)), none, .write, 0⟩, ⟨(some 10), .move (.t 114), none, .write, 0⟩])))))
 (.seq (.block 8 (.loop (.seq (.seq (.draw [⟨(some 115), .move (.t 10), none, .read, 0⟩, ⟨(some 116), .move (.t 11), none, .read, 0⟩, ⟨(some 117), .arith .leq (.t 115) (.t 116), none, .read, 0⟩, ⟨(some 118), .move (.t 117), none, .read, 0⟩, ⟨(some 119), .move (.t 0), (some (118, true)), .read, 0⟩, ⟨(some 120), .move (.t 11), (some (118, true)), .read, 0⟩, ⟨(some 121), .indexAddr 1 (.t 119) (.t 120), (some (118, true)), .read, 0⟩, ⟨(some 122), .load none (.t 121), (some (118, true)), .read, 0⟩, ⟨(some 123), .move (.t 0), (some (118, true)), .read, 0⟩, ⟨(some 124), .move (.t 1), (some (118, true)), .read, 0⟩, ⟨(some 125), .indexAddr 1 (.t 123) (.t 124), (some (118, true)), .read, 0⟩, ⟨(some 126), .load none (.t 125), (some (118, true)), .read, 0⟩, ⟨(some 127), .call (.c (.func 129 [])) [(.t 122), (.t 126)], (some (118, true)), .write, 0⟩, ⟨(some 128), .un .not (.t 127), (some (118, true)), .read, 1⟩, ⟨(some 129), .pick (.t 118) (.t 128) (.c (.bool false)), none, .read, 1⟩])
 (.cond (.t 129) .skip (.exit 8)))
 (.block 9 (.region [⟨(some 130), .move (.t 11), none, .write, 0⟩, ⟨(some 131), .arith .sub (.t 130) (.c (.int .i64 1)), none, .write, 0⟩, ⟨(some 11), .move (.t 131), none, .write, 0⟩])))))
 (.seq (.seq (.region [⟨(some 132), .move (.t 10), none, .write, 0⟩, ⟨(some 133), .move (.t 11), none, .write, 0⟩, ⟨(some 134), .arith .gtr (.t 132) (.t 133), none, .write, 0⟩])
 (.cond (.t 134) (.exit 4) .skip))
 (.seq (.draw [⟨(some 139), .move (.t 0), none, .read, 0⟩, ⟨(some 140), .move (.t 11), none, .read, 0⟩, ⟨(some 141), .indexAddr 1 (.t 139) (.t 140), none, .read, 0⟩, ⟨(some 142), .load none (.t 141), none, .read, 0⟩, ⟨(some 143), .move (.t 0), none, .read, 0⟩, ⟨(some 144), .move (.t 10), none, .read, 0⟩, ⟨(some 145), .indexAddr 1 (.t 143) (.t 144), none, .read, 0⟩, ⟨(some 146), .load none (.t 145), none, .read, 0⟩, ⟨(some 135), .move (.t 0), none, .read, 0⟩, ⟨(some 136), .move (.t 10), none, .read, 0⟩, ⟨(some 147), .indexAddr 1 (.t 135) (.t 136), none, .read, 0⟩, ⟨none, .store 1 (.t 147) (.t 142), none, .write, 0⟩, ⟨(some 137), .move (.t 0), none, .read, 0⟩, ⟨(some 138), .move (.t 11), none, .read, 0⟩, ⟨(some 148), .indexAddr 1 (.t 137) (.t 138), none, .read, 1⟩, ⟨none, .store 1 (.t 148) (.t 146), none, .write, 1⟩])
 (.seq (.region [⟨(some 149), .move (.t 10), none, .write, 0⟩, ⟨(some 150), .arith .add (.t 149) (.c (.int .i64 1)), none, .write, 0⟩, ⟨(some 10), .move (.t 150), none, .write, 0⟩])
 (.region [⟨(some 151), .move (.t 11), none, .write, 0⟩, ⟨(some 152), .arith .sub (.t 151) (.c (.int .i64 1)), none, .write, 0⟩, ⟨(some 11), .move (.t 152), none, .write, 0⟩])))))))))
 (.seq (.draw [⟨(some 157), .move (.t 0), none, .read, 0⟩, ⟨(some 158), .move (.t 1), none, .read, 0⟩, ⟨(some 159), .indexAddr 1 (.t 157) (.t 158), none, .read, 0⟩, ⟨(some 160), .load none (.t 159), none, .read, 0⟩, ⟨(some 161), .move (.t 0), none, .read, 0⟩, ⟨(some 162), .move (.t 11), none, .read, 0⟩, ⟨(some 163), .indexAddr 1 (.t 161) (.t 162), none, .read, 0⟩, ⟨(some 164), .load none (.t 163), none, .read, 0⟩, ⟨(some 153), .move (.t 0), none, .read, 0⟩, ⟨(some 154), .move (.t 11), none, .read, 0⟩, ⟨(some 165), .indexAddr 1 (.t 153) (.t 154), none, .read, 0⟩, ⟨none, .store 1 (.t 165) (.t 160), none, .write, 0⟩, ⟨(some 155), .move (.t 0), none, .read, 0⟩, ⟨(some 156), .move (.t 1), none, .read, 0⟩, ⟨(some 166), .indexAddr 1 (.t 155) (.t 156), none, .read, 1⟩, ⟨none, .store 1 (.t 166) (.t 164), none, .write, 1⟩])
 (.seq (.region [⟨(some 167), .move (.t 11), none, .write, 0⟩, ⟨(some 8), .move (.t 167), none, .write, 0⟩, ⟨(some 9), .move (.c (.bool false)), none, .write, 0⟩])
 .ret)))))))))))) }

theorem c131 : compFunc Try.prog Try.f131 .full = some t131 := by kernel_rfl

/-- math/bits.Len32 -/
def t132 : DFunc := { ntmps := 19, results := [(.t 2)], mode := .full, body :=
 (.seq (.region [⟨(some 2), .move (.c (.int .i64 0)), none, .write, 0⟩])
 (.seq (.seq (.region [⟨(some 3), .move (.t 0), none, .write, 0⟩, ⟨(some 4), .arith .geq (.t 3) (.c (.int .u32 65536)), none, .write, 0⟩])
 (.cond (.t 4) (.seq (.region [⟨(some 5), .move (.t 0), none, .write, 0⟩, ⟨(some 6), .arith .shr (.t 5) (.c (.int .u64 16)), none, .write, 0⟩, ⟨(some 0), .move (.t 6), none, .write, 0⟩])
 (.region [⟨(some 2), .move (.c (.int .i64 16)), none, .write, 0⟩])) .skip))
 (.seq (.seq (.region [⟨(some 7), .move (.t 0), none, .write, 0⟩, ⟨(some 8), .arith .geq (.t 7) (.c (.int .u32 256)), none, .write, 0⟩])
 (.cond (.t 8) (.seq (.region [⟨(some 9), .move (.t 0), none, .write, 0⟩, ⟨(some 10), .arith .shr (.t 9) (.c (.int .u64 8)), none, .write, 0⟩, ⟨(some 0), .move (.t 10), none, .write, 0⟩])
 (.region [⟨(some 11), .move (.t 2), none, .write, 0⟩, ⟨(some 12), .arith .add (.t 11) (.c (.int .i64 8)), none, .write, 0⟩, ⟨(some 2), .move (.t 12), none, .write, 0⟩])) .skip))
 (.seq (.region [⟨(some 13), .move (.t 2), none, .write, 0⟩, ⟨(some 14), .move (.t 0), none, .write, 0⟩, ⟨(some 15), .conv .u8 (.t 14), none, .write, 0⟩, ⟨(some 16), .indexStr (.c (.str [0, 1, 2, 2, 3, 3, 3, 3, 4, 4, 4, 4, 4, 4, 4, 4, 5, 5, 5, 5, 5, 5, 5, 5, 5, 5, 5, 5, 5, 5, 5, 5, 6, 6, 6, 6, 6, 6, 6, 6, 6, 6, 6, 6, 6, 6, 6, 6, 6, 6, 6, 6, 6, 6, 6, 6, 6, 6, 6, 6, 6, 6, 6, 6, 7, 7, 7, 7, 7, 7, 7, 7, 7, 7, 7, 7, 7, 7, 7, 7, 7, 7, 7, 7, 7, 7, 7, 7, 7, 7, 7, 7, 7, 7, 7, 7, 7, 7, 7, 7, 7, 7, 7, 7, 7, 7, 7, 7, 7, 7, 7, 7, 7, 7, 7, 7, 7, 7, 7, 7, 7, 7, 7, 7, 7, 7, 7, 7, 8, 8, 8, 8, 8, 8, 8, 8, 8, 8, 8, 8, 8, 8, 8, 8, 8, 8, 8, 8, 8, 8, 8, 8, 8, 8, 8, 8, 8, 8, 8, 8, 8, 8, 8, 8, 8, 8, 8, 8, 8, 8, 8, 8, 8, 8, 8, 8, 8, 8, 8, 8, 8, 8, 8, 8, 8, 8, 8, 8, 8, 8, 8, 8, 8, 8, 8, 8, 8, 8, 8, 8, 8, 8, 8, 8, 8, 8, 8, 8, 8, 8, 8, 8, 8, 8, 8, 8, 8, 8, 8, 8, 8, 8, 8, 8, 8, 8, 8, 8, 8, 8, 8, 8, 8, 8, 8, 8, 8, 8, 8, 8, 8, 8, 8, 8, 8, 8, 8, 8, 8, 8, 8, 8, 8, 8, 8, 8])) (.t 15), none, .write, 0⟩, ⟨(some 17), .conv .i64 (.t 16), none, .write, 0⟩, ⟨(some 18), .arith .add (.t 13) (.t 17), none, .write, 0⟩, ⟨(some 2), .move (.t 18), none, .write, 0⟩])
 .ret)))) }

theorem c132 : compFunc Try.prog Try.f132 .full = some t132 := by kernel_rfl

/-- math/bits.Len64 -/
def t133 : DFunc := { ntmps := 25, results := [(.t 2)], mode := .full, body :=
 (.seq (.region [⟨(some 2), .move (.c (.int .i64 0)), none, .write, 0⟩])
 (.seq (.seq (.region [⟨(some 3), .move (.t 0), none, .write, 0⟩, ⟨(some 4), .arith .geq (.t 3) (.c (.int .u64 4294967296)), none, .write, 0⟩])
 (.cond (.t 4) (.seq (.region [⟨(some 5), .move (.t 0), none, .write, 0⟩, ⟨(some 6), .arith .shr (.t 5) (.c (.int .u64 32)), none, .write, 0⟩, ⟨(some 0), .move (.t 6), none, .write, 0⟩])
 (.region [⟨(some 2), .move (.c (.int .i64 32)), none, .write, 0⟩])) .skip))
 (.seq (.seq (.region [⟨(some 7), .move (.t 0), none, .write, 0⟩, ⟨(some 8), .arith .geq (.t 7) (.c (.int .u64 65536)), none, .write, 0⟩])
 (.cond (.t 8) (.seq (.region [⟨(some 9), .move (.t 0), none, .write, 0⟩, ⟨(some 10), .arith .shr (.t 9) (.c (.int .u64 16)), none, .write, 0⟩, ⟨(some 0), .move (.t 10), none, .write, 0⟩])
 (.region [⟨(some 11), .move (.t 2), none, .write, 0⟩, ⟨(some 12), .arith .add (.t 11) (.c (.int .i64 16)), none, .write, 0⟩, ⟨(some 2), .move (.t 12), none, .write, 0⟩])) .skip))
 (.seq (.seq (.region [⟨(some 13), .move (.t 0), none, .write, 0⟩, ⟨(some 14), .arith .geq (.t 13) (.c (.int .u64 256)), none, .write, 0⟩])
 (.cond (.t 14) (.seq (.region [⟨(some 15), .move (.t 0), none, .write, 0⟩, ⟨(some 16), .arith .shr (.t 15) (.c (.int .u64 8)), none, .write, 0⟩, ⟨(some 0), .move (.t 16), none, .write, 0⟩])
 (.region [⟨(some 17), .move (.t 2), none, .write, 0⟩, ⟨(some 18), .arith .add (.t 17) (.c (.int .i64 8)), none, .write, 0⟩, ⟨(some 2), .move (.t 18), none, .write, 0⟩])) .skip))
 (.seq (.region [⟨(some 19), .move (.t 2), none, .write, 0⟩, ⟨(some 20), .move (.t 0), none, .write, 0⟩, ⟨(some 21), .conv .u8 (.t 20), none, .write, 0⟩, ⟨(some 22), .indexStr (.c (.str [0, 1, 2, 2, 3, 3, 3, 3, 4, 4, 4, 4, 4, 4, 4, 4, 5, 5, 5, 5, 5, 5, 5, 5, 5, 5, 5, 5, 5, 5, 5, 5, 6, 6, 6, 6, 6, 6, 6, 6, 6, 6, 6, 6, 6, 6, 6, 6, 6, 6, 6, 6, 6, 6, 6, 6, 6, 6, 6, 6, 6, 6, 6, 6, 7, 7, 7, 7, 7, 7, 7, 7, 7, 7, 7, 7, 7, 7, 7, 7, 7, 7, 7, 7, 7, 7, 7, 7, 7, 7, 7, 7, 7, 7, 7, 7, 7, 7, 7, 7, 7, 7, 7, 7, 7, 7, 7, 7, 7, 7, 7, 7, 7, 7, 7, 7, 7, 7, 7, 7, 7, 7, 7, 7, 7, 7, 7, 7, 8, 8, 8, 8, 8, 8, 8, 8, 8, 8, 8, 8, 8, 8, 8, 8, 8, 8, 8, 8, 8, 8, 8, 8, 8, 8, 8, 8, 8, 8, 8, 8, 8, 8, 8, 8, 8, 8, 8, 8, 8, 8, 8, 8, 8, 8, 8, 8, 8, 8, 8, 8, 8, 8, 8, 8, 8, 8, 8, 8, 8, 8, 8, 8, 8, 8, 8, 8, 8, 8, 8, 8, 8, 8, 8, 8, 8, 8, 8, 8, 8, 8, 8, 8, 8, 8, 8, 8, 8, 8, 8, 8, 8, 8, 8, 8, 8, 8, 8, 8, 8, 8, 8, 8, 8, 8, 8, 8, 8, 8, 8, 8, 8, 8, 8, 8, 8, 8, 8, 8, 8, 8, 8, 8, 8, 8, 8, 8])) (.t 21), none, .write, 0⟩, ⟨(some 23), .conv .i64 (.t 22), none, .write, 0⟩, ⟨(some 24), .arith .add (.t 19) (.t 23), none, .write, 0⟩, ⟨(some 2), .move (.t 24), none, .write, 0⟩])
 .ret))))) }

theorem c133 : compFunc Try.prog Try.f133 .full = some t133 := by kernel_rfl

/-- cmp.isNaN[int] -/
def t134 : DFunc := { ntmps := 6, results := [(.t 2)], mode := .full, body :=
 (.seq (.region [⟨(some 2), .move (.c (.bool false)), none, .write, 0⟩])
 (.seq (.region [⟨(some 3), .move (.t 0), none, .write, 0⟩, ⟨(some 4), .move (.t 0), none, .write, 0⟩, ⟨(some 5), .arith .neq (.t 3) (.t 4), none, .write, 0⟩, ⟨(some 2), .move (.t 5), none, .write, 0⟩])
 .ret)) }

theorem c134 : compFunc Try.prog Try.f134 .full = some t134 := by kernel_rfl

/-- slices.siftDownOrdered[int] -/
def t140 : DFunc := { ntmps := 76, results := [], mode := .full, body :=
 (.seq (.region [⟨(some 10), .move (.t 1), none, .write, 0⟩, ⟨(some 8), .move (.t 10), none, .write, 0⟩])
 (.block 0 (.loop (.block 1 (.seq (.region [⟨(some 11), .move (.t 8), none, .write, 0⟩, ⟨(some 12), .arith .mul (.c (.int .i64 2)) (.t 11), none, .write, 0⟩, ⟨(some 13), .arith .add (.t 12) (.c (.int .i64 1)), none, .write, 0⟩, ⟨(some 9), .move (.t 13), none, .write, 0⟩])
 (.seq (.seq (.region [⟨(some 14), .move (.t 9), none, .write, 0⟩, ⟨(some 15), .move (.t 2), none, .write, 0⟩, ⟨(some 16), .arith .geq (.t 14) (.t 15), none, .write, 0⟩])
 (.cond (.t 16) (.exit 0) .skip))
 (.seq (.seq (.draw [⟨(some 17), .move (.t 9), none, .read, 0⟩, ⟨(some 18), .arith .add (.t 17) (.c (.int .i64 1)), none, .read, 0⟩, ⟨(some 19), .move (.t 2), none, .read, 0⟩, ⟨(some 20), .arith .lss (.t 18) (.t 19), none, .read, 0⟩, ⟨(some 21), .move (.t 20), none, .read, 0⟩, ⟨(some 22), .move (.t 0), (some (21, true)), .read, 0⟩, ⟨(some 23), .move (.t 3), (some (21, true)), .read, 0⟩, ⟨(some 24), .move (.t 9), (some (21, true)), .read, 0⟩, ⟨(some 25), .arith .add (.t 23) (.t 24), (some (21, true)), .read, 0⟩, ⟨(some 26), .indexAddr 1 (.t 22) (.t 25), (some (21, true)), .read, 0⟩, ⟨(some 27), .load none (.t 26), (some (21, true)), .read, 0⟩, ⟨(some 28), .move (.t 0), (some (21, true)), .read, 0⟩, ⟨(some 29), .move (.t 3), (some (21, true)), .read, 0⟩, ⟨(some 30), .move (.t 9), (some (21, true)), .read, 0⟩, ⟨(some 31), .arith .add (.t 29) (.t 30), (some (21, true)), .read, 0⟩, ⟨(some 32), .arith .add (.t 31) (.c (.int .i64 1)), (some (21, true)), .read, 0⟩, ⟨(some 33), .indexAddr 1 (.t 28) (.t 32), (some (21, true)), .read, 0⟩, ⟨(some 34), .load none (.t 33), (some (21, true)), .read, 0⟩, ⟨(some 35), .call (.c (.func 129 [])) [(.t 27), (.t 34)], (some (21, true)), .write, 0⟩, ⟨(some 36), .pick (.t 21) (.t 35) (.c (.bool false)), none, .read, 1⟩])
 (.cond (.t 36) (.region [⟨(some 37), .move (.t 9), none, .write, 0⟩, ⟨(some 38), .arith .add (.t 37) (.c (.int .i64 1)), none, .write, 0⟩, ⟨(some 9), .move (.t 38), none, .write, 0⟩]) .skip))
 (.seq (.seq (.draw [⟨(some 39), .move (.t 0), none, .read, 0⟩, ⟨(some 40), .move (.t 3), none, .read, 0⟩, ⟨(some 41), .move (.t 8), none, .read, 0⟩, ⟨(some 42), .arith .add (.t 40) (.t 41), none, .read, 0⟩, ⟨(some 43), .indexAddr 1 (.t 39) (.t 42), none, .read, 0⟩, ⟨(some 44), .load none (.t 43), none, .read, 0⟩, ⟨(some 45), .move (.t 0), none, .read, 0⟩, ⟨(some 46), .move (.t 3), none, .read, 0⟩, ⟨(some 47), .move (.t 9), none, .read, 0⟩, ⟨(some 48), .arith .add (.t 46) (.t 47), none, .read, 0⟩, ⟨(some 49), .indexAddr 1 (.t 45) (.t 48), none, .read, 0⟩, ⟨(some 50), .load none (.t 49), none, .read, 0⟩, ⟨(some 51), .call (.c (.func 129 [])) [(.t 44), (.t 50)], none, .write, 0⟩, ⟨(some 52), .un .not (.t 51), none, .read, 1⟩])
 (.cond (.t 52) .ret .skip))
 (.seq (.draw [⟨(some 61), .move (.t 0), none, .read, 0⟩, ⟨(some 62), .move (.t 3), none, .read, 0⟩, ⟨(some 63), .move (.t 9), none, .read, 0⟩, ⟨(some 64), .arith .add (.t 62) (.t 63), none, .read, 0⟩, ⟨(some 65), .indexAddr 1 (.t 61) (.t 64), none, .read, 0⟩, ⟨(some 66), .load none (.t 65), none, .read, 0⟩, ⟨(some 67), .move (.t 0), none, .read, 0⟩, ⟨(some 68), .move (.t 3), none, .read, 0⟩, ⟨(some 69), .move (.t 8), none, .read, 0⟩, ⟨(some 70), .arith .add (.t 68) (.t 69), none, .read, 0⟩, ⟨(some 71), .indexAddr 1 (.t 67) (.t 70), none, .read, 0⟩, ⟨(some 72), .load none (.t 71), none, .read, 0⟩, ⟨(some 53), .move (.t 0), none, .read, 0⟩, ⟨(some 54), .move (.t 3), none, .read, 0⟩, ⟨(some 55), .move (.t 8), none, .read, 0⟩, ⟨(some 56), .arith .add (.t 54) (.t 55), none, .read, 0⟩, ⟨(some 73), .indexAddr 1 (.t 53) (.t 56), none, .read, 0⟩, ⟨none, .store 1 (.t 73) (.t 66), none, .write, 0⟩, ⟨(some 57), .move (.t 0), none, .read, 0⟩, ⟨(some 58), .move (.t 3), none, .read, 0⟩, ⟨(some 59), .move (.t 9), none, .read, 0⟩, ⟨(some 60), .arith .add (.t 58) (.t 59), none, .read, 0⟩, ⟨(some 74), .indexAddr 1 (.t 57) (.t 60), none, .read, 1⟩, ⟨none, .store 1 (.t 74) (.t 72), none, .write, 1⟩])
 (.region [⟨(some 75), .move (.t 9), none, .write, 0⟩, ⟨(some 8), .move (.t 75), none, .write, 0⟩])))))))))) }

theorem c140 : compFunc Try.prog Try.f140 .full = some t140 := by kernel_rfl

/-- slices.nextPowerOfTwo -/
def t141 : DFunc := { ntmps := 7, results := [(.t 2)], mode := .full, body :=
 (.seq (.region [⟨(some 2), .move (.c (.int .u64 0)), none, .write, 0⟩])
 (.seq (.region [⟨(some 3), .move (.t 0), none, .write, 0⟩, ⟨(some 4), .conv .u64 (.t 3), none, .write, 0⟩, ⟨(some 5), .call (.c (.func 105 [])) [(.t 4)], none, .write, 0⟩, ⟨(some 6), .arith .shl (.c (.int .u64 1)) (.t 5), none, .write, 0⟩, ⟨(some 2), .move (.t 6), none, .write, 0⟩])
 .ret)) }

theorem c141 : compFunc Try.prog Try.f141 .full = some t141 := by kernel_rfl

/-- (*slices.xorshift).Next -/
def t142 : DFunc := { ntmps := 33, results := [(.t 2)], mode := .full, body :=
 (.seq (.region [⟨(some 2), .move (.c (.int .u64 0)), none, .write, 0⟩])
 (.seq (.draw [⟨(some 3), .move (.t 0), none, .read, 0⟩, ⟨(some 4), .nilCheck (.t 3), none, .read, 0⟩, ⟨(some 5), .load none (.t 4), none, .read, 0⟩, ⟨(some 6), .move (.t 0), none, .read, 0⟩, ⟨(some 7), .nilCheck (.t 6), none, .read, 0⟩, ⟨(some 8), .load none (.t 7), none, .read, 0⟩, ⟨(some 9), .arith .shl (.t 8) (.c (.int .u64 13)), none, .read, 0⟩, ⟨(some 10), .arith .xor (.t 5) (.t 9), none, .read, 0⟩, ⟨(some 11), .nilCheck (.t 3), none, .read, 0⟩, ⟨none, .store 1 (.t 11) (.t 10), none, .write, 0⟩])
 (.seq (.draw [⟨(some 12), .move (.t 0), none, .read, 0⟩, ⟨(some 13), .nilCheck (.t 12), none, .read, 0⟩, ⟨(some 14), .load none (.t 13), none, .read, 0⟩, ⟨(some 15), .move (.t 0), none, .read, 0⟩, ⟨(some 16), .nilCheck (.t 15), none, .read, 0⟩, ⟨(some 17), .load none (.t 16), none, .read, 0⟩, ⟨(some 18), .arith .shr (.t 17) (.c (.int .u64 7)), none, .read, 0⟩, ⟨(some 19), .arith .xor (.t 14) (.t 18), none, .read, 0⟩, ⟨(some 20), .nilCheck (.t 12), none, .read, 0⟩, ⟨none, .store 1 (.t 20) (.t 19), none, .write, 0⟩])
 (.seq (.draw [⟨(some 21), .move (.t 0), none, .read, 0⟩, ⟨(some 22), .nilCheck (.t 21), none, .read, 0⟩, ⟨(some 23), .load none (.t 22), none, .read, 0⟩, ⟨(some 24), .move (.t 0), none, .read, 0⟩, ⟨(some 25), .nilCheck (.t 24), none, .read, 0⟩, ⟨(some 26), .load none (.t 25), none, .read, 0⟩, ⟨(some 27), .arith .shl (.t 26) (.c (.int .u64 17)), none, .read, 0⟩, ⟨(some 28), .arith .xor (.t 23) (.t 27), none, .read, 0⟩, ⟨(some 29), .nilCheck (.t 21), none, .read, 0⟩, ⟨none, .store 1 (.t 29) (.t 28), none, .write, 0⟩])
 (.seq (.region [⟨(some 30), .move (.t 0), none, .write, 0⟩, ⟨(some 31), .nilCheck (.t 30), none, .write, 0⟩, ⟨(some 32), .load none (.t 31), none, .write, 0⟩, ⟨(some 2), .move (.t 32), none, .write, 0⟩])
 .ret))))) }

theorem c142 : compFunc Try.prog Try.f142 .full = some t142 := by kernel_rfl

/-- slices.medianAdjacentOrdered[int] -/
def t143 : DFunc := { ntmps := 15, results := [(.t 6)], mode := .full, body :=
 (.seq (.region [⟨(some 6), .move (.c (.int .i64 0)), none, .write, 0⟩])
 (.seq (.region [⟨(some 7), .move (.t 0), none, .write, 0⟩, ⟨(some 8), .move (.t 1), none, .write, 0⟩, ⟨(some 9), .arith .sub (.t 8) (.c (.int .i64 1)), none, .write, 0⟩, ⟨(some 10), .move (.t 1), none, .write, 0⟩, ⟨(some 11), .move (.t 1), none, .write, 0⟩, ⟨(some 12), .arith .add (.t 11) (.c (.int .i64 1)), none, .write, 0⟩, ⟨(some 13), .move (.t 2), none, .write, 0⟩, ⟨(some 14), .call (.c (.func 144 [])) [(.t 7), (.t 9), (.t 10), (.t 12), (.t 13)], none, .write, 0⟩, ⟨(some 6), .move (.t 14), none, .write, 0⟩])
 .ret)) }

theorem c143 : compFunc Try.prog Try.f143 .full = some t143 := by kernel_rfl

/-- slices.medianOrdered[int] -/
def t144 : DFunc := { ntmps := 36, results := [(.t 10)], mode := .full, body :=
 (.seq (.region [⟨(some 10), .move (.c (.int .i64 0)), none, .write, 0⟩])
 (.seq (.region [⟨(some 12), .move (.t 0), none, .write, 0⟩, ⟨(some 13), .move (.t 1), none, .write, 0⟩, ⟨(some 14), .move (.t 2), none, .write, 0⟩, ⟨(some 15), .move (.t 4), none, .write, 0⟩, ⟨(some 16), .call (.c (.func 146 [])) [(.t 12), (.t 13), (.t 14), (.t 15)], none, .write, 0⟩, ⟨(some 11), .move (.t 16), none, .write, 0⟩, ⟨(some 17), .extract (.t 11) 0, none, .write, 0⟩, ⟨(some 18), .extract (.t 11) 1, none, .write, 0⟩, ⟨(some 1), .move (.t 17), none, .write, 0⟩, ⟨(some 2), .move (.t 18), none, .write, 0⟩])
 (.seq (.region [⟨(some 20), .move (.t 0), none, .write, 0⟩, ⟨(some 21), .move (.t 2), none, .write, 0⟩, ⟨(some 22), .move (.t 3), none, .write, 0⟩, ⟨(some 23), .move (.t 4), none, .write, 0⟩, ⟨(some 24), .call (.c (.func 146 [])) [(.t 20), (.t 21), (.t 22), (.t 23)], none, .write, 0⟩, ⟨(some 19), .move (.t 24), none, .write, 0⟩, ⟨(some 25), .extract (.t 19) 0, none, .write, 0⟩, ⟨(some 26), .extract (.t 19) 1, none, .write, 0⟩, ⟨(some 2), .move (.t 25), none, .write, 0⟩, ⟨(some 3), .move (.t 26), none, .write, 0⟩])
 (.seq (.region [⟨(some 28), .move (.t 0), none, .write, 0⟩, ⟨(some 29), .move (.t 1), none, .write, 0⟩, ⟨(some 30), .move (.t 2), none, .write, 0⟩, ⟨(some 31), .move (.t 4), none, .write, 0⟩, ⟨(some 32), .call (.c (.func 146 [])) [(.t 28), (.t 29), (.t 30), (.t 31)], none, .write, 0⟩, ⟨(some 27), .move (.t 32), none, .write, 0⟩, ⟨(some 33), .extract (.t 27) 0, none, .write, 0⟩, ⟨(some 34), .extract (.t 27) 1, none, .write, 0⟩, ⟨(some 1), .move (.t 33), none, .write, 0⟩, ⟨(some 2), .move (.t 34), none, .write, 0⟩])
 (.seq (.region [⟨(some 35), .move (.t 2), none, .write, 0⟩, ⟨(some 10), .move (.t 35), none, .write, 0⟩])
 .ret))))) }

theorem c144 : compFunc Try.prog Try.f144 .full = some t144 := by kernel_rfl

/-- slices.order2Ordered[int] -/
def t146 : DFunc := { ntmps := 28, results := [(.t 8), (.t 9)], mode := .full, body :=
 (.seq (.region [⟨(some 8), .move (.c (.int .i64 0)), none, .write, 0⟩, ⟨(some 9), .move (.c (.int .i64 0)), none, .write, 0⟩])
 (.seq (.seq (.draw [⟨(some 10), .move (.t 0), none, .read, 0⟩, ⟨(some 11), .move (.t 2), none, .read, 0⟩, ⟨(some 12), .indexAddr 1 (.t 10) (.t 11), none, .read, 0⟩, ⟨(some 13), .load none (.t 12), none, .read, 0⟩, ⟨(some 14), .move (.t 0), none, .read, 0⟩, ⟨(some 15), .move (.t 1), none, .read, 0⟩, ⟨(some 16), .indexAddr 1 (.t 14) (.t 15), none, .read, 0⟩, ⟨(some 17), .load none (.t 16), none, .read, 0⟩, ⟨(some 18), .call (.c (.func 129 [])) [(.t 13), (.t 17)], none, .write, 0⟩])
 (.cond (.t 18) (.seq (.region [⟨(some 19), .move (.t 3), none, .write, 0⟩, ⟨(some 20), .nilCheck (.t 19), none, .write, 0⟩, ⟨(some 21), .load none (.t 20), none, .write, 0⟩, ⟨(some 22), .arith .add (.t 21) (.c (.int .i64 1)), none, .write, 0⟩, ⟨(some 23), .nilCheck (.t 19), none, .write, 0⟩, ⟨none, .store 1 (.t 23) (.t 22), none, .write, 0⟩])
 (.seq (.region [⟨(some 24), .move (.t 2), none, .write, 0⟩, ⟨(some 25), .move (.t 1), none, .write, 0⟩, ⟨(some 8), .move (.t 24), none, .write, 0⟩, ⟨(some 9), .move (.t 25), none, .write, 0⟩])
 .ret)) .skip))
 (.seq (.region [⟨(some 26), .move (.t 1), none, .write, 0⟩, ⟨(some 27), .move (.t 2), none, .write, 0⟩, ⟨(some 8), .move (.t 26), none, .write, 0⟩, ⟨(some 9), .move (.t 27), none, .write, 0⟩])
 .ret))) }

theorem c146 : compFunc Try.prog Try.f146 .full = some t146 := by kernel_rfl

end Go.Dm.TabA
