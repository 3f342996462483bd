/-
The table of functions, brought into the machine's form (TabC, part 3). Written by program (wip/tools/table.lean.txt).
-/
import Derived.Test.YtniceconboecgaaDm32
import Derived.Test.YtniceconboecgaaRows
import Derived.KernelRfl
namespace Go.Dm.TabC
open Go.Proofs

/-- slices.BinarySearchFunc[[]broadside/api.Entry,broadside/api.Entry,broadside/api.ID] -/
def t112 : DFunc := { ntmps := 49, results := [(.t 6), (.t 7)], mode := .full, body :=
 (.seq (.region [⟨(some 4), .box 42 2 (.t 1), none, .write, 0⟩, ⟨(some 6), .move (.c (.int .i64 0)), none, .write, 0⟩, ⟨(some 7), .move (.c (.bool false)), none, .write, 0⟩])
 (.seq (.region [⟨(some 12), .move (.t 0), none, .write, 0⟩, ⟨(some 13), .len 1 (.t 12), none, .write, 0⟩, ⟨(some 8), .move (.t 13), none, .write, 0⟩])
 (.seq (.region [⟨(some 14), .move (.t 8), none, .write, 0⟩, ⟨(some 9), .move (.c (.int .i64 0)), none, .write, 0⟩, ⟨(some 10), .move (.t 14), none, .write, 0⟩])
 (.seq (.block 0 (.loop (.seq (.seq (.region [⟨(some 15), .move (.t 9), none, .write, 0⟩, ⟨(some 16), .move (.t 10), none, .write, 0⟩, ⟨(some 17), .arith .lss (.t 15) (.t 16), none, .write, 0⟩])
 (.cond (.t 17) .skip (.exit 0)))
 (.block 1 (.seq (.region [⟨(some 18), .move (.t 9), none, .write, 0⟩, ⟨(some 19), .move (.t 10), none, .write, 0⟩, ⟨(some 20), .arith .add (.t 18) (.t 19), none, .write, 0⟩, ⟨(some 21), .conv .u64 (.t 20), none, .write, 0⟩, ⟨(some 22), .arith .shr (.t 21) (.c (.int .u64 1)), none, .write, 0⟩, ⟨(some 23), .conv .i64 (.t 22), none, .write, 0⟩, ⟨(some 11), .move (.t 23), none, .write, 0⟩])
 (.seq (.draw [⟨(some 25), .move (.t 0), none, .read, 0⟩, ⟨(some 26), .move (.t 11), none, .read, 0⟩, ⟨(some 27), .indexAddr 7 (.t 25) (.t 26), none, .read, 0⟩, ⟨(some 28), .load (some 7) (.t 27), none, .read, 0⟩, ⟨(some 29), .load (some 2) (.t 4), none, .read, 0⟩, ⟨(some 24), .move (.t 2), none, .read, 0⟩, ⟨(some 30), .call (.t 24) [(.t 28), (.t 29)], none, .write, 0⟩, ⟨(some 31), .arith .lss (.t 30) (.c (.int .i64 0)), none, .read, 1⟩])
 (.cond (.t 31) (.region [⟨(some 32), .move (.t 11), none, .write, 0⟩, ⟨(some 33), .arith .add (.t 32) (.c (.int .i64 1)), none, .write, 0⟩, ⟨(some 9), .move (.t 33), none, .write, 0⟩]) (.region [⟨(some 34), .move (.t 11), none, .write, 0⟩, ⟨(some 10), .move (.t 34), none, .write, 0⟩]))))))))
 (.seq (.draw [⟨(some 36), .move (.t 9), none, .read, 0⟩, ⟨(some 37), .move (.t 8), none, .read, 0⟩, ⟨(some 38), .arith .lss (.t 36) (.t 37), none, .read, 0⟩, ⟨(some 39), .move (.t 38), none, .read, 0⟩, ⟨(some 41), .move (.t 0), (some (39, true)), .read, 0⟩, ⟨(some 42), .move (.t 9), (some (39, true)), .read, 0⟩, ⟨(some 43), .indexAddr 7 (.t 41) (.t 42), (some (39, true)), .read, 0⟩, ⟨(some 44), .load (some 7) (.t 43), (some (39, true)), .read, 0⟩, ⟨(some 45), .load (some 2) (.t 4), (some (39, true)), .read, 0⟩, ⟨(some 40), .move (.t 2), (some (39, true)), .read, 0⟩, ⟨(some 46), .call (.t 40) [(.t 44), (.t 45)], (some (39, true)), .write, 0⟩, ⟨(some 35), .move (.t 9), none, .read, 0⟩, ⟨(some 47), .arith .eql (.t 46) (.c (.int .i64 0)), (some (39, true)), .read, 1⟩, ⟨(some 48), .pick (.t 39) (.t 47) (.c (.bool false)), none, .read, 1⟩, ⟨(some 6), .move (.t 35), none, .read, 1⟩, ⟨(some 7), .move (.t 48), none, .read, 1⟩])
 .ret))))) }

theorem c112 : compFunc Try.prog Try.f112 .full = some t112 := by kernel_rfl

/-- broadside/subs.place$1 -/
def t113 : DFunc := { ntmps := 34, results := [(.t 5)], mode := .full, body :=
 (.seq (.region [⟨(some 3), .box 71 7 (.t 0), none, .write, 0⟩, ⟨(some 4), .box 42 2 (.t 1), none, .write, 0⟩, ⟨(some 5), .move (.c (.int .i64 0)), none, .write, 0⟩])
 (.seq (.block 0 (.seq (.region [⟨(some 7), .fieldAddr 0 (.t 3), none, .write, 0⟩, ⟨(some 8), .load (some 2) (.t 7), none, .write, 0⟩, ⟨(some 9), .load (some 2) (.t 2), none, .write, 0⟩, ⟨(some 10), .eqa false [1, 1] (.t 8) (.t 9), none, .write, 0⟩, ⟨(some 11), .move (.t 10), none, .write, 0⟩, ⟨(some 12), .fieldAddr 2 (.t 3), (some (11, true)), .write, 0⟩, ⟨(some 13), .load (some 2) (.t 12), (some (11, true)), .write, 0⟩, ⟨(some 14), .load (some 2) (.t 4), (some (11, true)), .write, 0⟩, ⟨(some 15), .eqa false [1, 1] (.t 13) (.t 14), (some (11, true)), .write, 0⟩, ⟨(some 16), .pick (.t 11) (.t 15) (.c (.bool false)), none, .write, 0⟩, ⟨(some 6), .move (.t 16), none, .write, 0⟩])
 (.cond (.t 6) (.seq (.region [⟨(some 5), .move (.c (.int .i64 0)), none, .write, 0⟩])
 .ret) (.seq (.region [⟨(some 18), .fieldAddr 0 (.t 3), none, .write, 0⟩, ⟨(some 19), .load (some 2) (.t 18), none, .write, 0⟩, ⟨(some 20), .load (some 2) (.t 2), none, .write, 0⟩, ⟨(some 21), .call (.c (.func 29 [])) [(.t 19), (.t 20)], none, .write, 0⟩, ⟨(some 22), .move (.t 21), none, .write, 0⟩, ⟨(some 23), .fieldAddr 0 (.t 3), (some (22, false)), .write, 0⟩, ⟨(some 24), .load (some 2) (.t 23), (some (22, false)), .write, 0⟩, ⟨(some 25), .load (some 2) (.t 2), (some (22, false)), .write, 0⟩, ⟨(some 26), .eqa false [1, 1] (.t 24) (.t 25), (some (22, false)), .write, 0⟩, ⟨(some 27), .move (.t 26), (some (22, false)), .write, 0⟩, ⟨(some 28), .fieldAddr 2 (.t 3), (some (27, true)), .write, 0⟩, ⟨(some 29), .load (some 2) (.t 28), (some (27, true)), .write, 0⟩, ⟨(some 30), .load (some 2) (.t 4), (some (27, true)), .write, 0⟩, ⟨(some 31), .call (.c (.func 29 [])) [(.t 29), (.t 30)], (some (27, true)), .write, 0⟩, ⟨(some 32), .pick (.t 27) (.t 31) (.c (.bool false)), (some (22, false)), .write, 0⟩, ⟨(some 33), .pick (.t 22) (.c (.bool true)) (.t 32), none, .write, 0⟩, ⟨(some 17), .move (.t 33), none, .write, 0⟩])
 (.cond (.t 17) (.seq (.region [⟨(some 5), .move (.c (.int .i64 (-1))), none, .write, 0⟩])
 .ret) .skip)))))
 (.seq (.region [⟨(some 5), .move (.c (.int .i64 1)), none, .write, 0⟩])
 .ret))) }

theorem c113 : compFunc Try.prog Try.f113 .full = some t113 := by kernel_rfl

/-- slices.rotateRight[broadside/api.Entry] -/
def t115 : DFunc := { ntmps := 10, results := [], mode := .full, body :=
 (.region [⟨(some 4), .move (.t 0), none, .write, 0⟩, ⟨(some 5), .move (.t 0), none, .write, 0⟩, ⟨(some 6), .len 1 (.t 5), none, .write, 0⟩, ⟨(some 7), .move (.t 1), none, .write, 0⟩, ⟨(some 8), .arith .sub (.t 6) (.t 7), none, .write, 0⟩, ⟨(some 9), .call (.c (.func 136 [])) [(.t 4), (.t 8)], none, .write, 0⟩]) }

theorem c115 : compFunc Try.prog Try.f115 .full = some t115 := by kernel_rfl

/-- strings.HasPrefix -/
def t116 : DFunc := { ntmps := 8, results := [(.t 4)], mode := .full, body :=
 (.seq (.region [⟨(some 4), .move (.c (.bool false)), none, .write, 0⟩])
 (.seq (.region [⟨(some 5), .move (.t 0), none, .write, 0⟩, ⟨(some 6), .move (.t 1), none, .write, 0⟩, ⟨(some 7), .call (.c (.func 137 [])) [(.t 5), (.t 6)], none, .write, 0⟩, ⟨(some 4), .move (.t 7), none, .write, 0⟩])
 .ret)) }

theorem c116 : compFunc Try.prog Try.f116 .full = some t116 := by kernel_rfl

/-- broadside/pred.Holds -/
def t117 : DFunc := { ntmps := 48, results := [(.t 4)], mode := .full, body :=
 (.seq (.region [⟨(some 2), .box 67 5 (.t 0), none, .write, 0⟩, ⟨(some 3), .box 157 3 (.t 1), none, .write, 0⟩, ⟨(some 4), .move (.c (.bool false)), none, .write, 0⟩])
 (.seq (.seq (.region [⟨(some 5), .fieldAddr 1 (.t 2), none, .write, 0⟩, ⟨(some 6), .load none (.t 5), none, .write, 0⟩])
 (.block 0 (.seq (.region [⟨(some 8), .arith .eql (.t 6) (.c (.int .i64 1)), none, .write, 0⟩, ⟨(some 7), .move (.t 8), none, .write, 0⟩])
 (.cond (.t 7) (.seq (.region [⟨(some 9), .fieldAddr 0 (.t 3), none, .write, 0⟩, ⟨(some 10), .load none (.t 9), none, .write, 0⟩, ⟨(some 11), .un .not (.t 10), none, .write, 0⟩, ⟨(some 12), .move (.t 11), none, .write, 0⟩, ⟨(some 13), .fieldAddr 2 (.t 2), (some (12, true)), .write, 0⟩, ⟨(some 14), .load none (.t 13), (some (12, true)), .write, 0⟩, ⟨(some 15), .fieldAddr 1 (.t 3), (some (12, true)), .write, 0⟩, ⟨(some 16), .load none (.t 15), (some (12, true)), .write, 0⟩, ⟨(some 17), .arith .leq (.t 14) (.t 16), (some (12, true)), .write, 0⟩, ⟨(some 18), .pick (.t 12) (.t 17) (.c (.bool false)), none, .write, 0⟩, ⟨(some 19), .move (.t 18), none, .write, 0⟩, ⟨(some 20), .fieldAddr 1 (.t 3), (some (19, true)), .write, 0⟩, ⟨(some 21), .load none (.t 20), (some (19, true)), .write, 0⟩, ⟨(some 22), .fieldAddr 3 (.t 2), (some (19, true)), .write, 0⟩, ⟨(some 23), .load none (.t 22), (some (19, true)), .write, 0⟩, ⟨(some 24), .arith .leq (.t 21) (.t 23), (some (19, true)), .write, 0⟩, ⟨(some 25), .pick (.t 19) (.t 24) (.c (.bool false)), none, .write, 0⟩, ⟨(some 4), .move (.t 25), none, .write, 0⟩])
 .ret) (.seq (.region [⟨(some 27), .arith .eql (.t 6) (.c (.int .i64 2)), none, .write, 0⟩, ⟨(some 26), .move (.t 27), none, .write, 0⟩])
 (.cond (.t 26) (.seq (.region [⟨(some 28), .fieldAddr 0 (.t 3), none, .write, 0⟩, ⟨(some 29), .load none (.t 28), none, .write, 0⟩, ⟨(some 30), .move (.t 29), none, .write, 0⟩, ⟨(some 31), .fieldAddr 2 (.t 3), (some (30, true)), .write, 0⟩, ⟨(some 32), .load none (.t 31), (some (30, true)), .write, 0⟩, ⟨(some 33), .fieldAddr 4 (.t 2), (some (30, true)), .write, 0⟩, ⟨(some 34), .load none (.t 33), (some (30, true)), .write, 0⟩, ⟨(some 35), .arith .eql (.t 32) (.t 34), (some (30, true)), .write, 0⟩, ⟨(some 36), .pick (.t 30) (.t 35) (.c (.bool false)), none, .write, 0⟩, ⟨(some 4), .move (.t 36), none, .write, 0⟩])
 .ret) (.seq (.region [⟨(some 38), .arith .eql (.t 6) (.c (.int .i64 3)), none, .write, 0⟩, ⟨(some 37), .move (.t 38), none, .write, 0⟩])
 (.cond (.t 37) (.seq (.region [⟨(some 39), .fieldAddr 0 (.t 3), none, .write, 0⟩, ⟨(some 40), .load none (.t 39), none, .write, 0⟩, ⟨(some 41), .move (.t 40), none, .write, 0⟩, ⟨(some 42), .fieldAddr 2 (.t 3), (some (41, true)), .write, 0⟩, ⟨(some 43), .load none (.t 42), (some (41, true)), .write, 0⟩, ⟨(some 44), .fieldAddr 4 (.t 2), (some (41, true)), .write, 0⟩, ⟨(some 45), .load none (.t 44), (some (41, true)), .write, 0⟩, ⟨(some 46), .call (.c (.func 116 [])) [(.t 43), (.t 45)], (some (41, true)), .write, 0⟩, ⟨(some 47), .pick (.t 41) (.t 46) (.c (.bool false)), none, .write, 0⟩, ⟨(some 4), .move (.t 47), none, .write, 0⟩])
 .ret) .skip))))))))
 (.seq (.region [⟨(some 4), .move (.c (.bool false)), none, .write, 0⟩])
 .ret))) }

theorem c117 : compFunc Try.prog Try.f117 .full = some t117 := by kernel_rfl

/-- broadside/value.Text -/
def t118 : DFunc := { ntmps := 5, results := [(.cell 2 (some 3))], mode := .full, body :=
 (.seq (.region [⟨(some 2), .alloc 157 3 (.agg [(.bool false), (.int .i64 0), (.str [])]), none, .write, 0⟩])
 (.seq (.region [⟨(some 3), .move (.t 0), none, .write, 0⟩, ⟨(some 4), .build [(.bool false), (.int .i64 0), (.str [])] [(0, 1, (.c (.bool true))), (2, 1, (.t 3))], none, .write, 0⟩, ⟨none, .store 3 (.t 2) (.t 4), none, .write, 0⟩])
 .ret)) }

theorem c118 : compFunc Try.prog Try.f118 .full = some t118 := by kernel_rfl

/-- slices.rotateLeft[broadside/api.Advert] -/
def t121 : DFunc := { ntmps := 14, results := [], mode := .full, body :=
 (.seq (.region [⟨(some 4), .move (.t 0), none, .write, 0⟩, ⟨(some 5), .move (.t 1), none, .write, 0⟩, ⟨(some 6), .sliceSl 4 (.t 4) none (some (.t 5)), none, .write, 0⟩, ⟨(some 7), .call (.c (.func 138 [])) [(.t 6)], none, .write, 0⟩])
 (.seq (.region [⟨(some 8), .move (.t 0), none, .write, 0⟩, ⟨(some 9), .move (.t 1), none, .write, 0⟩, ⟨(some 10), .sliceSl 4 (.t 8) (some (.t 9)) none, none, .write, 0⟩, ⟨(some 11), .call (.c (.func 138 [])) [(.t 10)], none, .write, 0⟩])
 (.region [⟨(some 12), .move (.t 0), none, .write, 0⟩, ⟨(some 13), .call (.c (.func 138 [])) [(.t 12)], none, .write, 0⟩]))) }

theorem c121 : compFunc Try.prog Try.f121 .full = some t121 := by kernel_rfl

/-- slices.rotateLeft[broadside/api.ID] -/
def t122 : DFunc := { ntmps := 14, results := [], mode := .full, body :=
 (.seq (.region [⟨(some 4), .move (.t 0), none, .write, 0⟩, ⟨(some 5), .move (.t 1), none, .write, 0⟩, ⟨(some 6), .sliceSl 2 (.t 4) none (some (.t 5)), none, .write, 0⟩, ⟨(some 7), .call (.c (.func 139 [])) [(.t 6)], none, .write, 0⟩])
 (.seq (.region [⟨(some 8), .move (.t 0), none, .write, 0⟩, ⟨(some 9), .move (.t 1), none, .write, 0⟩, ⟨(some 10), .sliceSl 2 (.t 8) (some (.t 9)) none, none, .write, 0⟩, ⟨(some 11), .call (.c (.func 139 [])) [(.t 10)], none, .write, 0⟩])
 (.region [⟨(some 12), .move (.t 0), none, .write, 0⟩, ⟨(some 13), .call (.c (.func 139 [])) [(.t 12)], none, .write, 0⟩]))) }

theorem c122 : compFunc Try.prog Try.f122 .full = some t122 := by kernel_rfl

/-- slices.insertionSortOrdered[int] -/
def t123 : DFunc := { ntmps := 49, results := [], mode := .full, body :=
 (.seq (.region [⟨(some 8), .move (.t 1), none, .write, 0⟩, ⟨(some 9), .arith .add (.t 8) (.c (.int .i64 1)), none, .write, 0⟩, ⟨(some 6), .move (.t 9), none, .write, 0⟩])
 (.block 0 (.loop (.seq (.seq (.region [⟨(some 10), .move (.t 6), none, .write, 0⟩, ⟨(some 11), .move (.t 2), none, .write, 0⟩, ⟨(some 12), .arith .lss (.t 10) (.t 11), none, .write, 0⟩])
 (.cond (.t 12) .skip (.exit 0)))
 (.seq (.block 1 (.seq (.region [⟨(some 15), .move (.t 6), none, .write, 0⟩, ⟨(some 7), .move (.t 15), none, .write, 0⟩])
 (.block 2 (.loop (.seq (.seq (.draw [⟨(some 16), .move (.t 7), none, .read, 0⟩, ⟨(some 17), .move (.t 1), none, .read, 0⟩, ⟨(some 18), .arith .gtr (.t 16) (.t 17), none, .read, 0⟩, ⟨(some 19), .move (.t 18), none, .read, 0⟩, ⟨(some 20), .move (.t 0), (some (19, true)), .read, 0⟩, ⟨(some 21), .move (.t 7), (some (19, true)), .read, 0⟩, ⟨(some 22), .indexAddr 1 (.t 20) (.t 21), (some (19, true)), .read, 0⟩, ⟨(some 23), .load none (.t 22), (some (19, true)), .read, 0⟩, ⟨(some 24), .move (.t 0), (some (19, true)), .read, 0⟩, ⟨(some 25), .move (.t 7), (some (19, true)), .read, 0⟩, ⟨(some 26), .arith .sub (.t 25) (.c (.int .i64 1)), (some (19, true)), .read, 0⟩, ⟨(some 27), .indexAddr 1 (.t 24) (.t 26), (some (19, true)), .read, 0⟩, ⟨(some 28), .load none (.t 27), (some (19, true)), .read, 0⟩, ⟨(some 29), .call (.c (.func 129 [])) [(.t 23), (.t 28)], (some (19, true)), .write, 0⟩, ⟨(some 30), .pick (.t 19) (.t 29) (.c (.bool false)), none, .read, 1⟩])
 (.cond (.t 30) .skip (.exit 2)))
 (.seq (.block 3 (.draw [⟨(some 38), .move (.t 0), none, .read, 0⟩, ⟨(some 39), .move (.t 7), none, .read, 0⟩, ⟨(some 40), .arith .sub (.t 39) (.c (.int .i64 1)), none, .read, 0⟩, ⟨(some 41), .indexAddr 1 (.t 38) (.t 40), none, .read, 0⟩, ⟨(some 42), .load none (.t 41), none, .read, 0⟩, ⟨(some 43), .move (.t 0), none, .read, 0⟩, ⟨(some 44), .move (.t 7), none, .read, 0⟩, ⟨(some 45), .indexAddr 1 (.t 43) (.t 44), none, .read, 0⟩, ⟨(some 46), .load none (.t 45), none, .read, 0⟩, ⟨(some 33), .move (.t 0), none, .read, 0⟩, ⟨(some 34), .move (.t 7), none, .read, 0⟩, ⟨(some 47), .indexAddr 1 (.t 33) (.t 34), none, .read, 0⟩, ⟨none, .store 1 (.t 47) (.t 42), none, .write, 0⟩, ⟨(some 35), .move (.t 0), none, .read, 0⟩, ⟨(some 36), .move (.t 7), none, .read, 0⟩, ⟨(some 37), .arith .sub (.t 36) (.c (.int .i64 1)), none, .read, 0⟩, ⟨(some 48), .indexAddr 1 (.t 35) (.t 37), none, .read, 1⟩, ⟨none, .store 1 (.t 48) (.t 46), none, .write, 1⟩]))
 (.region [⟨(some 31), .move (.t 7), none, .write, 0⟩, ⟨(some 32), .arith .sub (.t 31) (.c (.int .i64 1)), none, .write, 0⟩, ⟨(some 7), .move (.t 32), none, .write, 0⟩])))))))
 (.region [⟨(some 13), .move (.t 6), none, .write, 0⟩, ⟨(some 14), .arith .add (.t 13) (.c (.int .i64 1)), none, .write, 0⟩, ⟨(some 6), .move (.t 14), none, .write, 0⟩])))))) }

theorem c123 : compFunc Try.prog Try.f123 .full = some t123 := by kernel_rfl

/-- slices.heapSortOrdered[int] -/
def t124 : DFunc := { ntmps := 56, results := [], mode := .full, body :=
 (.seq (.region [⟨(some 11), .move (.t 1), none, .write, 0⟩, ⟨(some 6), .move (.t 11), none, .write, 0⟩])
 (.seq (.region [⟨(some 7), .move (.c (.int .i64 0)), none, .write, 0⟩])
 (.seq (.region [⟨(some 12), .move (.t 2), none, .write, 0⟩, ⟨(some 13), .move (.t 1), none, .write, 0⟩, ⟨(some 14), .arith .sub (.t 12) (.t 13), none, .write, 0⟩, ⟨(some 8), .move (.t 14), none, .write, 0⟩])
 (.seq (.seq (.region [⟨(some 15), .move (.t 8), none, .write, 0⟩, ⟨(some 16), .arith .sub (.t 15) (.c (.int .i64 1)), none, .write, 0⟩, ⟨(some 17), .arith .quo (.t 16) (.c (.int .i64 2)), none, .write, 0⟩, ⟨(some 9), .move (.t 17), none, .write, 0⟩])
 (.block 0 (.loop (.seq (.seq (.region [⟨(some 18), .move (.t 9), none, .write, 0⟩, ⟨(some 19), .arith .geq (.t 18) (.c (.int .i64 0)), none, .write, 0⟩])
 (.cond (.t 19) .skip (.exit 0)))
 (.seq (.block 1 (.region [⟨(some 22), .move (.t 0), none, .write, 0⟩, ⟨(some 23), .move (.t 9), none, .write, 0⟩, ⟨(some 24), .move (.t 8), none, .write, 0⟩, ⟨(some 25), .move (.t 6), none, .write, 0⟩, ⟨(some 26), .call (.c (.func 140 [])) [(.t 22), (.t 23), (.t 24), (.t 25)], none, .write, 0⟩]))
 (.region [⟨(some 20), .move (.t 9), none, .write, 0⟩, ⟨(some 21), .arith .sub (.t 20) (.c (.int .i64 1)), none, .write, 0⟩, ⟨(some 9), .move (.t 21), none, .write, 0⟩]))))))
 (.seq (.region [⟨(some 27), .move (.t 8), none, .write, 0⟩, ⟨(some 28), .arith .sub (.t 27) (.c (.int .i64 1)), none, .write, 0⟩, ⟨(some 10), .move (.t 28), none, .write, 0⟩])
 (.block 2 (.loop (.seq (.seq (.region [⟨(some 29), .move (.t 10), none, .write, 0⟩, ⟨(some 30), .arith .geq (.t 29) (.c (.int .i64 0)), none, .write, 0⟩])
 (.cond (.t 30) .skip (.exit 2)))
 (.seq (.block 3 (.seq (.draw [⟨(some 39), .move (.t 0), none, .read, 0⟩, ⟨(some 40), .move (.t 6), none, .read, 0⟩, ⟨(some 41), .move (.t 10), none, .read, 0⟩, ⟨(some 42), .arith .add (.t 40) (.t 41), none, .read, 0⟩, ⟨(some 43), .indexAddr 1 (.t 39) (.t 42), none, .read, 0⟩, ⟨(some 44), .load none (.t 43), none, .read, 0⟩, ⟨(some 45), .move (.t 0), none, .read, 0⟩, ⟨(some 46), .move (.t 6), none, .read, 0⟩, ⟨(some 47), .indexAddr 1 (.t 45) (.t 46), none, .read, 0⟩, ⟨(some 48), .load none (.t 47), none, .read, 0⟩, ⟨(some 33), .move (.t 0), none, .read, 0⟩, ⟨(some 34), .move (.t 6), none, .read, 0⟩, ⟨(some 49), .indexAddr 1 (.t 33) (.t 34), none, .read, 0⟩, ⟨none, .store 1 (.t 49) (.t 44), none, .write, 0⟩, ⟨(some 35), .move (.t 0), none, .read, 0⟩, ⟨(some 36), .move (.t 6), none, .read, 0⟩, ⟨(some 37), .move (.t 10), none, .read, 0⟩, ⟨(some 38), .arith .add (.t 36) (.t 37), none, .read, 0⟩, ⟨(some 50), .indexAddr 1 (.t 35) (.t 38), none, .read, 1⟩, ⟨none, .store 1 (.t 50) (.t 48), none, .write, 1⟩])
 (.region [⟨(some 51), .move (.t 0), none, .write, 0⟩, ⟨(some 52), .move (.t 7), none, .write, 0⟩, ⟨(some 53), .move (.t 10), none, .write, 0⟩, ⟨(some 54), .move (.t 6), none, .write, 0⟩, ⟨(some 55), .call (.c (.func 140 [])) [(.t 51), (.t 52), (.t 53), (.t 54)], none, .write, 0⟩])))
 (.region [⟨(some 31), .move (.t 10), none, .write, 0⟩, ⟨(some 32), .arith .sub (.t 31) (.c (.int .i64 1)), none, .write, 0⟩, ⟨(some 10), .move (.t 32), none, .write, 0⟩])))))))))) }

theorem c124 : compFunc Try.prog Try.f124 .full = some t124 := by kernel_rfl

/-- slices.breakPatternsOrdered[int] -/
def t125 : DFunc := { ntmps := 65, results := [], mode := .full, body :=
 (.seq (.region [⟨(some 11), .move (.t 2), none, .write, 0⟩, ⟨(some 12), .move (.t 1), none, .write, 0⟩, ⟨(some 13), .arith .sub (.t 11) (.t 12), none, .write, 0⟩, ⟨(some 6), .move (.t 13), none, .write, 0⟩])
 (.seq (.region [⟨(some 14), .move (.t 6), none, .write, 0⟩, ⟨(some 15), .arith .geq (.t 14) (.c (.int .i64 8)), none, .write, 0⟩])
 (.cond (.t 15) (.seq (.region [⟨(some 16), .move (.t 6), none, .write, 0⟩, ⟨(some 17), .conv .u64 (.t 16), none, .write, 0⟩, ⟨(some 7), .alloc 175 1 (.int .u64 0), none, .write, 0⟩, ⟨none, .store 1 (.t 7) (.t 17), none, .write, 0⟩])
 (.seq (.region [⟨(some 18), .move (.t 6), none, .write, 0⟩, ⟨(some 19), .call (.c (.func 141 [])) [(.t 18)], none, .write, 0⟩, ⟨(some 8), .move (.t 19), none, .write, 0⟩])
 (.seq (.region [⟨(some 20), .move (.t 1), none, .write, 0⟩, ⟨(some 21), .move (.t 6), none, .write, 0⟩, ⟨(some 22), .arith .quo (.t 21) (.c (.int .i64 4)), none, .write, 0⟩, ⟨(some 23), .arith .mul (.t 22) (.c (.int .i64 2)), none, .write, 0⟩, ⟨(some 24), .arith .add (.t 20) (.t 23), none, .write, 0⟩, ⟨(some 25), .arith .sub (.t 24) (.c (.int .i64 1)), none, .write, 0⟩, ⟨(some 9), .move (.t 25), none, .write, 0⟩])
 (.block 0 (.loop (.seq (.seq (.region [⟨(some 26), .move (.t 9), none, .write, 0⟩, ⟨(some 27), .move (.t 1), none, .write, 0⟩, ⟨(some 28), .move (.t 6), none, .write, 0⟩, ⟨(some 29), .arith .quo (.t 28) (.c (.int .i64 4)), none, .write, 0⟩, ⟨(some 30), .arith .mul (.t 29) (.c (.int .i64 2)), none, .write, 0⟩, ⟨(some 31), .arith .add (.t 27) (.t 30), none, .write, 0⟩, ⟨(some 32), .arith .add (.t 31) (.c (.int .i64 1)), none, .write, 0⟩, ⟨(some 33), .arith .leq (.t 26) (.t 32), none, .write, 0⟩])
 (.cond (.t 33) .skip (.exit 0)))
 (.seq (.block 1 (.seq (.region [⟨(some 36), .call (.c (.func 142 [])) [(.t 7)], none, .write, 0⟩, ⟨(some 37), .move (.t 8), none, .write, 0⟩, ⟨(some 38), .arith .sub (.t 37) (.c (.int .u64 1)), none, .write, 0⟩, ⟨(some 39), .arith .and (.t 36) (.t 38), none, .write, 0⟩, ⟨(some 40), .conv .i64 (.t 39), none, .write, 0⟩, ⟨(some 10), .move (.t 40), none, .write, 0⟩])
 (.seq (.seq (.region [⟨(some 41), .move (.t 10), none, .write, 0⟩, ⟨(some 42), .move (.t 6), none, .write, 0⟩, ⟨(some 43), .arith .geq (.t 41) (.t 42), none, .write, 0⟩])
 (.cond (.t 43) (.region [⟨(some 44), .move (.t 10), none, .write, 0⟩, ⟨(some 45), .move (.t 6), none, .write, 0⟩, ⟨(some 46), .arith .sub (.t 44) (.t 45), none, .write, 0⟩, ⟨(some 10), .move (.t 46), none, .write, 0⟩]) .skip))
 (.draw [⟨(some 53), .move (.t 0), none, .read, 0⟩, ⟨(some 54), .move (.t 1), none, .read, 0⟩, ⟨(some 55), .move (.t 10), none, .read, 0⟩, ⟨(some 56), .arith .add (.t 54) (.t 55), none, .read, 0⟩, ⟨(some 57), .indexAddr 1 (.t 53) (.t 56), none, .read, 0⟩, ⟨(some 58), .load none (.t 57), none, .read, 0⟩, ⟨(some 59), .move (.t 0), none, .read, 0⟩, ⟨(some 60), .move (.t 9), none, .read, 0⟩, ⟨(some 61), .indexAddr 1 (.t 59) (.t 60), none, .read, 0⟩, ⟨(some 62), .load none (.t 61), none, .read, 0⟩, ⟨(some 47), .move (.t 0), none, .read, 0⟩, ⟨(some 48), .move (.t 9), none, .read, 0⟩, ⟨(some 63), .indexAddr 1 (.t 47) (.t 48), none, .read, 0⟩, ⟨none, .store 1 (.t 63) (.t 58), none, .write, 0⟩, ⟨(some 49), .move (.t 0), none, .read, 0⟩, ⟨(some 50), .move (.t 1), none, .read, 0⟩, ⟨(some 51), .move (.t 10), none, .read, 0⟩, ⟨(some 52), .arith .add (.t 50) (.t 51), none, .read, 0⟩, ⟨(some 64), .indexAddr 1 (.t 49) (.t 52), none, .read, 1⟩, ⟨none, .store 1 (.t 64) (.t 62), none, .write, 1⟩]))))
 (.region [⟨(some 34), .move (.t 9), none, .write, 0⟩, ⟨(some 35), .arith .add (.t 34) (.c (.int .i64 1)), none, .write, 0⟩, ⟨(some 9), .move (.t 35), none, .write, 0⟩])))))))) .skip))) }

theorem c125 : compFunc Try.prog Try.f125 .full = some t125 := by kernel_rfl

/-- slices.choosePivotOrdered[int] -/
def t126 : DFunc := { ntmps := 57, results := [(.t 6), (.t 7)], mode := .full, body :=
 (.seq (.region [⟨(some 6), .move (.c (.int .i64 0)), none, .write, 0⟩, ⟨(some 7), .move (.c (.int .i64 0)), none, .write, 0⟩])
 (.seq (.region [⟨(some 13), .move (.t 2), none, .write, 0⟩, ⟨(some 14), .move (.t 1), none, .write, 0⟩, ⟨(some 15), .arith .sub (.t 13) (.t 14), none, .write, 0⟩, ⟨(some 8), .move (.t 15), none, .write, 0⟩])
 (.seq (.region [⟨(some 9), .alloc 3 1 (.int .i64 0), none, .write, 0⟩])
 (.seq (.region [⟨(some 16), .move (.t 1), none, .write, 0⟩, ⟨(some 17), .move (.t 8), none, .write, 0⟩, ⟨(some 18), .arith .quo (.t 17) (.c (.int .i64 4)), none, .write, 0⟩, ⟨(some 19), .arith .mul (.t 18) (.c (.int .i64 1)), none, .write, 0⟩, ⟨(some 20), .arith .add (.t 16) (.t 19), none, .write, 0⟩, ⟨(some 10), .move (.t 20), none, .write, 0⟩])
 (.seq (.region [⟨(some 21), .move (.t 1), none, .write, 0⟩, ⟨(some 22), .move (.t 8), none, .write, 0⟩, ⟨(some 23), .arith .quo (.t 22) (.c (.int .i64 4)), none, .write, 0⟩, ⟨(some 24), .arith .mul (.t 23) (.c (.int .i64 2)), none, .write, 0⟩, ⟨(some 25), .arith .add (.t 21) (.t 24), none, .write, 0⟩, ⟨(some 11), .move (.t 25), none, .write, 0⟩])
 (.seq (.region [⟨(some 26), .move (.t 1), none, .write, 0⟩, ⟨(some 27), .move (.t 8), none, .write, 0⟩, ⟨(some 28), .arith .quo (.t 27) (.c (.int .i64 4)), none, .write, 0⟩, ⟨(some 29), .arith .mul (.t 28) (.c (.int .i64 3)), none, .write, 0⟩, ⟨(some 30), .arith .add (.t 26) (.t 29), none, .write, 0⟩, ⟨(some 12), .move (.t 30), none, .write, 0⟩])
 (.seq (.seq (.region [⟨(some 31), .move (.t 8), none, .write, 0⟩, ⟨(some 32), .arith .geq (.t 31) (.c (.int .i64 8)), none, .write, 0⟩])
 (.cond (.t 32) (.seq (.seq (.region [⟨(some 33), .move (.t 8), none, .write, 0⟩, ⟨(some 34), .arith .geq (.t 33) (.c (.int .i64 50)), none, .write, 0⟩])
 (.cond (.t 34) (.seq (.region [⟨(some 35), .move (.t 0), none, .write, 0⟩, ⟨(some 36), .move (.t 10), none, .write, 0⟩, ⟨(some 37), .call (.c (.func 143 [])) [(.t 35), (.t 36), (.t 9)], none, .write, 0⟩, ⟨(some 10), .move (.t 37), none, .write, 0⟩])
 (.seq (.region [⟨(some 38), .move (.t 0), none, .write, 0⟩, ⟨(some 39), .move (.t 11), none, .write, 0⟩, ⟨(some 40), .call (.c (.func 143 [])) [(.t 38), (.t 39), (.t 9)], none, .write, 0⟩, ⟨(some 11), .move (.t 40), none, .write, 0⟩])
 (.region [⟨(some 41), .move (.t 0), none, .write, 0⟩, ⟨(some 42), .move (.t 12), none, .write, 0⟩, ⟨(some 43), .call (.c (.func 143 [])) [(.t 41), (.t 42), (.t 9)], none, .write, 0⟩, ⟨(some 12), .move (.t 43), none, .write, 0⟩]))) .skip))
 (.region [⟨(some 44), .move (.t 0), none, .write, 0⟩, ⟨(some 45), .move (.t 10), none, .write, 0⟩, ⟨(some 46), .move (.t 11), none, .write, 0⟩, ⟨(some 47), .move (.t 12), none, .write, 0⟩, ⟨(some 48), .call (.c (.func 144 [])) [(.t 44), (.t 45), (.t 46), (.t 47), (.t 9)], none, .write, 0⟩, ⟨(some 11), .move (.t 48), none, .write, 0⟩])) .skip))
 (.seq (.region [⟨(some 49), .load none (.t 9), none, .write, 0⟩])
 (.block 0 (.seq (.region [⟨(some 52), .arith .eql (.t 49) (.c (.int .i64 0)), none, .write, 0⟩, ⟨(some 51), .move (.t 52), none, .write, 0⟩])
 (.cond (.t 51) (.seq (.region [⟨(some 53), .move (.t 11), none, .write, 0⟩, ⟨(some 6), .move (.t 53), none, .write, 0⟩, ⟨(some 7), .move (.c (.int .i64 1)), none, .write, 0⟩])
 .ret) (.seq (.region [⟨(some 55), .arith .eql (.t 49) (.c (.int .i64 12)), none, .write, 0⟩, ⟨(some 54), .move (.t 55), none, .write, 0⟩])
 (.cond (.t 54) (.seq (.region [⟨(some 56), .move (.t 11), none, .write, 0⟩, ⟨(some 6), .move (.t 56), none, .write, 0⟩, ⟨(some 7), .move (.c (.int .i64 2)), none, .write, 0⟩])
 .ret) (.seq (.region [⟨(some 50), .move (.t 11), none, .write, 0⟩, ⟨(some 6), .move (.t 50), none, .write, 0⟩, ⟨(some 7), .move (.c (.int .i64 0)), none, .write, 0⟩])
 .ret)))))))))))))) }

theorem c126 : compFunc Try.prog Try.f126 .full = some t126 := by kernel_rfl

end Go.Dm.TabC
