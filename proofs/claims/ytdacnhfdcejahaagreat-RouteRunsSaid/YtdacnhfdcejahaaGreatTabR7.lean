/-
The table of functions, brought into the machine's form (TabR, part 7). Written by program (wip/tools/table.lean.txt).
-/
import Derived.Test.YtdacnhfdcejahaaGreatDm32
import Derived.Test.YtdacnhfdcejahaaGreatRows
import Derived.KernelRfl
namespace Go.Dm.TabR
open Go.Proofs

/-- broadside/tuple.Name -/
def t96 : DFunc := { ntmps := 27, results := [(.t 2)], mode := .full, body :=
 (.seq (.region [⟨(some 2), .move (.c (.bool false)), none, .write, 0⟩])
 (.seq (.seq (.region [⟨(some 4), .move (.t 0), none, .write, 0⟩, ⟨(some 5), .len 0 (.t 4), none, .write, 0⟩, ⟨(some 6), .move (.c (.int .i64 0)), none, .write, 0⟩])
 (.block 0 (.loop (.seq (.region [⟨(some 7), .arith .lss (.t 6) (.t 5), none, .write, 0⟩])
 (.seq (.cond (.t 7) .skip (.exit 0))
 (.seq (.block 1 (.seq (.region [⟨(some 8), .move (.t 6), none, .write, 0⟩, ⟨(some 3), .move (.t 8), none, .write, 0⟩])
 (.seq (.region [⟨(some 9), .move (.t 0), none, .write, 0⟩, ⟨(some 10), .move (.t 3), none, .write, 0⟩, ⟨(some 11), .indexStr (.t 9) (.t 10), none, .write, 0⟩, ⟨(some 12), .arith .lss (.t 11) (.c (.int .u8 97)), none, .write, 0⟩, ⟨(some 13), .move (.t 12), none, .write, 0⟩, ⟨(some 14), .move (.t 0), (some (13, false)), .write, 0⟩, ⟨(some 15), .move (.t 3), (some (13, false)), .write, 0⟩, ⟨(some 16), .indexStr (.t 14) (.t 15), (some (13, false)), .write, 0⟩, ⟨(some 17), .arith .gtr (.t 16) (.c (.int .u8 122)), (some (13, false)), .write, 0⟩, ⟨(some 18), .pick (.t 13) (.c (.bool true)) (.t 17), none, .write, 0⟩])
 (.cond (.t 18) (.seq (.region [⟨(some 2), .move (.c (.bool false)), none, .write, 0⟩])
 .ret) .skip))))
 (.region [⟨(some 19), .arith .add (.t 6) (.c (.int .i64 1)), none, .write, 0⟩, ⟨(some 6), .move (.t 19), none, .write, 0⟩])))))))
 (.seq (.region [⟨(some 20), .move (.t 0), none, .write, 0⟩, ⟨(some 21), .arith .neq (.t 20) (.c (.str [])), none, .write, 0⟩, ⟨(some 22), .move (.t 21), none, .write, 0⟩, ⟨(some 23), .move (.t 0), (some (22, true)), .write, 0⟩, ⟨(some 24), .len 0 (.t 23), (some (22, true)), .write, 0⟩, ⟨(some 25), .arith .leq (.t 24) (.c (.int .i64 12)), (some (22, true)), .write, 0⟩, ⟨(some 26), .pick (.t 22) (.t 25) (.c (.bool false)), none, .write, 0⟩, ⟨(some 2), .move (.t 26), none, .write, 0⟩])
 .ret))) }

theorem c96 : compFunc Tryz.prog Tryz.f96 .full = some t96 := by kernel_rfl

/-- internal/bytealg.CompareString -/
def t97 : DFunc := { ntmps := 8, results := [(.t 4)], mode := .full, body :=
 (.seq (.region [⟨(some 4), .move (.c (.int .i64 0)), none, .write, 0⟩])
 (.seq (.region [⟨(some 5), .move (.t 0), none, .write, 0⟩, ⟨(some 6), .move (.t 1), none, .write, 0⟩, ⟨(some 7), .call (.c (.func 104 [])) [(.t 5), (.t 6)], none, .write, 0⟩, ⟨(some 4), .move (.t 7), none, .write, 0⟩])
 .ret)) }

theorem c97 : compFunc Tryz.prog Tryz.f97 .full = some t97 := by kernel_rfl

/-- broadside/pred.Holds -/
def t98 : DFunc := { ntmps := 48, results := [(.t 4)], mode := .full, body :=
 (.seq (.region [⟨(some 2), .box 126 5 (.t 0), none, .write, 0⟩, ⟨(some 3), .box 137 3 (.t 1), none, .write, 0⟩, ⟨(some 4), .move (.c (.bool false)), none, .write, 0⟩])
 (.seq (.seq (.region [⟨(some 5), .fieldAddr 1 (.t 2), none, .write, 0⟩, ⟨(some 6), .load none (.t 5), none, .write, 0⟩])
 (.block 0 (.seq (.region [⟨(some 8), .arith .eql (.t 6) (.c (.int .i64 1)), none, .write, 0⟩, ⟨(some 7), .move (.t 8), none, .write, 0⟩])
 (.cond (.t 7) (.seq (.region [⟨(some 9), .fieldAddr 0 (.t 3), none, .write, 0⟩, ⟨(some 10), .load none (.t 9), none, .write, 0⟩, ⟨(some 11), .un .not (.t 10), none, .write, 0⟩, ⟨(some 12), .move (.t 11), none, .write, 0⟩, ⟨(some 13), .fieldAddr 2 (.t 2), (some (12, true)), .write, 0⟩, ⟨(some 14), .load none (.t 13), (some (12, true)), .write, 0⟩, ⟨(some 15), .fieldAddr 1 (.t 3), (some (12, true)), .write, 0⟩, ⟨(some 16), .load none (.t 15), (some (12, true)), .write, 0⟩, ⟨(some 17), .arith .leq (.t 14) (.t 16), (some (12, true)), .write, 0⟩, ⟨(some 18), .pick (.t 12) (.t 17) (.c (.bool false)), none, .write, 0⟩, ⟨(some 19), .move (.t 18), none, .write, 0⟩, ⟨(some 20), .fieldAddr 1 (.t 3), (some (19, true)), .write, 0⟩, ⟨(some 21), .load none (.t 20), (some (19, true)), .write, 0⟩, ⟨(some 22), .fieldAddr 3 (.t 2), (some (19, true)), .write, 0⟩, ⟨(some 23), .load none (.t 22), (some (19, true)), .write, 0⟩, ⟨(some 24), .arith .leq (.t 21) (.t 23), (some (19, true)), .write, 0⟩, ⟨(some 25), .pick (.t 19) (.t 24) (.c (.bool false)), none, .write, 0⟩, ⟨(some 4), .move (.t 25), none, .write, 0⟩])
 .ret) (.seq (.region [⟨(some 27), .arith .eql (.t 6) (.c (.int .i64 2)), none, .write, 0⟩, ⟨(some 26), .move (.t 27), none, .write, 0⟩])
 (.cond (.t 26) (.seq (.region [⟨(some 28), .fieldAddr 0 (.t 3), none, .write, 0⟩, ⟨(some 29), .load none (.t 28), none, .write, 0⟩, ⟨(some 30), .move (.t 29), none, .write, 0⟩, ⟨(some 31), .fieldAddr 2 (.t 3), (some (30, true)), .write, 0⟩, ⟨(some 32), .load none (.t 31), (some (30, true)), .write, 0⟩, ⟨(some 33), .fieldAddr 4 (.t 2), (some (30, true)), .write, 0⟩, ⟨(some 34), .load none (.t 33), (some (30, true)), .write, 0⟩, ⟨(some 35), .arith .eql (.t 32) (.t 34), (some (30, true)), .write, 0⟩, ⟨(some 36), .pick (.t 30) (.t 35) (.c (.bool false)), none, .write, 0⟩, ⟨(some 4), .move (.t 36), none, .write, 0⟩])
 .ret) (.seq (.region [⟨(some 38), .arith .eql (.t 6) (.c (.int .i64 3)), none, .write, 0⟩, ⟨(some 37), .move (.t 38), none, .write, 0⟩])
 (.cond (.t 37) (.seq (.region [⟨(some 39), .fieldAddr 0 (.t 3), none, .write, 0⟩, ⟨(some 40), .load none (.t 39), none, .write, 0⟩, ⟨(some 41), .move (.t 40), none, .write, 0⟩, ⟨(some 42), .fieldAddr 2 (.t 3), (some (41, true)), .write, 0⟩, ⟨(some 43), .load none (.t 42), (some (41, true)), .write, 0⟩, ⟨(some 44), .fieldAddr 4 (.t 2), (some (41, true)), .write, 0⟩, ⟨(some 45), .load none (.t 44), (some (41, true)), .write, 0⟩, ⟨(some 46), .call (.c (.func 105 [])) [(.t 43), (.t 45)], (some (41, true)), .write, 0⟩, ⟨(some 47), .pick (.t 41) (.t 46) (.c (.bool false)), none, .write, 0⟩, ⟨(some 4), .move (.t 47), none, .write, 0⟩])
 .ret) .skip))))))))
 (.seq (.region [⟨(some 4), .move (.c (.bool false)), none, .write, 0⟩])
 .ret))) }

theorem c98 : compFunc Tryz.prog Tryz.f98 .full = some t98 := by kernel_rfl

/-- slices.rotateRight[broadside/api.Constraint] -/
def t100 : DFunc := { ntmps := 10, results := [], mode := .full, body :=
 (.region [⟨(some 4), .move (.t 0), none, .write, 0⟩, ⟨(some 5), .move (.t 0), none, .write, 0⟩, ⟨(some 6), .len 1 (.t 5), none, .write, 0⟩, ⟨(some 7), .move (.t 1), none, .write, 0⟩, ⟨(some 8), .arith .sub (.t 6) (.t 7), none, .write, 0⟩, ⟨(some 9), .call (.c (.func 106 [])) [(.t 4), (.t 8)], none, .write, 0⟩]) }

theorem c100 : compFunc Tryz.prog Tryz.f100 .full = some t100 := by kernel_rfl

/-- slices.IndexFunc[[]broadside/api.Entry,broadside/api.Entry] -/
def t101 : DFunc := { ntmps := 19, results := [(.t 4)], mode := .full, body :=
 (.seq (.region [⟨(some 4), .move (.c (.int .i64 0)), none, .write, 0⟩])
 (.seq (.seq (.region [⟨(some 6), .move (.t 0), none, .write, 0⟩, ⟨(some 7), .len 1 (.t 6), none, .write, 0⟩, ⟨(some 8), .move (.c (.int .i64 0)), none, .write, 0⟩])
 (.block 0 (.loop (.seq (.region [⟨(some 9), .arith .lss (.t 8) (.t 7), none, .write, 0⟩])
 (.seq (.cond (.t 9) .skip (.exit 0))
 (.seq (.block 1 (.seq (.region [⟨(some 10), .move (.t 8), none, .write, 0⟩, ⟨(some 5), .move (.t 10), none, .write, 0⟩])
 (.seq (.region [⟨(some 11), .move (.t 1), none, .write, 0⟩, ⟨(some 12), .move (.t 0), none, .write, 0⟩, ⟨(some 13), .move (.t 5), none, .write, 0⟩, ⟨(some 14), .indexAddr 7 (.t 12) (.t 13), none, .write, 0⟩, ⟨(some 15), .load (some 7) (.t 14), none, .write, 0⟩, ⟨(some 16), .call (.t 11) [(.t 15)], none, .write, 0⟩])
 (.cond (.t 16) (.seq (.region [⟨(some 17), .move (.t 5), none, .write, 0⟩, ⟨(some 4), .move (.t 17), none, .write, 0⟩])
 .ret) .skip))))
 (.region [⟨(some 18), .arith .add (.t 8) (.c (.int .i64 1)), none, .write, 0⟩, ⟨(some 8), .move (.t 18), none, .write, 0⟩])))))))
 (.seq (.region [⟨(some 4), .move (.c (.int .i64 (-1))), none, .write, 0⟩])
 .ret))) }

theorem c101 : compFunc Tryz.prog Tryz.f101 .full = some t101 := by kernel_rfl

/-- broadside/rel.wider -/
def t102 : DFunc := { ntmps := 45, results := [(.t 4)], mode := .full, body :=
 (.seq (.region [⟨(some 2), .box 126 5 (.t 0), none, .write, 0⟩, ⟨(some 3), .box 126 5 (.t 1), none, .write, 0⟩, ⟨(some 4), .move (.c (.bool false)), none, .write, 0⟩])
 (.seq (.seq (.region [⟨(some 5), .fieldAddr 1 (.t 3), none, .write, 0⟩, ⟨(some 6), .load none (.t 5), none, .write, 0⟩])
 (.block 0 (.seq (.region [⟨(some 8), .arith .eql (.t 6) (.c (.int .i64 1)), none, .write, 0⟩, ⟨(some 7), .move (.t 8), none, .write, 0⟩])
 (.cond (.t 7) (.seq (.region [⟨(some 9), .fieldAddr 1 (.t 2), none, .write, 0⟩, ⟨(some 10), .load none (.t 9), none, .write, 0⟩, ⟨(some 11), .arith .eql (.t 10) (.c (.int .i64 1)), none, .write, 0⟩, ⟨(some 12), .move (.t 11), none, .write, 0⟩, ⟨(some 13), .fieldAddr 2 (.t 2), (some (12, true)), .write, 0⟩, ⟨(some 14), .load none (.t 13), (some (12, true)), .write, 0⟩, ⟨(some 15), .fieldAddr 2 (.t 3), (some (12, true)), .write, 0⟩, ⟨(some 16), .load none (.t 15), (some (12, true)), .write, 0⟩, ⟨(some 17), .arith .leq (.t 14) (.t 16), (some (12, true)), .write, 0⟩, ⟨(some 18), .pick (.t 12) (.t 17) (.c (.bool false)), none, .write, 0⟩, ⟨(some 19), .move (.t 18), none, .write, 0⟩, ⟨(some 20), .fieldAddr 3 (.t 3), (some (19, true)), .write, 0⟩, ⟨(some 21), .load none (.t 20), (some (19, true)), .write, 0⟩, ⟨(some 22), .fieldAddr 3 (.t 2), (some (19, true)), .write, 0⟩, ⟨(some 23), .load none (.t 22), (some (19, true)), .write, 0⟩, ⟨(some 24), .arith .leq (.t 21) (.t 23), (some (19, true)), .write, 0⟩, ⟨(some 25), .pick (.t 19) (.t 24) (.c (.bool false)), none, .write, 0⟩, ⟨(some 4), .move (.t 25), none, .write, 0⟩])
 .ret) (.seq (.region [⟨(some 27), .arith .eql (.t 6) (.c (.int .i64 3)), none, .write, 0⟩, ⟨(some 26), .move (.t 27), none, .write, 0⟩])
 (.cond (.t 26) (.seq (.region [⟨(some 28), .fieldAddr 1 (.t 2), none, .write, 0⟩, ⟨(some 29), .load none (.t 28), none, .write, 0⟩, ⟨(some 30), .arith .eql (.t 29) (.c (.int .i64 3)), none, .write, 0⟩, ⟨(some 31), .move (.t 30), none, .write, 0⟩, ⟨(some 32), .fieldAddr 4 (.t 3), (some (31, true)), .write, 0⟩, ⟨(some 33), .load none (.t 32), (some (31, true)), .write, 0⟩, ⟨(some 34), .fieldAddr 4 (.t 2), (some (31, true)), .write, 0⟩, ⟨(some 35), .load none (.t 34), (some (31, true)), .write, 0⟩, ⟨(some 36), .call (.c (.func 105 [])) [(.t 33), (.t 35)], (some (31, true)), .write, 0⟩, ⟨(some 37), .pick (.t 31) (.t 36) (.c (.bool false)), none, .write, 0⟩, ⟨(some 4), .move (.t 37), none, .write, 0⟩])
 .ret) (.seq (.region [⟨(some 39), .arith .eql (.t 6) (.c (.int .i64 2)), none, .write, 0⟩, ⟨(some 38), .move (.t 39), none, .write, 0⟩])
 (.cond (.t 38) (.seq (.draw [⟨(some 40), .load (some 5) (.t 2), none, .read, 0⟩, ⟨(some 41), .fieldAddr 4 (.t 3), none, .read, 0⟩, ⟨(some 42), .load none (.t 41), none, .read, 0⟩, ⟨(some 43), .call (.c (.func 85 [])) [(.t 42)], none, .create, 0⟩, ⟨(some 44), .call (.c (.func 98 [])) [(.t 40), (.t 43)], none, .write, 1⟩, ⟨(some 4), .move (.t 44), none, .read, 2⟩])
 .ret) .skip))))))))
 (.seq (.region [⟨(some 4), .move (.c (.bool false)), none, .write, 0⟩])
 .ret))) }

theorem c102 : compFunc Tryz.prog Tryz.f102 .full = some t102 := by kernel_rfl

/-- slices.rotateLeft[broadside/api.Entry] -/
def t103 : DFunc := { ntmps := 14, results := [], mode := .full, body :=
 (.seq (.region [⟨(some 4), .move (.t 0), none, .write, 0⟩, ⟨(some 5), .move (.t 1), none, .write, 0⟩, ⟨(some 6), .sliceSl 7 (.t 4) none (some (.t 5)), none, .write, 0⟩, ⟨(some 7), .call (.c (.func 107 [])) [(.t 6)], none, .write, 0⟩])
 (.seq (.region [⟨(some 8), .move (.t 0), none, .write, 0⟩, ⟨(some 9), .move (.t 1), none, .write, 0⟩, ⟨(some 10), .sliceSl 7 (.t 8) (some (.t 9)) none, none, .write, 0⟩, ⟨(some 11), .call (.c (.func 107 [])) [(.t 10)], none, .write, 0⟩])
 (.region [⟨(some 12), .move (.t 0), none, .write, 0⟩, ⟨(some 13), .call (.c (.func 107 [])) [(.t 12)], none, .write, 0⟩]))) }

theorem c103 : compFunc Tryz.prog Tryz.f103 .full = some t103 := by kernel_rfl

/-- strings.HasPrefix -/
def t105 : DFunc := { ntmps := 8, results := [(.t 4)], mode := .full, body :=
 (.seq (.region [⟨(some 4), .move (.c (.bool false)), none, .write, 0⟩])
 (.seq (.region [⟨(some 5), .move (.t 0), none, .write, 0⟩, ⟨(some 6), .move (.t 1), none, .write, 0⟩, ⟨(some 7), .call (.c (.func 108 [])) [(.t 5), (.t 6)], none, .write, 0⟩, ⟨(some 4), .move (.t 7), none, .write, 0⟩])
 .ret)) }

theorem c105 : compFunc Tryz.prog Tryz.f105 .full = some t105 := by kernel_rfl

/-- slices.rotateLeft[broadside/api.Constraint] -/
def t106 : DFunc := { ntmps := 14, results := [], mode := .full, body :=
 (.seq (.region [⟨(some 4), .move (.t 0), none, .write, 0⟩, ⟨(some 5), .move (.t 1), none, .write, 0⟩, ⟨(some 6), .sliceSl 5 (.t 4) none (some (.t 5)), none, .write, 0⟩, ⟨(some 7), .call (.c (.func 109 [])) [(.t 6)], none, .write, 0⟩])
 (.seq (.region [⟨(some 8), .move (.t 0), none, .write, 0⟩, ⟨(some 9), .move (.t 1), none, .write, 0⟩, ⟨(some 10), .sliceSl 5 (.t 8) (some (.t 9)) none, none, .write, 0⟩, ⟨(some 11), .call (.c (.func 109 [])) [(.t 10)], none, .write, 0⟩])
 (.region [⟨(some 12), .move (.t 0), none, .write, 0⟩, ⟨(some 13), .call (.c (.func 109 [])) [(.t 12)], none, .write, 0⟩]))) }

theorem c106 : compFunc Tryz.prog Tryz.f106 .full = some t106 := by kernel_rfl

/-- slices.Reverse[[]broadside/api.Entry,broadside/api.Entry] -/
def t107 : DFunc := { ntmps := 28, results := [], mode := .full, body :=
 (.seq (.region [⟨(some 4), .move (.t 0), none, .write, 0⟩, ⟨(some 5), .len 1 (.t 4), none, .write, 0⟩, ⟨(some 6), .arith .sub (.t 5) (.c (.int .i64 1)), none, .write, 0⟩, ⟨(some 2), .move (.c (.int .i64 0)), none, .write, 0⟩, ⟨(some 3), .move (.t 6), none, .write, 0⟩])
 (.block 0 (.loop (.seq (.seq (.region [⟨(some 7), .move (.t 2), none, .write, 0⟩, ⟨(some 8), .move (.t 3), none, .write, 0⟩, ⟨(some 9), .arith .lss (.t 7) (.t 8), none, .write, 0⟩])
 (.cond (.t 9) .skip (.exit 0)))
 (.seq (.block 1 (.draw [⟨(some 18), .move (.t 0), none, .read, 0⟩, ⟨(some 19), .move (.t 3), none, .read, 0⟩, ⟨(some 20), .indexAddr 7 (.t 18) (.t 19), none, .read, 0⟩, ⟨(some 21), .load (some 7) (.t 20), none, .read, 0⟩, ⟨(some 22), .move (.t 0), none, .read, 0⟩, ⟨(some 23), .move (.t 2), none, .read, 0⟩, ⟨(some 24), .indexAddr 7 (.t 22) (.t 23), none, .read, 0⟩, ⟨(some 25), .load (some 7) (.t 24), none, .read, 0⟩, ⟨(some 14), .move (.t 0), none, .read, 0⟩, ⟨(some 15), .move (.t 2), none, .read, 0⟩, ⟨(some 26), .indexAddr 7 (.t 14) (.t 15), none, .read, 0⟩, ⟨none, .store 7 (.t 26) (.t 21), none, .write, 0⟩, ⟨(some 16), .move (.t 0), none, .read, 0⟩, ⟨(some 17), .move (.t 3), none, .read, 0⟩, ⟨(some 27), .indexAddr 7 (.t 16) (.t 17), none, .read, 1⟩, ⟨none, .store 7 (.t 27) (.t 25), none, .write, 1⟩]))
 (.region [⟨(some 10), .move (.t 2), none, .write, 0⟩, ⟨(some 11), .arith .add (.t 10) (.c (.int .i64 1)), none, .write, 0⟩, ⟨(some 12), .move (.t 3), none, .write, 0⟩, ⟨(some 13), .arith .sub (.t 12) (.c (.int .i64 1)), none, .write, 0⟩, ⟨(some 2), .move (.t 11), none, .write, 0⟩, ⟨(some 3), .move (.t 13), none, .write, 0⟩])))))) }

theorem c107 : compFunc Tryz.prog Tryz.f107 .full = some t107 := by kernel_rfl

/-- internal/stringslite.HasPrefix -/
def t108 : DFunc := { ntmps := 18, results := [(.t 4)], mode := .full, body :=
 (.seq (.region [⟨(some 4), .move (.c (.bool false)), none, .write, 0⟩])
 (.seq (.region [⟨(some 5), .move (.t 0), none, .write, 0⟩, ⟨(some 6), .len 0 (.t 5), none, .write, 0⟩, ⟨(some 7), .move (.t 1), none, .write, 0⟩, ⟨(some 8), .len 0 (.t 7), none, .write, 0⟩, ⟨(some 9), .arith .geq (.t 6) (.t 8), none, .write, 0⟩, ⟨(some 10), .move (.t 9), none, .write, 0⟩, ⟨(some 11), .move (.t 0), (some (10, true)), .write, 0⟩, ⟨(some 12), .move (.t 1), (some (10, true)), .write, 0⟩, ⟨(some 13), .len 0 (.t 12), (some (10, true)), .write, 0⟩, ⟨(some 14), .sliceStr (.t 11) none (some (.t 13)), (some (10, true)), .write, 0⟩, ⟨(some 15), .move (.t 1), (some (10, true)), .write, 0⟩, ⟨(some 16), .arith .eql (.t 14) (.t 15), (some (10, true)), .write, 0⟩, ⟨(some 17), .pick (.t 10) (.t 16) (.c (.bool false)), none, .write, 0⟩, ⟨(some 4), .move (.t 17), none, .write, 0⟩])
 .ret)) }

theorem c108 : compFunc Tryz.prog Tryz.f108 .full = some t108 := by kernel_rfl

/-- slices.Reverse[[]broadside/api.Constraint,broadside/api.Constraint] -/
def t109 : DFunc := { ntmps := 28, results := [], mode := .full, body :=
 (.seq (.region [⟨(some 4), .move (.t 0), none, .write, 0⟩, ⟨(some 5), .len 1 (.t 4), none, .write, 0⟩, ⟨(some 6), .arith .sub (.t 5) (.c (.int .i64 1)), none, .write, 0⟩, ⟨(some 2), .move (.c (.int .i64 0)), none, .write, 0⟩, ⟨(some 3), .move (.t 6), none, .write, 0⟩])
 (.block 0 (.loop (.seq (.seq (.region [⟨(some 7), .move (.t 2), none, .write, 0⟩, ⟨(some 8), .move (.t 3), none, .write, 0⟩, ⟨(some 9), .arith .lss (.t 7) (.t 8), none, .write, 0⟩])
 (.cond (.t 9) .skip (.exit 0)))
 (.seq (.block 1 (.draw [⟨(some 18), .move (.t 0), none, .read, 0⟩, ⟨(some 19), .move (.t 3), none, .read, 0⟩, ⟨(some 20), .indexAddr 5 (.t 18) (.t 19), none, .read, 0⟩, ⟨(some 21), .load (some 5) (.t 20), none, .read, 0⟩, ⟨(some 22), .move (.t 0), none, .read, 0⟩, ⟨(some 23), .move (.t 2), none, .read, 0⟩, ⟨(some 24), .indexAddr 5 (.t 22) (.t 23), none, .read, 0⟩, ⟨(some 25), .load (some 5) (.t 24), none, .read, 0⟩, ⟨(some 14), .move (.t 0), none, .read, 0⟩, ⟨(some 15), .move (.t 2), none, .read, 0⟩, ⟨(some 26), .indexAddr 5 (.t 14) (.t 15), none, .read, 0⟩, ⟨none, .store 5 (.t 26) (.t 21), none, .write, 0⟩, ⟨(some 16), .move (.t 0), none, .read, 0⟩, ⟨(some 17), .move (.t 3), none, .read, 0⟩, ⟨(some 27), .indexAddr 5 (.t 16) (.t 17), none, .read, 1⟩, ⟨none, .store 5 (.t 27) (.t 25), none, .write, 1⟩]))
 (.region [⟨(some 10), .move (.t 2), none, .write, 0⟩, ⟨(some 11), .arith .add (.t 10) (.c (.int .i64 1)), none, .write, 0⟩, ⟨(some 12), .move (.t 3), none, .write, 0⟩, ⟨(some 13), .arith .sub (.t 12) (.c (.int .i64 1)), none, .write, 0⟩, ⟨(some 2), .move (.t 11), none, .write, 0⟩, ⟨(some 3), .move (.t 13), none, .write, 0⟩])))))) }

theorem c109 : compFunc Tryz.prog Tryz.f109 .full = some t109 := by kernel_rfl

end Go.Dm.TabR
