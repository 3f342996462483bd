/-
The table of functions, brought into the machine's form (TabF, part 6). Written by program (wip/tools/table.lean.txt).
-/
import Derived.Test.YtdacnhfdcejahaaDm32
import Derived.Test.YtdacnhfdcejahaaRows
import Derived.KernelRfl
namespace Go.Dm.TabF
open Go.Proofs

/-- broadside/value.Text -/
def t83 : DFunc := { ntmps := 5, results := [(.cell 2 (some 3))], mode := .full, body :=
 (.seq (.region [⟨(some 2), .alloc 134 3 (.agg [(.bool false), (.int .i64 0), (.str [])]), none, .write, 0⟩])
 (.seq (.region [⟨(some 3), .move (.t 0), none, .write, 0⟩, ⟨(some 4), .build [(.bool false), (.int .i64 0), (.str [])] [(0, 1, (.c (.bool true))), (2, 1, (.t 3))], none, .write, 0⟩, ⟨none, .store 3 (.t 2) (.t 4), none, .write, 0⟩])
 .ret)) }

theorem c83 : compFunc Try.prog Try.f83 .full = some t83 := by kernel_rfl

/-- broadside/value.Number -/
def t84 : DFunc := { ntmps := 5, results := [(.cell 2 (some 3))], mode := .full, body :=
 (.seq (.region [⟨(some 2), .alloc 134 3 (.agg [(.bool false), (.int .i64 0), (.str [])]), none, .write, 0⟩])
 (.seq (.region [⟨(some 3), .move (.t 0), none, .write, 0⟩, ⟨(some 4), .build [(.bool false), (.int .i64 0), (.str [])] [(1, 1, (.t 3))], none, .write, 0⟩, ⟨none, .store 3 (.t 2) (.t 4), none, .write, 0⟩])
 .ret)) }

theorem c84 : compFunc Try.prog Try.f84 .full = some t84 := by kernel_rfl

/-- broadside/rel.wider -/
def t85 : DFunc := { ntmps := 45, results := [(.t 4)], mode := .full, body :=
 (.seq (.region [⟨(some 2), .box 123 5 (.t 0), none, .write, 0⟩, ⟨(some 3), .box 123 5 (.t 1), none, .write, 0⟩, ⟨(some 4), .move (.c (.bool false)), none, .write, 0⟩])
 (.seq (.seq (.region [⟨(some 5), .fieldAddr 1 (.t 3), none, .write, 0⟩, ⟨(some 6), .load none (.t 5), none, .write, 0⟩])
 (.block 0 (.seq (.region [⟨(some 8), .arith .eql (.t 6) (.c (.int .i64 1)), none, .write, 0⟩, ⟨(some 7), .move (.t 8), none, .write, 0⟩])
 (.cond (.t 7) (.seq (.region [⟨(some 9), .fieldAddr 1 (.t 2), none, .write, 0⟩, ⟨(some 10), .load none (.t 9), none, .write, 0⟩, ⟨(some 11), .arith .eql (.t 10) (.c (.int .i64 1)), none, .write, 0⟩, ⟨(some 12), .move (.t 11), none, .write, 0⟩, ⟨(some 13), .fieldAddr 2 (.t 2), (some (12, true)), .write, 0⟩, ⟨(some 14), .load none (.t 13), (some (12, true)), .write, 0⟩, ⟨(some 15), .fieldAddr 2 (.t 3), (some (12, true)), .write, 0⟩, ⟨(some 16), .load none (.t 15), (some (12, true)), .write, 0⟩, ⟨(some 17), .arith .leq (.t 14) (.t 16), (some (12, true)), .write, 0⟩, ⟨(some 18), .pick (.t 12) (.t 17) (.c (.bool false)), none, .write, 0⟩, ⟨(some 19), .move (.t 18), none, .write, 0⟩, ⟨(some 20), .fieldAddr 3 (.t 3), (some (19, true)), .write, 0⟩, ⟨(some 21), .load none (.t 20), (some (19, true)), .write, 0⟩, ⟨(some 22), .fieldAddr 3 (.t 2), (some (19, true)), .write, 0⟩, ⟨(some 23), .load none (.t 22), (some (19, true)), .write, 0⟩, ⟨(some 24), .arith .leq (.t 21) (.t 23), (some (19, true)), .write, 0⟩, ⟨(some 25), .pick (.t 19) (.t 24) (.c (.bool false)), none, .write, 0⟩, ⟨(some 4), .move (.t 25), none, .write, 0⟩])
 .ret) (.seq (.region [⟨(some 27), .arith .eql (.t 6) (.c (.int .i64 3)), none, .write, 0⟩, ⟨(some 26), .move (.t 27), none, .write, 0⟩])
 (.cond (.t 26) (.seq (.region [⟨(some 28), .fieldAddr 1 (.t 2), none, .write, 0⟩, ⟨(some 29), .load none (.t 28), none, .write, 0⟩, ⟨(some 30), .arith .eql (.t 29) (.c (.int .i64 3)), none, .write, 0⟩, ⟨(some 31), .move (.t 30), none, .write, 0⟩, ⟨(some 32), .fieldAddr 4 (.t 3), (some (31, true)), .write, 0⟩, ⟨(some 33), .load none (.t 32), (some (31, true)), .write, 0⟩, ⟨(some 34), .fieldAddr 4 (.t 2), (some (31, true)), .write, 0⟩, ⟨(some 35), .load none (.t 34), (some (31, true)), .write, 0⟩, ⟨(some 36), .call (.c (.func 95 [])) [(.t 33), (.t 35)], (some (31, true)), .write, 0⟩, ⟨(some 37), .pick (.t 31) (.t 36) (.c (.bool false)), none, .write, 0⟩, ⟨(some 4), .move (.t 37), none, .write, 0⟩])
 .ret) (.seq (.region [⟨(some 39), .arith .eql (.t 6) (.c (.int .i64 2)), none, .write, 0⟩, ⟨(some 38), .move (.t 39), none, .write, 0⟩])
 (.cond (.t 38) (.seq (.draw [⟨(some 40), .load (some 5) (.t 2), none, .read, 0⟩, ⟨(some 41), .fieldAddr 4 (.t 3), none, .read, 0⟩, ⟨(some 42), .load none (.t 41), none, .read, 0⟩, ⟨(some 43), .call (.c (.func 83 [])) [(.t 42)], none, .create, 0⟩, ⟨(some 44), .call (.c (.func 92 [])) [(.t 40), (.t 43)], none, .write, 1⟩, ⟨(some 4), .move (.t 44), none, .read, 2⟩])
 .ret) .skip))))))))
 (.seq (.region [⟨(some 4), .move (.c (.bool false)), none, .write, 0⟩])
 .ret))) }

theorem c85 : compFunc Try.prog Try.f85 .full = some t85 := by kernel_rfl

/-- slices.rotateLeft[broadside/api.Entry] -/
def t86 : DFunc := { ntmps := 14, results := [], mode := .full, body :=
 (.seq (.region [⟨(some 4), .move (.t 0), none, .write, 0⟩, ⟨(some 5), .move (.t 1), none, .write, 0⟩, ⟨(some 6), .sliceSl 7 (.t 4) none (some (.t 5)), none, .write, 0⟩, ⟨(some 7), .call (.c (.func 96 [])) [(.t 6)], none, .write, 0⟩])
 (.seq (.region [⟨(some 8), .move (.t 0), none, .write, 0⟩, ⟨(some 9), .move (.t 1), none, .write, 0⟩, ⟨(some 10), .sliceSl 7 (.t 8) (some (.t 9)) none, none, .write, 0⟩, ⟨(some 11), .call (.c (.func 96 [])) [(.t 10)], none, .write, 0⟩])
 (.region [⟨(some 12), .move (.t 0), none, .write, 0⟩, ⟨(some 13), .call (.c (.func 96 [])) [(.t 12)], none, .write, 0⟩]))) }

theorem c86 : compFunc Try.prog Try.f86 .full = some t86 := by kernel_rfl

/-- slices.order2Ordered[int] -/
def t87 : DFunc := { ntmps := 28, results := [(.t 8), (.t 9)], mode := .full, body :=
 (.seq (.region [⟨(some 8), .move (.c (.int .i64 0)), none, .write, 0⟩, ⟨(some 9), .move (.c (.int .i64 0)), none, .write, 0⟩])
 (.seq (.seq (.draw [⟨(some 10), .move (.t 0), none, .read, 0⟩, ⟨(some 11), .move (.t 2), none, .read, 0⟩, ⟨(some 12), .indexAddr 1 (.t 10) (.t 11), none, .read, 0⟩, ⟨(some 13), .load none (.t 12), none, .read, 0⟩, ⟨(some 14), .move (.t 0), none, .read, 0⟩, ⟨(some 15), .move (.t 1), none, .read, 0⟩, ⟨(some 16), .indexAddr 1 (.t 14) (.t 15), none, .read, 0⟩, ⟨(some 17), .load none (.t 16), none, .read, 0⟩, ⟨(some 18), .call (.c (.func 38 [])) [(.t 13), (.t 17)], none, .write, 0⟩])
 (.cond (.t 18) (.seq (.region [⟨(some 19), .move (.t 3), none, .write, 0⟩, ⟨(some 20), .nilCheck (.t 19), none, .write, 0⟩, ⟨(some 21), .load none (.t 20), none, .write, 0⟩, ⟨(some 22), .arith .add (.t 21) (.c (.int .i64 1)), none, .write, 0⟩, ⟨(some 23), .nilCheck (.t 19), none, .write, 0⟩, ⟨none, .store 1 (.t 23) (.t 22), none, .write, 0⟩])
 (.seq (.region [⟨(some 24), .move (.t 2), none, .write, 0⟩, ⟨(some 25), .move (.t 1), none, .write, 0⟩, ⟨(some 8), .move (.t 24), none, .write, 0⟩, ⟨(some 9), .move (.t 25), none, .write, 0⟩])
 .ret)) .skip))
 (.seq (.region [⟨(some 26), .move (.t 1), none, .write, 0⟩, ⟨(some 27), .move (.t 2), none, .write, 0⟩, ⟨(some 8), .move (.t 26), none, .write, 0⟩, ⟨(some 9), .move (.t 27), none, .write, 0⟩])
 .ret))) }

theorem c87 : compFunc Try.prog Try.f87 .full = some t87 := by kernel_rfl

/-- slices.Reverse[[]broadside/api.Advert,broadside/api.Advert] -/
def t88 : DFunc := { ntmps := 28, results := [], mode := .full, body :=
 (.seq (.region [⟨(some 4), .move (.t 0), none, .write, 0⟩, ⟨(some 5), .len 1 (.t 4), none, .write, 0⟩, ⟨(some 6), .arith .sub (.t 5) (.c (.int .i64 1)), none, .write, 0⟩, ⟨(some 2), .move (.c (.int .i64 0)), none, .write, 0⟩, ⟨(some 3), .move (.t 6), none, .write, 0⟩])
 (.block 0 (.loop (.seq (.seq (.region [⟨(some 7), .move (.t 2), none, .write, 0⟩, ⟨(some 8), .move (.t 3), none, .write, 0⟩, ⟨(some 9), .arith .lss (.t 7) (.t 8), none, .write, 0⟩])
 (.cond (.t 9) .skip (.exit 0)))
 (.seq (.block 1 (.draw [⟨(some 18), .move (.t 0), none, .read, 0⟩, ⟨(some 19), .move (.t 3), none, .read, 0⟩, ⟨(some 20), .indexAddr 4 (.t 18) (.t 19), none, .read, 0⟩, ⟨(some 21), .load (some 4) (.t 20), none, .read, 0⟩, ⟨(some 22), .move (.t 0), none, .read, 0⟩, ⟨(some 23), .move (.t 2), none, .read, 0⟩, ⟨(some 24), .indexAddr 4 (.t 22) (.t 23), none, .read, 0⟩, ⟨(some 25), .load (some 4) (.t 24), none, .read, 0⟩, ⟨(some 14), .move (.t 0), none, .read, 0⟩, ⟨(some 15), .move (.t 2), none, .read, 0⟩, ⟨(some 26), .indexAddr 4 (.t 14) (.t 15), none, .read, 0⟩, ⟨none, .store 4 (.t 26) (.t 21), none, .write, 0⟩, ⟨(some 16), .move (.t 0), none, .read, 0⟩, ⟨(some 17), .move (.t 3), none, .read, 0⟩, ⟨(some 27), .indexAddr 4 (.t 16) (.t 17), none, .read, 1⟩, ⟨none, .store 4 (.t 27) (.t 25), none, .write, 1⟩]))
 (.region [⟨(some 10), .move (.t 2), none, .write, 0⟩, ⟨(some 11), .arith .add (.t 10) (.c (.int .i64 1)), none, .write, 0⟩, ⟨(some 12), .move (.t 3), none, .write, 0⟩, ⟨(some 13), .arith .sub (.t 12) (.c (.int .i64 1)), none, .write, 0⟩, ⟨(some 2), .move (.t 11), none, .write, 0⟩, ⟨(some 3), .move (.t 13), none, .write, 0⟩])))))) }

theorem c88 : compFunc Try.prog Try.f88 .full = some t88 := by kernel_rfl

/-- slices.Reverse[[]broadside/api.ID,broadside/api.ID] -/
def t89 : DFunc := { ntmps := 28, results := [], mode := .full, body :=
 (.seq (.region [⟨(some 4), .move (.t 0), none, .write, 0⟩, ⟨(some 5), .len 1 (.t 4), none, .write, 0⟩, ⟨(some 6), .arith .sub (.t 5) (.c (.int .i64 1)), none, .write, 0⟩, ⟨(some 2), .move (.c (.int .i64 0)), none, .write, 0⟩, ⟨(some 3), .move (.t 6), none, .write, 0⟩])
 (.block 0 (.loop (.seq (.seq (.region [⟨(some 7), .move (.t 2), none, .write, 0⟩, ⟨(some 8), .move (.t 3), none, .write, 0⟩, ⟨(some 9), .arith .lss (.t 7) (.t 8), none, .write, 0⟩])
 (.cond (.t 9) .skip (.exit 0)))
 (.seq (.block 1 (.draw [⟨(some 18), .move (.t 0), none, .read, 0⟩, ⟨(some 19), .move (.t 3), none, .read, 0⟩, ⟨(some 20), .indexAddr 2 (.t 18) (.t 19), none, .read, 0⟩, ⟨(some 21), .load (some 2) (.t 20), none, .read, 0⟩, ⟨(some 22), .move (.t 0), none, .read, 0⟩, ⟨(some 23), .move (.t 2), none, .read, 0⟩, ⟨(some 24), .indexAddr 2 (.t 22) (.t 23), none, .read, 0⟩, ⟨(some 25), .load (some 2) (.t 24), none, .read, 0⟩, ⟨(some 14), .move (.t 0), none, .read, 0⟩, ⟨(some 15), .move (.t 2), none, .read, 0⟩, ⟨(some 26), .indexAddr 2 (.t 14) (.t 15), none, .read, 0⟩, ⟨none, .store 2 (.t 26) (.t 21), none, .write, 0⟩, ⟨(some 16), .move (.t 0), none, .read, 0⟩, ⟨(some 17), .move (.t 3), none, .read, 0⟩, ⟨(some 27), .indexAddr 2 (.t 16) (.t 17), none, .read, 1⟩, ⟨none, .store 2 (.t 27) (.t 25), none, .write, 1⟩]))
 (.region [⟨(some 10), .move (.t 2), none, .write, 0⟩, ⟨(some 11), .arith .add (.t 10) (.c (.int .i64 1)), none, .write, 0⟩, ⟨(some 12), .move (.t 3), none, .write, 0⟩, ⟨(some 13), .arith .sub (.t 12) (.c (.int .i64 1)), none, .write, 0⟩, ⟨(some 2), .move (.t 11), none, .write, 0⟩, ⟨(some 3), .move (.t 13), none, .write, 0⟩])))))) }

theorem c89 : compFunc Try.prog Try.f89 .full = some t89 := by kernel_rfl

/-- broadside/tuple.Name -/
def t90 : DFunc := { ntmps := 27, results := [(.t 2)], mode := .full, body :=
 (.seq (.region [⟨(some 2), .move (.c (.bool false)), none, .write, 0⟩])
 (.seq (.seq (.region [⟨(some 4), .move (.t 0), none, .write, 0⟩, ⟨(some 5), .len 0 (.t 4), none, .write, 0⟩, ⟨(some 6), .move (.c (.int .i64 0)), none, .write, 0⟩])
 (.block 0 (.loop (.seq (.region [⟨(some 7), .arith .lss (.t 6) (.t 5), none, .write, 0⟩])
 (.seq (.cond (.t 7) .skip (.exit 0))
 (.seq (.block 1 (.seq (.region [⟨(some 8), .move (.t 6), none, .write, 0⟩, ⟨(some 3), .move (.t 8), none, .write, 0⟩])
 (.seq (.region [⟨(some 9), .move (.t 0), none, .write, 0⟩, ⟨(some 10), .move (.t 3), none, .write, 0⟩, ⟨(some 11), .indexStr (.t 9) (.t 10), none, .write, 0⟩, ⟨(some 12), .arith .lss (.t 11) (.c (.int .u8 97)), none, .write, 0⟩, ⟨(some 13), .move (.t 12), none, .write, 0⟩, ⟨(some 14), .move (.t 0), (some (13, false)), .write, 0⟩, ⟨(some 15), .move (.t 3), (some (13, false)), .write, 0⟩, ⟨(some 16), .indexStr (.t 14) (.t 15), (some (13, false)), .write, 0⟩, ⟨(some 17), .arith .gtr (.t 16) (.c (.int .u8 122)), (some (13, false)), .write, 0⟩, ⟨(some 18), .pick (.t 13) (.c (.bool true)) (.t 17), none, .write, 0⟩])
 (.cond (.t 18) (.seq (.region [⟨(some 2), .move (.c (.bool false)), none, .write, 0⟩])
 .ret) .skip))))
 (.region [⟨(some 19), .arith .add (.t 6) (.c (.int .i64 1)), none, .write, 0⟩, ⟨(some 6), .move (.t 19), none, .write, 0⟩])))))))
 (.seq (.region [⟨(some 20), .move (.t 0), none, .write, 0⟩, ⟨(some 21), .arith .neq (.t 20) (.c (.str [])), none, .write, 0⟩, ⟨(some 22), .move (.t 21), none, .write, 0⟩, ⟨(some 23), .move (.t 0), (some (22, true)), .write, 0⟩, ⟨(some 24), .len 0 (.t 23), (some (22, true)), .write, 0⟩, ⟨(some 25), .arith .leq (.t 24) (.c (.int .i64 12)), (some (22, true)), .write, 0⟩, ⟨(some 26), .pick (.t 22) (.t 25) (.c (.bool false)), none, .write, 0⟩, ⟨(some 2), .move (.t 26), none, .write, 0⟩])
 .ret))) }

theorem c90 : compFunc Try.prog Try.f90 .full = some t90 := by kernel_rfl

/-- internal/bytealg.CompareString -/
def t91 : DFunc := { ntmps := 8, results := [(.t 4)], mode := .full, body :=
 (.seq (.region [⟨(some 4), .move (.c (.int .i64 0)), none, .write, 0⟩])
 (.seq (.region [⟨(some 5), .move (.t 0), none, .write, 0⟩, ⟨(some 6), .move (.t 1), none, .write, 0⟩, ⟨(some 7), .call (.c (.func 97 [])) [(.t 5), (.t 6)], none, .write, 0⟩, ⟨(some 4), .move (.t 7), none, .write, 0⟩])
 .ret)) }

theorem c91 : compFunc Try.prog Try.f91 .full = some t91 := by kernel_rfl

/-- broadside/pred.Holds -/
def t92 : DFunc := { ntmps := 48, results := [(.t 4)], mode := .full, body :=
 (.seq (.region [⟨(some 2), .box 123 5 (.t 0), none, .write, 0⟩, ⟨(some 3), .box 134 3 (.t 1), none, .write, 0⟩, ⟨(some 4), .move (.c (.bool false)), none, .write, 0⟩])
 (.seq (.seq (.region [⟨(some 5), .fieldAddr 1 (.t 2), none, .write, 0⟩, ⟨(some 6), .load none (.t 5), none, .write, 0⟩])
 (.block 0 (.seq (.region [⟨(some 8), .arith .eql (.t 6) (.c (.int .i64 1)), none, .write, 0⟩, ⟨(some 7), .move (.t 8), none, .write, 0⟩])
 (.cond (.t 7) (.seq (.region [⟨(some 9), .fieldAddr 0 (.t 3), none, .write, 0⟩, ⟨(some 10), .load none (.t 9), none, .write, 0⟩, ⟨(some 11), .un .not (.t 10), none, .write, 0⟩, ⟨(some 12), .move (.t 11), none, .write, 0⟩, ⟨(some 13), .fieldAddr 2 (.t 2), (some (12, true)), .write, 0⟩, ⟨(some 14), .load none (.t 13), (some (12, true)), .write, 0⟩, ⟨(some 15), .fieldAddr 1 (.t 3), (some (12, true)), .write, 0⟩, ⟨(some 16), .load none (.t 15), (some (12, true)), .write, 0⟩, ⟨(some 17), .arith .leq (.t 14) (.t 16), (some (12, true)), .write, 0⟩, ⟨(some 18), .pick (.t 12) (.t 17) (.c (.bool false)), none, .write, 0⟩, ⟨(some 19), .move (.t 18), none, .write, 0⟩, ⟨(some 20), .fieldAddr 1 (.t 3), (some (19, true)), .write, 0⟩, ⟨(some 21), .load none (.t 20), (some (19, true)), .write, 0⟩, ⟨(some 22), .fieldAddr 3 (.t 2), (some (19, true)), .write, 0⟩, ⟨(some 23), .load none (.t 22), (some (19, true)), .write, 0⟩, ⟨(some 24), .arith .leq (.t 21) (.t 23), (some (19, true)), .write, 0⟩, ⟨(some 25), .pick (.t 19) (.t 24) (.c (.bool false)), none, .write, 0⟩, ⟨(some 4), .move (.t 25), none, .write, 0⟩])
 .ret) (.seq (.region [⟨(some 27), .arith .eql (.t 6) (.c (.int .i64 2)), none, .write, 0⟩, ⟨(some 26), .move (.t 27), none, .write, 0⟩])
 (.cond (.t 26) (.seq (.region [⟨(some 28), .fieldAddr 0 (.t 3), none, .write, 0⟩, ⟨(some 29), .load none (.t 28), none, .write, 0⟩, ⟨(some 30), .move (.t 29), none, .write, 0⟩, ⟨(some 31), .fieldAddr 2 (.t 3), (some (30, true)), .write, 0⟩, ⟨(some 32), .load none (.t 31), (some (30, true)), .write, 0⟩, ⟨(some 33), .fieldAddr 4 (.t 2), (some (30, true)), .write, 0⟩, ⟨(some 34), .load none (.t 33), (some (30, true)), .write, 0⟩, ⟨(some 35), .arith .eql (.t 32) (.t 34), (some (30, true)), .write, 0⟩, ⟨(some 36), .pick (.t 30) (.t 35) (.c (.bool false)), none, .write, 0⟩, ⟨(some 4), .move (.t 36), none, .write, 0⟩])
 .ret) (.seq (.region [⟨(some 38), .arith .eql (.t 6) (.c (.int .i64 3)), none, .write, 0⟩, ⟨(some 37), .move (.t 38), none, .write, 0⟩])
 (.cond (.t 37) (.seq (.region [⟨(some 39), .fieldAddr 0 (.t 3), none, .write, 0⟩, ⟨(some 40), .load none (.t 39), none, .write, 0⟩, ⟨(some 41), .move (.t 40), none, .write, 0⟩, ⟨(some 42), .fieldAddr 2 (.t 3), (some (41, true)), .write, 0⟩, ⟨(some 43), .load none (.t 42), (some (41, true)), .write, 0⟩, ⟨(some 44), .fieldAddr 4 (.t 2), (some (41, true)), .write, 0⟩, ⟨(some 45), .load none (.t 44), (some (41, true)), .write, 0⟩, ⟨(some 46), .call (.c (.func 95 [])) [(.t 43), (.t 45)], (some (41, true)), .write, 0⟩, ⟨(some 47), .pick (.t 41) (.t 46) (.c (.bool false)), none, .write, 0⟩, ⟨(some 4), .move (.t 47), none, .write, 0⟩])
 .ret) .skip))))))))
 (.seq (.region [⟨(some 4), .move (.c (.bool false)), none, .write, 0⟩])
 .ret))) }

theorem c92 : compFunc Try.prog Try.f92 .full = some t92 := by kernel_rfl

/-- slices.rotateRight[broadside/api.Constraint] -/
def t94 : DFunc := { ntmps := 10, results := [], mode := .full, body :=
 (.region [⟨(some 4), .move (.t 0), none, .write, 0⟩, ⟨(some 5), .move (.t 0), none, .write, 0⟩, ⟨(some 6), .len 1 (.t 5), none, .write, 0⟩, ⟨(some 7), .move (.t 1), none, .write, 0⟩, ⟨(some 8), .arith .sub (.t 6) (.t 7), none, .write, 0⟩, ⟨(some 9), .call (.c (.func 98 [])) [(.t 4), (.t 8)], none, .write, 0⟩]) }

theorem c94 : compFunc Try.prog Try.f94 .full = some t94 := by kernel_rfl

/-- strings.HasPrefix -/
def t95 : DFunc := { ntmps := 8, results := [(.t 4)], mode := .full, body :=
 (.seq (.region [⟨(some 4), .move (.c (.bool false)), none, .write, 0⟩])
 (.seq (.region [⟨(some 5), .move (.t 0), none, .write, 0⟩, ⟨(some 6), .move (.t 1), none, .write, 0⟩, ⟨(some 7), .call (.c (.func 99 [])) [(.t 5), (.t 6)], none, .write, 0⟩, ⟨(some 4), .move (.t 7), none, .write, 0⟩])
 .ret)) }

theorem c95 : compFunc Try.prog Try.f95 .full = some t95 := by kernel_rfl

end Go.Dm.TabF
