/-
The table of functions, brought into the machine's form (TabF, part 7). Written by program (wip/tools/table.lean.txt).
-/
import Derived.Test.YtdacnhfdcejahaaDm32
import Derived.Test.YtdacnhfdcejahaaRows
import Derived.KernelRfl
namespace Go.Dm.TabF
open Go.Proofs

/-- slices.Reverse[[]broadside/api.Entry,broadside/api.Entry] -/
def t96 : DFunc := { ntmps := 28, results := [], mode := .full, body :=
 (.seq (.region [⟨(some 4), .move (.t 0), none, .write, 0⟩, ⟨(some 5), .len 1 (.t 4), none, .write, 0⟩, ⟨(some 6), .arith .sub (.t 5) (.c (.int .i64 1)), none, .write, 0⟩, ⟨(some 2), .move (.c (.int .i64 0)), none, .write, 0⟩, ⟨(some 3), .move (.t 6), none, .write, 0⟩])
 (.block 0 (.loop (.seq (.seq (.region [⟨(some 7), .move (.t 2), none, .write, 0⟩, ⟨(some 8), .move (.t 3), none, .write, 0⟩, ⟨(some 9), .arith .lss (.t 7) (.t 8), none, .write, 0⟩])
 (.cond (.t 9) .skip (.exit 0)))
 (.seq (.block 1 (.draw [⟨(some 18), .move (.t 0), none, .read, 0⟩, ⟨(some 19), .move (.t 3), none, .read, 0⟩, ⟨(some 20), .indexAddr 7 (.t 18) (.t 19), none, .read, 0⟩, ⟨(some 21), .load (some 7) (.t 20), none, .read, 0⟩, ⟨(some 22), .move (.t 0), none, .read, 0⟩, ⟨(some 23), .move (.t 2), none, .read, 0⟩, ⟨(some 24), .indexAddr 7 (.t 22) (.t 23), none, .read, 0⟩, ⟨(some 25), .load (some 7) (.t 24), none, .read, 0⟩, ⟨(some 14), .move (.t 0), none, .read, 0⟩, ⟨(some 15), .move (.t 2), none, .read, 0⟩, ⟨(some 26), .indexAddr 7 (.t 14) (.t 15), none, .read, 0⟩, ⟨none, .store 7 (.t 26) (.t 21), none, .write, 0⟩, ⟨(some 16), .move (.t 0), none, .read, 0⟩, ⟨(some 17), .move (.t 3), none, .read, 0⟩, ⟨(some 27), .indexAddr 7 (.t 16) (.t 17), none, .read, 1⟩, ⟨none, .store 7 (.t 27) (.t 25), none, .write, 1⟩]))
 (.region [⟨(some 10), .move (.t 2), none, .write, 0⟩, ⟨(some 11), .arith .add (.t 10) (.c (.int .i64 1)), none, .write, 0⟩, ⟨(some 12), .move (.t 3), none, .write, 0⟩, ⟨(some 13), .arith .sub (.t 12) (.c (.int .i64 1)), none, .write, 0⟩, ⟨(some 2), .move (.t 11), none, .write, 0⟩, ⟨(some 3), .move (.t 13), none, .write, 0⟩])))))) }

theorem c96 : compFunc Try.prog Try.f96 .full = some t96 := by kernel_rfl

/-- slices.rotateLeft[broadside/api.Constraint] -/
def t98 : DFunc := { ntmps := 14, results := [], mode := .full, body :=
 (.seq (.region [⟨(some 4), .move (.t 0), none, .write, 0⟩, ⟨(some 5), .move (.t 1), none, .write, 0⟩, ⟨(some 6), .sliceSl 5 (.t 4) none (some (.t 5)), none, .write, 0⟩, ⟨(some 7), .call (.c (.func 100 [])) [(.t 6)], none, .write, 0⟩])
 (.seq (.region [⟨(some 8), .move (.t 0), none, .write, 0⟩, ⟨(some 9), .move (.t 1), none, .write, 0⟩, ⟨(some 10), .sliceSl 5 (.t 8) (some (.t 9)) none, none, .write, 0⟩, ⟨(some 11), .call (.c (.func 100 [])) [(.t 10)], none, .write, 0⟩])
 (.region [⟨(some 12), .move (.t 0), none, .write, 0⟩, ⟨(some 13), .call (.c (.func 100 [])) [(.t 12)], none, .write, 0⟩]))) }

theorem c98 : compFunc Try.prog Try.f98 .full = some t98 := by kernel_rfl

/-- internal/stringslite.HasPrefix -/
def t99 : DFunc := { ntmps := 18, results := [(.t 4)], mode := .full, body :=
 (.seq (.region [⟨(some 4), .move (.c (.bool false)), none, .write, 0⟩])
 (.seq (.region [⟨(some 5), .move (.t 0), none, .write, 0⟩, ⟨(some 6), .len 0 (.t 5), none, .write, 0⟩, ⟨(some 7), .move (.t 1), none, .write, 0⟩, ⟨(some 8), .len 0 (.t 7), none, .write, 0⟩, ⟨(some 9), .arith .geq (.t 6) (.t 8), none, .write, 0⟩, ⟨(some 10), .move (.t 9), none, .write, 0⟩, ⟨(some 11), .move (.t 0), (some (10, true)), .write, 0⟩, ⟨(some 12), .move (.t 1), (some (10, true)), .write, 0⟩, ⟨(some 13), .len 0 (.t 12), (some (10, true)), .write, 0⟩, ⟨(some 14), .sliceStr (.t 11) none (some (.t 13)), (some (10, true)), .write, 0⟩, ⟨(some 15), .move (.t 1), (some (10, true)), .write, 0⟩, ⟨(some 16), .arith .eql (.t 14) (.t 15), (some (10, true)), .write, 0⟩, ⟨(some 17), .pick (.t 10) (.t 16) (.c (.bool false)), none, .write, 0⟩, ⟨(some 4), .move (.t 17), none, .write, 0⟩])
 .ret)) }

theorem c99 : compFunc Try.prog Try.f99 .full = some t99 := by kernel_rfl

/-- slices.Reverse[[]broadside/api.Constraint,broadside/api.Constraint] -/
def t100 : DFunc := { ntmps := 28, results := [], mode := .full, body :=
 (.seq (.region [⟨(some 4), .move (.t 0), none, .write, 0⟩, ⟨(some 5), .len 1 (.t 4), none, .write, 0⟩, ⟨(some 6), .arith .sub (.t 5) (.c (.int .i64 1)), none, .write, 0⟩, ⟨(some 2), .move (.c (.int .i64 0)), none, .write, 0⟩, ⟨(some 3), .move (.t 6), none, .write, 0⟩])
 (.block 0 (.loop (.seq (.seq (.region [⟨(some 7), .move (.t 2), none, .write, 0⟩, ⟨(some 8), .move (.t 3), none, .write, 0⟩, ⟨(some 9), .arith .lss (.t 7) (.t 8), none, .write, 0⟩])
 (.cond (.t 9) .skip (.exit 0)))
 (.seq (.block 1 (.draw [⟨(some 18), .move (.t 0), none, .read, 0⟩, ⟨(some 19), .move (.t 3), none, .read, 0⟩, ⟨(some 20), .indexAddr 5 (.t 18) (.t 19), none, .read, 0⟩, ⟨(some 21), .load (some 5) (.t 20), none, .read, 0⟩, ⟨(some 22), .move (.t 0), none, .read, 0⟩, ⟨(some 23), .move (.t 2), none, .read, 0⟩, ⟨(some 24), .indexAddr 5 (.t 22) (.t 23), none, .read, 0⟩, ⟨(some 25), .load (some 5) (.t 24), none, .read, 0⟩, ⟨(some 14), .move (.t 0), none, .read, 0⟩, ⟨(some 15), .move (.t 2), none, .read, 0⟩, ⟨(some 26), .indexAddr 5 (.t 14) (.t 15), none, .read, 0⟩, ⟨none, .store 5 (.t 26) (.t 21), none, .write, 0⟩, ⟨(some 16), .move (.t 0), none, .read, 0⟩, ⟨(some 17), .move (.t 3), none, .read, 0⟩, ⟨(some 27), .indexAddr 5 (.t 16) (.t 17), none, .read, 1⟩, ⟨none, .store 5 (.t 27) (.t 25), none, .write, 1⟩]))
 (.region [⟨(some 10), .move (.t 2), none, .write, 0⟩, ⟨(some 11), .arith .add (.t 10) (.c (.int .i64 1)), none, .write, 0⟩, ⟨(some 12), .move (.t 3), none, .write, 0⟩, ⟨(some 13), .arith .sub (.t 12) (.c (.int .i64 1)), none, .write, 0⟩, ⟨(some 2), .move (.t 11), none, .write, 0⟩, ⟨(some 3), .move (.t 13), none, .write, 0⟩])))))) }

theorem c100 : compFunc Try.prog Try.f100 .full = some t100 := by kernel_rfl

end Go.Dm.TabF
