/-
The table of functions, brought into the machine's form (TabF, part 4). Written by program (wip/tools/table.lean.txt).
-/
import Derived.Test.YtdacnhfdcejahaaDm32
import Derived.Test.YtdacnhfdcejahaaRows
import Derived.KernelRfl
namespace Go.Dm.TabF
open Go.Proofs

/-- broadside/adverts.Less -/
def t58 : DFunc := { ntmps := 9, results := [(.t 4)], mode := .full, body :=
 (.seq (.region [⟨(some 2), .box 31 2 (.t 0), none, .write, 0⟩, ⟨(some 3), .box 31 2 (.t 1), none, .write, 0⟩, ⟨(some 4), .move (.c (.bool false)), none, .write, 0⟩])
 (.seq (.region [⟨(some 5), .load (some 2) (.t 2), none, .write, 0⟩, ⟨(some 6), .load (some 2) (.t 3), none, .write, 0⟩, ⟨(some 7), .call (.c (.func 47 [])) [(.t 5), (.t 6)], none, .write, 0⟩, ⟨(some 8), .arith .lss (.t 7) (.c (.int .i64 0)), none, .write, 0⟩, ⟨(some 4), .move (.t 8), none, .write, 0⟩])
 .ret)) }

theorem c58 : compFunc Try.prog Try.f58 .full = some t58 := by kernel_rfl

/-- slices.ContainsFunc[[]broadside/api.Entry,broadside/api.Entry] -/
def t59 : DFunc := { ntmps := 9, results := [(.t 4)], mode := .full, body :=
 (.seq (.region [⟨(some 4), .move (.c (.bool false)), none, .write, 0⟩])
 (.seq (.region [⟨(some 5), .move (.t 0), none, .write, 0⟩, ⟨(some 6), .move (.t 1), none, .write, 0⟩, ⟨(some 7), .call (.c (.func 65 [])) [(.t 5), (.t 6)], none, .write, 0⟩, ⟨(some 8), .arith .geq (.t 7) (.c (.int .i64 0)), none, .write, 0⟩, ⟨(some 4), .move (.t 8), none, .write, 0⟩])
 .ret)) }

theorem c59 : compFunc Try.prog Try.f59 .full = some t59 := by kernel_rfl

/-- broadside/subs.Of -/
def t60 : DFunc := { ntmps := 25, results := [(.t 4)], mode := .full, body :=
 (.seq (.region [⟨(some 2), .box 28 6 (.t 0), none, .write, 0⟩, ⟨(some 3), .box 31 2 (.t 1), none, .write, 0⟩, ⟨(some 4), .move (.c .nsl), none, .write, 0⟩])
 (.seq (.region [⟨(some 5), .move (.c .nsl), none, .write, 0⟩])
 (.seq (.seq (.region [⟨(some 8), .fieldAddr 4 (.t 2), none, .write, 0⟩, ⟨(some 9), .load none (.t 8), none, .write, 0⟩, ⟨(some 10), .len 1 (.t 9), none, .write, 0⟩, ⟨(some 11), .move (.c (.int .i64 0)), none, .write, 0⟩])
 (.block 0 (.loop (.seq (.region [⟨(some 12), .arith .lss (.t 11) (.t 10), none, .write, 0⟩])
 (.seq (.cond (.t 12) .skip (.exit 0))
 (.seq (.block 1 (.seq (.region [⟨(some 13), .indexAddr 7 (.t 9) (.t 11), none, .write, 0⟩, ⟨(some 14), .load (some 7) (.t 13), none, .write, 0⟩, ⟨(some 7), .alloc 54 7 (.agg [(.int .i64 0), (.int .i64 0), (.int .i64 0), (.int .i64 0), .nsl, (.int .i64 0), (.bool false)]), none, .write, 0⟩, ⟨none, .store 7 (.t 7) (.t 14), none, .write, 0⟩])
 (.seq (.region [⟨(some 15), .fieldAddr 0 (.t 7), none, .write, 0⟩, ⟨(some 16), .load (some 2) (.t 15), none, .write, 0⟩, ⟨(some 17), .load (some 2) (.t 3), none, .write, 0⟩, ⟨(some 18), .eqa false [1, 1] (.t 16) (.t 17), none, .write, 0⟩])
 (.cond (.t 18) (.region [⟨(some 19), .move (.t 5), none, .write, 0⟩, ⟨(some 20), .load (some 7) (.t 7), none, .write, 0⟩, ⟨(some 21), .buildSlice 54 7 (.agg [(.int .i64 0), (.int .i64 0), (.int .i64 0), (.int .i64 0), .nsl, (.int .i64 0), (.bool false)]) 1 [(0, (.t 20))], none, .write, 0⟩, ⟨(some 22), .append 54 7 72 (.t 19) (.t 21), none, .write, 0⟩, ⟨(some 5), .move (.t 22), none, .write, 0⟩]) .skip))))
 (.region [⟨(some 23), .arith .add (.t 11) (.c (.int .i64 1)), none, .write, 0⟩, ⟨(some 11), .move (.t 23), none, .write, 0⟩])))))))
 (.seq (.region [⟨(some 24), .move (.t 5), none, .write, 0⟩, ⟨(some 4), .move (.t 24), none, .write, 0⟩])
 .ret)))) }

theorem c60 : compFunc Try.prog Try.f60 .full = some t60 := by kernel_rfl

/-- broadside/subs.Covered$1 -/
def t61 : DFunc := { ntmps := 12, results := [(.t 3)], mode := .full, body :=
 (.seq (.region [⟨(some 2), .box 54 7 (.t 0), none, .write, 0⟩, ⟨(some 3), .move (.c (.bool false)), none, .write, 0⟩])
 (.seq (.region [⟨(some 4), .fieldAddr 6 (.t 2), none, .write, 0⟩, ⟨(some 5), .load none (.t 4), none, .write, 0⟩, ⟨(some 6), .move (.t 5), none, .write, 0⟩, ⟨(some 7), .fieldAddr 4 (.t 2), (some (6, true)), .write, 0⟩, ⟨(some 8), .load none (.t 7), (some (6, true)), .write, 0⟩, ⟨(some 9), .load none (.t 1), (some (6, true)), .write, 0⟩, ⟨(some 10), .call (.c (.func 62 [])) [(.t 8), (.t 9)], (some (6, true)), .write, 0⟩, ⟨(some 11), .pick (.t 6) (.t 10) (.c (.bool false)), none, .write, 0⟩, ⟨(some 3), .move (.t 11), none, .write, 0⟩])
 .ret)) }

theorem c61 : compFunc Try.prog Try.f61 .full = some t61 := by kernel_rfl

/-- broadside/rel.Covers -/
def t62 : DFunc := { ntmps := 46, results := [(.t 4)], mode := .full, body :=
 (.seq (.region [⟨(some 4), .move (.c (.bool false)), none, .write, 0⟩])
 (.seq (.region [⟨(some 12), .makeMap, none, .write, 0⟩, ⟨(some 5), .move (.t 12), none, .write, 0⟩])
 (.seq (.seq (.region [⟨(some 13), .move (.t 1), none, .write, 0⟩, ⟨(some 14), .len 1 (.t 13), none, .write, 0⟩, ⟨(some 15), .move (.c (.int .i64 0)), none, .write, 0⟩])
 (.block 0 (.loop (.seq (.region [⟨(some 16), .arith .lss (.t 15) (.t 14), none, .write, 0⟩])
 (.seq (.cond (.t 16) .skip (.exit 0))
 (.seq (.block 1 (.seq (.region [⟨(some 17), .indexAddr 5 (.t 13) (.t 15), none, .write, 0⟩, ⟨(some 18), .load (some 5) (.t 17), none, .write, 0⟩, ⟨(some 7), .alloc 123 5 (.agg [(.str []), (.int .i64 0), (.int .i64 0), (.int .i64 0), (.str [])]), none, .write, 0⟩, ⟨none, .store 5 (.t 7) (.t 18), none, .write, 0⟩])
 (.region [⟨(some 19), .move (.t 5), none, .write, 0⟩, ⟨(some 20), .fieldAddr 0 (.t 7), none, .write, 0⟩, ⟨(some 21), .load none (.t 20), none, .write, 0⟩, ⟨(some 22), .load (some 5) (.t 7), none, .write, 0⟩, ⟨none, .mapUpdate (.prim 2) (.t 19) (.t 21) (.t 22), none, .write, 0⟩])))
 (.region [⟨(some 23), .arith .add (.t 15) (.c (.int .i64 1)), none, .write, 0⟩, ⟨(some 15), .move (.t 23), none, .write, 0⟩])))))))
 (.seq (.seq (.region [⟨(some 24), .move (.t 0), none, .write, 0⟩, ⟨(some 25), .len 1 (.t 24), none, .write, 0⟩, ⟨(some 26), .move (.c (.int .i64 0)), none, .write, 0⟩])
 (.block 2 (.loop (.seq (.region [⟨(some 27), .arith .lss (.t 26) (.t 25), none, .write, 0⟩])
 (.seq (.cond (.t 27) .skip (.exit 2))
 (.seq (.block 3 (.seq (.region [⟨(some 28), .indexAddr 5 (.t 24) (.t 26), none, .write, 0⟩, ⟨(some 29), .load (some 5) (.t 28), none, .write, 0⟩, ⟨(some 9), .alloc 123 5 (.agg [(.str []), (.int .i64 0), (.int .i64 0), (.int .i64 0), (.str [])]), none, .write, 0⟩, ⟨none, .store 5 (.t 9) (.t 29), none, .write, 0⟩])
 (.seq (.region [⟨(some 31), .move (.t 5), none, .write, 0⟩, ⟨(some 32), .fieldAddr 0 (.t 9), none, .write, 0⟩, ⟨(some 33), .load none (.t 32), none, .write, 0⟩, ⟨(some 34), .lookup (.prim 2) (.agg [(.str []), (.int .i64 0), (.int .i64 0), (.int .i64 0), (.str [])]) true (.t 31) (.t 33), none, .write, 0⟩, ⟨(some 30), .move (.t 34), none, .write, 0⟩, ⟨(some 35), .extract (.t 30) 0, none, .write, 0⟩, ⟨(some 36), .extract (.t 30) 1, none, .write, 0⟩, ⟨(some 10), .alloc 123 5 (.agg [(.str []), (.int .i64 0), (.int .i64 0), (.int .i64 0), (.str [])]), none, .write, 0⟩, ⟨none, .store 5 (.t 10) (.t 35), none, .write, 0⟩, ⟨(some 11), .move (.t 36), none, .write, 0⟩])
 (.seq (.region [⟨(some 37), .move (.t 11), none, .write, 0⟩, ⟨(some 38), .un .not (.t 37), none, .write, 0⟩, ⟨(some 39), .move (.t 38), none, .write, 0⟩, ⟨(some 40), .load (some 5) (.t 9), (some (39, false)), .write, 0⟩, ⟨(some 41), .load (some 5) (.t 10), (some (39, false)), .write, 0⟩, ⟨(some 42), .call (.c (.func 85 [])) [(.t 40), (.t 41)], (some (39, false)), .write, 0⟩, ⟨(some 43), .un .not (.t 42), (some (39, false)), .write, 0⟩, ⟨(some 44), .pick (.t 39) (.c (.bool true)) (.t 43), none, .write, 0⟩])
 (.cond (.t 44) (.seq (.region [⟨(some 4), .move (.c (.bool false)), none, .write, 0⟩])
 .ret) .skip)))))
 (.region [⟨(some 45), .arith .add (.t 26) (.c (.int .i64 1)), none, .write, 0⟩, ⟨(some 26), .move (.t 45), none, .write, 0⟩])))))))
 (.seq (.region [⟨(some 4), .move (.c (.bool true)), none, .write, 0⟩])
 .ret))))) }

theorem c62 : compFunc Try.prog Try.f62 .full = some t62 := by kernel_rfl

/-- slices.rotateRight[broadside/api.Entry] -/
def t64 : DFunc := { ntmps := 10, results := [], mode := .full, body :=
 (.region [⟨(some 4), .move (.t 0), none, .write, 0⟩, ⟨(some 5), .move (.t 0), none, .write, 0⟩, ⟨(some 6), .len 1 (.t 5), none, .write, 0⟩, ⟨(some 7), .move (.t 1), none, .write, 0⟩, ⟨(some 8), .arith .sub (.t 6) (.t 7), none, .write, 0⟩, ⟨(some 9), .call (.c (.func 86 [])) [(.t 4), (.t 8)], none, .write, 0⟩]) }

theorem c64 : compFunc Try.prog Try.f64 .full = some t64 := by kernel_rfl

/-- slices.IndexFunc[[]broadside/api.Entry,broadside/api.Entry] -/
def t65 : DFunc := { ntmps := 19, results := [(.t 4)], mode := .full, body :=
 (.seq (.region [⟨(some 4), .move (.c (.int .i64 0)), none, .write, 0⟩])
 (.seq (.seq (.region [⟨(some 6), .move (.t 0), none, .write, 0⟩, ⟨(some 7), .len 1 (.t 6), none, .write, 0⟩, ⟨(some 8), .move (.c (.int .i64 0)), none, .write, 0⟩])
 (.block 0 (.loop (.seq (.region [⟨(some 9), .arith .lss (.t 8) (.t 7), none, .write, 0⟩])
 (.seq (.cond (.t 9) .skip (.exit 0))
 (.seq (.block 1 (.seq (.region [⟨(some 10), .move (.t 8), none, .write, 0⟩, ⟨(some 5), .move (.t 10), none, .write, 0⟩])
 (.seq (.region [⟨(some 11), .move (.t 1), none, .write, 0⟩, ⟨(some 12), .move (.t 0), none, .write, 0⟩, ⟨(some 13), .move (.t 5), none, .write, 0⟩, ⟨(some 14), .indexAddr 7 (.t 12) (.t 13), none, .write, 0⟩, ⟨(some 15), .load (some 7) (.t 14), none, .write, 0⟩, ⟨(some 16), .call (.t 11) [(.t 15)], none, .write, 0⟩])
 (.cond (.t 16) (.seq (.region [⟨(some 17), .move (.t 5), none, .write, 0⟩, ⟨(some 4), .move (.t 17), none, .write, 0⟩])
 .ret) .skip))))
 (.region [⟨(some 18), .arith .add (.t 8) (.c (.int .i64 1)), none, .write, 0⟩, ⟨(some 8), .move (.t 18), none, .write, 0⟩])))))))
 (.seq (.region [⟨(some 4), .move (.c (.int .i64 (-1))), none, .write, 0⟩])
 .ret))) }

theorem c65 : compFunc Try.prog Try.f65 .full = some t65 := by kernel_rfl

/-- slices.siftDownOrdered[int] -/
def t66 : DFunc := { ntmps := 76, results := [], mode := .full, body :=
 (.seq (.region [⟨(some 10), .move (.t 1), none, .write, 0⟩, ⟨(some 8), .move (.t 10), none, .write, 0⟩])
 (.block 0 (.loop (.block 1 (.seq (.region [⟨(some 11), .move (.t 8), none, .write, 0⟩, ⟨(some 12), .arith .mul (.c (.int .i64 2)) (.t 11), none, .write, 0⟩, ⟨(some 13), .arith .add (.t 12) (.c (.int .i64 1)), none, .write, 0⟩, ⟨(some 9), .move (.t 13), none, .write, 0⟩])
 (.seq (.seq (.region [⟨(some 14), .move (.t 9), none, .write, 0⟩, ⟨(some 15), .move (.t 2), none, .write, 0⟩, ⟨(some 16), .arith .geq (.t 14) (.t 15), none, .write, 0⟩])
 (.cond (.t 16) (.exit 0) .skip))
 (.seq (.seq (.draw [⟨(some 17), .move (.t 9), none, .read, 0⟩, ⟨(some 18), .arith .add (.t 17) (.c (.int .i64 1)), none, .read, 0⟩, ⟨(some 19), .move (.t 2), none, .read, 0⟩, ⟨(some 20), .arith .lss (.t 18) (.t 19), none, .read, 0⟩, ⟨(some 21), .move (.t 20), none, .read, 0⟩, ⟨(some 22), .move (.t 0), (some (21, true)), .read, 0⟩, ⟨(some 23), .move (.t 3), (some (21, true)), .read, 0⟩, ⟨(some 24), .move (.t 9), (some (21, true)), .read, 0⟩, ⟨(some 25), .arith .add (.t 23) (.t 24), (some (21, true)), .read, 0⟩, ⟨(some 26), .indexAddr 1 (.t 22) (.t 25), (some (21, true)), .read, 0⟩, ⟨(some 27), .load none (.t 26), (some (21, true)), .read, 0⟩, ⟨(some 28), .move (.t 0), (some (21, true)), .read, 0⟩, ⟨(some 29), .move (.t 3), (some (21, true)), .read, 0⟩, ⟨(some 30), .move (.t 9), (some (21, true)), .read, 0⟩, ⟨(some 31), .arith .add (.t 29) (.t 30), (some (21, true)), .read, 0⟩, ⟨(some 32), .arith .add (.t 31) (.c (.int .i64 1)), (some (21, true)), .read, 0⟩, ⟨(some 33), .indexAddr 1 (.t 28) (.t 32), (some (21, true)), .read, 0⟩, ⟨(some 34), .load none (.t 33), (some (21, true)), .read, 0⟩, ⟨(some 35), .call (.c (.func 38 [])) [(.t 27), (.t 34)], (some (21, true)), .write, 0⟩, ⟨(some 36), .pick (.t 21) (.t 35) (.c (.bool false)), none, .read, 1⟩])
 (.cond (.t 36) (.region [⟨(some 37), .move (.t 9), none, .write, 0⟩, ⟨(some 38), .arith .add (.t 37) (.c (.int .i64 1)), none, .write, 0⟩, ⟨(some 9), .move (.t 38), none, .write, 0⟩]) .skip))
 (.seq (.seq (.draw [⟨(some 39), .move (.t 0), none, .read, 0⟩, ⟨(some 40), .move (.t 3), none, .read, 0⟩, ⟨(some 41), .move (.t 8), none, .read, 0⟩, ⟨(some 42), .arith .add (.t 40) (.t 41), none, .read, 0⟩, ⟨(some 43), .indexAddr 1 (.t 39) (.t 42), none, .read, 0⟩, ⟨(some 44), .load none (.t 43), none, .read, 0⟩, ⟨(some 45), .move (.t 0), none, .read, 0⟩, ⟨(some 46), .move (.t 3), none, .read, 0⟩, ⟨(some 47), .move (.t 9), none, .read, 0⟩, ⟨(some 48), .arith .add (.t 46) (.t 47), none, .read, 0⟩, ⟨(some 49), .indexAddr 1 (.t 45) (.t 48), none, .read, 0⟩, ⟨(some 50), .load none (.t 49), none, .read, 0⟩, ⟨(some 51), .call (.c (.func 38 [])) [(.t 44), (.t 50)], none, .write, 0⟩, ⟨(some 52), .un .not (.t 51), none, .read, 1⟩])
 (.cond (.t 52) .ret .skip))
 (.seq (.draw [⟨(some 61), .move (.t 0), none, .read, 0⟩, ⟨(some 62), .move (.t 3), none, .read, 0⟩, ⟨(some 63), .move (.t 9), none, .read, 0⟩, ⟨(some 64), .arith .add (.t 62) (.t 63), none, .read, 0⟩, ⟨(some 65), .indexAddr 1 (.t 61) (.t 64), none, .read, 0⟩, ⟨(some 66), .load none (.t 65), none, .read, 0⟩, ⟨(some 67), .move (.t 0), none, .read, 0⟩, ⟨(some 68), .move (.t 3), none, .read, 0⟩, ⟨(some 69), .move (.t 8), none, .read, 0⟩, ⟨(some 70), .arith .add (.t 68) (.t 69), none, .read, 0⟩, ⟨(some 71), .indexAddr 1 (.t 67) (.t 70), none, .read, 0⟩, ⟨(some 72), .load none (.t 71), none, .read, 0⟩, ⟨(some 53), .move (.t 0), none, .read, 0⟩, ⟨(some 54), .move (.t 3), none, .read, 0⟩, ⟨(some 55), .move (.t 8), none, .read, 0⟩, ⟨(some 56), .arith .add (.t 54) (.t 55), none, .read, 0⟩, ⟨(some 73), .indexAddr 1 (.t 53) (.t 56), none, .read, 0⟩, ⟨none, .store 1 (.t 73) (.t 66), none, .write, 0⟩, ⟨(some 57), .move (.t 0), none, .read, 0⟩, ⟨(some 58), .move (.t 3), none, .read, 0⟩, ⟨(some 59), .move (.t 9), none, .read, 0⟩, ⟨(some 60), .arith .add (.t 58) (.t 59), none, .read, 0⟩, ⟨(some 74), .indexAddr 1 (.t 57) (.t 60), none, .read, 1⟩, ⟨none, .store 1 (.t 74) (.t 72), none, .write, 1⟩])
 (.region [⟨(some 75), .move (.t 9), none, .write, 0⟩, ⟨(some 8), .move (.t 75), none, .write, 0⟩])))))))))) }

theorem c66 : compFunc Try.prog Try.f66 .full = some t66 := by kernel_rfl

/-- slices.nextPowerOfTwo -/
def t67 : DFunc := { ntmps := 7, results := [(.t 2)], mode := .full, body :=
 (.seq (.region [⟨(some 2), .move (.c (.int .u64 0)), none, .write, 0⟩])
 (.seq (.region [⟨(some 3), .move (.t 0), none, .write, 0⟩, ⟨(some 4), .conv .u64 (.t 3), none, .write, 0⟩, ⟨(some 5), .call (.c (.func 17 [])) [(.t 4)], none, .write, 0⟩, ⟨(some 6), .arith .shl (.c (.int .u64 1)) (.t 5), none, .write, 0⟩, ⟨(some 2), .move (.t 6), none, .write, 0⟩])
 .ret)) }

theorem c67 : compFunc Try.prog Try.f67 .full = some t67 := by kernel_rfl

/-- (*slices.xorshift).Next -/
def t68 : DFunc := { ntmps := 33, results := [(.t 2)], mode := .full, body :=
 (.seq (.region [⟨(some 2), .move (.c (.int .u64 0)), none, .write, 0⟩])
 (.seq (.draw [⟨(some 3), .move (.t 0), none, .read, 0⟩, ⟨(some 4), .nilCheck (.t 3), none, .read, 0⟩, ⟨(some 5), .load none (.t 4), none, .read, 0⟩, ⟨(some 6), .move (.t 0), none, .read, 0⟩, ⟨(some 7), .nilCheck (.t 6), none, .read, 0⟩, ⟨(some 8), .load none (.t 7), none, .read, 0⟩, ⟨(some 9), .arith .shl (.t 8) (.c (.int .u64 13)), none, .read, 0⟩, ⟨(some 10), .arith .xor (.t 5) (.t 9), none, .read, 0⟩, ⟨(some 11), .nilCheck (.t 3), none, .read, 0⟩, ⟨none, .store 1 (.t 11) (.t 10), none, .write, 0⟩])
 (.seq (.draw [⟨(some 12), .move (.t 0), none, .read, 0⟩, ⟨(some 13), .nilCheck (.t 12), none, .read, 0⟩, ⟨(some 14), .load none (.t 13), none, .read, 0⟩, ⟨(some 15), .move (.t 0), none, .read, 0⟩, ⟨(some 16), .nilCheck (.t 15), none, .read, 0⟩, ⟨(some 17), .load none (.t 16), none, .read, 0⟩, ⟨(some 18), .arith .shr (.t 17) (.c (.int .u64 7)), none, .read, 0⟩, ⟨(some 19), .arith .xor (.t 14) (.t 18), none, .read, 0⟩, ⟨(some 20), .nilCheck (.t 12), none, .read, 0⟩, ⟨none, .store 1 (.t 20) (.t 19), none, .write, 0⟩])
 (.seq (.draw [⟨(some 21), .move (.t 0), none, .read, 0⟩, ⟨(some 22), .nilCheck (.t 21), none, .read, 0⟩, ⟨(some 23), .load none (.t 22), none, .read, 0⟩, ⟨(some 24), .move (.t 0), none, .read, 0⟩, ⟨(some 25), .nilCheck (.t 24), none, .read, 0⟩, ⟨(some 26), .load none (.t 25), none, .read, 0⟩, ⟨(some 27), .arith .shl (.t 26) (.c (.int .u64 17)), none, .read, 0⟩, ⟨(some 28), .arith .xor (.t 23) (.t 27), none, .read, 0⟩, ⟨(some 29), .nilCheck (.t 21), none, .read, 0⟩, ⟨none, .store 1 (.t 29) (.t 28), none, .write, 0⟩])
 (.seq (.region [⟨(some 30), .move (.t 0), none, .write, 0⟩, ⟨(some 31), .nilCheck (.t 30), none, .write, 0⟩, ⟨(some 32), .load none (.t 31), none, .write, 0⟩, ⟨(some 2), .move (.t 32), none, .write, 0⟩])
 .ret))))) }

theorem c68 : compFunc Try.prog Try.f68 .full = some t68 := by kernel_rfl

/-- slices.medianAdjacentOrdered[int] -/
def t69 : DFunc := { ntmps := 15, results := [(.t 6)], mode := .full, body :=
 (.seq (.region [⟨(some 6), .move (.c (.int .i64 0)), none, .write, 0⟩])
 (.seq (.region [⟨(some 7), .move (.t 0), none, .write, 0⟩, ⟨(some 8), .move (.t 1), none, .write, 0⟩, ⟨(some 9), .arith .sub (.t 8) (.c (.int .i64 1)), none, .write, 0⟩, ⟨(some 10), .move (.t 1), none, .write, 0⟩, ⟨(some 11), .move (.t 1), none, .write, 0⟩, ⟨(some 12), .arith .add (.t 11) (.c (.int .i64 1)), none, .write, 0⟩, ⟨(some 13), .move (.t 2), none, .write, 0⟩, ⟨(some 14), .call (.c (.func 70 [])) [(.t 7), (.t 9), (.t 10), (.t 12), (.t 13)], none, .write, 0⟩, ⟨(some 6), .move (.t 14), none, .write, 0⟩])
 .ret)) }

theorem c69 : compFunc Try.prog Try.f69 .full = some t69 := by kernel_rfl

/-- slices.medianOrdered[int] -/
def t70 : DFunc := { ntmps := 36, results := [(.t 10)], mode := .full, body :=
 (.seq (.region [⟨(some 10), .move (.c (.int .i64 0)), none, .write, 0⟩])
 (.seq (.region [⟨(some 12), .move (.t 0), none, .write, 0⟩, ⟨(some 13), .move (.t 1), none, .write, 0⟩, ⟨(some 14), .move (.t 2), none, .write, 0⟩, ⟨(some 15), .move (.t 4), none, .write, 0⟩, ⟨(some 16), .call (.c (.func 87 [])) [(.t 12), (.t 13), (.t 14), (.t 15)], none, .write, 0⟩, ⟨(some 11), .move (.t 16), none, .write, 0⟩, ⟨(some 17), .extract (.t 11) 0, none, .write, 0⟩, ⟨(some 18), .extract (.t 11) 1, none, .write, 0⟩, ⟨(some 1), .move (.t 17), none, .write, 0⟩, ⟨(some 2), .move (.t 18), none, .write, 0⟩])
 (.seq (.region [⟨(some 20), .move (.t 0), none, .write, 0⟩, ⟨(some 21), .move (.t 2), none, .write, 0⟩, ⟨(some 22), .move (.t 3), none, .write, 0⟩, ⟨(some 23), .move (.t 4), none, .write, 0⟩, ⟨(some 24), .call (.c (.func 87 [])) [(.t 20), (.t 21), (.t 22), (.t 23)], none, .write, 0⟩, ⟨(some 19), .move (.t 24), none, .write, 0⟩, ⟨(some 25), .extract (.t 19) 0, none, .write, 0⟩, ⟨(some 26), .extract (.t 19) 1, none, .write, 0⟩, ⟨(some 2), .move (.t 25), none, .write, 0⟩, ⟨(some 3), .move (.t 26), none, .write, 0⟩])
 (.seq (.region [⟨(some 28), .move (.t 0), none, .write, 0⟩, ⟨(some 29), .move (.t 1), none, .write, 0⟩, ⟨(some 30), .move (.t 2), none, .write, 0⟩, ⟨(some 31), .move (.t 4), none, .write, 0⟩, ⟨(some 32), .call (.c (.func 87 [])) [(.t 28), (.t 29), (.t 30), (.t 31)], none, .write, 0⟩, ⟨(some 27), .move (.t 32), none, .write, 0⟩, ⟨(some 33), .extract (.t 27) 0, none, .write, 0⟩, ⟨(some 34), .extract (.t 27) 1, none, .write, 0⟩, ⟨(some 1), .move (.t 33), none, .write, 0⟩, ⟨(some 2), .move (.t 34), none, .write, 0⟩])
 (.seq (.region [⟨(some 35), .move (.t 2), none, .write, 0⟩, ⟨(some 10), .move (.t 35), none, .write, 0⟩])
 .ret))))) }

theorem c70 : compFunc Try.prog Try.f70 .full = some t70 := by kernel_rfl

end Go.Dm.TabF
