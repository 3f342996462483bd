/-
The table of functions, brought into the machine's form (TabW, part 3). Written by program (wip/tools/table.lean.txt).
-/
import Derived.Test.YtkhmbjajaibinaaGreatDoorDm32
import Derived.Test.YtkhmbjajaibinaaGreatDoorRows
import Derived.KernelRfl
namespace Go.Dm.TabW
open Go.Proofs

/-- math/bits.Len32 -/
def t187 : DFunc := { ntmps := 19, results := [(.t 2)], mode := .full, body :=
 (.seq (.region [⟨(some 2), .move (.c (.int .i64 0)), none, .write, 0⟩])
 (.seq (.seq (.region [⟨(some 3), .move (.t 0), none, .write, 0⟩, ⟨(some 4), .arith .geq (.t 3) (.c (.int .u32 65536)), none, .write, 0⟩])
 (.cond (.t 4) (.seq (.region [⟨(some 5), .move (.t 0), none, .write, 0⟩, ⟨(some 6), .arith .shr (.t 5) (.c (.int .u64 16)), none, .write, 0⟩, ⟨(some 0), .move (.t 6), none, .write, 0⟩])
 (.region [⟨(some 2), .move (.c (.int .i64 16)), none, .write, 0⟩])) .skip))
 (.seq (.seq (.region [⟨(some 7), .move (.t 0), none, .write, 0⟩, ⟨(some 8), .arith .geq (.t 7) (.c (.int .u32 256)), none, .write, 0⟩])
 (.cond (.t 8) (.seq (.region [⟨(some 9), .move (.t 0), none, .write, 0⟩, ⟨(some 10), .arith .shr (.t 9) (.c (.int .u64 8)), none, .write, 0⟩, ⟨(some 0), .move (.t 10), none, .write, 0⟩])
 (.region [⟨(some 11), .move (.t 2), none, .write, 0⟩, ⟨(some 12), .arith .add (.t 11) (.c (.int .i64 8)), none, .write, 0⟩, ⟨(some 2), .move (.t 12), none, .write, 0⟩])) .skip))
 (.seq (.region [⟨(some 13), .move (.t 2), none, .write, 0⟩, ⟨(some 14), .move (.t 0), none, .write, 0⟩, ⟨(some 15), .conv .u8 (.t 14), none, .write, 0⟩, ⟨(some 16), .indexStr (.c (.str [0, 1, 2, 2, 3, 3, 3, 3, 4, 4, 4, 4, 4, 4, 4, 4, 5, 5, 5, 5, 5, 5, 5, 5, 5, 5, 5, 5, 5, 5, 5, 5, 6, 6, 6, 6, 6, 6, 6, 6, 6, 6, 6, 6, 6, 6, 6, 6, 6, 6, 6, 6, 6, 6, 6, 6, 6, 6, 6, 6, 6, 6, 6, 6, 7, 7, 7, 7, 7, 7, 7, 7, 7, 7, 7, 7, 7, 7, 7, 7, 7, 7, 7, 7, 7, 7, 7, 7, 7, 7, 7, 7, 7, 7, 7, 7, 7, 7, 7, 7, 7, 7, 7, 7, 7, 7, 7, 7, 7, 7, 7, 7, 7, 7, 7, 7, 7, 7, 7, 7, 7, 7, 7, 7, 7, 7, 7, 7, 8, 8, 8, 8, 8, 8, 8, 8, 8, 8, 8, 8, 8, 8, 8, 8, 8, 8, 8, 8, 8, 8, 8, 8, 8, 8, 8, 8, 8, 8, 8, 8, 8, 8, 8, 8, 8, 8, 8, 8, 8, 8, 8, 8, 8, 8, 8, 8, 8, 8, 8, 8, 8, 8, 8, 8, 8, 8, 8, 8, 8, 8, 8, 8, 8, 8, 8, 8, 8, 8, 8, 8, 8, 8, 8, 8, 8, 8, 8, 8, 8, 8, 8, 8, 8, 8, 8, 8, 8, 8, 8, 8, 8, 8, 8, 8, 8, 8, 8, 8, 8, 8, 8, 8, 8, 8, 8, 8, 8, 8, 8, 8, 8, 8, 8, 8, 8, 8, 8, 8, 8, 8, 8, 8, 8, 8, 8, 8])) (.t 15), none, .write, 0⟩, ⟨(some 17), .conv .i64 (.t 16), none, .write, 0⟩, ⟨(some 18), .arith .add (.t 13) (.t 17), none, .write, 0⟩, ⟨(some 2), .move (.t 18), none, .write, 0⟩])
 .ret)))) }

theorem c187 : compFunc Tryz.prog Tryz.f187 .full = some t187 := by kernel_rfl

/-- math/bits.Len64 -/
def t188 : DFunc := { ntmps := 25, results := [(.t 2)], mode := .full, body :=
 (.seq (.region [⟨(some 2), .move (.c (.int .i64 0)), none, .write, 0⟩])
 (.seq (.seq (.region [⟨(some 3), .move (.t 0), none, .write, 0⟩, ⟨(some 4), .arith .geq (.t 3) (.c (.int .u64 4294967296)), none, .write, 0⟩])
 (.cond (.t 4) (.seq (.region [⟨(some 5), .move (.t 0), none, .write, 0⟩, ⟨(some 6), .arith .shr (.t 5) (.c (.int .u64 32)), none, .write, 0⟩, ⟨(some 0), .move (.t 6), none, .write, 0⟩])
 (.region [⟨(some 2), .move (.c (.int .i64 32)), none, .write, 0⟩])) .skip))
 (.seq (.seq (.region [⟨(some 7), .move (.t 0), none, .write, 0⟩, ⟨(some 8), .arith .geq (.t 7) (.c (.int .u64 65536)), none, .write, 0⟩])
 (.cond (.t 8) (.seq (.region [⟨(some 9), .move (.t 0), none, .write, 0⟩, ⟨(some 10), .arith .shr (.t 9) (.c (.int .u64 16)), none, .write, 0⟩, ⟨(some 0), .move (.t 10), none, .write, 0⟩])
 (.region [⟨(some 11), .move (.t 2), none, .write, 0⟩, ⟨(some 12), .arith .add (.t 11) (.c (.int .i64 16)), none, .write, 0⟩, ⟨(some 2), .move (.t 12), none, .write, 0⟩])) .skip))
 (.seq (.seq (.region [⟨(some 13), .move (.t 0), none, .write, 0⟩, ⟨(some 14), .arith .geq (.t 13) (.c (.int .u64 256)), none, .write, 0⟩])
 (.cond (.t 14) (.seq (.region [⟨(some 15), .move (.t 0), none, .write, 0⟩, ⟨(some 16), .arith .shr (.t 15) (.c (.int .u64 8)), none, .write, 0⟩, ⟨(some 0), .move (.t 16), none, .write, 0⟩])
 (.region [⟨(some 17), .move (.t 2), none, .write, 0⟩, ⟨(some 18), .arith .add (.t 17) (.c (.int .i64 8)), none, .write, 0⟩, ⟨(some 2), .move (.t 18), none, .write, 0⟩])) .skip))
 (.seq (.region [⟨(some 19), .move (.t 2), none, .write, 0⟩, ⟨(some 20), .move (.t 0), none, .write, 0⟩, ⟨(some 21), .conv .u8 (.t 20), none, .write, 0⟩, ⟨(some 22), .indexStr (.c (.str [0, 1, 2, 2, 3, 3, 3, 3, 4, 4, 4, 4, 4, 4, 4, 4, 5, 5, 5, 5, 5, 5, 5, 5, 5, 5, 5, 5, 5, 5, 5, 5, 6, 6, 6, 6, 6, 6, 6, 6, 6, 6, 6, 6, 6, 6, 6, 6, 6, 6, 6, 6, 6, 6, 6, 6, 6, 6, 6, 6, 6, 6, 6, 6, 7, 7, 7, 7, 7, 7, 7, 7, 7, 7, 7, 7, 7, 7, 7, 7, 7, 7, 7, 7, 7, 7, 7, 7, 7, 7, 7, 7, 7, 7, 7, 7, 7, 7, 7, 7, 7, 7, 7, 7, 7, 7, 7, 7, 7, 7, 7, 7, 7, 7, 7, 7, 7, 7, 7, 7, 7, 7, 7, 7, 7, 7, 7, 7, 8, 8, 8, 8, 8, 8, 8, 8, 8, 8, 8, 8, 8, 8, 8, 8, 8, 8, 8, 8, 8, 8, 8, 8, 8, 8, 8, 8, 8, 8, 8, 8, 8, 8, 8, 8, 8, 8, 8, 8, 8, 8, 8, 8, 8, 8, 8, 8, 8, 8, 8, 8, 8, 8, 8, 8, 8, 8, 8, 8, 8, 8, 8, 8, 8, 8, 8, 8, 8, 8, 8, 8, 8, 8, 8, 8, 8, 8, 8, 8, 8, 8, 8, 8, 8, 8, 8, 8, 8, 8, 8, 8, 8, 8, 8, 8, 8, 8, 8, 8, 8, 8, 8, 8, 8, 8, 8, 8, 8, 8, 8, 8, 8, 8, 8, 8, 8, 8, 8, 8, 8, 8, 8, 8, 8, 8, 8, 8])) (.t 21), none, .write, 0⟩, ⟨(some 23), .conv .i64 (.t 22), none, .write, 0⟩, ⟨(some 24), .arith .add (.t 19) (.t 23), none, .write, 0⟩, ⟨(some 2), .move (.t 24), none, .write, 0⟩])
 .ret))))) }

theorem c188 : compFunc Tryz.prog Tryz.f188 .full = some t188 := by kernel_rfl

/-- slices.Contains[[]int,int] -/
def t190 : DFunc := { ntmps := 9, results := [(.t 4)], mode := .full, body :=
 (.seq (.region [⟨(some 4), .move (.c (.bool false)), none, .write, 0⟩])
 (.seq (.region [⟨(some 5), .move (.t 0), none, .write, 0⟩, ⟨(some 6), .move (.t 1), none, .write, 0⟩, ⟨(some 7), .call (.c (.func 252 [])) [(.t 5), (.t 6)], none, .write, 0⟩, ⟨(some 8), .arith .geq (.t 7) (.c (.int .i64 0)), none, .write, 0⟩, ⟨(some 4), .move (.t 8), none, .write, 0⟩])
 .ret)) }

theorem c190 : compFunc Tryz.prog Tryz.f190 .full = some t190 := by kernel_rfl

/-- broadside/pred.RightOne -/
def t191 : DFunc := { ntmps := 43, results := [(.t 2)], mode := .full, body :=
 (.seq (.region [⟨(some 1), .box 303 5 (.t 0), none, .write, 0⟩, ⟨(some 2), .move (.c (.bool false)), none, .write, 0⟩])
 (.seq (.seq (.region [⟨(some 3), .fieldAddr 0 (.t 1), none, .write, 0⟩, ⟨(some 4), .load none (.t 3), none, .write, 0⟩, ⟨(some 5), .call (.c (.func 253 [])) [(.t 4)], none, .write, 0⟩, ⟨(some 6), .un .not (.t 5), none, .write, 0⟩])
 (.cond (.t 6) (.seq (.region [⟨(some 2), .move (.c (.bool false)), none, .write, 0⟩])
 .ret) .skip))
 (.seq (.seq (.region [⟨(some 7), .fieldAddr 1 (.t 1), none, .write, 0⟩, ⟨(some 8), .load none (.t 7), none, .write, 0⟩])
 (.block 0 (.seq (.block 3 (.seq (.block 2 (.seq (.block 1 (.seq (.seq (.seq (.region [⟨(some 10), .arith .eql (.t 8) (.c (.int .i64 1)), none, .write, 0⟩, ⟨(some 9), .move (.t 10), none, .write, 0⟩])
 (.cond (.t 9) (.exit 1) .skip))
 (.seq (.seq (.region [⟨(some 12), .arith .eql (.t 8) (.c (.int .i64 3)), none, .write, 0⟩, ⟨(some 11), .move (.t 12), none, .write, 0⟩])
 (.cond (.t 11) (.exit 2) .skip))
 (.seq (.region [⟨(some 14), .arith .eql (.t 8) (.c (.int .i64 2)), none, .write, 0⟩, ⟨(some 13), .move (.t 14), none, .write, 0⟩])
 (.cond (.t 13) (.exit 3) .skip))))
 (.exit 0)))
 (.seq (.seq (.region [⟨(some 15), .fieldAddr 2 (.t 1), none, .write, 0⟩, ⟨(some 16), .load none (.t 15), none, .write, 0⟩, ⟨(some 17), .fieldAddr 3 (.t 1), none, .write, 0⟩, ⟨(some 18), .load none (.t 17), none, .write, 0⟩, ⟨(some 19), .arith .leq (.t 16) (.t 18), none, .write, 0⟩, ⟨(some 20), .move (.t 19), none, .write, 0⟩, ⟨(some 21), .fieldAddr 4 (.t 1), (some (20, true)), .write, 0⟩, ⟨(some 22), .load none (.t 21), (some (20, true)), .write, 0⟩, ⟨(some 23), .arith .eql (.t 22) (.c (.str [])), (some (20, true)), .write, 0⟩, ⟨(some 24), .pick (.t 20) (.t 23) (.c (.bool false)), none, .write, 0⟩, ⟨(some 2), .move (.t 24), none, .write, 0⟩])
 .ret)
 (.exit 0))))
 (.seq (.region [⟨(some 25), .fieldAddr 4 (.t 1), none, .write, 0⟩, ⟨(some 26), .load none (.t 25), none, .write, 0⟩, ⟨(some 27), .len 0 (.t 26), none, .write, 0⟩, ⟨(some 28), .arith .eql (.t 27) (.c (.int .i64 12)), none, .write, 0⟩])
 (.cond (.t 28) (.seq (.region [⟨(some 2), .move (.c (.bool false)), none, .write, 0⟩])
 .ret) .skip))))
 (.seq (.seq (.region [⟨(some 29), .fieldAddr 2 (.t 1), none, .write, 0⟩, ⟨(some 30), .load none (.t 29), none, .write, 0⟩, ⟨(some 31), .arith .eql (.t 30) (.c (.int .i64 0)), none, .write, 0⟩, ⟨(some 32), .move (.t 31), none, .write, 0⟩, ⟨(some 33), .fieldAddr 3 (.t 1), (some (32, true)), .write, 0⟩, ⟨(some 34), .load none (.t 33), (some (32, true)), .write, 0⟩, ⟨(some 35), .arith .eql (.t 34) (.c (.int .i64 0)), (some (32, true)), .write, 0⟩, ⟨(some 36), .pick (.t 32) (.t 35) (.c (.bool false)), none, .write, 0⟩, ⟨(some 37), .move (.t 36), none, .write, 0⟩, ⟨(some 38), .fieldAddr 4 (.t 1), (some (37, true)), .write, 0⟩, ⟨(some 39), .load none (.t 38), (some (37, true)), .write, 0⟩, ⟨(some 40), .len 0 (.t 39), (some (37, true)), .write, 0⟩, ⟨(some 41), .arith .leq (.t 40) (.c (.int .i64 12)), (some (37, true)), .write, 0⟩, ⟨(some 42), .pick (.t 37) (.t 41) (.c (.bool false)), none, .write, 0⟩, ⟨(some 2), .move (.t 42), none, .write, 0⟩])
 .ret)
 (.exit 0)))))
 (.seq (.region [⟨(some 2), .move (.c (.bool false)), none, .write, 0⟩])
 .ret)))) }

theorem c191 : compFunc Tryz.prog Tryz.f191 .full = some t191 := by kernel_rfl

/-- slices.IndexFunc[[]broadside/api.Entry,broadside/api.Entry] -/
def t192 : DFunc := { ntmps := 19, results := [(.t 4)], mode := .full, body :=
 (.seq (.region [⟨(some 4), .move (.c (.int .i64 0)), none, .write, 0⟩])
 (.seq (.seq (.region [⟨(some 6), .move (.t 0), none, .write, 0⟩, ⟨(some 7), .len 1 (.t 6), none, .write, 0⟩, ⟨(some 8), .move (.c (.int .i64 0)), none, .write, 0⟩])
 (.block 0 (.loop (.seq (.region [⟨(some 9), .arith .lss (.t 8) (.t 7), none, .write, 0⟩])
 (.seq (.cond (.t 9) .skip (.exit 0))
 (.seq (.block 1 (.seq (.region [⟨(some 10), .move (.t 8), none, .write, 0⟩, ⟨(some 5), .move (.t 10), none, .write, 0⟩])
 (.seq (.region [⟨(some 11), .move (.t 1), none, .write, 0⟩, ⟨(some 12), .move (.t 0), none, .write, 0⟩, ⟨(some 13), .move (.t 5), none, .write, 0⟩, ⟨(some 14), .indexAddr 7 (.t 12) (.t 13), none, .write, 0⟩, ⟨(some 15), .load (some 7) (.t 14), none, .write, 0⟩, ⟨(some 16), .call (.t 11) [(.t 15)], none, .write, 0⟩])
 (.cond (.t 16) (.seq (.region [⟨(some 17), .move (.t 5), none, .write, 0⟩, ⟨(some 4), .move (.t 17), none, .write, 0⟩])
 .ret) .skip))))
 (.region [⟨(some 18), .arith .add (.t 8) (.c (.int .i64 1)), none, .write, 0⟩, ⟨(some 8), .move (.t 18), none, .write, 0⟩])))))))
 (.seq (.region [⟨(some 4), .move (.c (.int .i64 (-1))), none, .write, 0⟩])
 .ret))) }

theorem c192 : compFunc Tryz.prog Tryz.f192 .full = some t192 := by kernel_rfl

/-- broadside/subs.Covered$1 -/
def t194 : DFunc := { ntmps := 12, results := [(.t 3)], mode := .full, body :=
 (.seq (.region [⟨(some 2), .box 192 7 (.t 0), none, .write, 0⟩, ⟨(some 3), .move (.c (.bool false)), none, .write, 0⟩])
 (.seq (.region [⟨(some 4), .fieldAddr 6 (.t 2), none, .write, 0⟩, ⟨(some 5), .load none (.t 4), none, .write, 0⟩, ⟨(some 6), .move (.t 5), none, .write, 0⟩, ⟨(some 7), .fieldAddr 4 (.t 2), (some (6, true)), .write, 0⟩, ⟨(some 8), .load none (.t 7), (some (6, true)), .write, 0⟩, ⟨(some 9), .load none (.t 1), (some (6, true)), .write, 0⟩, ⟨(some 10), .call (.c (.func 195 [])) [(.t 8), (.t 9)], (some (6, true)), .write, 0⟩, ⟨(some 11), .pick (.t 6) (.t 10) (.c (.bool false)), none, .write, 0⟩, ⟨(some 3), .move (.t 11), none, .write, 0⟩])
 .ret)) }

theorem c194 : compFunc Tryz.prog Tryz.f194 .full = some t194 := by kernel_rfl

/-- broadside/rel.Covers -/
def t195 : DFunc := { ntmps := 46, results := [(.t 4)], mode := .full, body :=
 (.seq (.region [⟨(some 4), .move (.c (.bool false)), none, .write, 0⟩])
 (.seq (.region [⟨(some 12), .makeMap, none, .write, 0⟩, ⟨(some 5), .move (.t 12), none, .write, 0⟩])
 (.seq (.seq (.region [⟨(some 13), .move (.t 1), none, .write, 0⟩, ⟨(some 14), .len 1 (.t 13), none, .write, 0⟩, ⟨(some 15), .move (.c (.int .i64 0)), none, .write, 0⟩])
 (.block 0 (.loop (.seq (.region [⟨(some 16), .arith .lss (.t 15) (.t 14), none, .write, 0⟩])
 (.seq (.cond (.t 16) .skip (.exit 0))
 (.seq (.block 1 (.seq (.region [⟨(some 17), .indexAddr 5 (.t 13) (.t 15), none, .write, 0⟩, ⟨(some 18), .load (some 5) (.t 17), none, .write, 0⟩, ⟨(some 7), .alloc 303 5 (.agg [(.str []), (.int .i64 0), (.int .i64 0), (.int .i64 0), (.str [])]), none, .write, 0⟩, ⟨none, .store 5 (.t 7) (.t 18), none, .write, 0⟩])
 (.region [⟨(some 19), .move (.t 5), none, .write, 0⟩, ⟨(some 20), .fieldAddr 0 (.t 7), none, .write, 0⟩, ⟨(some 21), .load none (.t 20), none, .write, 0⟩, ⟨(some 22), .load (some 5) (.t 7), none, .write, 0⟩, ⟨none, .mapUpdate (.prim 2) (.t 19) (.t 21) (.t 22), none, .write, 0⟩])))
 (.region [⟨(some 23), .arith .add (.t 15) (.c (.int .i64 1)), none, .write, 0⟩, ⟨(some 15), .move (.t 23), none, .write, 0⟩])))))))
 (.seq (.seq (.region [⟨(some 24), .move (.t 0), none, .write, 0⟩, ⟨(some 25), .len 1 (.t 24), none, .write, 0⟩, ⟨(some 26), .move (.c (.int .i64 0)), none, .write, 0⟩])
 (.block 2 (.loop (.seq (.region [⟨(some 27), .arith .lss (.t 26) (.t 25), none, .write, 0⟩])
 (.seq (.cond (.t 27) .skip (.exit 2))
 (.seq (.block 3 (.seq (.region [⟨(some 28), .indexAddr 5 (.t 24) (.t 26), none, .write, 0⟩, ⟨(some 29), .load (some 5) (.t 28), none, .write, 0⟩, ⟨(some 9), .alloc 303 5 (.agg [(.str []), (.int .i64 0), (.int .i64 0), (.int .i64 0), (.str [])]), none, .write, 0⟩, ⟨none, .store 5 (.t 9) (.t 29), none, .write, 0⟩])
 (.seq (.region [⟨(some 31), .move (.t 5), none, .write, 0⟩, ⟨(some 32), .fieldAddr 0 (.t 9), none, .write, 0⟩, ⟨(some 33), .load none (.t 32), none, .write, 0⟩, ⟨(some 34), .lookup (.prim 2) (.agg [(.str []), (.int .i64 0), (.int .i64 0), (.int .i64 0), (.str [])]) true (.t 31) (.t 33), none, .write, 0⟩, ⟨(some 30), .move (.t 34), none, .write, 0⟩, ⟨(some 35), .extract (.t 30) 0, none, .write, 0⟩, ⟨(some 36), .extract (.t 30) 1, none, .write, 0⟩, ⟨(some 10), .alloc 303 5 (.agg [(.str []), (.int .i64 0), (.int .i64 0), (.int .i64 0), (.str [])]), none, .write, 0⟩, ⟨none, .store 5 (.t 10) (.t 35), none, .write, 0⟩, ⟨(some 11), .move (.t 36), none, .write, 0⟩])
 (.seq (.region [⟨(some 37), .move (.t 11), none, .write, 0⟩, ⟨(some 38), .un .not (.t 37), none, .write, 0⟩, ⟨(some 39), .move (.t 38), none, .write, 0⟩, ⟨(some 40), .load (some 5) (.t 9), (some (39, false)), .write, 0⟩, ⟨(some 41), .load (some 5) (.t 10), (some (39, false)), .write, 0⟩, ⟨(some 42), .call (.c (.func 254 [])) [(.t 40), (.t 41)], (some (39, false)), .write, 0⟩, ⟨(some 43), .un .not (.t 42), (some (39, false)), .write, 0⟩, ⟨(some 44), .pick (.t 39) (.c (.bool true)) (.t 43), none, .write, 0⟩])
 (.cond (.t 44) (.seq (.region [⟨(some 4), .move (.c (.bool false)), none, .write, 0⟩])
 .ret) .skip)))))
 (.region [⟨(some 45), .arith .add (.t 26) (.c (.int .i64 1)), none, .write, 0⟩, ⟨(some 26), .move (.t 45), none, .write, 0⟩])))))))
 (.seq (.region [⟨(some 4), .move (.c (.bool true)), none, .write, 0⟩])
 .ret))))) }

theorem c195 : compFunc Tryz.prog Tryz.f195 .full = some t195 := by kernel_rfl

/-- broadside/num.Read -/
def t204 : DFunc := { ntmps := 8, results := [(.t 2)], mode := .full, body :=
 (.seq (.region [⟨(some 2), .move (.c .nilp), none, .write, 0⟩])
 (.seq (.region [⟨(some 3), .buildSlice 5 1 (.int .u8 0) 0 [], none, .write, 0⟩, ⟨(some 4), .move (.t 0), none, .write, 0⟩, ⟨(some 5), .append 5 1 1 (.t 3) (.t 4), none, .write, 0⟩, ⟨(some 6), .build [.nsl, (.bool false)] [(0, 1, (.t 5))], none, .write, 0⟩, ⟨(some 7), .box 367 2 (.t 6), none, .write, 0⟩, ⟨(some 2), .move (.t 7), none, .write, 0⟩])
 .ret)) }

theorem c204 : compFunc Tryz.prog Tryz.f204 .full = some t204 := by kernel_rfl

/-- broadside/wire.read -/
def t205 : DFunc := { ntmps := 69, results := [(.cell 2 (some 7))], mode := .full, body :=
 (.seq (.region [⟨(some 2), .alloc 102 7 (.agg [(.int .i64 0), (.int .i64 0), (.int .i64 0), (.int .i64 0), (.int .i64 0), .nsl, .nsl]), none, .write, 0⟩])
 (.seq (.region [⟨(some 8), .move (.t 0), none, .write, 0⟩, ⟨(some 9), .call (.c (.func 258 [])) [(.t 8)], none, .write, 0⟩, ⟨(some 10), .conv .i64 (.t 9), none, .write, 0⟩, ⟨(some 11), .move (.t 0), none, .write, 0⟩, ⟨(some 12), .call (.c (.func 259 [])) [(.t 11)], none, .write, 0⟩, ⟨(some 13), .build [(.int .i64 0), (.int .i64 0), (.int .i64 0), (.int .i64 0), (.int .i64 0), .nsl, .nsl] [(0, 1, (.t 10)), (1, 2, (.t 12))], none, .write, 0⟩, ⟨(some 3), .alloc 102 7 (.agg [(.int .i64 0), (.int .i64 0), (.int .i64 0), (.int .i64 0), (.int .i64 0), .nsl, .nsl]), none, .write, 0⟩, ⟨none, .store 7 (.t 3) (.t 13), none, .write, 0⟩])
 (.seq (.region [⟨(some 15), .fieldAddr 0 (.t 3), none, .write, 0⟩, ⟨(some 16), .load none (.t 15), none, .write, 0⟩, ⟨(some 17), .call (.c (.func 260 [])) [(.t 16)], none, .write, 0⟩, ⟨(some 14), .move (.t 17), none, .write, 0⟩, ⟨(some 18), .extract (.t 14) 0, none, .write, 0⟩, ⟨(some 19), .extract (.t 14) 1, none, .write, 0⟩, ⟨(some 4), .move (.t 18), none, .write, 0⟩, ⟨(some 5), .move (.t 19), none, .write, 0⟩])
 (.seq (.seq (.region [⟨(some 20), .move (.t 4), none, .write, 0⟩, ⟨(some 21), .arith .and (.t 20) (.c (.int .i64 1)), none, .write, 0⟩, ⟨(some 22), .arith .neq (.t 21) (.c (.int .i64 0)), none, .write, 0⟩])
 (.cond (.t 22) (.region [⟨(some 23), .move (.t 0), none, .write, 0⟩, ⟨(some 24), .call (.c (.func 259 [])) [(.t 23)], none, .write, 0⟩, ⟨(some 25), .fieldAddr 3 (.t 3), none, .write, 0⟩, ⟨none, .store 2 (.t 25) (.t 24), none, .write, 0⟩]) .skip))
 (.seq (.seq (.region [⟨(some 26), .move (.t 4), none, .write, 0⟩, ⟨(some 27), .arith .and (.t 26) (.c (.int .i64 2)), none, .write, 0⟩, ⟨(some 28), .arith .neq (.t 27) (.c (.int .i64 0)), none, .write, 0⟩])
 (.cond (.t 28) (.seq (.region [⟨(some 29), .move (.t 0), none, .write, 0⟩, ⟨(some 30), .call (.c (.func 258 [])) [(.t 29)], none, .write, 0⟩, ⟨(some 31), .conv .i64 (.t 30), none, .write, 0⟩, ⟨(some 6), .move (.t 31), none, .write, 0⟩])
 (.block 0 (.loop (.seq (.seq (.region [⟨(some 32), .move (.t 6), none, .write, 0⟩, ⟨(some 33), .arith .gtr (.t 32) (.c (.int .i64 0)), none, .write, 0⟩, ⟨(some 34), .move (.t 33), none, .write, 0⟩, ⟨(some 35), .move (.t 0), (some (34, true)), .write, 0⟩, ⟨(some 36), .call (.c (.func 261 [])) [(.t 35)], (some (34, true)), .write, 0⟩, ⟨(some 37), .pick (.t 34) (.t 36) (.c (.bool false)), none, .write, 0⟩])
 (.cond (.t 37) .skip (.exit 0)))
 (.seq (.block 1 (.draw [⟨(some 40), .fieldAddr 5 (.t 3), none, .read, 0⟩, ⟨(some 41), .load none (.t 40), none, .read, 0⟩, ⟨(some 42), .move (.t 0), none, .read, 0⟩, ⟨(some 43), .call (.c (.func 262 [])) [(.t 42)], none, .create, 0⟩, ⟨(some 44), .buildSlice 303 5 (.agg [(.str []), (.int .i64 0), (.int .i64 0), (.int .i64 0), (.str [])]) 1 [(0, (.t 43))], none, .create, 0⟩, ⟨(some 45), .append 303 5 56 (.t 41) (.t 44), none, .write, 2⟩, ⟨(some 46), .fieldAddr 5 (.t 3), none, .read, 3⟩, ⟨none, .store 1 (.t 46) (.t 45), none, .write, 3⟩]))
 (.region [⟨(some 38), .move (.t 6), none, .write, 0⟩, ⟨(some 39), .arith .sub (.t 38) (.c (.int .i64 1)), none, .write, 0⟩, ⟨(some 6), .move (.t 39), none, .write, 0⟩])))))) .skip))
 (.seq (.seq (.region [⟨(some 47), .move (.t 4), none, .write, 0⟩, ⟨(some 48), .arith .and (.t 47) (.c (.int .i64 4)), none, .write, 0⟩, ⟨(some 49), .arith .neq (.t 48) (.c (.int .i64 0)), none, .write, 0⟩])
 (.cond (.t 49) (.seq (.region [⟨(some 50), .move (.t 0), none, .write, 0⟩, ⟨(some 51), .call (.c (.func 258 [])) [(.t 50)], none, .write, 0⟩, ⟨(some 52), .conv .i64 (.t 51), none, .write, 0⟩, ⟨(some 7), .move (.t 52), none, .write, 0⟩])
 (.block 2 (.loop (.seq (.seq (.region [⟨(some 53), .move (.t 7), none, .write, 0⟩, ⟨(some 54), .arith .gtr (.t 53) (.c (.int .i64 0)), none, .write, 0⟩, ⟨(some 55), .move (.t 54), none, .write, 0⟩, ⟨(some 56), .move (.t 0), (some (55, true)), .write, 0⟩, ⟨(some 57), .call (.c (.func 261 [])) [(.t 56)], (some (55, true)), .write, 0⟩, ⟨(some 58), .pick (.t 55) (.t 57) (.c (.bool false)), none, .write, 0⟩])
 (.cond (.t 58) .skip (.exit 2)))
 (.seq (.block 3 (.draw [⟨(some 61), .fieldAddr 6 (.t 3), none, .read, 0⟩, ⟨(some 62), .load none (.t 61), none, .read, 0⟩, ⟨(some 63), .move (.t 0), none, .read, 0⟩, ⟨(some 64), .call (.c (.func 263 [])) [(.t 63)], none, .create, 0⟩, ⟨(some 65), .buildSlice 253 4 (.agg [(.str []), (.bool false), (.int .i64 0), (.str [])]) 1 [(0, (.t 64))], none, .create, 0⟩, ⟨(some 66), .append 253 4 48 (.t 62) (.t 65), none, .write, 2⟩, ⟨(some 67), .fieldAddr 6 (.t 3), none, .read, 3⟩, ⟨none, .store 1 (.t 67) (.t 66), none, .write, 3⟩]))
 (.region [⟨(some 59), .move (.t 7), none, .write, 0⟩, ⟨(some 60), .arith .sub (.t 59) (.c (.int .i64 1)), none, .write, 0⟩, ⟨(some 7), .move (.t 60), none, .write, 0⟩])))))) .skip))
 (.seq (.region [⟨(some 68), .load (some 7) (.t 3), none, .write, 0⟩, ⟨none, .store 7 (.t 2) (.t 68), none, .write, 0⟩])
 .ret))))))) }

theorem c205 : compFunc Tryz.prog Tryz.f205 .full = some t205 := by kernel_rfl

/-- (*broadside/num.Reader).Done -/
def t206 : DFunc := { ntmps := 16, results := [(.t 2)], mode := .full, body :=
 (.seq (.region [⟨(some 2), .move (.c (.bool false)), none, .write, 0⟩])
 (.seq (.region [⟨(some 3), .move (.t 0), none, .write, 0⟩, ⟨(some 4), .nilCheck (.t 3), none, .write, 0⟩, ⟨(some 5), .fieldAddr 1 (.t 4), none, .write, 0⟩, ⟨(some 6), .load none (.t 5), none, .write, 0⟩, ⟨(some 7), .un .not (.t 6), none, .write, 0⟩, ⟨(some 8), .move (.t 7), none, .write, 0⟩, ⟨(some 9), .move (.t 0), (some (8, true)), .write, 0⟩, ⟨(some 10), .nilCheck (.t 9), (some (8, true)), .write, 0⟩, ⟨(some 11), .fieldAddr 0 (.t 10), (some (8, true)), .write, 0⟩, ⟨(some 12), .load none (.t 11), (some (8, true)), .write, 0⟩, ⟨(some 13), .len 1 (.t 12), (some (8, true)), .write, 0⟩, ⟨(some 14), .arith .eql (.t 13) (.c (.int .i64 0)), (some (8, true)), .write, 0⟩, ⟨(some 15), .pick (.t 8) (.t 14) (.c (.bool false)), none, .write, 0⟩, ⟨(some 2), .move (.t 15), none, .write, 0⟩])
 .ret)) }

theorem c206 : compFunc Tryz.prog Tryz.f206 .full = some t206 := by kernel_rfl

/-- broadside/wire.Right -/
def t207 : DFunc := { ntmps := 63, results := [(.t 2)], mode := .full, body :=
 (.seq (.region [⟨(some 1), .box 102 7 (.t 0), none, .write, 0⟩, ⟨(some 2), .move (.c (.bool false)), none, .write, 0⟩])
 (.seq (.region [⟨(some 6), .fieldAddr 0 (.t 1), none, .write, 0⟩, ⟨(some 7), .load none (.t 6), none, .write, 0⟩, ⟨(some 8), .call (.c (.func 260 [])) [(.t 7)], none, .write, 0⟩, ⟨(some 5), .move (.t 8), none, .write, 0⟩, ⟨(some 9), .extract (.t 5) 0, none, .write, 0⟩, ⟨(some 10), .extract (.t 5) 1, none, .write, 0⟩, ⟨(some 3), .move (.t 9), none, .write, 0⟩, ⟨(some 4), .move (.t 10), none, .write, 0⟩])
 (.seq (.block 0 (.seq (.region [⟨(some 12), .move (.t 4), none, .write, 0⟩, ⟨(some 13), .un .not (.t 12), none, .write, 0⟩, ⟨(some 14), .move (.t 13), none, .write, 0⟩, ⟨(some 15), .fieldAddr 1 (.t 1), (some (14, false)), .write, 0⟩, ⟨(some 16), .load (some 2) (.t 15), (some (14, false)), .write, 0⟩, ⟨(some 17), .call (.c (.func 264 [])) [(.t 16)], (some (14, false)), .write, 0⟩, ⟨(some 18), .un .not (.t 17), (some (14, false)), .write, 0⟩, ⟨(some 19), .pick (.t 14) (.c (.bool true)) (.t 18), none, .write, 0⟩, ⟨(some 20), .move (.t 19), none, .write, 0⟩, ⟨(some 21), .fieldAddr 5 (.t 1), (some (20, false)), .write, 0⟩, ⟨(some 22), .load none (.t 21), (some (20, false)), .write, 0⟩, ⟨(some 23), .call (.c (.func 132 [])) [(.t 22)], (some (20, false)), .write, 0⟩, ⟨(some 24), .un .not (.t 23), (some (20, false)), .write, 0⟩, ⟨(some 25), .pick (.t 20) (.c (.bool true)) (.t 24), none, .write, 0⟩, ⟨(some 26), .move (.t 25), none, .write, 0⟩, ⟨(some 27), .fieldAddr 6 (.t 1), (some (26, false)), .write, 0⟩, ⟨(some 28), .load none (.t 27), (some (26, false)), .write, 0⟩, ⟨(some 29), .call (.c (.func 212 [])) [(.t 28)], (some (26, false)), .write, 0⟩, ⟨(some 30), .un .not (.t 29), (some (26, false)), .write, 0⟩, ⟨(some 31), .pick (.t 26) (.c (.bool true)) (.t 30), none, .write, 0⟩, ⟨(some 11), .move (.t 31), none, .write, 0⟩])
 (.cond (.t 11) (.seq (.region [⟨(some 2), .move (.c (.bool false)), none, .write, 0⟩])
 .ret) (.seq (.seq (.region [⟨(some 33), .move (.t 3), none, .write, 0⟩, ⟨(some 34), .arith .and (.t 33) (.c (.int .i64 1)), none, .write, 0⟩, ⟨(some 35), .arith .eql (.t 34) (.c (.int .i64 0)), none, .write, 0⟩, ⟨(some 36), .move (.t 35), none, .write, 0⟩, ⟨(some 37), .fieldAddr 3 (.t 1), (some (36, true)), .write, 0⟩, ⟨(some 38), .load (some 2) (.t 37), (some (36, true)), .write, 0⟩, ⟨(some 39), .build [(.int .i64 0), (.int .i64 0)] [], (some (36, true)), .write, 0⟩, ⟨(some 40), .eqa true [1, 1] (.t 38) (.t 39), (some (36, true)), .write, 0⟩, ⟨(some 41), .pick (.t 36) (.t 40) (.c (.bool false)), none, .write, 0⟩, ⟨(some 32), .move (.t 41), none, .write, 0⟩])
 (.cond (.t 32) .skip (.seq (.region [⟨(some 42), .move (.t 3), none, .write, 0⟩, ⟨(some 43), .arith .and (.t 42) (.c (.int .i64 2)), none, .write, 0⟩, ⟨(some 44), .arith .eql (.t 43) (.c (.int .i64 0)), none, .write, 0⟩, ⟨(some 45), .move (.t 44), none, .write, 0⟩, ⟨(some 46), .fieldAddr 5 (.t 1), (some (45, true)), .write, 0⟩, ⟨(some 47), .load none (.t 46), (some (45, true)), .write, 0⟩, ⟨(some 48), .len 1 (.t 47), (some (45, true)), .write, 0⟩, ⟨(some 49), .arith .gtr (.t 48) (.c (.int .i64 0)), (some (45, true)), .write, 0⟩, ⟨(some 50), .pick (.t 45) (.t 49) (.c (.bool false)), none, .write, 0⟩, ⟨(some 32), .move (.t 50), none, .write, 0⟩])
 (.cond (.t 32) .skip (.region [⟨(some 51), .move (.t 3), none, .write, 0⟩, ⟨(some 52), .arith .and (.t 51) (.c (.int .i64 4)), none, .write, 0⟩, ⟨(some 53), .arith .eql (.t 52) (.c (.int .i64 0)), none, .write, 0⟩, ⟨(some 54), .move (.t 53), none, .write, 0⟩, ⟨(some 55), .fieldAddr 6 (.t 1), (some (54, true)), .write, 0⟩, ⟨(some 56), .load none (.t 55), (some (54, true)), .write, 0⟩, ⟨(some 57), .len 1 (.t 56), (some (54, true)), .write, 0⟩, ⟨(some 58), .arith .gtr (.t 57) (.c (.int .i64 0)), (some (54, true)), .write, 0⟩, ⟨(some 59), .pick (.t 54) (.t 58) (.c (.bool false)), none, .write, 0⟩, ⟨(some 32), .move (.t 59), none, .write, 0⟩])))))
 (.cond (.t 32) (.seq (.region [⟨(some 2), .move (.c (.bool false)), none, .write, 0⟩])
 .ret) .skip)))))
 (.seq (.region [⟨(some 60), .fieldAddr 3 (.t 1), none, .write, 0⟩, ⟨(some 61), .load (some 2) (.t 60), none, .write, 0⟩, ⟨(some 62), .call (.c (.func 264 [])) [(.t 61)], none, .write, 0⟩, ⟨(some 2), .move (.t 62), none, .write, 0⟩])
 .ret)))) }

theorem c207 : compFunc Tryz.prog Tryz.f207 .full = some t207 := by kernel_rfl

/-- bytes.Equal -/
def t208 : DFunc := { ntmps := 10, results := [(.t 4)], mode := .full, body :=
 (.seq (.region [⟨(some 4), .move (.c (.bool false)), none, .write, 0⟩])
 (.seq (.region [⟨(some 5), .move (.t 0), none, .write, 0⟩, ⟨(some 6), .extract (.c .nilp) 0, none, .write, 0⟩, ⟨(some 7), .move (.t 1), none, .write, 0⟩, ⟨(some 8), .extract (.c .nilp) 0, none, .write, 0⟩, ⟨(some 9), .arith .eql (.t 6) (.t 8), none, .write, 0⟩, ⟨(some 4), .move (.t 9), none, .write, 0⟩])
 .ret)) }

theorem c208 : compFunc Tryz.prog Tryz.f208 .full = some t208 := by kernel_rfl

/-- broadside/wire.put -/
def t209 : DFunc := { ntmps := 77, results := [(.t 2)], mode := .full, body :=
 (.seq (.region [⟨(some 1), .box 102 7 (.t 0), none, .write, 0⟩, ⟨(some 2), .move (.c .nsl), none, .write, 0⟩])
 (.seq (.region [⟨(some 11), .fieldAddr 0 (.t 1), none, .write, 0⟩, ⟨(some 12), .load none (.t 11), none, .write, 0⟩, ⟨(some 13), .call (.c (.func 260 [])) [(.t 12)], none, .write, 0⟩, ⟨(some 10), .move (.t 13), none, .write, 0⟩, ⟨(some 14), .extract (.t 10) 0, none, .write, 0⟩, ⟨(some 15), .extract (.t 10) 1, none, .write, 0⟩, ⟨(some 3), .move (.t 14), none, .write, 0⟩, ⟨(some 4), .move (.t 15), none, .write, 0⟩])
 (.seq (.draw [⟨(some 16), .fieldAddr 0 (.t 1), none, .read, 0⟩, ⟨(some 17), .load none (.t 16), none, .read, 0⟩, ⟨(some 20), .fieldAddr 1 (.t 1), none, .read, 0⟩, ⟨(some 21), .load (some 2) (.t 20), none, .read, 0⟩, ⟨(some 22), .call (.c (.func 265 [])) [(.t 21)], none, .create, 0⟩, ⟨(some 18), .conv .u8 (.t 17), none, .read, 0⟩, ⟨(some 19), .buildSlice 5 1 (.int .u8 0) 1 [(0, (.t 18))], none, .create, 0⟩, ⟨(some 23), .append 5 1 1 (.t 19) (.t 22), none, .write, 2⟩, ⟨(some 5), .move (.t 23), none, .read, 3⟩])
 (.seq (.seq (.region [⟨(some 24), .move (.t 3), none, .write, 0⟩, ⟨(some 25), .arith .and (.t 24) (.c (.int .i64 1)), none, .write, 0⟩, ⟨(some 26), .arith .neq (.t 25) (.c (.int .i64 0)), none, .write, 0⟩])
 (.cond (.t 26) (.region [⟨(some 27), .move (.t 5), none, .write, 0⟩, ⟨(some 28), .fieldAddr 3 (.t 1), none, .write, 0⟩, ⟨(some 29), .load (some 2) (.t 28), none, .write, 0⟩, ⟨(some 30), .call (.c (.func 265 [])) [(.t 29)], none, .write, 0⟩, ⟨(some 31), .append 5 1 1 (.t 27) (.t 30), none, .write, 0⟩, ⟨(some 5), .move (.t 31), none, .write, 0⟩]) .skip))
 (.seq (.seq (.region [⟨(some 32), .move (.t 3), none, .write, 0⟩, ⟨(some 33), .arith .and (.t 32) (.c (.int .i64 2)), none, .write, 0⟩, ⟨(some 34), .arith .neq (.t 33) (.c (.int .i64 0)), none, .write, 0⟩])
 (.cond (.t 34) (.seq (.region [⟨(some 35), .move (.t 5), none, .write, 0⟩, ⟨(some 36), .fieldAddr 5 (.t 1), none, .write, 0⟩, ⟨(some 37), .load none (.t 36), none, .write, 0⟩, ⟨(some 38), .len 1 (.t 37), none, .write, 0⟩, ⟨(some 39), .conv .u8 (.t 38), none, .write, 0⟩, ⟨(some 40), .buildSlice 5 1 (.int .u8 0) 1 [(0, (.t 39))], none, .write, 0⟩, ⟨(some 41), .append 5 1 1 (.t 35) (.t 40), none, .write, 0⟩, ⟨(some 5), .move (.t 41), none, .write, 0⟩])
 (.seq (.region [⟨(some 42), .fieldAddr 5 (.t 1), none, .write, 0⟩, ⟨(some 43), .load none (.t 42), none, .write, 0⟩, ⟨(some 44), .len 1 (.t 43), none, .write, 0⟩, ⟨(some 45), .move (.c (.int .i64 0)), none, .write, 0⟩])
 (.block 0 (.loop (.seq (.region [⟨(some 46), .arith .lss (.t 45) (.t 44), none, .write, 0⟩])
 (.seq (.cond (.t 46) .skip (.exit 0))
 (.seq (.block 1 (.seq (.region [⟨(some 47), .indexAddr 5 (.t 43) (.t 45), none, .write, 0⟩, ⟨(some 48), .load (some 5) (.t 47), none, .write, 0⟩, ⟨(some 7), .alloc 303 5 (.agg [(.str []), (.int .i64 0), (.int .i64 0), (.int .i64 0), (.str [])]), none, .write, 0⟩, ⟨none, .store 5 (.t 7) (.t 48), none, .write, 0⟩])
 (.region [⟨(some 49), .move (.t 5), none, .write, 0⟩, ⟨(some 50), .load (some 5) (.t 7), none, .write, 0⟩, ⟨(some 51), .call (.c (.func 266 [])) [(.t 50)], none, .write, 0⟩, ⟨(some 52), .append 5 1 1 (.t 49) (.t 51), none, .write, 0⟩, ⟨(some 5), .move (.t 52), none, .write, 0⟩])))
 (.region [⟨(some 53), .arith .add (.t 45) (.c (.int .i64 1)), none, .write, 0⟩, ⟨(some 45), .move (.t 53), none, .write, 0⟩])))))))) .skip))
 (.seq (.seq (.region [⟨(some 54), .move (.t 3), none, .write, 0⟩, ⟨(some 55), .arith .and (.t 54) (.c (.int .i64 4)), none, .write, 0⟩, ⟨(some 56), .arith .neq (.t 55) (.c (.int .i64 0)), none, .write, 0⟩])
 (.cond (.t 56) (.seq (.region [⟨(some 57), .move (.t 5), none, .write, 0⟩, ⟨(some 58), .fieldAddr 6 (.t 1), none, .write, 0⟩, ⟨(some 59), .load none (.t 58), none, .write, 0⟩, ⟨(some 60), .len 1 (.t 59), none, .write, 0⟩, ⟨(some 61), .conv .u8 (.t 60), none, .write, 0⟩, ⟨(some 62), .buildSlice 5 1 (.int .u8 0) 1 [(0, (.t 61))], none, .write, 0⟩, ⟨(some 63), .append 5 1 1 (.t 57) (.t 62), none, .write, 0⟩, ⟨(some 5), .move (.t 63), none, .write, 0⟩])
 (.seq (.region [⟨(some 64), .fieldAddr 6 (.t 1), none, .write, 0⟩, ⟨(some 65), .load none (.t 64), none, .write, 0⟩, ⟨(some 66), .len 1 (.t 65), none, .write, 0⟩, ⟨(some 67), .move (.c (.int .i64 0)), none, .write, 0⟩])
 (.block 2 (.loop (.seq (.region [⟨(some 68), .arith .lss (.t 67) (.t 66), none, .write, 0⟩])
 (.seq (.cond (.t 68) .skip (.exit 2))
 (.seq (.block 3 (.seq (.region [⟨(some 69), .indexAddr 4 (.t 65) (.t 67), none, .write, 0⟩, ⟨(some 70), .load (some 4) (.t 69), none, .write, 0⟩, ⟨(some 9), .alloc 253 4 (.agg [(.str []), (.bool false), (.int .i64 0), (.str [])]), none, .write, 0⟩, ⟨none, .store 4 (.t 9) (.t 70), none, .write, 0⟩])
 (.region [⟨(some 71), .move (.t 5), none, .write, 0⟩, ⟨(some 72), .load (some 4) (.t 9), none, .write, 0⟩, ⟨(some 73), .call (.c (.func 267 [])) [(.t 72)], none, .write, 0⟩, ⟨(some 74), .append 5 1 1 (.t 71) (.t 73), none, .write, 0⟩, ⟨(some 5), .move (.t 74), none, .write, 0⟩])))
 (.region [⟨(some 75), .arith .add (.t 67) (.c (.int .i64 1)), none, .write, 0⟩, ⟨(some 67), .move (.t 75), none, .write, 0⟩])))))))) .skip))
 (.seq (.region [⟨(some 76), .move (.t 5), none, .write, 0⟩, ⟨(some 2), .move (.t 76), none, .write, 0⟩])
 .ret))))))) }

theorem c209 : compFunc Tryz.prog Tryz.f209 .full = some t209 := by kernel_rfl

/-- broadside/pred.Make -/
def t210 : DFunc := { ntmps := 75, results := [(.t 2), (.t 3)], mode := .full, body :=
 (.seq (.region [⟨(some 2), .move (.c .nsl), none, .write, 0⟩, ⟨(some 3), .move (.c .nili), none, .write, 0⟩])
 (.seq (.seq (.region [⟨(some 13), .move (.t 0), none, .write, 0⟩, ⟨(some 14), .len 1 (.t 13), none, .write, 0⟩, ⟨(some 15), .move (.c (.int .i64 0)), none, .write, 0⟩])
 (.block 0 (.loop (.seq (.region [⟨(some 16), .arith .lss (.t 15) (.t 14), none, .write, 0⟩])
 (.seq (.cond (.t 16) .skip (.exit 0))
 (.seq (.block 1 (.seq (.region [⟨(some 17), .move (.t 15), none, .write, 0⟩, ⟨(some 18), .indexAddr 5 (.t 13) (.t 15), none, .write, 0⟩, ⟨(some 19), .load (some 5) (.t 18), none, .write, 0⟩, ⟨(some 5), .alloc 303 5 (.agg [(.str []), (.int .i64 0), (.int .i64 0), (.int .i64 0), (.str [])]), none, .write, 0⟩, ⟨(some 4), .move (.t 17), none, .write, 0⟩, ⟨none, .store 5 (.t 5) (.t 19), none, .write, 0⟩])
 (.seq (.region [⟨(some 20), .load (some 5) (.t 5), none, .write, 0⟩, ⟨(some 21), .call (.c (.func 191 [])) [(.t 20)], none, .write, 0⟩, ⟨(some 22), .un .not (.t 21), none, .write, 0⟩])
 (.cond (.t 22) (.seq (.region [⟨(some 23), .move (.t 4), none, .write, 0⟩, ⟨(some 24), .makeIface 30 (.c (.int .i64 1)), none, .write, 0⟩, ⟨(some 25), .call (.c (.func 33 [])) [(.c (.str [112, 114, 101, 100])), (.t 23), (.t 24)], none, .write, 0⟩, ⟨(some 2), .move (.c .nsl), none, .write, 0⟩, ⟨(some 3), .move (.t 25), none, .write, 0⟩])
 .ret) .skip))))
 (.region [⟨(some 26), .arith .add (.t 15) (.c (.int .i64 1)), none, .write, 0⟩, ⟨(some 15), .move (.t 26), none, .write, 0⟩])))))))
 (.seq (.region [⟨(some 6), .move (.c .nsl), none, .write, 0⟩])
 (.seq (.seq (.region [⟨(some 27), .move (.t 0), none, .write, 0⟩, ⟨(some 28), .len 1 (.t 27), none, .write, 0⟩, ⟨(some 29), .move (.c (.int .i64 0)), none, .write, 0⟩])
 (.block 2 (.loop (.seq (.region [⟨(some 30), .arith .lss (.t 29) (.t 28), none, .write, 0⟩])
 (.seq (.cond (.t 30) .skip (.exit 2))
 (.seq (.block 3 (.seq (.region [⟨(some 31), .move (.t 29), none, .write, 0⟩, ⟨(some 32), .indexAddr 5 (.t 27) (.t 29), none, .write, 0⟩, ⟨(some 33), .load (some 5) (.t 32), none, .write, 0⟩, ⟨(some 8), .alloc 303 5 (.agg [(.str []), (.int .i64 0), (.int .i64 0), (.int .i64 0), (.str [])]), none, .write, 0⟩, ⟨(some 7), .move (.t 31), none, .write, 0⟩, ⟨none, .store 5 (.t 8) (.t 33), none, .write, 0⟩])
 (.seq (.region [⟨(some 35), .move (.t 6), none, .write, 0⟩, ⟨(some 36), .fieldAddr 0 (.t 8), none, .write, 0⟩, ⟨(some 37), .load none (.t 36), none, .write, 0⟩, ⟨(some 38), .call (.c (.func 268 [])) [(.t 35), (.t 37), (.c (.func 269 []))], none, .write, 0⟩, ⟨(some 34), .move (.t 38), none, .write, 0⟩, ⟨(some 39), .extract (.t 34) 0, none, .write, 0⟩, ⟨(some 40), .extract (.t 34) 1, none, .write, 0⟩, ⟨(some 9), .move (.t 39), none, .write, 0⟩, ⟨(some 10), .move (.t 40), none, .write, 0⟩])
 (.block 4 (.seq (.region [⟨(some 47), .move (.t 10), none, .write, 0⟩, ⟨(some 46), .move (.t 47), none, .write, 0⟩])
 (.cond (.t 46) (.seq (.draw [⟨(some 49), .move (.t 6), none, .read, 0⟩, ⟨(some 50), .move (.t 9), none, .read, 0⟩, ⟨(some 51), .indexAddr 5 (.t 49) (.t 50), none, .read, 0⟩, ⟨(some 52), .load (some 5) (.t 51), none, .read, 0⟩, ⟨(some 53), .load (some 5) (.t 8), none, .read, 0⟩, ⟨(some 54), .call (.c (.func 271 [])) [(.t 52), (.t 53)], none, .write, 0⟩, ⟨(some 48), .move (.t 54), none, .read, 1⟩, ⟨(some 55), .extract (.t 48) 0, none, .read, 1⟩, ⟨(some 11), .alloc 303 5 (.agg [(.str []), (.int .i64 0), (.int .i64 0), (.int .i64 0), (.str [])]), none, .create, 0⟩, ⟨none, .store 5 (.t 11) (.t 55), none, .write, 2⟩, ⟨(some 56), .extract (.t 48) 1, none, .read, 1⟩, ⟨(some 12), .move (.t 56), none, .read, 3⟩])
 (.seq (.seq (.region [⟨(some 57), .move (.t 12), none, .write, 0⟩, ⟨(some 58), .un .not (.t 57), none, .write, 0⟩])
 (.cond (.t 58) (.seq (.region [⟨(some 59), .move (.t 7), none, .write, 0⟩, ⟨(some 60), .makeIface 30 (.c (.int .i64 5)), none, .write, 0⟩, ⟨(some 61), .call (.c (.func 33 [])) [(.c (.str [112, 114, 101, 100])), (.t 59), (.t 60)], none, .write, 0⟩, ⟨(some 2), .move (.c .nsl), none, .write, 0⟩, ⟨(some 3), .move (.t 61), none, .write, 0⟩])
 .ret) .skip))
 (.region [⟨(some 62), .move (.t 6), none, .write, 0⟩, ⟨(some 63), .move (.t 9), none, .write, 0⟩, ⟨(some 64), .load (some 5) (.t 11), none, .write, 0⟩, ⟨(some 65), .indexAddr 5 (.t 62) (.t 63), none, .write, 0⟩, ⟨none, .store 5 (.t 65) (.t 64), none, .write, 0⟩]))) (.seq (.region [⟨(some 67), .move (.t 6), none, .write, 0⟩, ⟨(some 68), .len 1 (.t 67), none, .write, 0⟩, ⟨(some 69), .arith .eql (.t 68) (.c (.int .i64 5)), none, .write, 0⟩, ⟨(some 66), .move (.t 69), none, .write, 0⟩])
 (.cond (.t 66) (.seq (.region [⟨(some 70), .move (.t 7), none, .write, 0⟩, ⟨(some 71), .makeIface 30 (.c (.int .i64 7)), none, .write, 0⟩, ⟨(some 72), .call (.c (.func 33 [])) [(.c (.str [112, 114, 101, 100])), (.t 70), (.t 71)], none, .write, 0⟩, ⟨(some 2), .move (.c .nsl), none, .write, 0⟩, ⟨(some 3), .move (.t 72), none, .write, 0⟩])
 .ret) (.region [⟨(some 41), .move (.t 6), none, .write, 0⟩, ⟨(some 42), .move (.t 9), none, .write, 0⟩, ⟨(some 43), .load (some 5) (.t 8), none, .write, 0⟩, ⟨(some 44), .buildSlice 303 5 (.agg [(.str []), (.int .i64 0), (.int .i64 0), (.int .i64 0), (.str [])]) 1 [(0, (.t 43))], none, .write, 0⟩, ⟨(some 45), .call (.c (.func 272 [])) [(.t 41), (.t 42), (.t 44)], none, .write, 0⟩, ⟨(some 6), .move (.t 45), none, .write, 0⟩])))))))))
 (.region [⟨(some 73), .arith .add (.t 29) (.c (.int .i64 1)), none, .write, 0⟩, ⟨(some 29), .move (.t 73), none, .write, 0⟩])))))))
 (.seq (.region [⟨(some 74), .move (.t 6), none, .write, 0⟩, ⟨(some 2), .move (.t 74), none, .write, 0⟩, ⟨(some 3), .move (.c .nili), none, .write, 0⟩])
 .ret))))) }

theorem c210 : compFunc Tryz.prog Tryz.f210 .full = some t210 := by kernel_rfl

/-- broadside/world.place -/
def t211 : DFunc := { ntmps := 13, results := [(.t 4), (.t 5)], mode := .full, body :=
 (.seq (.region [⟨(some 3), .box 3 1 (.t 1), none, .write, 0⟩, ⟨(some 4), .move (.c (.int .i64 0)), none, .write, 0⟩, ⟨(some 5), .move (.c (.bool false)), none, .write, 0⟩])
 (.seq (.region [⟨(some 7), .move (.t 0), none, .write, 0⟩, ⟨(some 8), .makeFunc 274 [(.t 3)], none, .write, 0⟩, ⟨(some 9), .call (.c (.func 273 [])) [(.t 7), (.t 8)], none, .write, 0⟩, ⟨(some 6), .move (.t 9), none, .write, 0⟩])
 (.seq (.region [⟨(some 10), .move (.t 6), none, .write, 0⟩, ⟨(some 11), .move (.t 6), none, .write, 0⟩, ⟨(some 12), .arith .geq (.t 11) (.c (.int .i64 0)), none, .write, 0⟩, ⟨(some 4), .move (.t 10), none, .write, 0⟩, ⟨(some 5), .move (.t 12), none, .write, 0⟩])
 .ret))) }

theorem c211 : compFunc Tryz.prog Tryz.f211 .full = some t211 := by kernel_rfl

/-- broadside/tuple.Right -/
def t212 : DFunc := { ntmps := 41, results := [(.t 2)], mode := .full, body :=
 (.seq (.region [⟨(some 2), .move (.c (.bool false)), none, .write, 0⟩])
 (.seq (.seq (.region [⟨(some 5), .move (.t 0), none, .write, 0⟩, ⟨(some 6), .len 1 (.t 5), none, .write, 0⟩, ⟨(some 7), .move (.c (.int .i64 0)), none, .write, 0⟩])
 (.block 0 (.loop (.seq (.region [⟨(some 8), .arith .lss (.t 7) (.t 6), none, .write, 0⟩])
 (.seq (.cond (.t 8) .skip (.exit 0))
 (.seq (.block 1 (.seq (.region [⟨(some 9), .move (.t 7), none, .write, 0⟩, ⟨(some 10), .indexAddr 4 (.t 5) (.t 7), none, .write, 0⟩, ⟨(some 11), .load (some 4) (.t 10), none, .write, 0⟩, ⟨(some 4), .alloc 253 4 (.agg [(.str []), (.bool false), (.int .i64 0), (.str [])]), none, .write, 0⟩, ⟨(some 3), .move (.t 9), none, .write, 0⟩, ⟨none, .store 4 (.t 4) (.t 11), none, .write, 0⟩])
 (.seq (.draw [⟨(some 12), .fieldAddr 0 (.t 4), none, .read, 0⟩, ⟨(some 13), .load none (.t 12), none, .read, 0⟩, ⟨(some 14), .call (.c (.func 253 [])) [(.t 13)], none, .write, 0⟩, ⟨(some 15), .un .not (.t 14), none, .read, 1⟩, ⟨(some 16), .move (.t 15), none, .read, 1⟩, ⟨(some 17), .fieldAddr 1 (.t 4), (some (16, false)), .read, 1⟩, ⟨(some 18), .load (some 3) (.t 17), (some (16, false)), .read, 1⟩, ⟨(some 19), .call (.c (.func 275 [])) [(.t 18)], (some (16, false)), .write, 1⟩, ⟨(some 20), .un .not (.t 19), (some (16, false)), .read, 2⟩, ⟨(some 21), .pick (.t 16) (.c (.bool true)) (.t 20), none, .read, 2⟩, ⟨(some 22), .move (.t 21), none, .read, 2⟩, ⟨(some 23), .move (.t 3), (some (22, false)), .read, 2⟩, ⟨(some 24), .arith .gtr (.t 23) (.c (.int .i64 0)), (some (22, false)), .read, 2⟩, ⟨(some 25), .move (.t 24), (some (22, false)), .read, 2⟩, ⟨(some 26), .move (.t 0), (some (25, true)), .read, 2⟩, ⟨(some 27), .move (.t 3), (some (25, true)), .read, 2⟩, ⟨(some 28), .arith .sub (.t 27) (.c (.int .i64 1)), (some (25, true)), .read, 2⟩, ⟨(some 29), .indexAddr 4 (.t 26) (.t 28), (some (25, true)), .read, 2⟩, ⟨(some 30), .fieldAddr 0 (.t 29), (some (25, true)), .read, 2⟩, ⟨(some 31), .load none (.t 30), (some (25, true)), .read, 2⟩, ⟨(some 32), .fieldAddr 0 (.t 4), (some (25, true)), .read, 2⟩, ⟨(some 33), .load none (.t 32), (some (25, true)), .read, 2⟩, ⟨(some 34), .arith .geq (.t 31) (.t 33), (some (25, true)), .read, 2⟩, ⟨(some 35), .pick (.t 25) (.t 34) (.c (.bool false)), (some (22, false)), .read, 2⟩, ⟨(some 36), .pick (.t 22) (.c (.bool true)) (.t 35), none, .read, 2⟩])
 (.cond (.t 36) (.seq (.region [⟨(some 2), .move (.c (.bool false)), none, .write, 0⟩])
 .ret) .skip))))
 (.region [⟨(some 37), .arith .add (.t 7) (.c (.int .i64 1)), none, .write, 0⟩, ⟨(some 7), .move (.t 37), none, .write, 0⟩])))))))
 (.seq (.region [⟨(some 38), .move (.t 0), none, .write, 0⟩, ⟨(some 39), .len 1 (.t 38), none, .write, 0⟩, ⟨(some 40), .arith .leq (.t 39) (.c (.int .i64 5)), none, .write, 0⟩, ⟨(some 2), .move (.t 40), none, .write, 0⟩])
 .ret))) }

theorem c212 : compFunc Tryz.prog Tryz.f212 .full = some t212 := by kernel_rfl

/-- broadside/world.fits -/
def t213 : DFunc := { ntmps := 25, results := [(.t 4)], mode := .full, body :=
 (.seq (.region [⟨(some 2), .box 243 6 (.t 0), none, .write, 0⟩, ⟨(some 4), .move (.c .nsl), none, .write, 0⟩])
 (.seq (.region [⟨(some 5), .move (.c .nsl), none, .write, 0⟩])
 (.seq (.seq (.region [⟨(some 8), .fieldAddr 1 (.t 2), none, .write, 0⟩, ⟨(some 9), .load none (.t 8), none, .write, 0⟩, ⟨(some 10), .len 1 (.t 9), none, .write, 0⟩, ⟨(some 11), .move (.c (.int .i64 0)), none, .write, 0⟩])
 (.block 0 (.loop (.seq (.region [⟨(some 12), .arith .lss (.t 11) (.t 10), none, .write, 0⟩])
 (.seq (.cond (.t 12) .skip (.exit 0))
 (.seq (.block 1 (.seq (.region [⟨(some 13), .indexAddr 2 (.t 9) (.t 11), none, .write, 0⟩, ⟨(some 14), .load (some 2) (.t 13), none, .write, 0⟩, ⟨(some 7), .alloc 325 2 (.agg [(.int .i64 0), .nsl]), none, .write, 0⟩, ⟨none, .store 2 (.t 7) (.t 14), none, .write, 0⟩])
 (.seq (.region [⟨(some 15), .fieldAddr 1 (.t 7), none, .write, 0⟩, ⟨(some 16), .load none (.t 15), none, .write, 0⟩, ⟨(some 17), .move (.t 1), none, .write, 0⟩, ⟨(some 18), .call (.c (.func 173 [])) [(.t 16), (.t 17)], none, .write, 0⟩])
 (.cond (.t 18) (.region [⟨(some 19), .move (.t 5), none, .write, 0⟩, ⟨(some 20), .load (some 2) (.t 7), none, .write, 0⟩, ⟨(some 21), .buildSlice 325 2 (.agg [(.int .i64 0), .nsl]) 1 [(0, (.t 20))], none, .write, 0⟩, ⟨(some 22), .append 325 2 32 (.t 19) (.t 21), none, .write, 0⟩, ⟨(some 5), .move (.t 22), none, .write, 0⟩]) .skip))))
 (.region [⟨(some 23), .arith .add (.t 11) (.c (.int .i64 1)), none, .write, 0⟩, ⟨(some 11), .move (.t 23), none, .write, 0⟩])))))))
 (.seq (.region [⟨(some 24), .move (.t 5), none, .write, 0⟩, ⟨(some 4), .move (.t 24), none, .write, 0⟩])
 .ret)))) }

theorem c213 : compFunc Tryz.prog Tryz.f213 .full = some t213 := by kernel_rfl

/-- (*broadside/world.World).told$1 -/
def t214 : DFunc := { ntmps := 8, results := [(.cell 3 (some 2))], mode := .full, body :=
 (.seq (.region [⟨(some 3), .alloc 32 2 (.agg [(.int .i64 0), (.int .i64 0)]), none, .write, 0⟩])
 (.seq (.region [⟨(some 4), .fieldAddr 1 (.t 1), none, .write, 0⟩, ⟨(some 5), .load none (.t 4), none, .write, 0⟩, ⟨(some 6), .move (.t 0), none, .write, 0⟩, ⟨(some 7), .build [(.int .i64 0), (.int .i64 0)] [(0, 1, (.t 5)), (1, 1, (.t 6))], none, .write, 0⟩, ⟨none, .store 2 (.t 3) (.t 7), none, .write, 0⟩])
 .ret)) }

theorem c214 : compFunc Tryz.prog Tryz.f214 .full = some t214 := by kernel_rfl

/-- broadside/world.without -/
def t215 : DFunc := { ntmps := 9, results := [(.t 4)], mode := .full, body :=
 (.seq (.region [⟨(some 3), .box 3 1 (.t 1), none, .write, 0⟩, ⟨(some 4), .move (.c .nsl), none, .write, 0⟩])
 (.seq (.region [⟨(some 5), .move (.t 0), none, .write, 0⟩, ⟨(some 6), .call (.c (.func 277 [])) [(.t 5)], none, .write, 0⟩, ⟨(some 7), .makeFunc 278 [(.t 3)], none, .write, 0⟩, ⟨(some 8), .call (.c (.func 276 [])) [(.t 6), (.t 7)], none, .write, 0⟩, ⟨(some 4), .move (.t 8), none, .write, 0⟩])
 .ret)) }

theorem c215 : compFunc Tryz.prog Tryz.f215 .full = some t215 := by kernel_rfl

/-- (*broadside/net.Net).Unadvertise -/
def t216 : DFunc := { ntmps := 11, results := [(.t 6)], mode := .full, body :=
 (.seq (.region [⟨(some 5), .box 32 2 (.t 2), none, .write, 0⟩, ⟨(some 6), .move (.c .nili), none, .write, 0⟩])
 (.seq (.region [⟨(some 7), .move (.t 0), none, .write, 0⟩, ⟨(some 8), .move (.t 1), none, .write, 0⟩, ⟨(some 9), .makeFunc 279 [(.t 5)], none, .write, 0⟩, ⟨(some 10), .call (.c (.func 47 [])) [(.t 7), (.t 8), (.t 9)], none, .write, 0⟩, ⟨(some 6), .move (.t 10), none, .write, 0⟩])
 .ret)) }

theorem c216 : compFunc Tryz.prog Tryz.f216 .full = some t216 := by kernel_rfl

/-- (*broadside/net.Net).Unsubscribe -/
def t217 : DFunc := { ntmps := 11, results := [(.t 6)], mode := .full, body :=
 (.seq (.region [⟨(some 5), .box 32 2 (.t 2), none, .write, 0⟩, ⟨(some 6), .move (.c .nili), none, .write, 0⟩])
 (.seq (.region [⟨(some 7), .move (.t 0), none, .write, 0⟩, ⟨(some 8), .move (.t 1), none, .write, 0⟩, ⟨(some 9), .makeFunc 280 [(.t 5)], none, .write, 0⟩, ⟨(some 10), .call (.c (.func 47 [])) [(.t 7), (.t 8), (.t 9)], none, .write, 0⟩, ⟨(some 6), .move (.t 10), none, .write, 0⟩])
 .ret)) }

theorem c217 : compFunc Tryz.prog Tryz.f217 .full = some t217 := by kernel_rfl

/-- slices.insertionSortOrdered[int] -/
def t218 : DFunc := { ntmps := 49, results := [], mode := .full, body :=
 (.seq (.region [⟨(some 8), .move (.t 1), none, .write, 0⟩, ⟨(some 9), .arith .add (.t 8) (.c (.int .i64 1)), none, .write, 0⟩, ⟨(some 6), .move (.t 9), none, .write, 0⟩])
 (.block 0 (.loop (.seq (.seq (.region [⟨(some 10), .move (.t 6), none, .write, 0⟩, ⟨(some 11), .move (.t 2), none, .write, 0⟩, ⟨(some 12), .arith .lss (.t 10) (.t 11), none, .write, 0⟩])
 (.cond (.t 12) .skip (.exit 0)))
 (.seq (.block 1 (.seq (.region [⟨(some 15), .move (.t 6), none, .write, 0⟩, ⟨(some 7), .move (.t 15), none, .write, 0⟩])
 (.block 2 (.loop (.seq (.seq (.draw [⟨(some 16), .move (.t 7), none, .read, 0⟩, ⟨(some 17), .move (.t 1), none, .read, 0⟩, ⟨(some 18), .arith .gtr (.t 16) (.t 17), none, .read, 0⟩, ⟨(some 19), .move (.t 18), none, .read, 0⟩, ⟨(some 20), .move (.t 0), (some (19, true)), .read, 0⟩, ⟨(some 21), .move (.t 7), (some (19, true)), .read, 0⟩, ⟨(some 22), .indexAddr 1 (.t 20) (.t 21), (some (19, true)), .read, 0⟩, ⟨(some 23), .load none (.t 22), (some (19, true)), .read, 0⟩, ⟨(some 24), .move (.t 0), (some (19, true)), .read, 0⟩, ⟨(some 25), .move (.t 7), (some (19, true)), .read, 0⟩, ⟨(some 26), .arith .sub (.t 25) (.c (.int .i64 1)), (some (19, true)), .read, 0⟩, ⟨(some 27), .indexAddr 1 (.t 24) (.t 26), (some (19, true)), .read, 0⟩, ⟨(some 28), .load none (.t 27), (some (19, true)), .read, 0⟩, ⟨(some 29), .call (.c (.func 224 [])) [(.t 23), (.t 28)], (some (19, true)), .write, 0⟩, ⟨(some 30), .pick (.t 19) (.t 29) (.c (.bool false)), none, .read, 1⟩])
 (.cond (.t 30) .skip (.exit 2)))
 (.seq (.block 3 (.draw [⟨(some 38), .move (.t 0), none, .read, 0⟩, ⟨(some 39), .move (.t 7), none, .read, 0⟩, ⟨(some 40), .arith .sub (.t 39) (.c (.int .i64 1)), none, .read, 0⟩, ⟨(some 41), .indexAddr 1 (.t 38) (.t 40), none, .read, 0⟩, ⟨(some 42), .load none (.t 41), none, .read, 0⟩, ⟨(some 43), .move (.t 0), none, .read, 0⟩, ⟨(some 44), .move (.t 7), none, .read, 0⟩, ⟨(some 45), .indexAddr 1 (.t 43) (.t 44), none, .read, 0⟩, ⟨(some 46), .load none (.t 45), none, .read, 0⟩, ⟨(some 33), .move (.t 0), none, .read, 0⟩, ⟨(some 34), .move (.t 7), none, .read, 0⟩, ⟨(some 47), .indexAddr 1 (.t 33) (.t 34), none, .read, 0⟩, ⟨none, .store 1 (.t 47) (.t 42), none, .write, 0⟩, ⟨(some 35), .move (.t 0), none, .read, 0⟩, ⟨(some 36), .move (.t 7), none, .read, 0⟩, ⟨(some 37), .arith .sub (.t 36) (.c (.int .i64 1)), none, .read, 0⟩, ⟨(some 48), .indexAddr 1 (.t 35) (.t 37), none, .read, 1⟩, ⟨none, .store 1 (.t 48) (.t 46), none, .write, 1⟩]))
 (.region [⟨(some 31), .move (.t 7), none, .write, 0⟩, ⟨(some 32), .arith .sub (.t 31) (.c (.int .i64 1)), none, .write, 0⟩, ⟨(some 7), .move (.t 32), none, .write, 0⟩])))))))
 (.region [⟨(some 13), .move (.t 6), none, .write, 0⟩, ⟨(some 14), .arith .add (.t 13) (.c (.int .i64 1)), none, .write, 0⟩, ⟨(some 6), .move (.t 14), none, .write, 0⟩])))))) }

theorem c218 : compFunc Tryz.prog Tryz.f218 .full = some t218 := by kernel_rfl

/-- slices.heapSortOrdered[int] -/
def t219 : DFunc := { ntmps := 56, results := [], mode := .full, body :=
 (.seq (.region [⟨(some 11), .move (.t 1), none, .write, 0⟩, ⟨(some 6), .move (.t 11), none, .write, 0⟩])
 (.seq (.region [⟨(some 7), .move (.c (.int .i64 0)), none, .write, 0⟩])
 (.seq (.region [⟨(some 12), .move (.t 2), none, .write, 0⟩, ⟨(some 13), .move (.t 1), none, .write, 0⟩, ⟨(some 14), .arith .sub (.t 12) (.t 13), none, .write, 0⟩, ⟨(some 8), .move (.t 14), none, .write, 0⟩])
 (.seq (.seq (.region [⟨(some 15), .move (.t 8), none, .write, 0⟩, ⟨(some 16), .arith .sub (.t 15) (.c (.int .i64 1)), none, .write, 0⟩, ⟨(some 17), .arith .quo (.t 16) (.c (.int .i64 2)), none, .write, 0⟩, ⟨(some 9), .move (.t 17), none, .write, 0⟩])
 (.block 0 (.loop (.seq (.seq (.region [⟨(some 18), .move (.t 9), none, .write, 0⟩, ⟨(some 19), .arith .geq (.t 18) (.c (.int .i64 0)), none, .write, 0⟩])
 (.cond (.t 19) .skip (.exit 0)))
 (.seq (.block 1 (.region [⟨(some 22), .move (.t 0), none, .write, 0⟩, ⟨(some 23), .move (.t 9), none, .write, 0⟩, ⟨(some 24), .move (.t 8), none, .write, 0⟩, ⟨(some 25), .move (.t 6), none, .write, 0⟩, ⟨(some 26), .call (.c (.func 282 [])) [(.t 22), (.t 23), (.t 24), (.t 25)], none, .write, 0⟩]))
 (.region [⟨(some 20), .move (.t 9), none, .write, 0⟩, ⟨(some 21), .arith .sub (.t 20) (.c (.int .i64 1)), none, .write, 0⟩, ⟨(some 9), .move (.t 21), none, .write, 0⟩]))))))
 (.seq (.region [⟨(some 27), .move (.t 8), none, .write, 0⟩, ⟨(some 28), .arith .sub (.t 27) (.c (.int .i64 1)), none, .write, 0⟩, ⟨(some 10), .move (.t 28), none, .write, 0⟩])
 (.block 2 (.loop (.seq (.seq (.region [⟨(some 29), .move (.t 10), none, .write, 0⟩, ⟨(some 30), .arith .geq (.t 29) (.c (.int .i64 0)), none, .write, 0⟩])
 (.cond (.t 30) .skip (.exit 2)))
 (.seq (.block 3 (.seq (.draw [⟨(some 39), .move (.t 0), none, .read, 0⟩, ⟨(some 40), .move (.t 6), none, .read, 0⟩, ⟨(some 41), .move (.t 10), none, .read, 0⟩, ⟨(some 42), .arith .add (.t 40) (.t 41), none, .read, 0⟩, ⟨(some 43), .indexAddr 1 (.t 39) (.t 42), none, .read, 0⟩, ⟨(some 44), .load none (.t 43), none, .read, 0⟩, ⟨(some 45), .move (.t 0), none, .read, 0⟩, ⟨(some 46), .move (.t 6), none, .read, 0⟩, ⟨(some 47), .indexAddr 1 (.t 45) (.t 46), none, .read, 0⟩, ⟨(some 48), .load none (.t 47), none, .read, 0⟩, ⟨(some 33), .move (.t 0), none, .read, 0⟩, ⟨(some 34), .move (.t 6), none, .read, 0⟩, ⟨(some 49), .indexAddr 1 (.t 33) (.t 34), none, .read, 0⟩, ⟨none, .store 1 (.t 49) (.t 44), none, .write, 0⟩, ⟨(some 35), .move (.t 0), none, .read, 0⟩, ⟨(some 36), .move (.t 6), none, .read, 0⟩, ⟨(some 37), .move (.t 10), none, .read, 0⟩, ⟨(some 38), .arith .add (.t 36) (.t 37), none, .read, 0⟩, ⟨(some 50), .indexAddr 1 (.t 35) (.t 38), none, .read, 1⟩, ⟨none, .store 1 (.t 50) (.t 48), none, .write, 1⟩])
 (.region [⟨(some 51), .move (.t 0), none, .write, 0⟩, ⟨(some 52), .move (.t 7), none, .write, 0⟩, ⟨(some 53), .move (.t 10), none, .write, 0⟩, ⟨(some 54), .move (.t 6), none, .write, 0⟩, ⟨(some 55), .call (.c (.func 282 [])) [(.t 51), (.t 52), (.t 53), (.t 54)], none, .write, 0⟩])))
 (.region [⟨(some 31), .move (.t 10), none, .write, 0⟩, ⟨(some 32), .arith .sub (.t 31) (.c (.int .i64 1)), none, .write, 0⟩, ⟨(some 10), .move (.t 32), none, .write, 0⟩])))))))))) }

theorem c219 : compFunc Tryz.prog Tryz.f219 .full = some t219 := by kernel_rfl

/-- slices.breakPatternsOrdered[int] -/
def t220 : DFunc := { ntmps := 65, results := [], mode := .full, body :=
 (.seq (.region [⟨(some 11), .move (.t 2), none, .write, 0⟩, ⟨(some 12), .move (.t 1), none, .write, 0⟩, ⟨(some 13), .arith .sub (.t 11) (.t 12), none, .write, 0⟩, ⟨(some 6), .move (.t 13), none, .write, 0⟩])
 (.seq (.region [⟨(some 14), .move (.t 6), none, .write, 0⟩, ⟨(some 15), .arith .geq (.t 14) (.c (.int .i64 8)), none, .write, 0⟩])
 (.cond (.t 15) (.seq (.region [⟨(some 16), .move (.t 6), none, .write, 0⟩, ⟨(some 17), .conv .u64 (.t 16), none, .write, 0⟩, ⟨(some 7), .alloc 354 1 (.int .u64 0), none, .write, 0⟩, ⟨none, .store 1 (.t 7) (.t 17), none, .write, 0⟩])
 (.seq (.region [⟨(some 18), .move (.t 6), none, .write, 0⟩, ⟨(some 19), .call (.c (.func 248 [])) [(.t 18)], none, .write, 0⟩, ⟨(some 8), .move (.t 19), none, .write, 0⟩])
 (.seq (.region [⟨(some 20), .move (.t 1), none, .write, 0⟩, ⟨(some 21), .move (.t 6), none, .write, 0⟩, ⟨(some 22), .arith .quo (.t 21) (.c (.int .i64 4)), none, .write, 0⟩, ⟨(some 23), .arith .mul (.t 22) (.c (.int .i64 2)), none, .write, 0⟩, ⟨(some 24), .arith .add (.t 20) (.t 23), none, .write, 0⟩, ⟨(some 25), .arith .sub (.t 24) (.c (.int .i64 1)), none, .write, 0⟩, ⟨(some 9), .move (.t 25), none, .write, 0⟩])
 (.block 0 (.loop (.seq (.seq (.region [⟨(some 26), .move (.t 9), none, .write, 0⟩, ⟨(some 27), .move (.t 1), none, .write, 0⟩, ⟨(some 28), .move (.t 6), none, .write, 0⟩, ⟨(some 29), .arith .quo (.t 28) (.c (.int .i64 4)), none, .write, 0⟩, ⟨(some 30), .arith .mul (.t 29) (.c (.int .i64 2)), none, .write, 0⟩, ⟨(some 31), .arith .add (.t 27) (.t 30), none, .write, 0⟩, ⟨(some 32), .arith .add (.t 31) (.c (.int .i64 1)), none, .write, 0⟩, ⟨(some 33), .arith .leq (.t 26) (.t 32), none, .write, 0⟩])
 (.cond (.t 33) .skip (.exit 0)))
 (.seq (.block 1 (.seq (.region [⟨(some 36), .call (.c (.func 249 [])) [(.t 7)], none, .write, 0⟩, ⟨(some 37), .move (.t 8), none, .write, 0⟩, ⟨(some 38), .arith .sub (.t 37) (.c (.int .u64 1)), none, .write, 0⟩, ⟨(some 39), .arith .and (.t 36) (.t 38), none, .write, 0⟩, ⟨(some 40), .conv .i64 (.t 39), none, .write, 0⟩, ⟨(some 10), .move (.t 40), none, .write, 0⟩])
 (.seq (.seq (.region [⟨(some 41), .move (.t 10), none, .write, 0⟩, ⟨(some 42), .move (.t 6), none, .write, 0⟩, ⟨(some 43), .arith .geq (.t 41) (.t 42), none, .write, 0⟩])
 (.cond (.t 43) (.region [⟨(some 44), .move (.t 10), none, .write, 0⟩, ⟨(some 45), .move (.t 6), none, .write, 0⟩, ⟨(some 46), .arith .sub (.t 44) (.t 45), none, .write, 0⟩, ⟨(some 10), .move (.t 46), none, .write, 0⟩]) .skip))
 (.draw [⟨(some 53), .move (.t 0), none, .read, 0⟩, ⟨(some 54), .move (.t 1), none, .read, 0⟩, ⟨(some 55), .move (.t 10), none, .read, 0⟩, ⟨(some 56), .arith .add (.t 54) (.t 55), none, .read, 0⟩, ⟨(some 57), .indexAddr 1 (.t 53) (.t 56), none, .read, 0⟩, ⟨(some 58), .load none (.t 57), none, .read, 0⟩, ⟨(some 59), .move (.t 0), none, .read, 0⟩, ⟨(some 60), .move (.t 9), none, .read, 0⟩, ⟨(some 61), .indexAddr 1 (.t 59) (.t 60), none, .read, 0⟩, ⟨(some 62), .load none (.t 61), none, .read, 0⟩, ⟨(some 47), .move (.t 0), none, .read, 0⟩, ⟨(some 48), .move (.t 9), none, .read, 0⟩, ⟨(some 63), .indexAddr 1 (.t 47) (.t 48), none, .read, 0⟩, ⟨none, .store 1 (.t 63) (.t 58), none, .write, 0⟩, ⟨(some 49), .move (.t 0), none, .read, 0⟩, ⟨(some 50), .move (.t 1), none, .read, 0⟩, ⟨(some 51), .move (.t 10), none, .read, 0⟩, ⟨(some 52), .arith .add (.t 50) (.t 51), none, .read, 0⟩, ⟨(some 64), .indexAddr 1 (.t 49) (.t 52), none, .read, 1⟩, ⟨none, .store 1 (.t 64) (.t 62), none, .write, 1⟩]))))
 (.region [⟨(some 34), .move (.t 9), none, .write, 0⟩, ⟨(some 35), .arith .add (.t 34) (.c (.int .i64 1)), none, .write, 0⟩, ⟨(some 9), .move (.t 35), none, .write, 0⟩])))))))) .skip))) }

theorem c220 : compFunc Tryz.prog Tryz.f220 .full = some t220 := by kernel_rfl

/-- slices.choosePivotOrdered[int] -/
def t221 : DFunc := { ntmps := 57, results := [(.t 6), (.t 7)], mode := .full, body :=
 (.seq (.region [⟨(some 6), .move (.c (.int .i64 0)), none, .write, 0⟩, ⟨(some 7), .move (.c (.int .i64 0)), none, .write, 0⟩])
 (.seq (.region [⟨(some 13), .move (.t 2), none, .write, 0⟩, ⟨(some 14), .move (.t 1), none, .write, 0⟩, ⟨(some 15), .arith .sub (.t 13) (.t 14), none, .write, 0⟩, ⟨(some 8), .move (.t 15), none, .write, 0⟩])
 (.seq (.region [⟨(some 9), .alloc 3 1 (.int .i64 0), none, .write, 0⟩])
 (.seq (.region [⟨(some 16), .move (.t 1), none, .write, 0⟩, ⟨(some 17), .move (.t 8), none, .write, 0⟩, ⟨(some 18), .arith .quo (.t 17) (.c (.int .i64 4)), none, .write, 0⟩, ⟨(some 19), .arith .mul (.t 18) (.c (.int .i64 1)), none, .write, 0⟩, ⟨(some 20), .arith .add (.t 16) (.t 19), none, .write, 0⟩, ⟨(some 10), .move (.t 20), none, .write, 0⟩])
 (.seq (.region [⟨(some 21), .move (.t 1), none, .write, 0⟩, ⟨(some 22), .move (.t 8), none, .write, 0⟩, ⟨(some 23), .arith .quo (.t 22) (.c (.int .i64 4)), none, .write, 0⟩, ⟨(some 24), .arith .mul (.t 23) (.c (.int .i64 2)), none, .write, 0⟩, ⟨(some 25), .arith .add (.t 21) (.t 24), none, .write, 0⟩, ⟨(some 11), .move (.t 25), none, .write, 0⟩])
 (.seq (.region [⟨(some 26), .move (.t 1), none, .write, 0⟩, ⟨(some 27), .move (.t 8), none, .write, 0⟩, ⟨(some 28), .arith .quo (.t 27) (.c (.int .i64 4)), none, .write, 0⟩, ⟨(some 29), .arith .mul (.t 28) (.c (.int .i64 3)), none, .write, 0⟩, ⟨(some 30), .arith .add (.t 26) (.t 29), none, .write, 0⟩, ⟨(some 12), .move (.t 30), none, .write, 0⟩])
 (.seq (.seq (.region [⟨(some 31), .move (.t 8), none, .write, 0⟩, ⟨(some 32), .arith .geq (.t 31) (.c (.int .i64 8)), none, .write, 0⟩])
 (.cond (.t 32) (.seq (.seq (.region [⟨(some 33), .move (.t 8), none, .write, 0⟩, ⟨(some 34), .arith .geq (.t 33) (.c (.int .i64 50)), none, .write, 0⟩])
 (.cond (.t 34) (.seq (.region [⟨(some 35), .move (.t 0), none, .write, 0⟩, ⟨(some 36), .move (.t 10), none, .write, 0⟩, ⟨(some 37), .call (.c (.func 283 [])) [(.t 35), (.t 36), (.t 9)], none, .write, 0⟩, ⟨(some 10), .move (.t 37), none, .write, 0⟩])
 (.seq (.region [⟨(some 38), .move (.t 0), none, .write, 0⟩, ⟨(some 39), .move (.t 11), none, .write, 0⟩, ⟨(some 40), .call (.c (.func 283 [])) [(.t 38), (.t 39), (.t 9)], none, .write, 0⟩, ⟨(some 11), .move (.t 40), none, .write, 0⟩])
 (.region [⟨(some 41), .move (.t 0), none, .write, 0⟩, ⟨(some 42), .move (.t 12), none, .write, 0⟩, ⟨(some 43), .call (.c (.func 283 [])) [(.t 41), (.t 42), (.t 9)], none, .write, 0⟩, ⟨(some 12), .move (.t 43), none, .write, 0⟩]))) .skip))
 (.region [⟨(some 44), .move (.t 0), none, .write, 0⟩, ⟨(some 45), .move (.t 10), none, .write, 0⟩, ⟨(some 46), .move (.t 11), none, .write, 0⟩, ⟨(some 47), .move (.t 12), none, .write, 0⟩, ⟨(some 48), .call (.c (.func 284 [])) [(.t 44), (.t 45), (.t 46), (.t 47), (.t 9)], none, .write, 0⟩, ⟨(some 11), .move (.t 48), none, .write, 0⟩])) .skip))
 (.seq (.region [⟨(some 49), .load none (.t 9), none, .write, 0⟩])
 (.block 0 (.seq (.region [⟨(some 52), .arith .eql (.t 49) (.c (.int .i64 0)), none, .write, 0⟩, ⟨(some 51), .move (.t 52), none, .write, 0⟩])
 (.cond (.t 51) (.seq (.region [⟨(some 53), .move (.t 11), none, .write, 0⟩, ⟨(some 6), .move (.t 53), none, .write, 0⟩, ⟨(some 7), .move (.c (.int .i64 1)), none, .write, 0⟩])
 .ret) (.seq (.region [⟨(some 55), .arith .eql (.t 49) (.c (.int .i64 12)), none, .write, 0⟩, ⟨(some 54), .move (.t 55), none, .write, 0⟩])
 (.cond (.t 54) (.seq (.region [⟨(some 56), .move (.t 11), none, .write, 0⟩, ⟨(some 6), .move (.t 56), none, .write, 0⟩, ⟨(some 7), .move (.c (.int .i64 2)), none, .write, 0⟩])
 .ret) (.seq (.region [⟨(some 50), .move (.t 11), none, .write, 0⟩, ⟨(some 6), .move (.t 50), none, .write, 0⟩, ⟨(some 7), .move (.c (.int .i64 0)), none, .write, 0⟩])
 .ret)))))))))))))) }

theorem c221 : compFunc Tryz.prog Tryz.f221 .full = some t221 := by kernel_rfl

/-- slices.reverseRangeOrdered[int] -/
def t222 : DFunc := { ntmps := 32, results := [], mode := .full, body :=
 (.seq (.region [⟨(some 8), .move (.t 1), none, .write, 0⟩, ⟨(some 6), .move (.t 8), none, .write, 0⟩])
 (.seq (.region [⟨(some 9), .move (.t 2), none, .write, 0⟩, ⟨(some 10), .arith .sub (.t 9) (.c (.int .i64 1)), none, .write, 0⟩, ⟨(some 7), .move (.t 10), none, .write, 0⟩])
 (.block 0 (.loop (.seq (.seq (.region [⟨(some 11), .move (.t 6), none, .write, 0⟩, ⟨(some 12), .move (.t 7), none, .write, 0⟩, ⟨(some 13), .arith .lss (.t 11) (.t 12), none, .write, 0⟩])
 (.cond (.t 13) .skip (.exit 0)))
 (.block 1 (.seq (.draw [⟨(some 18), .move (.t 0), none, .read, 0⟩, ⟨(some 19), .move (.t 7), none, .read, 0⟩, ⟨(some 20), .indexAddr 1 (.t 18) (.t 19), none, .read, 0⟩, ⟨(some 21), .load none (.t 20), none, .read, 0⟩, ⟨(some 22), .move (.t 0), none, .read, 0⟩, ⟨(some 23), .move (.t 6), none, .read, 0⟩, ⟨(some 24), .indexAddr 1 (.t 22) (.t 23), none, .read, 0⟩, ⟨(some 25), .load none (.t 24), none, .read, 0⟩, ⟨(some 14), .move (.t 0), none, .read, 0⟩, ⟨(some 15), .move (.t 6), none, .read, 0⟩, ⟨(some 26), .indexAddr 1 (.t 14) (.t 15), none, .read, 0⟩, ⟨none, .store 1 (.t 26) (.t 21), none, .write, 0⟩, ⟨(some 16), .move (.t 0), none, .read, 0⟩, ⟨(some 17), .move (.t 7), none, .read, 0⟩, ⟨(some 27), .indexAddr 1 (.t 16) (.t 17), none, .read, 1⟩, ⟨none, .store 1 (.t 27) (.t 25), none, .write, 1⟩])
 (.seq (.region [⟨(some 28), .move (.t 6), none, .write, 0⟩, ⟨(some 29), .arith .add (.t 28) (.c (.int .i64 1)), none, .write, 0⟩, ⟨(some 6), .move (.t 29), none, .write, 0⟩])
 (.region [⟨(some 30), .move (.t 7), none, .write, 0⟩, ⟨(some 31), .arith .sub (.t 30) (.c (.int .i64 1)), none, .write, 0⟩, ⟨(some 7), .move (.t 31), none, .write, 0⟩]))))))))) }

theorem c222 : compFunc Tryz.prog Tryz.f222 .full = some t222 := by kernel_rfl

/-- slices.partialInsertionSortOrdered[int] -/
def t223 : DFunc := { ntmps := 133, results := [(.t 6)], mode := .full, body :=
 (.seq (.region [⟨(some 6), .move (.c (.bool false)), none, .write, 0⟩])
 (.seq (.region [⟨(some 11), .move (.t 1), none, .write, 0⟩, ⟨(some 12), .arith .add (.t 11) (.c (.int .i64 1)), none, .write, 0⟩, ⟨(some 7), .move (.t 12), none, .write, 0⟩])
 (.seq (.seq (.region [⟨(some 8), .move (.c (.int .i64 0)), none, .write, 0⟩])
 (.block 0 (.loop (.seq (.seq (.region [⟨(some 13), .move (.t 8), none, .write, 0⟩, ⟨(some 14), .arith .lss (.t 13) (.c (.int .i64 5)), none, .write, 0⟩])
 (.cond (.t 14) .skip (.exit 0)))
 (.seq (.block 1 (.seq (.block 2 (.loop (.seq (.seq (.draw [⟨(some 17), .move (.t 7), none, .read, 0⟩, ⟨(some 18), .move (.t 2), none, .read, 0⟩, ⟨(some 19), .arith .lss (.t 17) (.t 18), none, .read, 0⟩, ⟨(some 20), .move (.t 19), none, .read, 0⟩, ⟨(some 21), .move (.t 0), (some (20, true)), .read, 0⟩, ⟨(some 22), .move (.t 7), (some (20, true)), .read, 0⟩, ⟨(some 23), .indexAddr 1 (.t 21) (.t 22), (some (20, true)), .read, 0⟩, ⟨(some 24), .load none (.t 23), (some (20, true)), .read, 0⟩, ⟨(some 25), .move (.t 0), (some (20, true)), .read, 0⟩, ⟨(some 26), .move (.t 7), (some (20, true)), .read, 0⟩, ⟨(some 27), .arith .sub (.t 26) (.c (.int .i64 1)), (some (20, true)), .read, 0⟩, ⟨(some 28), .indexAddr 1 (.t 25) (.t 27), (some (20, true)), .read, 0⟩, ⟨(some 29), .load none (.t 28), (some (20, true)), .read, 0⟩, ⟨(some 30), .call (.c (.func 224 [])) [(.t 24), (.t 29)], (some (20, true)), .write, 0⟩, ⟨(some 31), .un .not (.t 30), (some (20, true)), .read, 1⟩, ⟨(some 32), .pick (.t 20) (.t 31) (.c (.bool false)), none, .read, 1⟩])
 (.cond (.t 32) .skip (.exit 2)))
 (.block 3 (.region [⟨(some 33), .move (.t 7), none, .write, 0⟩, ⟨(some 34), .arith .add (.t 33) (.c (.int .i64 1)), none, .write, 0⟩, ⟨(some 7), .move (.t 34), none, .write, 0⟩])))))
 (.seq (.seq (.region [⟨(some 35), .move (.t 7), none, .write, 0⟩, ⟨(some 36), .move (.t 2), none, .write, 0⟩, ⟨(some 37), .arith .eql (.t 35) (.t 36), none, .write, 0⟩])
 (.cond (.t 37) (.seq (.region [⟨(some 6), .move (.c (.bool true)), none, .write, 0⟩])
 .ret) .skip))
 (.seq (.seq (.region [⟨(some 38), .move (.t 2), none, .write, 0⟩, ⟨(some 39), .move (.t 1), none, .write, 0⟩, ⟨(some 40), .arith .sub (.t 38) (.t 39), none, .write, 0⟩, ⟨(some 41), .arith .lss (.t 40) (.c (.int .i64 50)), none, .write, 0⟩])
 (.cond (.t 41) (.seq (.region [⟨(some 6), .move (.c (.bool false)), none, .write, 0⟩])
 .ret) .skip))
 (.seq (.draw [⟨(some 47), .move (.t 0), none, .read, 0⟩, ⟨(some 48), .move (.t 7), none, .read, 0⟩, ⟨(some 49), .arith .sub (.t 48) (.c (.int .i64 1)), none, .read, 0⟩, ⟨(some 50), .indexAddr 1 (.t 47) (.t 49), none, .read, 0⟩, ⟨(some 51), .load none (.t 50), none, .read, 0⟩, ⟨(some 52), .move (.t 0), none, .read, 0⟩, ⟨(some 53), .move (.t 7), none, .read, 0⟩, ⟨(some 54), .indexAddr 1 (.t 52) (.t 53), none, .read, 0⟩, ⟨(some 55), .load none (.t 54), none, .read, 0⟩, ⟨(some 42), .move (.t 0), none, .read, 0⟩, ⟨(some 43), .move (.t 7), none, .read, 0⟩, ⟨(some 56), .indexAddr 1 (.t 42) (.t 43), none, .read, 0⟩, ⟨none, .store 1 (.t 56) (.t 51), none, .write, 0⟩, ⟨(some 44), .move (.t 0), none, .read, 0⟩, ⟨(some 45), .move (.t 7), none, .read, 0⟩, ⟨(some 46), .arith .sub (.t 45) (.c (.int .i64 1)), none, .read, 0⟩, ⟨(some 57), .indexAddr 1 (.t 44) (.t 46), none, .read, 1⟩, ⟨none, .store 1 (.t 57) (.t 55), none, .write, 1⟩])
 (.seq (.seq (.region [⟨(some 58), .move (.t 7), none, .write, 0⟩, ⟨(some 59), .move (.t 1), none, .write, 0⟩, ⟨(some 60), .arith .sub (.t 58) (.t 59), none, .write, 0⟩, ⟨(some 61), .arith .geq (.t 60) (.c (.int .i64 2)), none, .write, 0⟩])
 (.cond (.t 61) (.seq (.region [⟨(some 62), .move (.t 7), none, .write, 0⟩, ⟨(some 63), .arith .sub (.t 62) (.c (.int .i64 1)), none, .write, 0⟩, ⟨(some 9), .move (.t 63), none, .write, 0⟩])
 (.block 4 (.loop (.seq (.seq (.region [⟨(some 64), .move (.t 9), none, .write, 0⟩, ⟨(some 65), .arith .geq (.t 64) (.c (.int .i64 1)), none, .write, 0⟩])
 (.cond (.t 65) .skip (.exit 4)))
 (.seq (.block 5 (.seq (.seq (.draw [⟨(some 68), .move (.t 0), none, .read, 0⟩, ⟨(some 69), .move (.t 9), none, .read, 0⟩, ⟨(some 70), .indexAddr 1 (.t 68) (.t 69), none, .read, 0⟩, ⟨(some 71), .load none (.t 70), none, .read, 0⟩, ⟨(some 72), .move (.t 0), none, .read, 0⟩, ⟨(some 73), .move (.t 9), none, .read, 0⟩, ⟨(some 74), .arith .sub (.t 73) (.c (.int .i64 1)), none, .read, 0⟩, ⟨(some 75), .indexAddr 1 (.t 72) (.t 74), none, .read, 0⟩, ⟨(some 76), .load none (.t 75), none, .read, 0⟩, ⟨(some 77), .call (.c (.func 224 [])) [(.t 71), (.t 76)], none, .write, 0⟩, ⟨(some 78), .un .not (.t 77), none, .read, 1⟩])
 (.cond (.t 78) (.exit 4) .skip))
 (.draw [⟨(some 84), .move (.t 0), none, .read, 0⟩, ⟨(some 85), .move (.t 9), none, .read, 0⟩, ⟨(some 86), .arith .sub (.t 85) (.c (.int .i64 1)), none, .read, 0⟩, ⟨(some 87), .indexAddr 1 (.t 84) (.t 86), none, .read, 0⟩, ⟨(some 88), .load none (.t 87), none, .read, 0⟩, ⟨(some 89), .move (.t 0), none, .read, 0⟩, ⟨(some 90), .move (.t 9), none, .read, 0⟩, ⟨(some 91), .indexAddr 1 (.t 89) (.t 90), none, .read, 0⟩, ⟨(some 92), .load none (.t 91), none, .read, 0⟩, ⟨(some 79), .move (.t 0), none, .read, 0⟩, ⟨(some 80), .move (.t 9), none, .read, 0⟩, ⟨(some 93), .indexAddr 1 (.t 79) (.t 80), none, .read, 0⟩, ⟨none, .store 1 (.t 93) (.t 88), none, .write, 0⟩, ⟨(some 81), .move (.t 0), none, .read, 0⟩, ⟨(some 82), .move (.t 9), none, .read, 0⟩, ⟨(some 83), .arith .sub (.t 82) (.c (.int .i64 1)), none, .read, 0⟩, ⟨(some 94), .indexAddr 1 (.t 81) (.t 83), none, .read, 1⟩, ⟨none, .store 1 (.t 94) (.t 92), none, .write, 1⟩])))
 (.region [⟨(some 66), .move (.t 9), none, .write, 0⟩, ⟨(some 67), .arith .sub (.t 66) (.c (.int .i64 1)), none, .write, 0⟩, ⟨(some 9), .move (.t 67), none, .write, 0⟩])))))) .skip))
 (.seq (.region [⟨(some 95), .move (.t 2), none, .write, 0⟩, ⟨(some 96), .move (.t 7), none, .write, 0⟩, ⟨(some 97), .arith .sub (.t 95) (.t 96), none, .write, 0⟩, ⟨(some 98), .arith .geq (.t 97) (.c (.int .i64 2)), none, .write, 0⟩])
 (.cond (.t 98) (.seq (.region [⟨(some 99), .move (.t 7), none, .write, 0⟩, ⟨(some 100), .arith .add (.t 99) (.c (.int .i64 1)), none, .write, 0⟩, ⟨(some 10), .move (.t 100), none, .write, 0⟩])
 (.block 6 (.loop (.seq (.seq (.region [⟨(some 101), .move (.t 10), none, .write, 0⟩, ⟨(some 102), .move (.t 2), none, .write, 0⟩, ⟨(some 103), .arith .lss (.t 101) (.t 102), none, .write, 0⟩])
 (.cond (.t 103) .skip (.exit 6)))
 (.seq (.block 7 (.seq (.seq (.draw [⟨(some 106), .move (.t 0), none, .read, 0⟩, ⟨(some 107), .move (.t 10), none, .read, 0⟩, ⟨(some 108), .indexAddr 1 (.t 106) (.t 107), none, .read, 0⟩, ⟨(some 109), .load none (.t 108), none, .read, 0⟩, ⟨(some 110), .move (.t 0), none, .read, 0⟩, ⟨(some 111), .move (.t 10), none, .read, 0⟩, ⟨(some 112), .arith .sub (.t 111) (.c (.int .i64 1)), none, .read, 0⟩, ⟨(some 113), .indexAddr 1 (.t 110) (.t 112), none, .read, 0⟩, ⟨(some 114), .load none (.t 113), none, .read, 0⟩, ⟨(some 115), .call (.c (.func 224 [])) [(.t 109), (.t 114)], none, .write, 0⟩, ⟨(some 116), .un .not (.t 115), none, .read, 1⟩])
 (.cond (.t 116) (.exit 6) .skip))
 (.draw [⟨(some 122), .move (.t 0), none, .read, 0⟩, ⟨(some 123), .move (.t 10), none, .read, 0⟩, ⟨(some 124), .arith .sub (.t 123) (.c (.int .i64 1)), none, .read, 0⟩, ⟨(some 125), .indexAddr 1 (.t 122) (.t 124), none, .read, 0⟩, ⟨(some 126), .load none (.t 125), none, .read, 0⟩, ⟨(some 127), .move (.t 0), none, .read, 0⟩, ⟨(some 128), .move (.t 10), none, .read, 0⟩, ⟨(some 129), .indexAddr 1 (.t 127) (.t 128), none, .read, 0⟩, ⟨(some 130), .load none (.t 129), none, .read, 0⟩, ⟨(some 117), .move (.t 0), none, .read, 0⟩, ⟨(some 118), .move (.t 10), none, .read, 0⟩, ⟨(some 131), .indexAddr 1 (.t 117) (.t 118), none, .read, 0⟩, ⟨none, .store 1 (.t 131) (.t 126), none, .write, 0⟩, ⟨(some 119), .move (.t 0), none, .read, 0⟩, ⟨(some 120), .move (.t 10), none, .read, 0⟩, ⟨(some 121), .arith .sub (.t 120) (.c (.int .i64 1)), none, .read, 0⟩, ⟨(some 132), .indexAddr 1 (.t 119) (.t 121), none, .read, 1⟩, ⟨none, .store 1 (.t 132) (.t 130), none, .write, 1⟩])))
 (.region [⟨(some 104), .move (.t 10), none, .write, 0⟩, ⟨(some 105), .arith .add (.t 104) (.c (.int .i64 1)), none, .write, 0⟩, ⟨(some 10), .move (.t 105), none, .write, 0⟩])))))) .skip))))))))
 (.region [⟨(some 15), .move (.t 8), none, .write, 0⟩, ⟨(some 16), .arith .add (.t 15) (.c (.int .i64 1)), none, .write, 0⟩, ⟨(some 8), .move (.t 16), none, .write, 0⟩]))))))
 (.seq (.region [⟨(some 6), .move (.c (.bool false)), none, .write, 0⟩])
 .ret)))) }

theorem c223 : compFunc Tryz.prog Tryz.f223 .full = some t223 := by kernel_rfl

/-- cmp.Less[int] -/
def t224 : DFunc := { ntmps := 17, results := [(.t 4)], mode := .full, body :=
 (.seq (.region [⟨(some 4), .move (.c (.bool false)), none, .write, 0⟩])
 (.seq (.region [⟨(some 5), .move (.t 0), none, .write, 0⟩, ⟨(some 6), .call (.c (.func 116 [])) [(.t 5)], none, .write, 0⟩, ⟨(some 7), .move (.t 6), none, .write, 0⟩, ⟨(some 8), .move (.t 1), (some (7, true)), .write, 0⟩, ⟨(some 9), .call (.c (.func 116 [])) [(.t 8)], (some (7, true)), .write, 0⟩, ⟨(some 10), .un .not (.t 9), (some (7, true)), .write, 0⟩, ⟨(some 11), .pick (.t 7) (.t 10) (.c (.bool false)), none, .write, 0⟩, ⟨(some 12), .move (.t 11), none, .write, 0⟩, ⟨(some 13), .move (.t 0), (some (12, false)), .write, 0⟩, ⟨(some 14), .move (.t 1), (some (12, false)), .write, 0⟩, ⟨(some 15), .arith .lss (.t 13) (.t 14), (some (12, false)), .write, 0⟩, ⟨(some 16), .pick (.t 12) (.c (.bool true)) (.t 15), none, .write, 0⟩, ⟨(some 4), .move (.t 16), none, .write, 0⟩])
 .ret)) }

theorem c224 : compFunc Tryz.prog Tryz.f224 .full = some t224 := by kernel_rfl

/-- slices.partitionEqualOrdered[int] -/
def t225 : DFunc := { ntmps := 84, results := [(.t 8)], mode := .full, body :=
 (.seq (.region [⟨(some 8), .move (.c (.int .i64 0)), none, .write, 0⟩])
 (.seq (.draw [⟨(some 15), .move (.t 0), none, .read, 0⟩, ⟨(some 16), .move (.t 3), none, .read, 0⟩, ⟨(some 17), .indexAddr 1 (.t 15) (.t 16), none, .read, 0⟩, ⟨(some 18), .load none (.t 17), none, .read, 0⟩, ⟨(some 19), .move (.t 0), none, .read, 0⟩, ⟨(some 20), .move (.t 1), none, .read, 0⟩, ⟨(some 21), .indexAddr 1 (.t 19) (.t 20), none, .read, 0⟩, ⟨(some 22), .load none (.t 21), none, .read, 0⟩, ⟨(some 11), .move (.t 0), none, .read, 0⟩, ⟨(some 12), .move (.t 1), none, .read, 0⟩, ⟨(some 23), .indexAddr 1 (.t 11) (.t 12), none, .read, 0⟩, ⟨none, .store 1 (.t 23) (.t 18), none, .write, 0⟩, ⟨(some 13), .move (.t 0), none, .read, 0⟩, ⟨(some 14), .move (.t 3), none, .read, 0⟩, ⟨(some 24), .indexAddr 1 (.t 13) (.t 14), none, .read, 1⟩, ⟨none, .store 1 (.t 24) (.t 22), none, .write, 1⟩])
 (.seq (.region [⟨(some 25), .move (.t 1), none, .write, 0⟩, ⟨(some 26), .arith .add (.t 25) (.c (.int .i64 1)), none, .write, 0⟩, ⟨(some 27), .move (.t 2), none, .write, 0⟩, ⟨(some 28), .arith .sub (.t 27) (.c (.int .i64 1)), none, .write, 0⟩, ⟨(some 9), .move (.t 26), none, .write, 0⟩, ⟨(some 10), .move (.t 28), none, .write, 0⟩])
 (.seq (.block 0 (.loop (.block 1 (.seq (.block 2 (.loop (.seq (.seq (.draw [⟨(some 29), .move (.t 9), none, .read, 0⟩, ⟨(some 30), .move (.t 10), none, .read, 0⟩, ⟨(some 31), .arith .leq (.t 29) (.t 30), none, .read, 0⟩, ⟨(some 32), .move (.t 31), none, .read, 0⟩, ⟨(some 33), .move (.t 0), (some (32, true)), .read, 0⟩, ⟨(some 34), .move (.t 1), (some (32, true)), .read, 0⟩, ⟨(some 35), .indexAddr 1 (.t 33) (.t 34), (some (32, true)), .read, 0⟩, ⟨(some 36), .load none (.t 35), (some (32, true)), .read, 0⟩, ⟨(some 37), .move (.t 0), (some (32, true)), .read, 0⟩, ⟨(some 38), .move (.t 9), (some (32, true)), .read, 0⟩, ⟨(some 39), .indexAddr 1 (.t 37) (.t 38), (some (32, true)), .read, 0⟩, ⟨(some 40), .load none (.t 39), (some (32, true)), .read, 0⟩, ⟨(some 41), .call (.c (.func 224 [])) [(.t 36), (.t 40)], (some (32, true)), .write, 0⟩, ⟨(some 42), .un .not (.t 41), (some (32, true)), .read, 1⟩, ⟨(some 43), .pick (.t 32) (.t 42) (.c (.bool false)), none, .read, 1⟩])
 (.cond (.t 43) .skip (.exit 2)))
 (.block 3 (.region [⟨(some 44), .move (.t 9), none, .write, 0⟩, ⟨(some 45), .arith .add (.t 44) (.c (.int .i64 1)), none, .write, 0⟩, ⟨(some 9), .move (.t 45), none, .write, 0⟩])))))
 (.seq (.block 4 (.loop (.seq (.seq (.draw [⟨(some 46), .move (.t 9), none, .read, 0⟩, ⟨(some 47), .move (.t 10), none, .read, 0⟩, ⟨(some 48), .arith .leq (.t 46) (.t 47), none, .read, 0⟩, ⟨(some 49), .move (.t 48), none, .read, 0⟩, ⟨(some 50), .move (.t 0), (some (49, true)), .read, 0⟩, ⟨(some 51), .move (.t 1), (some (49, true)), .read, 0⟩, ⟨(some 52), .indexAddr 1 (.t 50) (.t 51), (some (49, true)), .read, 0⟩, ⟨(some 53), .load none (.t 52), (some (49, true)), .read, 0⟩, ⟨(some 54), .move (.t 0), (some (49, true)), .read, 0⟩, ⟨(some 55), .move (.t 10), (some (49, true)), .read, 0⟩, ⟨(some 56), .indexAddr 1 (.t 54) (.t 55), (some (49, true)), .read, 0⟩, ⟨(some 57), .load none (.t 56), (some (49, true)), .read, 0⟩, ⟨(some 58), .call (.c (.func 224 [])) [(.t 53), (.t 57)], (some (49, true)), .write, 0⟩, ⟨(some 59), .pick (.t 49) (.t 58) (.c (.bool false)), none, .read, 1⟩])
 (.cond (.t 59) .skip (.exit 4)))
 (.block 5 (.region [⟨(some 60), .move (.t 10), none, .write, 0⟩, ⟨(some 61), .arith .sub (.t 60) (.c (.int .i64 1)), none, .write, 0⟩, ⟨(some 10), .move (.t 61), none, .write, 0⟩])))))
 (.seq (.seq (.region [⟨(some 62), .move (.t 9), none, .write, 0⟩, ⟨(some 63), .move (.t 10), none, .write, 0⟩, ⟨(some 64), .arith .gtr (.t 62) (.t 63), none, .write, 0⟩])
 (.cond (.t 64) (.exit 0) .skip))
 (.seq (.draw [⟨(some 69), .move (.t 0), none, .read, 0⟩, ⟨(some 70), .move (.t 10), none, .read, 0⟩, ⟨(some 71), .indexAddr 1 (.t 69) (.t 70), none, .read, 0⟩, ⟨(some 72), .load none (.t 71), none, .read, 0⟩, ⟨(some 73), .move (.t 0), none, .read, 0⟩, ⟨(some 74), .move (.t 9), none, .read, 0⟩, ⟨(some 75), .indexAddr 1 (.t 73) (.t 74), none, .read, 0⟩, ⟨(some 76), .load none (.t 75), none, .read, 0⟩, ⟨(some 65), .move (.t 0), none, .read, 0⟩, ⟨(some 66), .move (.t 9), none, .read, 0⟩, ⟨(some 77), .indexAddr 1 (.t 65) (.t 66), none, .read, 0⟩, ⟨none, .store 1 (.t 77) (.t 72), none, .write, 0⟩, ⟨(some 67), .move (.t 0), none, .read, 0⟩, ⟨(some 68), .move (.t 10), none, .read, 0⟩, ⟨(some 78), .indexAddr 1 (.t 67) (.t 68), none, .read, 1⟩, ⟨none, .store 1 (.t 78) (.t 76), none, .write, 1⟩])
 (.seq (.region [⟨(some 79), .move (.t 9), none, .write, 0⟩, ⟨(some 80), .arith .add (.t 79) (.c (.int .i64 1)), none, .write, 0⟩, ⟨(some 9), .move (.t 80), none, .write, 0⟩])
 (.region [⟨(some 81), .move (.t 10), none, .write, 0⟩, ⟨(some 82), .arith .sub (.t 81) (.c (.int .i64 1)), none, .write, 0⟩, ⟨(some 10), .move (.t 82), none, .write, 0⟩])))))))))
 (.seq (.region [⟨(some 83), .move (.t 9), none, .write, 0⟩, ⟨(some 8), .move (.t 83), none, .write, 0⟩])
 .ret))))) }

theorem c225 : compFunc Tryz.prog Tryz.f225 .full = some t225 := by kernel_rfl

/-- slices.partitionOrdered[int] -/
def t226 : DFunc := { ntmps := 168, results := [(.t 8), (.t 9)], mode := .full, body :=
 (.seq (.region [⟨(some 8), .move (.c (.int .i64 0)), none, .write, 0⟩, ⟨(some 9), .move (.c (.bool false)), none, .write, 0⟩])
 (.seq (.draw [⟨(some 16), .move (.t 0), none, .read, 0⟩, ⟨(some 17), .move (.t 3), none, .read, 0⟩, ⟨(some 18), .indexAddr 1 (.t 16) (.t 17), none, .read, 0⟩, ⟨(some 19), .load none (.t 18), none, .read, 0⟩, ⟨(some 20), .move (.t 0), none, .read, 0⟩, ⟨(some 21), .move (.t 1), none, .read, 0⟩, ⟨(some 22), .indexAddr 1 (.t 20) (.t 21), none, .read, 0⟩, ⟨(some 23), .load none (.t 22), none, .read, 0⟩, ⟨(some 12), .move (.t 0), none, .read, 0⟩, ⟨(some 13), .move (.t 1), none, .read, 0⟩, ⟨(some 24), .indexAddr 1 (.t 12) (.t 13), none, .read, 0⟩, ⟨none, .store 1 (.t 24) (.t 19), none, .write, 0⟩, ⟨(some 14), .move (.t 0), none, .read, 0⟩, ⟨(some 15), .move (.t 3), none, .read, 0⟩, ⟨(some 25), .indexAddr 1 (.t 14) (.t 15), none, .read, 1⟩, ⟨none, .store 1 (.t 25) (.t 23), none, .write, 1⟩])
 (.seq (.region [⟨(some 26), .move (.t 1), none, .write, 0⟩, ⟨(some 27), .arith .add (.t 26) (.c (.int .i64 1)), none, .write, 0⟩, ⟨(some 28), .move (.t 2), none, .write, 0⟩, ⟨(some 29), .arith .sub (.t 28) (.c (.int .i64 1)), none, .write, 0⟩, ⟨(some 10), .move (.t 27), none, .write, 0⟩, ⟨(some 11), .move (.t 29), none, .write, 0⟩])
 (.seq (.block 0 (.loop (.seq (.seq (.draw [⟨(some 30), .move (.t 10), none, .read, 0⟩, ⟨(some 31), .move (.t 11), none, .read, 0⟩, ⟨(some 32), .arith .leq (.t 30) (.t 31), none, .read, 0⟩, ⟨(some 33), .move (.t 32), none, .read, 0⟩, ⟨(some 34), .move (.t 0), (some (33, true)), .read, 0⟩, ⟨(some 35), .move (.t 10), (some (33, true)), .read, 0⟩, ⟨(some 36), .indexAddr 1 (.t 34) (.t 35), (some (33, true)), .read, 0⟩, ⟨(some 37), .load none (.t 36), (some (33, true)), .read, 0⟩, ⟨(some 38), .move (.t 0), (some (33, true)), .read, 0⟩, ⟨(some 39), .move (.t 1), (some (33, true)), .read, 0⟩, ⟨(some 40), .indexAddr 1 (.t 38) (.t 39), (some (33, true)), .read, 0⟩, ⟨(some 41), .load none (.t 40), (some (33, true)), .read, 0⟩, ⟨(some 42), .call (.c (.func 224 [])) [(.t 37), (.t 41)], (some (33, true)), .write, 0⟩, ⟨(some 43), .pick (.t 33) (.t 42) (.c (.bool false)), none, .read, 1⟩])
 (.cond (.t 43) .skip (.exit 0)))
 (.block 1 (.region [⟨(some 44), .move (.t 10), none, .write, 0⟩, ⟨(some 45), .arith .add (.t 44) (.c (.int .i64 1)), none, .write, 0⟩, ⟨(some 10), .move (.t 45), none, .write, 0⟩])))))
 (.seq (.block 2 (.loop (.seq (.seq (.draw [⟨(some 46), .move (.t 10), none, .read, 0⟩, ⟨(some 47), .move (.t 11), none, .read, 0⟩, ⟨(some 48), .arith .leq (.t 46) (.t 47), none, .read, 0⟩, ⟨(some 49), .move (.t 48), none, .read, 0⟩, ⟨(some 50), .move (.t 0), (some (49, true)), .read, 0⟩, ⟨(some 51), .move (.t 11), (some (49, true)), .read, 0⟩, ⟨(some 52), .indexAddr 1 (.t 50) (.t 51), (some (49, true)), .read, 0⟩, ⟨(some 53), .load none (.t 52), (some (49, true)), .read, 0⟩, ⟨(some 54), .move (.t 0), (some (49, true)), .read, 0⟩, ⟨(some 55), .move (.t 1), (some (49, true)), .read, 0⟩, ⟨(some 56), .indexAddr 1 (.t 54) (.t 55), (some (49, true)), .read, 0⟩, ⟨(some 57), .load none (.t 56), (some (49, true)), .read, 0⟩, ⟨(some 58), .call (.c (.func 224 [])) [(.t 53), (.t 57)], (some (49, true)), .write, 0⟩, ⟨(some 59), .un .not (.t 58), (some (49, true)), .read, 1⟩, ⟨(some 60), .pick (.t 49) (.t 59) (.c (.bool false)), none, .read, 1⟩])
 (.cond (.t 60) .skip (.exit 2)))
 (.block 3 (.region [⟨(some 61), .move (.t 11), none, .write, 0⟩, ⟨(some 62), .arith .sub (.t 61) (.c (.int .i64 1)), none, .write, 0⟩, ⟨(some 11), .move (.t 62), none, .write, 0⟩])))))
 (.seq (.seq (.region [⟨(some 63), .move (.t 10), none, .write, 0⟩, ⟨(some 64), .move (.t 11), none, .write, 0⟩, ⟨(some 65), .arith .gtr (.t 63) (.t 64), none, .write, 0⟩])
 (.cond (.t 65) (.seq (.draw [⟨(some 70), .move (.t 0), none, .read, 0⟩, ⟨(some 71), .move (.t 1), none, .read, 0⟩, ⟨(some 72), .indexAddr 1 (.t 70) (.t 71), none, .read, 0⟩, ⟨(some 73), .load none (.t 72), none, .read, 0⟩, ⟨(some 74), .move (.t 0), none, .read, 0⟩, ⟨(some 75), .move (.t 11), none, .read, 0⟩, ⟨(some 76), .indexAddr 1 (.t 74) (.t 75), none, .read, 0⟩, ⟨(some 77), .load none (.t 76), none, .read, 0⟩, ⟨(some 66), .move (.t 0), none, .read, 0⟩, ⟨(some 67), .move (.t 11), none, .read, 0⟩, ⟨(some 78), .indexAddr 1 (.t 66) (.t 67), none, .read, 0⟩, ⟨none, .store 1 (.t 78) (.t 73), none, .write, 0⟩, ⟨(some 68), .move (.t 0), none, .read, 0⟩, ⟨(some 69), .move (.t 1), none, .read, 0⟩, ⟨(some 79), .indexAddr 1 (.t 68) (.t 69), none, .read, 1⟩, ⟨none, .store 1 (.t 79) (.t 77), none, .write, 1⟩])
 (.seq (.region [⟨(some 80), .move (.t 11), none, .write, 0⟩, ⟨(some 8), .move (.t 80), none, .write, 0⟩, ⟨(some 9), .move (.c (.bool true)), none, .write, 0⟩])
 .ret)) .skip))
 (.seq (.draw [⟨(some 85), .move (.t 0), none, .read, 0⟩, ⟨(some 86), .move (.t 11), none, .read, 0⟩, ⟨(some 87), .indexAddr 1 (.t 85) (.t 86), none, .read, 0⟩, ⟨(some 88), .load none (.t 87), none, .read, 0⟩, ⟨(some 89), .move (.t 0), none, .read, 0⟩, ⟨(some 90), .move (.t 10), none, .read, 0⟩, ⟨(some 91), .indexAddr 1 (.t 89) (.t 90), none, .read, 0⟩, ⟨(some 92), .load none (.t 91), none, .read, 0⟩, ⟨(some 81), .move (.t 0), none, .read, 0⟩, ⟨(some 82), .move (.t 10), none, .read, 0⟩, ⟨(some 93), .indexAddr 1 (.t 81) (.t 82), none, .read, 0⟩, ⟨none, .store 1 (.t 93) (.t 88), none, .write, 0⟩, ⟨(some 83), .move (.t 0), none, .read, 0⟩, ⟨(some 84), .move (.t 11), none, .read, 0⟩, ⟨(some 94), .indexAddr 1 (.t 83) (.t 84), none, .read, 1⟩, ⟨none, .store 1 (.t 94) (.t 92), none, .write, 1⟩])
 (.seq (.region [⟨(some 95), .move (.t 10), none, .write, 0⟩, ⟨(some 96), .arith .add (.t 95) (.c (.int .i64 1)), none, .write, 0⟩, ⟨(some 10), .move (.t 96), none, .write, 0⟩])
 (.seq (.region [⟨(some 97), .move (.t 11), none, .write, 0⟩, ⟨(some 98), .arith .sub (.t 97) (.c (.int .i64 1)), none, .write, 0⟩, ⟨(some 11), .move (.t 98), none, .write, 0⟩])
 (.seq (.block 4 (.loop (.block 5 (.seq (.block 6 (.loop (.seq (.seq (.draw [⟨(some 99), .move (.t 10), none, .read, 0⟩, ⟨(some 100), .move (.t 11), none, .read, 0⟩, ⟨(some 101), .arith .leq (.t 99) (.t 100), none, .read, 0⟩, ⟨(some 102), .move (.t 101), none, .read, 0⟩, ⟨(some 103), .move (.t 0), (some (102, true)), .read, 0⟩, ⟨(some 104), .move (.t 10), (some (102, true)), .read, 0⟩, ⟨(some 105), .indexAddr 1 (.t 103) (.t 104), (some (102, true)), .read, 0⟩, ⟨(some 106), .load none (.t 105), (some (102, true)), .read, 0⟩, ⟨(some 107), .move (.t 0), (some (102, true)), .read, 0⟩, ⟨(some 108), .move (.t 1), (some (102, true)), .read, 0⟩, ⟨(some 109), .indexAddr 1 (.t 107) (.t 108), (some (102, true)), .read, 0⟩, ⟨(some 110), .load none (.t 109), (some (102, true)), .read, 0⟩, ⟨(some 111), .call (.c (.func 224 [])) [(.t 106), (.t 110)], (some (102, true)), .write, 0⟩, ⟨(some 112), .pick (.t 102) (.t 111) (.c (.bool false)), none, .read, 1⟩])
 (.cond (.t 112) .skip (.exit 6)))
 (.block 7 (.region [⟨(some 113), .move (.t 10), none, .write, 0⟩, ⟨(some 114), .arith .add (.t 113) (.c (.int .i64 1)), none, .write, 0⟩, ⟨(some 10), .move (.t 114), none, .write, 0⟩])))))
 (.seq (.block 8 (.loop (.seq (.seq (.draw [⟨(some 115), .move (.t 10), none, .read, 0⟩, ⟨(some 116), .move (.t 11), none, .read, 0⟩, ⟨(some 117), .arith .leq (.t 115) (.t 116), none, .read, 0⟩, ⟨(some 118), .move (.t 117), none, .read, 0⟩, ⟨(some 119), .move (.t 0), (some (118, true)), .read, 0⟩, ⟨(some 120), .move (.t 11), (some (118, true)), .read, 0⟩, ⟨(some 121), .indexAddr 1 (.t 119) (.t 120), (some (118, true)), .read, 0⟩, ⟨(some 122), .load none (.t 121), (some (118, true)), .read, 0⟩, ⟨(some 123), .move (.t 0), (some (118, true)), .read, 0⟩, ⟨(some 124), .move (.t 1), (some (118, true)), .read, 0⟩, ⟨(some 125), .indexAddr 1 (.t 123) (.t 124), (some (118, true)), .read, 0⟩, ⟨(some 126), .load none (.t 125), (some (118, true)), .read, 0⟩, ⟨(some 127), .call (.c (.func 224 [])) [(.t 122), (.t 126)], (some (118, true)), .write, 0⟩, ⟨(some 128), .un .not (.t 127), (some (118, true)), .read, 1⟩, ⟨(some 129), .pick (.t 118) (.t 128) (.c (.bool false)), none, .read, 1⟩])
 (.cond (.t 129) .skip (.exit 8)))
 (.block 9 (.region [⟨(some 130), .move (.t 11), none, .write, 0⟩, ⟨(some 131), .arith .sub (.t 130) (.c (.int .i64 1)), none, .write, 0⟩, ⟨(some 11), .move (.t 131), none, .write, 0⟩])))))
 (.seq (.seq (.region [⟨(some 132), .move (.t 10), none, .write, 0⟩, ⟨(some 133), .move (.t 11), none, .write, 0⟩, ⟨(some 134), .arith .gtr (.t 132) (.t 133), none, .write, 0⟩])
 (.cond (.t 134) (.exit 4) .skip))
 (.seq (.draw [⟨(some 139), .move (.t 0), none, .read, 0⟩, ⟨(some 140), .move (.t 11), none, .read, 0⟩, ⟨(some 141), .indexAddr 1 (.t 139) (.t 140), none, .read, 0⟩, ⟨(some 142), .load none (.t 141), none, .read, 0⟩, ⟨(some 143), .move (.t 0), none, .read, 0⟩, ⟨(some 144), .move (.t 10), none, .read, 0⟩, ⟨(some 145), .indexAddr 1 (.t 143) (.t 144), none, .read, 0⟩, ⟨(some 146), .load none (.t 145), none, .read, 0⟩, ⟨(some 135), .move (.t 0), none, .read, 0⟩, ⟨(some 136), .move (.t 10), none, .read, 0⟩, ⟨(some 147), .indexAddr 1 (.t 135) (.t 136), none, .read, 0⟩, ⟨none, .store 1 (.t 147) (.t 142), none, .write, 0⟩, ⟨(some 137), .move (.t 0), none, .read, 0⟩, ⟨(some 138), .move (.t 11), none, .read, 0⟩, ⟨(some 148), .indexAddr 1 (.t 137) (.t 138), none, .read, 1⟩, ⟨none, .store 1 (.t 148) (.t 146), none, .write, 1⟩])
 (.seq (.region [⟨(some 149), .move (.t 10), none, .write, 0⟩, ⟨(some 150), .arith .add (.t 149) (.c (.int .i64 1)), none, .write, 0⟩, ⟨(some 10), .move (.t 150), none, .write, 0⟩])
 (.region [⟨(some 151), .move (.t 11), none, .write, 0⟩, ⟨(some 152), .arith .sub (.t 151) (.c (.int .i64 1)), none, .write, 0⟩, ⟨(some 11), .move (.t 152), none, .write, 0⟩])))))))))
 (.seq (.draw [⟨(some 157), .move (.t 0), none, .read, 0⟩, ⟨(some 158), .move (.t 1), none, .read, 0⟩, ⟨(some 159), .indexAddr 1 (.t 157) (.t 158), none, .read, 0⟩, ⟨(some 160), .load none (.t 159), none, .read, 0⟩, ⟨(some 161), .move (.t 0), none, .read, 0⟩, ⟨(some 162), .move (.t 11), none, .read, 0⟩, ⟨(some 163), .indexAddr 1 (.t 161) (.t 162), none, .read, 0⟩, ⟨(some 164), .load none (.t 163), none, .read, 0⟩, ⟨(some 153), .move (.t 0), none, .read, 0⟩, ⟨(some 154), .move (.t 11), none, .read, 0⟩, ⟨(some 165), .indexAddr 1 (.t 153) (.t 154), none, .read, 0⟩, ⟨none, .store 1 (.t 165) (.t 160), none, .write, 0⟩, ⟨(some 155), .move (.t 0), none, .read, 0⟩, ⟨(some 156), .move (.t 1), none, .read, 0⟩, ⟨(some 166), .indexAddr 1 (.t 155) (.t 156), none, .read, 1⟩, ⟨none, .store 1 (.t 166) (.t 164), none, .write, 1⟩])
 (.seq (.region [⟨(some 167), .move (.t 11), none, .write, 0⟩, ⟨(some 8), .move (.t 167), none, .write, 0⟩, ⟨(some 9), .move (.c (.bool false)), none, .write, 0⟩])
 .ret)))))))))))) }

theorem c226 : compFunc Tryz.prog Tryz.f226 .full = some t226 := by kernel_rfl

/-- slices.Delete[[]broadside/api.Advert,broadside/api.Advert] -/
def t227 : DFunc := { ntmps := 33, results := [(.t 6)], mode := .full, body :=
 (.seq (.region [⟨(some 6), .move (.c .nsl), none, .write, 0⟩])
 (.seq (.region [⟨(some 8), .move (.t 0), none, .write, 0⟩, ⟨(some 9), .move (.t 1), none, .write, 0⟩, ⟨(some 10), .move (.t 2), none, .write, 0⟩, ⟨(some 11), .move (.t 0), none, .write, 0⟩, ⟨(some 12), .len 1 (.t 11), none, .write, 0⟩, ⟨(some 13), .slice3 (.t 8) (.t 9) (.t 10) (.t 12), none, .write, 0⟩])
 (.seq (.seq (.region [⟨(some 14), .move (.t 1), none, .write, 0⟩, ⟨(some 15), .move (.t 2), none, .write, 0⟩, ⟨(some 16), .arith .eql (.t 14) (.t 15), none, .write, 0⟩])
 (.cond (.t 16) (.seq (.region [⟨(some 17), .move (.t 0), none, .write, 0⟩, ⟨(some 6), .move (.t 17), none, .write, 0⟩])
 .ret) .skip))
 (.seq (.region [⟨(some 18), .move (.t 0), none, .write, 0⟩, ⟨(some 19), .len 1 (.t 18), none, .write, 0⟩, ⟨(some 7), .move (.t 19), none, .write, 0⟩])
 (.seq (.draw [⟨(some 20), .move (.t 0), none, .read, 0⟩, ⟨(some 21), .move (.t 1), none, .read, 0⟩, ⟨(some 22), .sliceSl 4 (.t 20) none (some (.t 21)), none, .read, 0⟩, ⟨(some 23), .move (.t 0), none, .read, 0⟩, ⟨(some 24), .move (.t 2), none, .read, 0⟩, ⟨(some 25), .sliceSl 4 (.t 23) (some (.t 24)) none, none, .read, 0⟩, ⟨(some 26), .append 120 4 48 (.t 22) (.t 25), none, .write, 0⟩, ⟨(some 0), .move (.t 26), none, .read, 1⟩])
 (.seq (.region [⟨(some 27), .move (.t 0), none, .write, 0⟩, ⟨(some 28), .move (.t 0), none, .write, 0⟩, ⟨(some 29), .len 1 (.t 28), none, .write, 0⟩, ⟨(some 30), .move (.t 7), none, .write, 0⟩, ⟨(some 31), .sliceSl 4 (.t 27) (some (.t 29)) (some (.t 30)), none, .write, 0⟩, ⟨none, .clear 4 (.agg [(.int .i64 0), (.int .i64 0), .nsl, (.int .i64 0)]) (.t 31), none, .write, 0⟩])
 (.seq (.region [⟨(some 32), .move (.t 0), none, .write, 0⟩, ⟨(some 6), .move (.t 32), none, .write, 0⟩])
 .ret))))))) }

theorem c227 : compFunc Tryz.prog Tryz.f227 .full = some t227 := by kernel_rfl

/-- slices.DeleteFunc[[]broadside/api.Entry,broadside/api.Entry] -/
def t228 : DFunc := { ntmps := 42, results := [(.t 4)], mode := .full, body :=
 (.seq (.region [⟨(some 4), .move (.c .nsl), none, .write, 0⟩])
 (.seq (.region [⟨(some 8), .move (.t 0), none, .write, 0⟩, ⟨(some 9), .move (.t 1), none, .write, 0⟩, ⟨(some 10), .call (.c (.func 192 [])) [(.t 8), (.t 9)], none, .write, 0⟩, ⟨(some 5), .move (.t 10), none, .write, 0⟩])
 (.seq (.seq (.region [⟨(some 11), .move (.t 5), none, .write, 0⟩, ⟨(some 12), .arith .eql (.t 11) (.c (.int .i64 (-1))), none, .write, 0⟩])
 (.cond (.t 12) (.seq (.region [⟨(some 13), .move (.t 0), none, .write, 0⟩, ⟨(some 4), .move (.t 13), none, .write, 0⟩])
 .ret) .skip))
 (.seq (.seq (.region [⟨(some 14), .move (.t 5), none, .write, 0⟩, ⟨(some 15), .arith .add (.t 14) (.c (.int .i64 1)), none, .write, 0⟩, ⟨(some 6), .move (.t 15), none, .write, 0⟩])
 (.block 0 (.loop (.seq (.seq (.region [⟨(some 16), .move (.t 6), none, .write, 0⟩, ⟨(some 17), .move (.t 0), none, .write, 0⟩, ⟨(some 18), .len 1 (.t 17), none, .write, 0⟩, ⟨(some 19), .arith .lss (.t 16) (.t 18), none, .write, 0⟩])
 (.cond (.t 19) .skip (.exit 0)))
 (.seq (.block 1 (.seq (.region [⟨(some 22), .move (.t 0), none, .write, 0⟩, ⟨(some 23), .move (.t 6), none, .write, 0⟩, ⟨(some 24), .indexAddr 7 (.t 22) (.t 23), none, .write, 0⟩, ⟨(some 25), .load (some 7) (.t 24), none, .write, 0⟩, ⟨(some 7), .alloc 192 7 (.agg [(.int .i64 0), (.int .i64 0), (.int .i64 0), (.int .i64 0), .nsl, (.int .i64 0), (.bool false)]), none, .write, 0⟩, ⟨none, .store 7 (.t 7) (.t 25), none, .write, 0⟩])
 (.seq (.region [⟨(some 26), .move (.t 1), none, .write, 0⟩, ⟨(some 27), .load (some 7) (.t 7), none, .write, 0⟩, ⟨(some 28), .call (.t 26) [(.t 27)], none, .write, 0⟩, ⟨(some 29), .un .not (.t 28), none, .write, 0⟩])
 (.cond (.t 29) (.seq (.region [⟨(some 30), .move (.t 0), none, .write, 0⟩, ⟨(some 31), .move (.t 5), none, .write, 0⟩, ⟨(some 32), .load (some 7) (.t 7), none, .write, 0⟩, ⟨(some 33), .indexAddr 7 (.t 30) (.t 31), none, .write, 0⟩, ⟨none, .store 7 (.t 33) (.t 32), none, .write, 0⟩])
 (.region [⟨(some 34), .move (.t 5), none, .write, 0⟩, ⟨(some 35), .arith .add (.t 34) (.c (.int .i64 1)), none, .write, 0⟩, ⟨(some 5), .move (.t 35), none, .write, 0⟩])) .skip))))
 (.region [⟨(some 20), .move (.t 6), none, .write, 0⟩, ⟨(some 21), .arith .add (.t 20) (.c (.int .i64 1)), none, .write, 0⟩, ⟨(some 6), .move (.t 21), none, .write, 0⟩]))))))
 (.seq (.region [⟨(some 36), .move (.t 0), none, .write, 0⟩, ⟨(some 37), .move (.t 5), none, .write, 0⟩, ⟨(some 38), .sliceSl 7 (.t 36) (some (.t 37)) none, none, .write, 0⟩, ⟨none, .clear 7 (.agg [(.int .i64 0), (.int .i64 0), (.int .i64 0), (.int .i64 0), .nsl, (.int .i64 0), (.bool false)]) (.t 38), none, .write, 0⟩])
 (.seq (.region [⟨(some 39), .move (.t 0), none, .write, 0⟩, ⟨(some 40), .move (.t 5), none, .write, 0⟩, ⟨(some 41), .sliceSl 7 (.t 39) none (some (.t 40)), none, .write, 0⟩, ⟨(some 4), .move (.t 41), none, .write, 0⟩])
 .ret)))))) }

theorem c228 : compFunc Tryz.prog Tryz.f228 .full = some t228 := by kernel_rfl

/-- broadside/adverts.Forget$1 -/
def t229 : DFunc := { ntmps := 8, results := [(.t 3)], mode := .full, body :=
 (.seq (.region [⟨(some 2), .box 192 7 (.t 0), none, .write, 0⟩, ⟨(some 3), .move (.c (.bool false)), none, .write, 0⟩])
 (.seq (.region [⟨(some 4), .fieldAddr 0 (.t 2), none, .write, 0⟩, ⟨(some 5), .load (some 2) (.t 4), none, .write, 0⟩, ⟨(some 6), .load (some 2) (.t 1), none, .write, 0⟩, ⟨(some 7), .eqa false [1, 1] (.t 5) (.t 6), none, .write, 0⟩, ⟨(some 3), .move (.t 7), none, .write, 0⟩])
 .ret)) }

theorem c229 : compFunc Tryz.prog Tryz.f229 .full = some t229 := by kernel_rfl

/-- broadside/subs.Take -/
def t230 : DFunc := { ntmps := 96, results := [(.cell 8 (some 6)), (.t 9), (.t 10)], mode := .full, body :=
 (.seq (.region [⟨(some 4), .box 79 6 (.t 0), none, .write, 0⟩, ⟨(some 5), .box 32 2 (.t 1), none, .write, 0⟩, ⟨(some 6), .box 32 2 (.t 2), none, .write, 0⟩, ⟨(some 8), .alloc 79 6 (.agg [(.int .i64 0), .nsl, .nsl, .nsl, .nsl, .nsl]), none, .write, 0⟩, ⟨(some 9), .move (.c .nsl), none, .write, 0⟩, ⟨(some 10), .move (.c (.bool false)), none, .write, 0⟩])
 (.seq (.region [⟨(some 15), .fieldAddr 4 (.t 4), none, .write, 0⟩, ⟨(some 16), .load none (.t 15), none, .write, 0⟩, ⟨(some 17), .call (.c (.func 109 [])) [(.t 16)], none, .write, 0⟩, ⟨(some 18), .fieldAddr 4 (.t 4), none, .write, 0⟩, ⟨none, .store 1 (.t 18) (.t 17), none, .write, 0⟩])
 (.seq (.region [⟨(some 20), .load (some 6) (.t 4), none, .write, 0⟩, ⟨(some 21), .load (some 2) (.t 5), none, .write, 0⟩, ⟨(some 22), .load (some 2) (.t 6), none, .write, 0⟩, ⟨(some 23), .call (.c (.func 166 [])) [(.t 20), (.t 21), (.t 22)], none, .write, 0⟩, ⟨(some 19), .move (.t 23), none, .write, 0⟩, ⟨(some 24), .extract (.t 19) 0, none, .write, 0⟩, ⟨(some 25), .extract (.t 19) 1, none, .write, 0⟩, ⟨(some 11), .move (.t 24), none, .write, 0⟩, ⟨(some 12), .move (.t 25), none, .write, 0⟩])
 (.seq (.seq (.region [⟨(some 26), .move (.t 12), none, .write, 0⟩, ⟨(some 27), .un .not (.t 26), none, .write, 0⟩, ⟨(some 28), .move (.t 27), none, .write, 0⟩, ⟨(some 29), .fieldAddr 4 (.t 4), (some (28, false)), .write, 0⟩, ⟨(some 30), .load none (.t 29), (some (28, false)), .write, 0⟩, ⟨(some 31), .move (.t 11), (some (28, false)), .write, 0⟩, ⟨(some 32), .indexAddr 7 (.t 30) (.t 31), (some (28, false)), .write, 0⟩, ⟨(some 33), .fieldAddr 5 (.t 32), (some (28, false)), .write, 0⟩, ⟨(some 34), .load none (.t 33), (some (28, false)), .write, 0⟩, ⟨(some 35), .move (.t 3), (some (28, false)), .write, 0⟩, ⟨(some 36), .arith .neq (.t 34) (.t 35), (some (28, false)), .write, 0⟩, ⟨(some 37), .pick (.t 28) (.c (.bool true)) (.t 36), none, .write, 0⟩])
 (.cond (.t 37) (.seq (.region [⟨(some 38), .load (some 6) (.t 4), none, .write, 0⟩, ⟨none, .store 6 (.t 8) (.t 38), none, .write, 0⟩, ⟨(some 9), .move (.c .nsl), none, .write, 0⟩, ⟨(some 10), .move (.c (.bool false)), none, .write, 0⟩])
 .ret) .skip))
 (.seq (.region [⟨(some 39), .fieldAddr 4 (.t 4), none, .write, 0⟩, ⟨(some 40), .load none (.t 39), none, .write, 0⟩, ⟨(some 41), .move (.t 11), none, .write, 0⟩, ⟨(some 42), .indexAddr 7 (.t 40) (.t 41), none, .write, 0⟩, ⟨(some 43), .fieldAddr 6 (.t 42), none, .write, 0⟩, ⟨(some 44), .load none (.t 43), none, .write, 0⟩, ⟨(some 10), .move (.t 44), none, .write, 0⟩])
 (.seq (.region [⟨(some 45), .fieldAddr 4 (.t 4), none, .write, 0⟩, ⟨(some 46), .load none (.t 45), none, .write, 0⟩, ⟨(some 47), .move (.t 11), none, .write, 0⟩, ⟨(some 48), .move (.t 11), none, .write, 0⟩, ⟨(some 49), .arith .add (.t 48) (.c (.int .i64 1)), none, .write, 0⟩, ⟨(some 50), .call (.c (.func 285 [])) [(.t 46), (.t 47), (.t 49)], none, .write, 0⟩, ⟨(some 51), .fieldAddr 4 (.t 4), none, .write, 0⟩, ⟨none, .store 1 (.t 51) (.t 50), none, .write, 0⟩])
 (.seq (.seq (.region [⟨(some 52), .move (.t 10), none, .write, 0⟩, ⟨(some 53), .un .not (.t 52), none, .write, 0⟩])
 (.cond (.t 53) (.seq (.region [⟨(some 54), .load (some 6) (.t 4), none, .write, 0⟩, ⟨none, .store 6 (.t 8) (.t 54), none, .write, 0⟩, ⟨(some 9), .move (.c .nsl), none, .write, 0⟩, ⟨(some 10), .move (.c (.bool false)), none, .write, 0⟩])
 .ret) .skip))
 (.seq (.seq (.region [⟨(some 55), .fieldAddr 4 (.t 4), none, .write, 0⟩, ⟨(some 56), .load none (.t 55), none, .write, 0⟩, ⟨(some 57), .len 1 (.t 56), none, .write, 0⟩, ⟨(some 58), .move (.c (.int .i64 0)), none, .write, 0⟩])
 (.block 0 (.loop (.seq (.region [⟨(some 59), .arith .lss (.t 58) (.t 57), none, .write, 0⟩])
 (.seq (.cond (.t 59) .skip (.exit 0))
 (.seq (.block 1 (.seq (.region [⟨(some 60), .move (.t 58), none, .write, 0⟩, ⟨(some 61), .indexAddr 7 (.t 56) (.t 58), none, .write, 0⟩, ⟨(some 62), .load (some 7) (.t 61), none, .write, 0⟩, ⟨(some 14), .alloc 192 7 (.agg [(.int .i64 0), (.int .i64 0), (.int .i64 0), (.int .i64 0), .nsl, (.int .i64 0), (.bool false)]), none, .write, 0⟩, ⟨(some 13), .move (.t 60), none, .write, 0⟩, ⟨none, .store 7 (.t 14) (.t 62), none, .write, 0⟩])
 (.seq (.region [⟨(some 63), .fieldAddr 0 (.t 14), none, .write, 0⟩, ⟨(some 64), .load (some 2) (.t 63), none, .write, 0⟩, ⟨(some 65), .load (some 2) (.t 5), none, .write, 0⟩, ⟨(some 66), .eqa false [1, 1] (.t 64) (.t 65), none, .write, 0⟩, ⟨(some 67), .move (.t 66), none, .write, 0⟩, ⟨(some 68), .fieldAddr 6 (.t 14), (some (67, true)), .write, 0⟩, ⟨(some 69), .load none (.t 68), (some (67, true)), .write, 0⟩, ⟨(some 70), .un .not (.t 69), (some (67, true)), .write, 0⟩, ⟨(some 71), .pick (.t 67) (.t 70) (.c (.bool false)), none, .write, 0⟩, ⟨(some 72), .move (.t 71), none, .write, 0⟩, ⟨(some 73), .load (some 6) (.t 4), (some (72, true)), .write, 0⟩, ⟨(some 74), .load (some 2) (.t 5), (some (72, true)), .write, 0⟩, ⟨(some 75), .fieldAddr 4 (.t 14), (some (72, true)), .write, 0⟩, ⟨(some 76), .load none (.t 75), (some (72, true)), .write, 0⟩, ⟨(some 77), .call (.c (.func 138 [])) [(.t 73), (.t 74), (.t 76)], (some (72, true)), .write, 0⟩, ⟨(some 78), .un .not (.t 77), (some (72, true)), .write, 0⟩, ⟨(some 79), .pick (.t 72) (.t 78) (.c (.bool false)), none, .write, 0⟩])
 (.cond (.t 79) (.seq (.region [⟨(some 80), .fieldAddr 4 (.t 4), none, .write, 0⟩, ⟨(some 81), .load none (.t 80), none, .write, 0⟩, ⟨(some 82), .move (.t 13), none, .write, 0⟩, ⟨(some 83), .indexAddr 7 (.t 81) (.t 82), none, .write, 0⟩, ⟨(some 84), .fieldAddr 6 (.t 83), none, .write, 0⟩, ⟨none, .store 1 (.t 84) (.c (.bool true)), none, .write, 0⟩])
 (.region [⟨(some 85), .move (.t 9), none, .write, 0⟩, ⟨(some 86), .fieldAddr 4 (.t 4), none, .write, 0⟩, ⟨(some 87), .load none (.t 86), none, .write, 0⟩, ⟨(some 88), .move (.t 13), none, .write, 0⟩, ⟨(some 89), .indexAddr 7 (.t 87) (.t 88), none, .write, 0⟩, ⟨(some 90), .load (some 7) (.t 89), none, .write, 0⟩, ⟨(some 91), .buildSlice 192 7 (.agg [(.int .i64 0), (.int .i64 0), (.int .i64 0), (.int .i64 0), .nsl, (.int .i64 0), (.bool false)]) 1 [(0, (.t 90))], none, .write, 0⟩, ⟨(some 92), .append 192 7 72 (.t 85) (.t 91), none, .write, 0⟩, ⟨(some 9), .move (.t 92), none, .write, 0⟩])) .skip))))
 (.region [⟨(some 93), .arith .add (.t 58) (.c (.int .i64 1)), none, .write, 0⟩, ⟨(some 58), .move (.t 93), none, .write, 0⟩])))))))
 (.seq (.region [⟨(some 94), .load (some 6) (.t 4), none, .write, 0⟩, ⟨(some 95), .move (.t 9), none, .write, 0⟩, ⟨none, .store 6 (.t 8) (.t 94), none, .write, 0⟩, ⟨(some 9), .move (.t 95), none, .write, 0⟩, ⟨(some 10), .move (.c (.bool true)), none, .write, 0⟩])
 .ret))))))))) }

theorem c230 : compFunc Tryz.prog Tryz.f230 .full = some t230 := by kernel_rfl

/-- slices.Contains[[][2]int,[2]int] -/
def t231 : DFunc := { ntmps := 9, results := [(.t 4)], mode := .full, body :=
 (.seq (.region [⟨(some 3), .box 48 2 (.t 1), none, .write, 0⟩, ⟨(some 4), .move (.c (.bool false)), none, .write, 0⟩])
 (.seq (.region [⟨(some 5), .move (.t 0), none, .write, 0⟩, ⟨(some 6), .load (some 2) (.t 3), none, .write, 0⟩, ⟨(some 7), .call (.c (.func 286 [])) [(.t 5), (.t 6)], none, .write, 0⟩, ⟨(some 8), .arith .geq (.t 7) (.c (.int .i64 0)), none, .write, 0⟩, ⟨(some 4), .move (.t 8), none, .write, 0⟩])
 .ret)) }

theorem c231 : compFunc Tryz.prog Tryz.f231 .full = some t231 := by kernel_rfl

/-- slices.Grow[[]broadside/api.Message,broadside/api.Message] -/
def t232 : DFunc := { ntmps := 27, results := [(.t 4)], mode := .full, body :=
 (.seq (.region [⟨(some 4), .move (.c .nsl), none, .write, 0⟩])
 (.seq (.seq (.region [⟨(some 5), .move (.t 1), none, .write, 0⟩, ⟨(some 6), .arith .lss (.t 5) (.c (.int .i64 0)), none, .write, 0⟩])
 (.cond (.t 6) (.region [⟨(some 7), .makeIface 9 (.c (.str [99, 97, 110, 110, 111, 116, 32, 98, 101, 32, 110, 101, 103, 97, 116, 105, 118, 101])), none, .write, 0⟩, ⟨none, .extract (.c .nilp) 0, none, .write, 0⟩]) .skip))
 (.seq (.seq (.region [⟨(some 8), .move (.t 1), none, .write, 0⟩, ⟨(some 9), .move (.t 0), none, .write, 0⟩, ⟨(some 10), .cap (.t 9), none, .write, 0⟩, ⟨(some 11), .move (.t 0), none, .write, 0⟩, ⟨(some 12), .len 1 (.t 11), none, .write, 0⟩, ⟨(some 13), .arith .sub (.t 10) (.t 12), none, .write, 0⟩, ⟨(some 14), .arith .sub (.t 8) (.t 13), none, .write, 0⟩, ⟨(some 1), .move (.t 14), none, .write, 0⟩])
 (.seq (.region [⟨(some 15), .move (.t 1), none, .write, 0⟩, ⟨(some 16), .arith .gtr (.t 15) (.c (.int .i64 0)), none, .write, 0⟩])
 (.cond (.t 16) (.region [⟨(some 17), .move (.t 0), none, .write, 0⟩, ⟨(some 18), .move (.t 0), none, .write, 0⟩, ⟨(some 19), .cap (.t 18), none, .write, 0⟩, ⟨(some 20), .sliceSl 7 (.t 17) none (some (.t 19)), none, .write, 0⟩, ⟨(some 21), .move (.t 1), none, .write, 0⟩, ⟨(some 22), .appendZ 102 7 88 (.agg [(.int .i64 0), (.int .i64 0), (.int .i64 0), (.int .i64 0), (.int .i64 0), .nsl, .nsl]) (.t 20) (.t 21), none, .write, 0⟩, ⟨(some 23), .move (.t 0), none, .write, 0⟩, ⟨(some 24), .len 1 (.t 23), none, .write, 0⟩, ⟨(some 25), .sliceSl 7 (.t 22) none (some (.t 24)), none, .write, 0⟩, ⟨(some 0), .move (.t 25), none, .write, 0⟩]) .skip)))
 (.seq (.region [⟨(some 26), .move (.t 0), none, .write, 0⟩, ⟨(some 4), .move (.t 26), none, .write, 0⟩])
 .ret)))) }

theorem c232 : compFunc Tryz.prog Tryz.f232 .full = some t232 := by kernel_rfl

end Go.Dm.TabW
