/-
The table of functions, brought into the machine's form (Tc, part 2). Written by program (wip/tools/table.lean.txt).
-/
import Derived.Test.YtkkbjjobdcjaiaaMm3
import Derived.Test.YtkkbjjobdcjaiaaRows
import Derived.KernelRfl
namespace Go.Dm.Tc
open Go.Proofs

def t97l0 : DCode :=
 (.seq (.seq (.region [⟨(some 15), .move (.t 9), none, .write, 0⟩, ⟨(some 16), .move (.t 10), none, .write, 0⟩, ⟨(some 17), .arith .lss (.t 15) (.t 16), none, .write, 0⟩])
 (.cond (.t 17) .skip (.exit 0)))
 (.block 1 (.seq (.region [⟨(some 18), .move (.t 9), none, .write, 0⟩, ⟨(some 19), .move (.t 10), none, .write, 0⟩, ⟨(some 20), .arith .add (.t 18) (.t 19), none, .write, 0⟩, ⟨(some 21), .conv .u64 (.t 20), none, .write, 0⟩, ⟨(some 22), .arith .shr (.t 21) (.c (.int .u64 1)), none, .write, 0⟩, ⟨(some 23), .conv .i64 (.t 22), none, .write, 0⟩, ⟨(some 11), .move (.t 23), none, .write, 0⟩])
 (.seq (.draw [⟨(some 25), .move (.t 0), none, .read, 0⟩, ⟨(some 26), .move (.t 11), none, .read, 0⟩, ⟨(some 27), .indexAddr 7 (.t 25) (.t 26), none, .read, 0⟩, ⟨(some 28), .load (some 7) (.t 27), none, .read, 0⟩, ⟨(some 29), .load (some 2) (.t 4), none, .read, 0⟩, ⟨(some 24), .move (.t 2), none, .read, 0⟩, ⟨(some 30), .call (.t 24) [(.t 28), (.t 29)], none, .write, 0⟩, ⟨(some 31), .arith .lss (.t 30) (.c (.int .i64 0)), none, .read, 1⟩])
 (.cond (.t 31) (.region [⟨(some 32), .move (.t 11), none, .write, 0⟩, ⟨(some 33), .arith .add (.t 32) (.c (.int .i64 1)), none, .write, 0⟩, ⟨(some 9), .move (.t 33), none, .write, 0⟩]) (.region [⟨(some 34), .move (.t 11), none, .write, 0⟩, ⟨(some 10), .move (.t 34), none, .write, 0⟩]))))))

def t97k0 : DCode :=
 (.seq (.draw [⟨(some 36), .move (.t 9), none, .read, 0⟩, ⟨(some 37), .move (.t 8), none, .read, 0⟩, ⟨(some 38), .arith .lss (.t 36) (.t 37), none, .read, 0⟩, ⟨(some 39), .move (.t 38), none, .read, 0⟩, ⟨(some 41), .move (.t 0), (some (39, true)), .read, 0⟩, ⟨(some 42), .move (.t 9), (some (39, true)), .read, 0⟩, ⟨(some 43), .indexAddr 7 (.t 41) (.t 42), (some (39, true)), .read, 0⟩, ⟨(some 44), .load (some 7) (.t 43), (some (39, true)), .read, 0⟩, ⟨(some 45), .load (some 2) (.t 4), (some (39, true)), .read, 0⟩, ⟨(some 40), .move (.t 2), (some (39, true)), .read, 0⟩, ⟨(some 46), .call (.t 40) [(.t 44), (.t 45)], (some (39, true)), .write, 0⟩, ⟨(some 35), .move (.t 9), none, .read, 0⟩, ⟨(some 47), .arith .eql (.t 46) (.c (.int .i64 0)), (some (39, true)), .read, 1⟩, ⟨(some 48), .pick (.t 39) (.t 47) (.c (.bool false)), none, .read, 1⟩, ⟨(some 6), .move (.t 35), none, .read, 1⟩, ⟨(some 7), .move (.t 48), none, .read, 1⟩])
 .ret)

/-- slices.BinarySearchFunc[[]broadside/api.Entry,broadside/api.Entry,broadside/api.ID] -/
def t97 : DFunc := { ntmps := 49, results := [(.t 6), (.t 7)], mode := .pure, body :=
 (.seq (.region [⟨(some 4), .box 35 2 (.t 1), none, .write, 0⟩, ⟨(some 6), .move (.c (.int .i64 0)), none, .write, 0⟩, ⟨(some 7), .move (.c (.bool false)), none, .write, 0⟩])
 (.seq (.region [⟨(some 12), .move (.t 0), none, .write, 0⟩, ⟨(some 13), .len 1 (.t 12), none, .write, 0⟩, ⟨(some 8), .move (.t 13), none, .write, 0⟩])
 (.seq (.region [⟨(some 14), .move (.t 8), none, .write, 0⟩, ⟨(some 9), .move (.c (.int .i64 0)), none, .write, 0⟩, ⟨(some 10), .move (.t 14), none, .write, 0⟩])
 (.seq (.block 0 (.loop t97l0))
 t97k0)))) }

theorem c97 : compFunc Try.prog Try.f97 .pure = some t97 := by kernel_rfl

/-- slices.rotateRight[broadside/api.Entry] -/
def t100 : DFunc := { ntmps := 10, results := [], mode := .full, body :=
 (.region [⟨(some 4), .move (.t 0), none, .write, 0⟩, ⟨(some 5), .move (.t 0), none, .write, 0⟩, ⟨(some 6), .len 1 (.t 5), none, .write, 0⟩, ⟨(some 7), .move (.t 1), none, .write, 0⟩, ⟨(some 8), .arith .sub (.t 6) (.t 7), none, .write, 0⟩, ⟨(some 9), .call (.c (.func 121 [])) [(.t 4), (.t 8)], none, .write, 0⟩]) }

theorem c100 : compFunc Try.prog Try.f100 .full = some t100 := by kernel_rfl

def t104l0 : DCode :=
 (.seq (.region [⟨(some 14), .arith .lss (.t 13) (.t 12), none, .write, 0⟩])
 (.seq (.cond (.t 14) .skip (.exit 0))
 (.seq (.block 1 (.seq (.region [⟨(some 15), .move (.t 13), none, .write, 0⟩, ⟨(some 5), .move (.t 15), none, .write, 0⟩])
 (.seq (.draw [⟨(some 16), .move (.t 0), none, .read, 0⟩, ⟨(some 17), .move (.t 5), none, .read, 0⟩, ⟨(some 18), .indexAddr 5 (.t 16) (.t 17), none, .read, 0⟩, ⟨(some 19), .load (some 5) (.t 18), none, .read, 0⟩, ⟨(some 20), .move (.t 1), none, .read, 0⟩, ⟨(some 21), .move (.t 5), none, .read, 0⟩, ⟨(some 22), .indexAddr 5 (.t 20) (.t 21), none, .read, 0⟩, ⟨(some 23), .load (some 5) (.t 22), none, .read, 0⟩, ⟨(some 24), .eqa true [2, 1, 1, 1, 2] (.t 19) (.t 23), none, .read, 0⟩])
 (.cond (.t 24) (.seq (.region [⟨(some 4), .move (.c (.bool false)), none, .write, 0⟩])
 .ret) .skip))))
 (.region [⟨(some 25), .arith .add (.t 13) (.c (.int .i64 1)), none, .write, 0⟩, ⟨(some 13), .move (.t 25), none, .write, 0⟩]))))

def t104k0 : DCode :=
 (.seq (.region [⟨(some 4), .move (.c (.bool true)), none, .write, 0⟩])
 .ret)

/-- slices.Equal[[]broadside/api.Constraint,broadside/api.Constraint] -/
def t104 : DFunc := { ntmps := 26, results := [(.t 4)], mode := .pure, body :=
 (.seq (.region [⟨(some 4), .move (.c (.bool false)), none, .write, 0⟩])
 (.seq (.seq (.region [⟨(some 6), .move (.t 0), none, .write, 0⟩, ⟨(some 7), .len 1 (.t 6), none, .write, 0⟩, ⟨(some 8), .move (.t 1), none, .write, 0⟩, ⟨(some 9), .len 1 (.t 8), none, .write, 0⟩, ⟨(some 10), .arith .neq (.t 7) (.t 9), none, .write, 0⟩])
 (.cond (.t 10) (.seq (.region [⟨(some 4), .move (.c (.bool false)), none, .write, 0⟩])
 .ret) .skip))
 (.seq (.seq (.region [⟨(some 11), .move (.t 0), none, .write, 0⟩, ⟨(some 12), .len 1 (.t 11), none, .write, 0⟩, ⟨(some 13), .move (.c (.int .i64 0)), none, .write, 0⟩])
 (.block 0 (.loop t104l0)))
 t104k0))) }

theorem c104 : compFunc Try.prog Try.f104 .pure = some t104 := by kernel_rfl

def t105l0 : DCode :=
 (.seq (.seq (.draw [⟨(some 16), .move (.t 7), none, .read, 0⟩, ⟨(some 17), .move (.t 1), none, .read, 0⟩, ⟨(some 18), .arith .gtr (.t 16) (.t 17), none, .read, 0⟩, ⟨(some 19), .move (.t 18), none, .read, 0⟩, ⟨(some 20), .move (.t 0), (some (19, true)), .read, 0⟩, ⟨(some 21), .move (.t 7), (some (19, true)), .read, 0⟩, ⟨(some 22), .indexAddr 1 (.t 20) (.t 21), (some (19, true)), .read, 0⟩, ⟨(some 23), .load none (.t 22), (some (19, true)), .read, 0⟩, ⟨(some 24), .move (.t 0), (some (19, true)), .read, 0⟩, ⟨(some 25), .move (.t 7), (some (19, true)), .read, 0⟩, ⟨(some 26), .arith .sub (.t 25) (.c (.int .i64 1)), (some (19, true)), .read, 0⟩, ⟨(some 27), .indexAddr 1 (.t 24) (.t 26), (some (19, true)), .read, 0⟩, ⟨(some 28), .load none (.t 27), (some (19, true)), .read, 0⟩, ⟨(some 29), .call (.c (.func 111 [])) [(.t 23), (.t 28)], (some (19, true)), .write, 0⟩, ⟨(some 30), .pick (.t 19) (.t 29) (.c (.bool false)), none, .read, 1⟩])
 (.cond (.t 30) .skip (.exit 2)))
 (.seq (.block 3 (.draw [⟨(some 38), .move (.t 0), none, .read, 0⟩, ⟨(some 39), .move (.t 7), none, .read, 0⟩, ⟨(some 40), .arith .sub (.t 39) (.c (.int .i64 1)), none, .read, 0⟩, ⟨(some 41), .indexAddr 1 (.t 38) (.t 40), none, .read, 0⟩, ⟨(some 42), .load none (.t 41), none, .read, 0⟩, ⟨(some 43), .move (.t 0), none, .read, 0⟩, ⟨(some 44), .move (.t 7), none, .read, 0⟩, ⟨(some 45), .indexAddr 1 (.t 43) (.t 44), none, .read, 0⟩, ⟨(some 46), .load none (.t 45), none, .read, 0⟩, ⟨(some 33), .move (.t 0), none, .read, 0⟩, ⟨(some 34), .move (.t 7), none, .read, 0⟩, ⟨(some 47), .indexAddr 1 (.t 33) (.t 34), none, .read, 0⟩, ⟨none, .store 1 (.t 47) (.t 42), none, .write, 0⟩, ⟨(some 35), .move (.t 0), none, .read, 0⟩, ⟨(some 36), .move (.t 7), none, .read, 0⟩, ⟨(some 37), .arith .sub (.t 36) (.c (.int .i64 1)), none, .read, 0⟩, ⟨(some 48), .indexAddr 1 (.t 35) (.t 37), none, .read, 1⟩, ⟨none, .store 1 (.t 48) (.t 46), none, .write, 1⟩]))
 (.region [⟨(some 31), .move (.t 7), none, .write, 0⟩, ⟨(some 32), .arith .sub (.t 31) (.c (.int .i64 1)), none, .write, 0⟩, ⟨(some 7), .move (.t 32), none, .write, 0⟩])))

def t105k0 : DCode :=
 (.region [⟨(some 13), .move (.t 6), none, .write, 0⟩, ⟨(some 14), .arith .add (.t 13) (.c (.int .i64 1)), none, .write, 0⟩, ⟨(some 6), .move (.t 14), none, .write, 0⟩])

def t105l1 : DCode :=
 (.seq (.seq (.region [⟨(some 10), .move (.t 6), none, .write, 0⟩, ⟨(some 11), .move (.t 2), none, .write, 0⟩, ⟨(some 12), .arith .lss (.t 10) (.t 11), none, .write, 0⟩])
 (.cond (.t 12) .skip (.exit 0)))
 (.seq (.block 1 (.seq (.region [⟨(some 15), .move (.t 6), none, .write, 0⟩, ⟨(some 7), .move (.t 15), none, .write, 0⟩])
 (.block 2 (.loop t105l0))))
 t105k0))

/-- slices.insertionSortOrdered[int] -/
def t105 : DFunc := { ntmps := 49, results := [], mode := .full, body :=
 (.seq (.region [⟨(some 8), .move (.t 1), none, .write, 0⟩, ⟨(some 9), .arith .add (.t 8) (.c (.int .i64 1)), none, .write, 0⟩, ⟨(some 6), .move (.t 9), none, .write, 0⟩])
 (.block 0 (.loop t105l1))) }

theorem c105 : compFunc Try.prog Try.f105 .full = some t105 := by kernel_rfl

def t106l0 : DCode :=
 (.seq (.seq (.region [⟨(some 18), .move (.t 9), none, .write, 0⟩, ⟨(some 19), .arith .geq (.t 18) (.c (.int .i64 0)), none, .write, 0⟩])
 (.cond (.t 19) .skip (.exit 0)))
 (.seq (.block 1 (.region [⟨(some 22), .move (.t 0), none, .write, 0⟩, ⟨(some 23), .move (.t 9), none, .write, 0⟩, ⟨(some 24), .move (.t 8), none, .write, 0⟩, ⟨(some 25), .move (.t 6), none, .write, 0⟩, ⟨(some 26), .call (.c (.func 123 [])) [(.t 22), (.t 23), (.t 24), (.t 25)], none, .write, 0⟩]))
 (.region [⟨(some 20), .move (.t 9), none, .write, 0⟩, ⟨(some 21), .arith .sub (.t 20) (.c (.int .i64 1)), none, .write, 0⟩, ⟨(some 9), .move (.t 21), none, .write, 0⟩])))

def t106l1 : DCode :=
 (.seq (.seq (.region [⟨(some 29), .move (.t 10), none, .write, 0⟩, ⟨(some 30), .arith .geq (.t 29) (.c (.int .i64 0)), none, .write, 0⟩])
 (.cond (.t 30) .skip (.exit 2)))
 (.seq (.block 3 (.seq (.draw [⟨(some 39), .move (.t 0), none, .read, 0⟩, ⟨(some 40), .move (.t 6), none, .read, 0⟩, ⟨(some 41), .move (.t 10), none, .read, 0⟩, ⟨(some 42), .arith .add (.t 40) (.t 41), none, .read, 0⟩, ⟨(some 43), .indexAddr 1 (.t 39) (.t 42), none, .read, 0⟩, ⟨(some 44), .load none (.t 43), none, .read, 0⟩, ⟨(some 45), .move (.t 0), none, .read, 0⟩, ⟨(some 46), .move (.t 6), none, .read, 0⟩, ⟨(some 47), .indexAddr 1 (.t 45) (.t 46), none, .read, 0⟩, ⟨(some 48), .load none (.t 47), none, .read, 0⟩, ⟨(some 33), .move (.t 0), none, .read, 0⟩, ⟨(some 34), .move (.t 6), none, .read, 0⟩, ⟨(some 49), .indexAddr 1 (.t 33) (.t 34), none, .read, 0⟩, ⟨none, .store 1 (.t 49) (.t 44), none, .write, 0⟩, ⟨(some 35), .move (.t 0), none, .read, 0⟩, ⟨(some 36), .move (.t 6), none, .read, 0⟩, ⟨(some 37), .move (.t 10), none, .read, 0⟩, ⟨(some 38), .arith .add (.t 36) (.t 37), none, .read, 0⟩, ⟨(some 50), .indexAddr 1 (.t 35) (.t 38), none, .read, 1⟩, ⟨none, .store 1 (.t 50) (.t 48), none, .write, 1⟩])
 (.region [⟨(some 51), .move (.t 0), none, .write, 0⟩, ⟨(some 52), .move (.t 7), none, .write, 0⟩, ⟨(some 53), .move (.t 10), none, .write, 0⟩, ⟨(some 54), .move (.t 6), none, .write, 0⟩, ⟨(some 55), .call (.c (.func 123 [])) [(.t 51), (.t 52), (.t 53), (.t 54)], none, .write, 0⟩])))
 (.region [⟨(some 31), .move (.t 10), none, .write, 0⟩, ⟨(some 32), .arith .sub (.t 31) (.c (.int .i64 1)), none, .write, 0⟩, ⟨(some 10), .move (.t 32), none, .write, 0⟩])))

def t106k0 : DCode :=
 (.seq (.region [⟨(some 27), .move (.t 8), none, .write, 0⟩, ⟨(some 28), .arith .sub (.t 27) (.c (.int .i64 1)), none, .write, 0⟩, ⟨(some 10), .move (.t 28), none, .write, 0⟩])
 (.block 2 (.loop t106l1)))

/-- slices.heapSortOrdered[int] -/
def t106 : DFunc := { ntmps := 56, results := [], mode := .full, body :=
 (.seq (.region [⟨(some 11), .move (.t 1), none, .write, 0⟩, ⟨(some 6), .move (.t 11), none, .write, 0⟩])
 (.seq (.region [⟨(some 7), .move (.c (.int .i64 0)), none, .write, 0⟩])
 (.seq (.region [⟨(some 12), .move (.t 2), none, .write, 0⟩, ⟨(some 13), .move (.t 1), none, .write, 0⟩, ⟨(some 14), .arith .sub (.t 12) (.t 13), none, .write, 0⟩, ⟨(some 8), .move (.t 14), none, .write, 0⟩])
 (.seq (.seq (.region [⟨(some 15), .move (.t 8), none, .write, 0⟩, ⟨(some 16), .arith .sub (.t 15) (.c (.int .i64 1)), none, .write, 0⟩, ⟨(some 17), .arith .quo (.t 16) (.c (.int .i64 2)), none, .write, 0⟩, ⟨(some 9), .move (.t 17), none, .write, 0⟩])
 (.block 0 (.loop t106l0)))
 t106k0)))) }

theorem c106 : compFunc Try.prog Try.f106 .full = some t106 := by kernel_rfl

def t107l0 : DCode :=
 (.seq (.seq (.region [⟨(some 26), .move (.t 9), none, .write, 0⟩, ⟨(some 27), .move (.t 1), none, .write, 0⟩, ⟨(some 28), .move (.t 6), none, .write, 0⟩, ⟨(some 29), .arith .quo (.t 28) (.c (.int .i64 4)), none, .write, 0⟩, ⟨(some 30), .arith .mul (.t 29) (.c (.int .i64 2)), none, .write, 0⟩, ⟨(some 31), .arith .add (.t 27) (.t 30), none, .write, 0⟩, ⟨(some 32), .arith .add (.t 31) (.c (.int .i64 1)), none, .write, 0⟩, ⟨(some 33), .arith .leq (.t 26) (.t 32), none, .write, 0⟩])
 (.cond (.t 33) .skip (.exit 0)))
 (.seq (.block 1 (.seq (.region [⟨(some 36), .call (.c (.func 125 [])) [(.t 7)], none, .write, 0⟩, ⟨(some 37), .move (.t 8), none, .write, 0⟩, ⟨(some 38), .arith .sub (.t 37) (.c (.int .u64 1)), none, .write, 0⟩, ⟨(some 39), .arith .and (.t 36) (.t 38), none, .write, 0⟩, ⟨(some 40), .conv .i64 (.t 39), none, .write, 0⟩, ⟨(some 10), .move (.t 40), none, .write, 0⟩])
 (.seq (.seq (.region [⟨(some 41), .move (.t 10), none, .write, 0⟩, ⟨(some 42), .move (.t 6), none, .write, 0⟩, ⟨(some 43), .arith .geq (.t 41) (.t 42), none, .write, 0⟩])
 (.cond (.t 43) (.region [⟨(some 44), .move (.t 10), none, .write, 0⟩, ⟨(some 45), .move (.t 6), none, .write, 0⟩, ⟨(some 46), .arith .sub (.t 44) (.t 45), none, .write, 0⟩, ⟨(some 10), .move (.t 46), none, .write, 0⟩]) .skip))
 (.draw [⟨(some 53), .move (.t 0), none, .read, 0⟩, ⟨(some 54), .move (.t 1), none, .read, 0⟩, ⟨(some 55), .move (.t 10), none, .read, 0⟩, ⟨(some 56), .arith .add (.t 54) (.t 55), none, .read, 0⟩, ⟨(some 57), .indexAddr 1 (.t 53) (.t 56), none, .read, 0⟩, ⟨(some 58), .load none (.t 57), none, .read, 0⟩, ⟨(some 59), .move (.t 0), none, .read, 0⟩, ⟨(some 60), .move (.t 9), none, .read, 0⟩, ⟨(some 61), .indexAddr 1 (.t 59) (.t 60), none, .read, 0⟩, ⟨(some 62), .load none (.t 61), none, .read, 0⟩, ⟨(some 47), .move (.t 0), none, .read, 0⟩, ⟨(some 48), .move (.t 9), none, .read, 0⟩, ⟨(some 63), .indexAddr 1 (.t 47) (.t 48), none, .read, 0⟩, ⟨none, .store 1 (.t 63) (.t 58), none, .write, 0⟩, ⟨(some 49), .move (.t 0), none, .read, 0⟩, ⟨(some 50), .move (.t 1), none, .read, 0⟩, ⟨(some 51), .move (.t 10), none, .read, 0⟩, ⟨(some 52), .arith .add (.t 50) (.t 51), none, .read, 0⟩, ⟨(some 64), .indexAddr 1 (.t 49) (.t 52), none, .read, 1⟩, ⟨none, .store 1 (.t 64) (.t 62), none, .write, 1⟩]))))
 (.region [⟨(some 34), .move (.t 9), none, .write, 0⟩, ⟨(some 35), .arith .add (.t 34) (.c (.int .i64 1)), none, .write, 0⟩, ⟨(some 9), .move (.t 35), none, .write, 0⟩])))

/-- slices.breakPatternsOrdered[int] -/
def t107 : DFunc := { ntmps := 65, results := [], mode := .full, body :=
 (.seq (.region [⟨(some 11), .move (.t 2), none, .write, 0⟩, ⟨(some 12), .move (.t 1), none, .write, 0⟩, ⟨(some 13), .arith .sub (.t 11) (.t 12), none, .write, 0⟩, ⟨(some 6), .move (.t 13), none, .write, 0⟩])
 (.seq (.region [⟨(some 14), .move (.t 6), none, .write, 0⟩, ⟨(some 15), .arith .geq (.t 14) (.c (.int .i64 8)), none, .write, 0⟩])
 (.cond (.t 15) (.seq (.region [⟨(some 16), .move (.t 6), none, .write, 0⟩, ⟨(some 17), .conv .u64 (.t 16), none, .write, 0⟩, ⟨(some 7), .alloc 154 1 (.int .u64 0), none, .write, 0⟩, ⟨none, .store 1 (.t 7) (.t 17), none, .write, 0⟩])
 (.seq (.region [⟨(some 18), .move (.t 6), none, .write, 0⟩, ⟨(some 19), .call (.c (.func 124 [])) [(.t 18)], none, .write, 0⟩, ⟨(some 8), .move (.t 19), none, .write, 0⟩])
 (.seq (.region [⟨(some 20), .move (.t 1), none, .write, 0⟩, ⟨(some 21), .move (.t 6), none, .write, 0⟩, ⟨(some 22), .arith .quo (.t 21) (.c (.int .i64 4)), none, .write, 0⟩, ⟨(some 23), .arith .mul (.t 22) (.c (.int .i64 2)), none, .write, 0⟩, ⟨(some 24), .arith .add (.t 20) (.t 23), none, .write, 0⟩, ⟨(some 25), .arith .sub (.t 24) (.c (.int .i64 1)), none, .write, 0⟩, ⟨(some 9), .move (.t 25), none, .write, 0⟩])
 (.block 0 (.loop t107l0))))) .skip))) }

theorem c107 : compFunc Try.prog Try.f107 .full = some t107 := by kernel_rfl

/-- slices.choosePivotOrdered[int] -/
def t108 : DFunc := { ntmps := 57, results := [(.t 6), (.t 7)], mode := .full, body :=
 (.seq (.region [⟨(some 6), .move (.c (.int .i64 0)), none, .write, 0⟩, ⟨(some 7), .move (.c (.int .i64 0)), none, .write, 0⟩])
 (.seq (.region [⟨(some 13), .move (.t 2), none, .write, 0⟩, ⟨(some 14), .move (.t 1), none, .write, 0⟩, ⟨(some 15), .arith .sub (.t 13) (.t 14), none, .write, 0⟩, ⟨(some 8), .move (.t 15), none, .write, 0⟩])
 (.seq (.region [⟨(some 9), .alloc 3 1 (.int .i64 0), none, .write, 0⟩])
 (.seq (.region [⟨(some 16), .move (.t 1), none, .write, 0⟩, ⟨(some 17), .move (.t 8), none, .write, 0⟩, ⟨(some 18), .arith .quo (.t 17) (.c (.int .i64 4)), none, .write, 0⟩, ⟨(some 19), .arith .mul (.t 18) (.c (.int .i64 1)), none, .write, 0⟩, ⟨(some 20), .arith .add (.t 16) (.t 19), none, .write, 0⟩, ⟨(some 10), .move (.t 20), none, .write, 0⟩])
 (.seq (.region [⟨(some 21), .move (.t 1), none, .write, 0⟩, ⟨(some 22), .move (.t 8), none, .write, 0⟩, ⟨(some 23), .arith .quo (.t 22) (.c (.int .i64 4)), none, .write, 0⟩, ⟨(some 24), .arith .mul (.t 23) (.c (.int .i64 2)), none, .write, 0⟩, ⟨(some 25), .arith .add (.t 21) (.t 24), none, .write, 0⟩, ⟨(some 11), .move (.t 25), none, .write, 0⟩])
 (.seq (.region [⟨(some 26), .move (.t 1), none, .write, 0⟩, ⟨(some 27), .move (.t 8), none, .write, 0⟩, ⟨(some 28), .arith .quo (.t 27) (.c (.int .i64 4)), none, .write, 0⟩, ⟨(some 29), .arith .mul (.t 28) (.c (.int .i64 3)), none, .write, 0⟩, ⟨(some 30), .arith .add (.t 26) (.t 29), none, .write, 0⟩, ⟨(some 12), .move (.t 30), none, .write, 0⟩])
 (.seq (.seq (.region [⟨(some 31), .move (.t 8), none, .write, 0⟩, ⟨(some 32), .arith .geq (.t 31) (.c (.int .i64 8)), none, .write, 0⟩])
 (.cond (.t 32) (.seq (.seq (.region [⟨(some 33), .move (.t 8), none, .write, 0⟩, ⟨(some 34), .arith .geq (.t 33) (.c (.int .i64 50)), none, .write, 0⟩])
 (.cond (.t 34) (.seq (.region [⟨(some 35), .move (.t 0), none, .write, 0⟩, ⟨(some 36), .move (.t 10), none, .write, 0⟩, ⟨(some 37), .call (.c (.func 126 [])) [(.t 35), (.t 36), (.t 9)], none, .write, 0⟩, ⟨(some 10), .move (.t 37), none, .write, 0⟩])
 (.seq (.region [⟨(some 38), .move (.t 0), none, .write, 0⟩, ⟨(some 39), .move (.t 11), none, .write, 0⟩, ⟨(some 40), .call (.c (.func 126 [])) [(.t 38), (.t 39), (.t 9)], none, .write, 0⟩, ⟨(some 11), .move (.t 40), none, .write, 0⟩])
 (.region [⟨(some 41), .move (.t 0), none, .write, 0⟩, ⟨(some 42), .move (.t 12), none, .write, 0⟩, ⟨(some 43), .call (.c (.func 126 [])) [(.t 41), (.t 42), (.t 9)], none, .write, 0⟩, ⟨(some 12), .move (.t 43), none, .write, 0⟩]))) .skip))
 (.region [⟨(some 44), .move (.t 0), none, .write, 0⟩, ⟨(some 45), .move (.t 10), none, .write, 0⟩, ⟨(some 46), .move (.t 11), none, .write, 0⟩, ⟨(some 47), .move (.t 12), none, .write, 0⟩, ⟨(some 48), .call (.c (.func 127 [])) [(.t 44), (.t 45), (.t 46), (.t 47), (.t 9)], none, .write, 0⟩, ⟨(some 11), .move (.t 48), none, .write, 0⟩])) .skip))
 (.seq (.region [⟨(some 49), .load none (.t 9), none, .write, 0⟩])
 (.block 0 (.seq (.region [⟨(some 52), .arith .eql (.t 49) (.c (.int .i64 0)), none, .write, 0⟩, ⟨(some 51), .move (.t 52), none, .write, 0⟩])
 (.cond (.t 51) (.seq (.region [⟨(some 53), .move (.t 11), none, .write, 0⟩, ⟨(some 6), .move (.t 53), none, .write, 0⟩, ⟨(some 7), .move (.c (.int .i64 1)), none, .write, 0⟩])
 .ret) (.seq (.region [⟨(some 55), .arith .eql (.t 49) (.c (.int .i64 12)), none, .write, 0⟩, ⟨(some 54), .move (.t 55), none, .write, 0⟩])
 (.cond (.t 54) (.seq (.region [⟨(some 56), .move (.t 11), none, .write, 0⟩, ⟨(some 6), .move (.t 56), none, .write, 0⟩, ⟨(some 7), .move (.c (.int .i64 2)), none, .write, 0⟩])
 .ret) (.seq (.region [⟨(some 50), .move (.t 11), none, .write, 0⟩, ⟨(some 6), .move (.t 50), none, .write, 0⟩, ⟨(some 7), .move (.c (.int .i64 0)), none, .write, 0⟩])
 .ret)))))))))))))) }

theorem c108 : compFunc Try.prog Try.f108 .full = some t108 := by kernel_rfl

def t109l0 : DCode :=
 (.seq (.seq (.region [⟨(some 11), .move (.t 6), none, .write, 0⟩, ⟨(some 12), .move (.t 7), none, .write, 0⟩, ⟨(some 13), .arith .lss (.t 11) (.t 12), none, .write, 0⟩])
 (.cond (.t 13) .skip (.exit 0)))
 (.block 1 (.seq (.draw [⟨(some 18), .move (.t 0), none, .read, 0⟩, ⟨(some 19), .move (.t 7), none, .read, 0⟩, ⟨(some 20), .indexAddr 1 (.t 18) (.t 19), none, .read, 0⟩, ⟨(some 21), .load none (.t 20), none, .read, 0⟩, ⟨(some 22), .move (.t 0), none, .read, 0⟩, ⟨(some 23), .move (.t 6), none, .read, 0⟩, ⟨(some 24), .indexAddr 1 (.t 22) (.t 23), none, .read, 0⟩, ⟨(some 25), .load none (.t 24), none, .read, 0⟩, ⟨(some 14), .move (.t 0), none, .read, 0⟩, ⟨(some 15), .move (.t 6), none, .read, 0⟩, ⟨(some 26), .indexAddr 1 (.t 14) (.t 15), none, .read, 0⟩, ⟨none, .store 1 (.t 26) (.t 21), none, .write, 0⟩, ⟨(some 16), .move (.t 0), none, .read, 0⟩, ⟨(some 17), .move (.t 7), none, .read, 0⟩, ⟨(some 27), .indexAddr 1 (.t 16) (.t 17), none, .read, 1⟩, ⟨none, .store 1 (.t 27) (.t 25), none, .write, 1⟩])
 (.seq (.region [⟨(some 28), .move (.t 6), none, .write, 0⟩, ⟨(some 29), .arith .add (.t 28) (.c (.int .i64 1)), none, .write, 0⟩, ⟨(some 6), .move (.t 29), none, .write, 0⟩])
 (.region [⟨(some 30), .move (.t 7), none, .write, 0⟩, ⟨(some 31), .arith .sub (.t 30) (.c (.int .i64 1)), none, .write, 0⟩, ⟨(some 7), .move (.t 31), none, .write, 0⟩])))))

/-- slices.reverseRangeOrdered[int] -/
def t109 : DFunc := { ntmps := 32, results := [], mode := .full, body :=
 (.seq (.region [⟨(some 8), .move (.t 1), none, .write, 0⟩, ⟨(some 6), .move (.t 8), none, .write, 0⟩])
 (.seq (.region [⟨(some 9), .move (.t 2), none, .write, 0⟩, ⟨(some 10), .arith .sub (.t 9) (.c (.int .i64 1)), none, .write, 0⟩, ⟨(some 7), .move (.t 10), none, .write, 0⟩])
 (.block 0 (.loop t109l0)))) }

theorem c109 : compFunc Try.prog Try.f109 .full = some t109 := by kernel_rfl

def t110l0 : DCode :=
 (.seq (.seq (.draw [⟨(some 17), .move (.t 7), none, .read, 0⟩, ⟨(some 18), .move (.t 2), none, .read, 0⟩, ⟨(some 19), .arith .lss (.t 17) (.t 18), none, .read, 0⟩, ⟨(some 20), .move (.t 19), none, .read, 0⟩, ⟨(some 21), .move (.t 0), (some (20, true)), .read, 0⟩, ⟨(some 22), .move (.t 7), (some (20, true)), .read, 0⟩, ⟨(some 23), .indexAddr 1 (.t 21) (.t 22), (some (20, true)), .read, 0⟩, ⟨(some 24), .load none (.t 23), (some (20, true)), .read, 0⟩, ⟨(some 25), .move (.t 0), (some (20, true)), .read, 0⟩, ⟨(some 26), .move (.t 7), (some (20, true)), .read, 0⟩, ⟨(some 27), .arith .sub (.t 26) (.c (.int .i64 1)), (some (20, true)), .read, 0⟩, ⟨(some 28), .indexAddr 1 (.t 25) (.t 27), (some (20, true)), .read, 0⟩, ⟨(some 29), .load none (.t 28), (some (20, true)), .read, 0⟩, ⟨(some 30), .call (.c (.func 111 [])) [(.t 24), (.t 29)], (some (20, true)), .write, 0⟩, ⟨(some 31), .un .not (.t 30), (some (20, true)), .read, 1⟩, ⟨(some 32), .pick (.t 20) (.t 31) (.c (.bool false)), none, .read, 1⟩])
 (.cond (.t 32) .skip (.exit 2)))
 (.block 3 (.region [⟨(some 33), .move (.t 7), none, .write, 0⟩, ⟨(some 34), .arith .add (.t 33) (.c (.int .i64 1)), none, .write, 0⟩, ⟨(some 7), .move (.t 34), none, .write, 0⟩])))

def t110l1 : DCode :=
 (.seq (.seq (.region [⟨(some 64), .move (.t 9), none, .write, 0⟩, ⟨(some 65), .arith .geq (.t 64) (.c (.int .i64 1)), none, .write, 0⟩])
 (.cond (.t 65) .skip (.exit 4)))
 (.seq (.block 5 (.seq (.seq (.draw [⟨(some 68), .move (.t 0), none, .read, 0⟩, ⟨(some 69), .move (.t 9), none, .read, 0⟩, ⟨(some 70), .indexAddr 1 (.t 68) (.t 69), none, .read, 0⟩, ⟨(some 71), .load none (.t 70), none, .read, 0⟩, ⟨(some 72), .move (.t 0), none, .read, 0⟩, ⟨(some 73), .move (.t 9), none, .read, 0⟩, ⟨(some 74), .arith .sub (.t 73) (.c (.int .i64 1)), none, .read, 0⟩, ⟨(some 75), .indexAddr 1 (.t 72) (.t 74), none, .read, 0⟩, ⟨(some 76), .load none (.t 75), none, .read, 0⟩, ⟨(some 77), .call (.c (.func 111 [])) [(.t 71), (.t 76)], none, .write, 0⟩, ⟨(some 78), .un .not (.t 77), none, .read, 1⟩])
 (.cond (.t 78) (.exit 4) .skip))
 (.draw [⟨(some 84), .move (.t 0), none, .read, 0⟩, ⟨(some 85), .move (.t 9), none, .read, 0⟩, ⟨(some 86), .arith .sub (.t 85) (.c (.int .i64 1)), none, .read, 0⟩, ⟨(some 87), .indexAddr 1 (.t 84) (.t 86), none, .read, 0⟩, ⟨(some 88), .load none (.t 87), none, .read, 0⟩, ⟨(some 89), .move (.t 0), none, .read, 0⟩, ⟨(some 90), .move (.t 9), none, .read, 0⟩, ⟨(some 91), .indexAddr 1 (.t 89) (.t 90), none, .read, 0⟩, ⟨(some 92), .load none (.t 91), none, .read, 0⟩, ⟨(some 79), .move (.t 0), none, .read, 0⟩, ⟨(some 80), .move (.t 9), none, .read, 0⟩, ⟨(some 93), .indexAddr 1 (.t 79) (.t 80), none, .read, 0⟩, ⟨none, .store 1 (.t 93) (.t 88), none, .write, 0⟩, ⟨(some 81), .move (.t 0), none, .read, 0⟩, ⟨(some 82), .move (.t 9), none, .read, 0⟩, ⟨(some 83), .arith .sub (.t 82) (.c (.int .i64 1)), none, .read, 0⟩, ⟨(some 94), .indexAddr 1 (.t 81) (.t 83), none, .read, 1⟩, ⟨none, .store 1 (.t 94) (.t 92), none, .write, 1⟩])))
 (.region [⟨(some 66), .move (.t 9), none, .write, 0⟩, ⟨(some 67), .arith .sub (.t 66) (.c (.int .i64 1)), none, .write, 0⟩, ⟨(some 9), .move (.t 67), none, .write, 0⟩])))

def t110l2 : DCode :=
 (.seq (.seq (.region [⟨(some 101), .move (.t 10), none, .write, 0⟩, ⟨(some 102), .move (.t 2), none, .write, 0⟩, ⟨(some 103), .arith .lss (.t 101) (.t 102), none, .write, 0⟩])
 (.cond (.t 103) .skip (.exit 6)))
 (.seq (.block 7 (.seq (.seq (.draw [⟨(some 106), .move (.t 0), none, .read, 0⟩, ⟨(some 107), .move (.t 10), none, .read, 0⟩, ⟨(some 108), .indexAddr 1 (.t 106) (.t 107), none, .read, 0⟩, ⟨(some 109), .load none (.t 108), none, .read, 0⟩, ⟨(some 110), .move (.t 0), none, .read, 0⟩, ⟨(some 111), .move (.t 10), none, .read, 0⟩, ⟨(some 112), .arith .sub (.t 111) (.c (.int .i64 1)), none, .read, 0⟩, ⟨(some 113), .indexAddr 1 (.t 110) (.t 112), none, .read, 0⟩, ⟨(some 114), .load none (.t 113), none, .read, 0⟩, ⟨(some 115), .call (.c (.func 111 [])) [(.t 109), (.t 114)], none, .write, 0⟩, ⟨(some 116), .un .not (.t 115), none, .read, 1⟩])
 (.cond (.t 116) (.exit 6) .skip))
 (.draw [⟨(some 122), .move (.t 0), none, .read, 0⟩, ⟨(some 123), .move (.t 10), none, .read, 0⟩, ⟨(some 124), .arith .sub (.t 123) (.c (.int .i64 1)), none, .read, 0⟩, ⟨(some 125), .indexAddr 1 (.t 122) (.t 124), none, .read, 0⟩, ⟨(some 126), .load none (.t 125), none, .read, 0⟩, ⟨(some 127), .move (.t 0), none, .read, 0⟩, ⟨(some 128), .move (.t 10), none, .read, 0⟩, ⟨(some 129), .indexAddr 1 (.t 127) (.t 128), none, .read, 0⟩, ⟨(some 130), .load none (.t 129), none, .read, 0⟩, ⟨(some 117), .move (.t 0), none, .read, 0⟩, ⟨(some 118), .move (.t 10), none, .read, 0⟩, ⟨(some 131), .indexAddr 1 (.t 117) (.t 118), none, .read, 0⟩, ⟨none, .store 1 (.t 131) (.t 126), none, .write, 0⟩, ⟨(some 119), .move (.t 0), none, .read, 0⟩, ⟨(some 120), .move (.t 10), none, .read, 0⟩, ⟨(some 121), .arith .sub (.t 120) (.c (.int .i64 1)), none, .read, 0⟩, ⟨(some 132), .indexAddr 1 (.t 119) (.t 121), none, .read, 1⟩, ⟨none, .store 1 (.t 132) (.t 130), none, .write, 1⟩])))
 (.region [⟨(some 104), .move (.t 10), none, .write, 0⟩, ⟨(some 105), .arith .add (.t 104) (.c (.int .i64 1)), none, .write, 0⟩, ⟨(some 10), .move (.t 105), none, .write, 0⟩])))

def t110k0 : DCode :=
 (.seq (.region [⟨(some 95), .move (.t 2), none, .write, 0⟩, ⟨(some 96), .move (.t 7), none, .write, 0⟩, ⟨(some 97), .arith .sub (.t 95) (.t 96), none, .write, 0⟩, ⟨(some 98), .arith .geq (.t 97) (.c (.int .i64 2)), none, .write, 0⟩])
 (.cond (.t 98) (.seq (.region [⟨(some 99), .move (.t 7), none, .write, 0⟩, ⟨(some 100), .arith .add (.t 99) (.c (.int .i64 1)), none, .write, 0⟩, ⟨(some 10), .move (.t 100), none, .write, 0⟩])
 (.block 6 (.loop t110l2))) .skip))

def t110k1 : DCode :=
 (.seq (.seq (.region [⟨(some 35), .move (.t 7), none, .write, 0⟩, ⟨(some 36), .move (.t 2), none, .write, 0⟩, ⟨(some 37), .arith .eql (.t 35) (.t 36), none, .write, 0⟩])
 (.cond (.t 37) (.seq (.region [⟨(some 6), .move (.c (.bool true)), none, .write, 0⟩])
 .ret) .skip))
 (.seq (.seq (.region [⟨(some 38), .move (.t 2), none, .write, 0⟩, ⟨(some 39), .move (.t 1), none, .write, 0⟩, ⟨(some 40), .arith .sub (.t 38) (.t 39), none, .write, 0⟩, ⟨(some 41), .arith .lss (.t 40) (.c (.int .i64 50)), none, .write, 0⟩])
 (.cond (.t 41) (.seq (.region [⟨(some 6), .move (.c (.bool false)), none, .write, 0⟩])
 .ret) .skip))
 (.seq (.draw [⟨(some 47), .move (.t 0), none, .read, 0⟩, ⟨(some 48), .move (.t 7), none, .read, 0⟩, ⟨(some 49), .arith .sub (.t 48) (.c (.int .i64 1)), none, .read, 0⟩, ⟨(some 50), .indexAddr 1 (.t 47) (.t 49), none, .read, 0⟩, ⟨(some 51), .load none (.t 50), none, .read, 0⟩, ⟨(some 52), .move (.t 0), none, .read, 0⟩, ⟨(some 53), .move (.t 7), none, .read, 0⟩, ⟨(some 54), .indexAddr 1 (.t 52) (.t 53), none, .read, 0⟩, ⟨(some 55), .load none (.t 54), none, .read, 0⟩, ⟨(some 42), .move (.t 0), none, .read, 0⟩, ⟨(some 43), .move (.t 7), none, .read, 0⟩, ⟨(some 56), .indexAddr 1 (.t 42) (.t 43), none, .read, 0⟩, ⟨none, .store 1 (.t 56) (.t 51), none, .write, 0⟩, ⟨(some 44), .move (.t 0), none, .read, 0⟩, ⟨(some 45), .move (.t 7), none, .read, 0⟩, ⟨(some 46), .arith .sub (.t 45) (.c (.int .i64 1)), none, .read, 0⟩, ⟨(some 57), .indexAddr 1 (.t 44) (.t 46), none, .read, 1⟩, ⟨none, .store 1 (.t 57) (.t 55), none, .write, 1⟩])
 (.seq (.seq (.region [⟨(some 58), .move (.t 7), none, .write, 0⟩, ⟨(some 59), .move (.t 1), none, .write, 0⟩, ⟨(some 60), .arith .sub (.t 58) (.t 59), none, .write, 0⟩, ⟨(some 61), .arith .geq (.t 60) (.c (.int .i64 2)), none, .write, 0⟩])
 (.cond (.t 61) (.seq (.region [⟨(some 62), .move (.t 7), none, .write, 0⟩, ⟨(some 63), .arith .sub (.t 62) (.c (.int .i64 1)), none, .write, 0⟩, ⟨(some 9), .move (.t 63), none, .write, 0⟩])
 (.block 4 (.loop t110l1))) .skip))
 t110k0))))

def t110k2 : DCode :=
 (.region [⟨(some 15), .move (.t 8), none, .write, 0⟩, ⟨(some 16), .arith .add (.t 15) (.c (.int .i64 1)), none, .write, 0⟩, ⟨(some 8), .move (.t 16), none, .write, 0⟩])

def t110l3 : DCode :=
 (.seq (.seq (.region [⟨(some 13), .move (.t 8), none, .write, 0⟩, ⟨(some 14), .arith .lss (.t 13) (.c (.int .i64 5)), none, .write, 0⟩])
 (.cond (.t 14) .skip (.exit 0)))
 (.seq (.block 1 (.seq (.block 2 (.loop t110l0))
 t110k1))
 t110k2))

def t110k3 : DCode :=
 (.seq (.region [⟨(some 6), .move (.c (.bool false)), none, .write, 0⟩])
 .ret)

/-- slices.partialInsertionSortOrdered[int] -/
def t110 : DFunc := { ntmps := 133, results := [(.t 6)], mode := .full, body :=
 (.seq (.region [⟨(some 6), .move (.c (.bool false)), none, .write, 0⟩])
 (.seq (.region [⟨(some 11), .move (.t 1), none, .write, 0⟩, ⟨(some 12), .arith .add (.t 11) (.c (.int .i64 1)), none, .write, 0⟩, ⟨(some 7), .move (.t 12), none, .write, 0⟩])
 (.seq (.seq (.region [⟨(some 8), .move (.c (.int .i64 0)), none, .write, 0⟩])
 (.block 0 (.loop t110l3)))
 t110k3))) }

theorem c110 : compFunc Try.prog Try.f110 .full = some t110 := by kernel_rfl

/-- cmp.Less[int] -/
def t111 : DFunc := { ntmps := 17, results := [(.t 4)], mode := .pure, body :=
 (.seq (.region [⟨(some 4), .move (.c (.bool false)), none, .write, 0⟩])
 (.seq (.region [⟨(some 5), .move (.t 0), none, .write, 0⟩, ⟨(some 6), .call (.c (.func 118 [])) [(.t 5)], none, .write, 0⟩, ⟨(some 7), .move (.t 6), none, .write, 0⟩, ⟨(some 8), .move (.t 1), (some (7, true)), .write, 0⟩, ⟨(some 9), .call (.c (.func 118 [])) [(.t 8)], (some (7, true)), .write, 0⟩, ⟨(some 10), .un .not (.t 9), (some (7, true)), .write, 0⟩, ⟨(some 11), .pick (.t 7) (.t 10) (.c (.bool false)), none, .write, 0⟩, ⟨(some 12), .move (.t 11), none, .write, 0⟩, ⟨(some 13), .move (.t 0), (some (12, false)), .write, 0⟩, ⟨(some 14), .move (.t 1), (some (12, false)), .write, 0⟩, ⟨(some 15), .arith .lss (.t 13) (.t 14), (some (12, false)), .write, 0⟩, ⟨(some 16), .pick (.t 12) (.c (.bool true)) (.t 15), none, .write, 0⟩, ⟨(some 4), .move (.t 16), none, .write, 0⟩])
 .ret)) }

theorem c111 : compFunc Try.prog Try.f111 .pure = some t111 := by kernel_rfl

def t112l0 : DCode :=
 (.seq (.seq (.draw [⟨(some 29), .move (.t 9), none, .read, 0⟩, ⟨(some 30), .move (.t 10), none, .read, 0⟩, ⟨(some 31), .arith .leq (.t 29) (.t 30), none, .read, 0⟩, ⟨(some 32), .move (.t 31), none, .read, 0⟩, ⟨(some 33), .move (.t 0), (some (32, true)), .read, 0⟩, ⟨(some 34), .move (.t 1), (some (32, true)), .read, 0⟩, ⟨(some 35), .indexAddr 1 (.t 33) (.t 34), (some (32, true)), .read, 0⟩, ⟨(some 36), .load none (.t 35), (some (32, true)), .read, 0⟩, ⟨(some 37), .move (.t 0), (some (32, true)), .read, 0⟩, ⟨(some 38), .move (.t 9), (some (32, true)), .read, 0⟩, ⟨(some 39), .indexAddr 1 (.t 37) (.t 38), (some (32, true)), .read, 0⟩, ⟨(some 40), .load none (.t 39), (some (32, true)), .read, 0⟩, ⟨(some 41), .call (.c (.func 111 [])) [(.t 36), (.t 40)], (some (32, true)), .write, 0⟩, ⟨(some 42), .un .not (.t 41), (some (32, true)), .read, 1⟩, ⟨(some 43), .pick (.t 32) (.t 42) (.c (.bool false)), none, .read, 1⟩])
 (.cond (.t 43) .skip (.exit 2)))
 (.block 3 (.region [⟨(some 44), .move (.t 9), none, .write, 0⟩, ⟨(some 45), .arith .add (.t 44) (.c (.int .i64 1)), none, .write, 0⟩, ⟨(some 9), .move (.t 45), none, .write, 0⟩])))

def t112l1 : DCode :=
 (.seq (.seq (.draw [⟨(some 46), .move (.t 9), none, .read, 0⟩, ⟨(some 47), .move (.t 10), none, .read, 0⟩, ⟨(some 48), .arith .leq (.t 46) (.t 47), none, .read, 0⟩, ⟨(some 49), .move (.t 48), none, .read, 0⟩, ⟨(some 50), .move (.t 0), (some (49, true)), .read, 0⟩, ⟨(some 51), .move (.t 1), (some (49, true)), .read, 0⟩, ⟨(some 52), .indexAddr 1 (.t 50) (.t 51), (some (49, true)), .read, 0⟩, ⟨(some 53), .load none (.t 52), (some (49, true)), .read, 0⟩, ⟨(some 54), .move (.t 0), (some (49, true)), .read, 0⟩, ⟨(some 55), .move (.t 10), (some (49, true)), .read, 0⟩, ⟨(some 56), .indexAddr 1 (.t 54) (.t 55), (some (49, true)), .read, 0⟩, ⟨(some 57), .load none (.t 56), (some (49, true)), .read, 0⟩, ⟨(some 58), .call (.c (.func 111 [])) [(.t 53), (.t 57)], (some (49, true)), .write, 0⟩, ⟨(some 59), .pick (.t 49) (.t 58) (.c (.bool false)), none, .read, 1⟩])
 (.cond (.t 59) .skip (.exit 4)))
 (.block 5 (.region [⟨(some 60), .move (.t 10), none, .write, 0⟩, ⟨(some 61), .arith .sub (.t 60) (.c (.int .i64 1)), none, .write, 0⟩, ⟨(some 10), .move (.t 61), none, .write, 0⟩])))

def t112k0 : DCode :=
 (.seq (.seq (.region [⟨(some 62), .move (.t 9), none, .write, 0⟩, ⟨(some 63), .move (.t 10), none, .write, 0⟩, ⟨(some 64), .arith .gtr (.t 62) (.t 63), none, .write, 0⟩])
 (.cond (.t 64) (.exit 0) .skip))
 (.seq (.draw [⟨(some 69), .move (.t 0), none, .read, 0⟩, ⟨(some 70), .move (.t 10), none, .read, 0⟩, ⟨(some 71), .indexAddr 1 (.t 69) (.t 70), none, .read, 0⟩, ⟨(some 72), .load none (.t 71), none, .read, 0⟩, ⟨(some 73), .move (.t 0), none, .read, 0⟩, ⟨(some 74), .move (.t 9), none, .read, 0⟩, ⟨(some 75), .indexAddr 1 (.t 73) (.t 74), none, .read, 0⟩, ⟨(some 76), .load none (.t 75), none, .read, 0⟩, ⟨(some 65), .move (.t 0), none, .read, 0⟩, ⟨(some 66), .move (.t 9), none, .read, 0⟩, ⟨(some 77), .indexAddr 1 (.t 65) (.t 66), none, .read, 0⟩, ⟨none, .store 1 (.t 77) (.t 72), none, .write, 0⟩, ⟨(some 67), .move (.t 0), none, .read, 0⟩, ⟨(some 68), .move (.t 10), none, .read, 0⟩, ⟨(some 78), .indexAddr 1 (.t 67) (.t 68), none, .read, 1⟩, ⟨none, .store 1 (.t 78) (.t 76), none, .write, 1⟩])
 (.seq (.region [⟨(some 79), .move (.t 9), none, .write, 0⟩, ⟨(some 80), .arith .add (.t 79) (.c (.int .i64 1)), none, .write, 0⟩, ⟨(some 9), .move (.t 80), none, .write, 0⟩])
 (.region [⟨(some 81), .move (.t 10), none, .write, 0⟩, ⟨(some 82), .arith .sub (.t 81) (.c (.int .i64 1)), none, .write, 0⟩, ⟨(some 10), .move (.t 82), none, .write, 0⟩]))))

def t112k1 : DCode :=
 (.seq (.block 4 (.loop t112l1))
 t112k0)

def t112l2 : DCode :=
 (.block 1 (.seq (.block 2 (.loop t112l0))
 t112k1))

def t112k2 : DCode :=
 (.seq (.region [⟨(some 83), .move (.t 9), none, .write, 0⟩, ⟨(some 8), .move (.t 83), none, .write, 0⟩])
 .ret)

/-- slices.partitionEqualOrdered[int] -/
def t112 : DFunc := { ntmps := 84, results := [(.t 8)], mode := .full, body :=
 (.seq (.region [⟨(some 8), .move (.c (.int .i64 0)), none, .write, 0⟩])
 (.seq (.draw [⟨(some 15), .move (.t 0), none, .read, 0⟩, ⟨(some 16), .move (.t 3), none, .read, 0⟩, ⟨(some 17), .indexAddr 1 (.t 15) (.t 16), none, .read, 0⟩, ⟨(some 18), .load none (.t 17), none, .read, 0⟩, ⟨(some 19), .move (.t 0), none, .read, 0⟩, ⟨(some 20), .move (.t 1), none, .read, 0⟩, ⟨(some 21), .indexAddr 1 (.t 19) (.t 20), none, .read, 0⟩, ⟨(some 22), .load none (.t 21), none, .read, 0⟩, ⟨(some 11), .move (.t 0), none, .read, 0⟩, ⟨(some 12), .move (.t 1), none, .read, 0⟩, ⟨(some 23), .indexAddr 1 (.t 11) (.t 12), none, .read, 0⟩, ⟨none, .store 1 (.t 23) (.t 18), none, .write, 0⟩, ⟨(some 13), .move (.t 0), none, .read, 0⟩, ⟨(some 14), .move (.t 3), none, .read, 0⟩, ⟨(some 24), .indexAddr 1 (.t 13) (.t 14), none, .read, 1⟩, ⟨none, .store 1 (.t 24) (.t 22), none, .write, 1⟩])
 (.seq (.region [⟨(some 25), .move (.t 1), none, .write, 0⟩, ⟨(some 26), .arith .add (.t 25) (.c (.int .i64 1)), none, .write, 0⟩, ⟨(some 27), .move (.t 2), none, .write, 0⟩, ⟨(some 28), .arith .sub (.t 27) (.c (.int .i64 1)), none, .write, 0⟩, ⟨(some 9), .move (.t 26), none, .write, 0⟩, ⟨(some 10), .move (.t 28), none, .write, 0⟩])
 (.seq (.block 0 (.loop t112l2))
 t112k2)))) }

theorem c112 : compFunc Try.prog Try.f112 .full = some t112 := by kernel_rfl

def t113l0 : DCode :=
 (.seq (.seq (.draw [⟨(some 30), .move (.t 10), none, .read, 0⟩, ⟨(some 31), .move (.t 11), none, .read, 0⟩, ⟨(some 32), .arith .leq (.t 30) (.t 31), none, .read, 0⟩, ⟨(some 33), .move (.t 32), none, .read, 0⟩, ⟨(some 34), .move (.t 0), (some (33, true)), .read, 0⟩, ⟨(some 35), .move (.t 10), (some (33, true)), .read, 0⟩, ⟨(some 36), .indexAddr 1 (.t 34) (.t 35), (some (33, true)), .read, 0⟩, ⟨(some 37), .load none (.t 36), (some (33, true)), .read, 0⟩, ⟨(some 38), .move (.t 0), (some (33, true)), .read, 0⟩, ⟨(some 39), .move (.t 1), (some (33, true)), .read, 0⟩, ⟨(some 40), .indexAddr 1 (.t 38) (.t 39), (some (33, true)), .read, 0⟩, ⟨(some 41), .load none (.t 40), (some (33, true)), .read, 0⟩, ⟨(some 42), .call (.c (.func 111 [])) [(.t 37), (.t 41)], (some (33, true)), .write, 0⟩, ⟨(some 43), .pick (.t 33) (.t 42) (.c (.bool false)), none, .read, 1⟩])
 (.cond (.t 43) .skip (.exit 0)))
 (.block 1 (.region [⟨(some 44), .move (.t 10), none, .write, 0⟩, ⟨(some 45), .arith .add (.t 44) (.c (.int .i64 1)), none, .write, 0⟩, ⟨(some 10), .move (.t 45), none, .write, 0⟩])))

def t113l1 : DCode :=
 (.seq (.seq (.draw [⟨(some 46), .move (.t 10), none, .read, 0⟩, ⟨(some 47), .move (.t 11), none, .read, 0⟩, ⟨(some 48), .arith .leq (.t 46) (.t 47), none, .read, 0⟩, ⟨(some 49), .move (.t 48), none, .read, 0⟩, ⟨(some 50), .move (.t 0), (some (49, true)), .read, 0⟩, ⟨(some 51), .move (.t 11), (some (49, true)), .read, 0⟩, ⟨(some 52), .indexAddr 1 (.t 50) (.t 51), (some (49, true)), .read, 0⟩, ⟨(some 53), .load none (.t 52), (some (49, true)), .read, 0⟩, ⟨(some 54), .move (.t 0), (some (49, true)), .read, 0⟩, ⟨(some 55), .move (.t 1), (some (49, true)), .read, 0⟩, ⟨(some 56), .indexAddr 1 (.t 54) (.t 55), (some (49, true)), .read, 0⟩, ⟨(some 57), .load none (.t 56), (some (49, true)), .read, 0⟩, ⟨(some 58), .call (.c (.func 111 [])) [(.t 53), (.t 57)], (some (49, true)), .write, 0⟩, ⟨(some 59), .un .not (.t 58), (some (49, true)), .read, 1⟩, ⟨(some 60), .pick (.t 49) (.t 59) (.c (.bool false)), none, .read, 1⟩])
 (.cond (.t 60) .skip (.exit 2)))
 (.block 3 (.region [⟨(some 61), .move (.t 11), none, .write, 0⟩, ⟨(some 62), .arith .sub (.t 61) (.c (.int .i64 1)), none, .write, 0⟩, ⟨(some 11), .move (.t 62), none, .write, 0⟩])))

def t113l2 : DCode :=
 (.seq (.seq (.draw [⟨(some 99), .move (.t 10), none, .read, 0⟩, ⟨(some 100), .move (.t 11), none, .read, 0⟩, ⟨(some 101), .arith .leq (.t 99) (.t 100), none, .read, 0⟩, ⟨(some 102), .move (.t 101), none, .read, 0⟩, ⟨(some 103), .move (.t 0), (some (102, true)), .read, 0⟩, ⟨(some 104), .move (.t 10), (some (102, true)), .read, 0⟩, ⟨(some 105), .indexAddr 1 (.t 103) (.t 104), (some (102, true)), .read, 0⟩, ⟨(some 106), .load none (.t 105), (some (102, true)), .read, 0⟩, ⟨(some 107), .move (.t 0), (some (102, true)), .read, 0⟩, ⟨(some 108), .move (.t 1), (some (102, true)), .read, 0⟩, ⟨(some 109), .indexAddr 1 (.t 107) (.t 108), (some (102, true)), .read, 0⟩, ⟨(some 110), .load none (.t 109), (some (102, true)), .read, 0⟩, ⟨(some 111), .call (.c (.func 111 [])) [(.t 106), (.t 110)], (some (102, true)), .write, 0⟩, ⟨(some 112), .pick (.t 102) (.t 111) (.c (.bool false)), none, .read, 1⟩])
 (.cond (.t 112) .skip (.exit 6)))
 (.block 7 (.region [⟨(some 113), .move (.t 10), none, .write, 0⟩, ⟨(some 114), .arith .add (.t 113) (.c (.int .i64 1)), none, .write, 0⟩, ⟨(some 10), .move (.t 114), none, .write, 0⟩])))

def t113l3 : DCode :=
 (.seq (.seq (.draw [⟨(some 115), .move (.t 10), none, .read, 0⟩, ⟨(some 116), .move (.t 11), none, .read, 0⟩, ⟨(some 117), .arith .leq (.t 115) (.t 116), none, .read, 0⟩, ⟨(some 118), .move (.t 117), none, .read, 0⟩, ⟨(some 119), .move (.t 0), (some (118, true)), .read, 0⟩, ⟨(some 120), .move (.t 11), (some (118, true)), .read, 0⟩, ⟨(some 121), .indexAddr 1 (.t 119) (.t 120), (some (118, true)), .read, 0⟩, ⟨(some 122), .load none (.t 121), (some (118, true)), .read, 0⟩, ⟨(some 123), .move (.t 0), (some (118, true)), .read, 0⟩, ⟨(some 124), .move (.t 1), (some (118, true)), .read, 0⟩, ⟨(some 125), .indexAddr 1 (.t 123) (.t 124), (some (118, true)), .read, 0⟩, ⟨(some 126), .load none (.t 125), (some (118, true)), .read, 0⟩, ⟨(some 127), .call (.c (.func 111 [])) [(.t 122), (.t 126)], (some (118, true)), .write, 0⟩, ⟨(some 128), .un .not (.t 127), (some (118, true)), .read, 1⟩, ⟨(some 129), .pick (.t 118) (.t 128) (.c (.bool false)), none, .read, 1⟩])
 (.cond (.t 129) .skip (.exit 8)))
 (.block 9 (.region [⟨(some 130), .move (.t 11), none, .write, 0⟩, ⟨(some 131), .arith .sub (.t 130) (.c (.int .i64 1)), none, .write, 0⟩, ⟨(some 11), .move (.t 131), none, .write, 0⟩])))

def t113k0 : DCode :=
 (.seq (.seq (.region [⟨(some 132), .move (.t 10), none, .write, 0⟩, ⟨(some 133), .move (.t 11), none, .write, 0⟩, ⟨(some 134), .arith .gtr (.t 132) (.t 133), none, .write, 0⟩])
 (.cond (.t 134) (.exit 4) .skip))
 (.seq (.draw [⟨(some 139), .move (.t 0), none, .read, 0⟩, ⟨(some 140), .move (.t 11), none, .read, 0⟩, ⟨(some 141), .indexAddr 1 (.t 139) (.t 140), none, .read, 0⟩, ⟨(some 142), .load none (.t 141), none, .read, 0⟩, ⟨(some 143), .move (.t 0), none, .read, 0⟩, ⟨(some 144), .move (.t 10), none, .read, 0⟩, ⟨(some 145), .indexAddr 1 (.t 143) (.t 144), none, .read, 0⟩, ⟨(some 146), .load none (.t 145), none, .read, 0⟩, ⟨(some 135), .move (.t 0), none, .read, 0⟩, ⟨(some 136), .move (.t 10), none, .read, 0⟩, ⟨(some 147), .indexAddr 1 (.t 135) (.t 136), none, .read, 0⟩, ⟨none, .store 1 (.t 147) (.t 142), none, .write, 0⟩, ⟨(some 137), .move (.t 0), none, .read, 0⟩, ⟨(some 138), .move (.t 11), none, .read, 0⟩, ⟨(some 148), .indexAddr 1 (.t 137) (.t 138), none, .read, 1⟩, ⟨none, .store 1 (.t 148) (.t 146), none, .write, 1⟩])
 (.seq (.region [⟨(some 149), .move (.t 10), none, .write, 0⟩, ⟨(some 150), .arith .add (.t 149) (.c (.int .i64 1)), none, .write, 0⟩, ⟨(some 10), .move (.t 150), none, .write, 0⟩])
 (.region [⟨(some 151), .move (.t 11), none, .write, 0⟩, ⟨(some 152), .arith .sub (.t 151) (.c (.int .i64 1)), none, .write, 0⟩, ⟨(some 11), .move (.t 152), none, .write, 0⟩]))))

def t113k1 : DCode :=
 (.seq (.block 8 (.loop t113l3))
 t113k0)

def t113l4 : DCode :=
 (.block 5 (.seq (.block 6 (.loop t113l2))
 t113k1))

def t113k2 : DCode :=
 (.seq (.draw [⟨(some 157), .move (.t 0), none, .read, 0⟩, ⟨(some 158), .move (.t 1), none, .read, 0⟩, ⟨(some 159), .indexAddr 1 (.t 157) (.t 158), none, .read, 0⟩, ⟨(some 160), .load none (.t 159), none, .read, 0⟩, ⟨(some 161), .move (.t 0), none, .read, 0⟩, ⟨(some 162), .move (.t 11), none, .read, 0⟩, ⟨(some 163), .indexAddr 1 (.t 161) (.t 162), none, .read, 0⟩, ⟨(some 164), .load none (.t 163), none, .read, 0⟩, ⟨(some 153), .move (.t 0), none, .read, 0⟩, ⟨(some 154), .move (.t 11), none, .read, 0⟩, ⟨(some 165), .indexAddr 1 (.t 153) (.t 154), none, .read, 0⟩, ⟨none, .store 1 (.t 165) (.t 160), none, .write, 0⟩, ⟨(some 155), .move (.t 0), none, .read, 0⟩, ⟨(some 156), .move (.t 1), none, .read, 0⟩, ⟨(some 166), .indexAddr 1 (.t 155) (.t 156), none, .read, 1⟩, ⟨none, .store 1 (.t 166) (.t 164), none, .write, 1⟩])
 (.seq (.region [⟨(some 167), .move (.t 11), none, .write, 0⟩, ⟨(some 8), .move (.t 167), none, .write, 0⟩, ⟨(some 9), .move (.c (.bool false)), none, .write, 0⟩])
 .ret))

def t113k3 : DCode :=
 (.seq (.seq (.region [⟨(some 63), .move (.t 10), none, .write, 0⟩, ⟨(some 64), .move (.t 11), none, .write, 0⟩, ⟨(some 65), .arith .gtr (.t 63) (.t 64), none, .write, 0⟩])
 (.cond (.t 65) (.seq (.draw [⟨(some 70), .move (.t 0), none, .read, 0⟩, ⟨(some 71), .move (.t 1), none, .read, 0⟩, ⟨(some 72), .indexAddr 1 (.t 70) (.t 71), none, .read, 0⟩, ⟨(some 73), .load none (.t 72), none, .read, 0⟩, ⟨(some 74), .move (.t 0), none, .read, 0⟩, ⟨(some 75), .move (.t 11), none, .read, 0⟩, ⟨(some 76), .indexAddr 1 (.t 74) (.t 75), none, .read, 0⟩, ⟨(some 77), .load none (.t 76), none, .read, 0⟩, ⟨(some 66), .move (.t 0), none, .read, 0⟩, ⟨(some 67), .move (.t 11), none, .read, 0⟩, ⟨(some 78), .indexAddr 1 (.t 66) (.t 67), none, .read, 0⟩, ⟨none, .store 1 (.t 78) (.t 73), none, .write, 0⟩, ⟨(some 68), .move (.t 0), none, .read, 0⟩, ⟨(some 69), .move (.t 1), none, .read, 0⟩, ⟨(some 79), .indexAddr 1 (.t 68) (.t 69), none, .read, 1⟩, ⟨none, .store 1 (.t 79) (.t 77), none, .write, 1⟩])
 (.seq (.region [⟨(some 80), .move (.t 11), none, .write, 0⟩, ⟨(some 8), .move (.t 80), none, .write, 0⟩, ⟨(some 9), .move (.c (.bool true)), none, .write, 0⟩])
 .ret)) .skip))
 (.seq (.draw [⟨(some 85), .move (.t 0), none, .read, 0⟩, ⟨(some 86), .move (.t 11), none, .read, 0⟩, ⟨(some 87), .indexAddr 1 (.t 85) (.t 86), none, .read, 0⟩, ⟨(some 88), .load none (.t 87), none, .read, 0⟩, ⟨(some 89), .move (.t 0), none, .read, 0⟩, ⟨(some 90), .move (.t 10), none, .read, 0⟩, ⟨(some 91), .indexAddr 1 (.t 89) (.t 90), none, .read, 0⟩, ⟨(some 92), .load none (.t 91), none, .read, 0⟩, ⟨(some 81), .move (.t 0), none, .read, 0⟩, ⟨(some 82), .move (.t 10), none, .read, 0⟩, ⟨(some 93), .indexAddr 1 (.t 81) (.t 82), none, .read, 0⟩, ⟨none, .store 1 (.t 93) (.t 88), none, .write, 0⟩, ⟨(some 83), .move (.t 0), none, .read, 0⟩, ⟨(some 84), .move (.t 11), none, .read, 0⟩, ⟨(some 94), .indexAddr 1 (.t 83) (.t 84), none, .read, 1⟩, ⟨none, .store 1 (.t 94) (.t 92), none, .write, 1⟩])
 (.seq (.region [⟨(some 95), .move (.t 10), none, .write, 0⟩, ⟨(some 96), .arith .add (.t 95) (.c (.int .i64 1)), none, .write, 0⟩, ⟨(some 10), .move (.t 96), none, .write, 0⟩])
 (.seq (.region [⟨(some 97), .move (.t 11), none, .write, 0⟩, ⟨(some 98), .arith .sub (.t 97) (.c (.int .i64 1)), none, .write, 0⟩, ⟨(some 11), .move (.t 98), none, .write, 0⟩])
 (.seq (.block 4 (.loop t113l4))
 t113k2)))))

def t113k4 : DCode :=
 (.seq (.block 2 (.loop t113l1))
 t113k3)

/-- slices.partitionOrdered[int] -/
def t113 : DFunc := { ntmps := 168, results := [(.t 8), (.t 9)], mode := .full, body :=
 (.seq (.region [⟨(some 8), .move (.c (.int .i64 0)), none, .write, 0⟩, ⟨(some 9), .move (.c (.bool false)), none, .write, 0⟩])
 (.seq (.draw [⟨(some 16), .move (.t 0), none, .read, 0⟩, ⟨(some 17), .move (.t 3), none, .read, 0⟩, ⟨(some 18), .indexAddr 1 (.t 16) (.t 17), none, .read, 0⟩, ⟨(some 19), .load none (.t 18), none, .read, 0⟩, ⟨(some 20), .move (.t 0), none, .read, 0⟩, ⟨(some 21), .move (.t 1), none, .read, 0⟩, ⟨(some 22), .indexAddr 1 (.t 20) (.t 21), none, .read, 0⟩, ⟨(some 23), .load none (.t 22), none, .read, 0⟩, ⟨(some 12), .move (.t 0), none, .read, 0⟩, ⟨(some 13), .move (.t 1), none, .read, 0⟩, ⟨(some 24), .indexAddr 1 (.t 12) (.t 13), none, .read, 0⟩, ⟨none, .store 1 (.t 24) (.t 19), none, .write, 0⟩, ⟨(some 14), .move (.t 0), none, .read, 0⟩, ⟨(some 15), .move (.t 3), none, .read, 0⟩, ⟨(some 25), .indexAddr 1 (.t 14) (.t 15), none, .read, 1⟩, ⟨none, .store 1 (.t 25) (.t 23), none, .write, 1⟩])
 (.seq (.region [⟨(some 26), .move (.t 1), none, .write, 0⟩, ⟨(some 27), .arith .add (.t 26) (.c (.int .i64 1)), none, .write, 0⟩, ⟨(some 28), .move (.t 2), none, .write, 0⟩, ⟨(some 29), .arith .sub (.t 28) (.c (.int .i64 1)), none, .write, 0⟩, ⟨(some 10), .move (.t 27), none, .write, 0⟩, ⟨(some 11), .move (.t 29), none, .write, 0⟩])
 (.seq (.block 0 (.loop t113l0))
 t113k4)))) }

theorem c113 : compFunc Try.prog Try.f113 .full = some t113 := by kernel_rfl

/-- math/bits.Len32 -/
def t114 : DFunc := { ntmps := 19, results := [(.t 2)], mode := .pure, body :=
 (.seq (.region [⟨(some 2), .move (.c (.int .i64 0)), none, .write, 0⟩])
 (.seq (.seq (.region [⟨(some 3), .move (.t 0), none, .write, 0⟩, ⟨(some 4), .arith .geq (.t 3) (.c (.int .u32 65536)), none, .write, 0⟩])
 (.cond (.t 4) (.seq (.region [⟨(some 5), .move (.t 0), none, .write, 0⟩, ⟨(some 6), .arith .shr (.t 5) (.c (.int .u64 16)), none, .write, 0⟩, ⟨(some 0), .move (.t 6), none, .write, 0⟩])
 (.region [⟨(some 2), .move (.c (.int .i64 16)), none, .write, 0⟩])) .skip))
 (.seq (.seq (.region [⟨(some 7), .move (.t 0), none, .write, 0⟩, ⟨(some 8), .arith .geq (.t 7) (.c (.int .u32 256)), none, .write, 0⟩])
 (.cond (.t 8) (.seq (.region [⟨(some 9), .move (.t 0), none, .write, 0⟩, ⟨(some 10), .arith .shr (.t 9) (.c (.int .u64 8)), none, .write, 0⟩, ⟨(some 0), .move (.t 10), none, .write, 0⟩])
 (.region [⟨(some 11), .move (.t 2), none, .write, 0⟩, ⟨(some 12), .arith .add (.t 11) (.c (.int .i64 8)), none, .write, 0⟩, ⟨(some 2), .move (.t 12), none, .write, 0⟩])) .skip))
 (.seq (.region [⟨(some 13), .move (.t 2), none, .write, 0⟩, ⟨(some 14), .move (.t 0), none, .write, 0⟩, ⟨(some 15), .conv .u8 (.t 14), none, .write, 0⟩, ⟨(some 16), .indexStr (.c (.str [0, 1, 2, 2, 3, 3, 3, 3, 4, 4, 4, 4, 4, 4, 4, 4, 5, 5, 5, 5, 5, 5, 5, 5, 5, 5, 5, 5, 5, 5, 5, 5, 6, 6, 6, 6, 6, 6, 6, 6, 6, 6, 6, 6, 6, 6, 6, 6, 6, 6, 6, 6, 6, 6, 6, 6, 6, 6, 6, 6, 6, 6, 6, 6, 7, 7, 7, 7, 7, 7, 7, 7, 7, 7, 7, 7, 7, 7, 7, 7, 7, 7, 7, 7, 7, 7, 7, 7, 7, 7, 7, 7, 7, 7, 7, 7, 7, 7, 7, 7, 7, 7, 7, 7, 7, 7, 7, 7, 7, 7, 7, 7, 7, 7, 7, 7, 7, 7, 7, 7, 7, 7, 7, 7, 7, 7, 7, 7, 8, 8, 8, 8, 8, 8, 8, 8, 8, 8, 8, 8, 8, 8, 8, 8, 8, 8, 8, 8, 8, 8, 8, 8, 8, 8, 8, 8, 8, 8, 8, 8, 8, 8, 8, 8, 8, 8, 8, 8, 8, 8, 8, 8, 8, 8, 8, 8, 8, 8, 8, 8, 8, 8, 8, 8, 8, 8, 8, 8, 8, 8, 8, 8, 8, 8, 8, 8, 8, 8, 8, 8, 8, 8, 8, 8, 8, 8, 8, 8, 8, 8, 8, 8, 8, 8, 8, 8, 8, 8, 8, 8, 8, 8, 8, 8, 8, 8, 8, 8, 8, 8, 8, 8, 8, 8, 8, 8, 8, 8, 8, 8, 8, 8, 8, 8, 8, 8, 8, 8, 8, 8, 8, 8, 8, 8, 8, 8])) (.t 15), none, .write, 0⟩, ⟨(some 17), .conv .i64 (.t 16), none, .write, 0⟩, ⟨(some 18), .arith .add (.t 13) (.t 17), none, .write, 0⟩, ⟨(some 2), .move (.t 18), none, .write, 0⟩])
 .ret)))) }

theorem c114 : compFunc Try.prog Try.f114 .pure = some t114 := by kernel_rfl

/-- math/bits.Len64 -/
def t115 : DFunc := { ntmps := 25, results := [(.t 2)], mode := .pure, body :=
 (.seq (.region [⟨(some 2), .move (.c (.int .i64 0)), none, .write, 0⟩])
 (.seq (.seq (.region [⟨(some 3), .move (.t 0), none, .write, 0⟩, ⟨(some 4), .arith .geq (.t 3) (.c (.int .u64 4294967296)), none, .write, 0⟩])
 (.cond (.t 4) (.seq (.region [⟨(some 5), .move (.t 0), none, .write, 0⟩, ⟨(some 6), .arith .shr (.t 5) (.c (.int .u64 32)), none, .write, 0⟩, ⟨(some 0), .move (.t 6), none, .write, 0⟩])
 (.region [⟨(some 2), .move (.c (.int .i64 32)), none, .write, 0⟩])) .skip))
 (.seq (.seq (.region [⟨(some 7), .move (.t 0), none, .write, 0⟩, ⟨(some 8), .arith .geq (.t 7) (.c (.int .u64 65536)), none, .write, 0⟩])
 (.cond (.t 8) (.seq (.region [⟨(some 9), .move (.t 0), none, .write, 0⟩, ⟨(some 10), .arith .shr (.t 9) (.c (.int .u64 16)), none, .write, 0⟩, ⟨(some 0), .move (.t 10), none, .write, 0⟩])
 (.region [⟨(some 11), .move (.t 2), none, .write, 0⟩, ⟨(some 12), .arith .add (.t 11) (.c (.int .i64 16)), none, .write, 0⟩, ⟨(some 2), .move (.t 12), none, .write, 0⟩])) .skip))
 (.seq (.seq (.region [⟨(some 13), .move (.t 0), none, .write, 0⟩, ⟨(some 14), .arith .geq (.t 13) (.c (.int .u64 256)), none, .write, 0⟩])
 (.cond (.t 14) (.seq (.region [⟨(some 15), .move (.t 0), none, .write, 0⟩, ⟨(some 16), .arith .shr (.t 15) (.c (.int .u64 8)), none, .write, 0⟩, ⟨(some 0), .move (.t 16), none, .write, 0⟩])
 (.region [⟨(some 17), .move (.t 2), none, .write, 0⟩, ⟨(some 18), .arith .add (.t 17) (.c (.int .i64 8)), none, .write, 0⟩, ⟨(some 2), .move (.t 18), none, .write, 0⟩])) .skip))
 (.seq (.region [⟨(some 19), .move (.t 2), none, .write, 0⟩, ⟨(some 20), .move (.t 0), none, .write, 0⟩, ⟨(some 21), .conv .u8 (.t 20), none, .write, 0⟩, ⟨(some 22), .indexStr (.c (.str [0, 1, 2, 2, 3, 3, 3, 3, 4, 4, 4, 4, 4, 4, 4, 4, 5, 5, 5, 5, 5, 5, 5, 5, 5, 5, 5, 5, 5, 5, 5, 5, 6, 6, 6, 6, 6, 6, 6, 6, 6, 6, 6, 6, 6, 6, 6, 6, 6, 6, 6, 6, 6, 6, 6, 6, 6, 6, 6, 6, 6, 6, 6, 6, 7, 7, 7, 7, 7, 7, 7, 7, 7, 7, 7, 7, 7, 7, 7, 7, 7, 7, 7, 7, 7, 7, 7, 7, 7, 7, 7, 7, 7, 7, 7, 7, 7, 7, 7, 7, 7, 7, 7, 7, 7, 7, 7, 7, 7, 7, 7, 7, 7, 7, 7, 7, 7, 7, 7, 7, 7, 7, 7, 7, 7, 7, 7, 7, 8, 8, 8, 8, 8, 8, 8, 8, 8, 8, 8, 8, 8, 8, 8, 8, 8, 8, 8, 8, 8, 8, 8, 8, 8, 8, 8, 8, 8, 8, 8, 8, 8, 8, 8, 8, 8, 8, 8, 8, 8, 8, 8, 8, 8, 8, 8, 8, 8, 8, 8, 8, 8, 8, 8, 8, 8, 8, 8, 8, 8, 8, 8, 8, 8, 8, 8, 8, 8, 8, 8, 8, 8, 8, 8, 8, 8, 8, 8, 8, 8, 8, 8, 8, 8, 8, 8, 8, 8, 8, 8, 8, 8, 8, 8, 8, 8, 8, 8, 8, 8, 8, 8, 8, 8, 8, 8, 8, 8, 8, 8, 8, 8, 8, 8, 8, 8, 8, 8, 8, 8, 8, 8, 8, 8, 8, 8, 8])) (.t 21), none, .write, 0⟩, ⟨(some 23), .conv .i64 (.t 22), none, .write, 0⟩, ⟨(some 24), .arith .add (.t 19) (.t 23), none, .write, 0⟩, ⟨(some 2), .move (.t 24), none, .write, 0⟩])
 .ret))))) }

theorem c115 : compFunc Try.prog Try.f115 .pure = some t115 := by kernel_rfl

/-- slices.rotateLeft[broadside/api.Advert] -/
def t116 : DFunc := { ntmps := 14, results := [], mode := .full, body :=
 (.seq (.region [⟨(some 4), .move (.t 0), none, .write, 0⟩, ⟨(some 5), .move (.t 1), none, .write, 0⟩, ⟨(some 6), .sliceSl 4 (.t 4) none (some (.t 5)), none, .write, 0⟩, ⟨(some 7), .call (.c (.func 128 [])) [(.t 6)], none, .write, 0⟩])
 (.seq (.region [⟨(some 8), .move (.t 0), none, .write, 0⟩, ⟨(some 9), .move (.t 1), none, .write, 0⟩, ⟨(some 10), .sliceSl 4 (.t 8) (some (.t 9)) none, none, .write, 0⟩, ⟨(some 11), .call (.c (.func 128 [])) [(.t 10)], none, .write, 0⟩])
 (.region [⟨(some 12), .move (.t 0), none, .write, 0⟩, ⟨(some 13), .call (.c (.func 128 [])) [(.t 12)], none, .write, 0⟩]))) }

theorem c116 : compFunc Try.prog Try.f116 .full = some t116 := by kernel_rfl

/-- slices.rotateLeft[broadside/api.ID] -/
def t117 : DFunc := { ntmps := 14, results := [], mode := .full, body :=
 (.seq (.region [⟨(some 4), .move (.t 0), none, .write, 0⟩, ⟨(some 5), .move (.t 1), none, .write, 0⟩, ⟨(some 6), .sliceSl 2 (.t 4) none (some (.t 5)), none, .write, 0⟩, ⟨(some 7), .call (.c (.func 129 [])) [(.t 6)], none, .write, 0⟩])
 (.seq (.region [⟨(some 8), .move (.t 0), none, .write, 0⟩, ⟨(some 9), .move (.t 1), none, .write, 0⟩, ⟨(some 10), .sliceSl 2 (.t 8) (some (.t 9)) none, none, .write, 0⟩, ⟨(some 11), .call (.c (.func 129 [])) [(.t 10)], none, .write, 0⟩])
 (.region [⟨(some 12), .move (.t 0), none, .write, 0⟩, ⟨(some 13), .call (.c (.func 129 [])) [(.t 12)], none, .write, 0⟩]))) }

theorem c117 : compFunc Try.prog Try.f117 .full = some t117 := by kernel_rfl

/-- cmp.isNaN[int] -/
def t118 : DFunc := { ntmps := 6, results := [(.t 2)], mode := .pure, body :=
 (.seq (.region [⟨(some 2), .move (.c (.bool false)), none, .write, 0⟩])
 (.seq (.region [⟨(some 3), .move (.t 0), none, .write, 0⟩, ⟨(some 4), .move (.t 0), none, .write, 0⟩, ⟨(some 5), .arith .neq (.t 3) (.t 4), none, .write, 0⟩, ⟨(some 2), .move (.t 5), none, .write, 0⟩])
 .ret)) }

theorem c118 : compFunc Try.prog Try.f118 .pure = some t118 := by kernel_rfl

def t119l0 : DCode :=
 (.seq (.region [⟨(some 9), .arith .lss (.t 8) (.t 7), none, .write, 0⟩])
 (.seq (.cond (.t 9) .skip (.exit 0))
 (.seq (.block 1 (.seq (.region [⟨(some 10), .move (.t 8), none, .write, 0⟩, ⟨(some 5), .move (.t 10), none, .write, 0⟩])
 (.seq (.region [⟨(some 11), .move (.t 1), none, .write, 0⟩, ⟨(some 12), .move (.t 0), none, .write, 0⟩, ⟨(some 13), .move (.t 5), none, .write, 0⟩, ⟨(some 14), .indexAddr 1 (.t 12) (.t 13), none, .write, 0⟩, ⟨(some 15), .load none (.t 14), none, .write, 0⟩, ⟨(some 16), .arith .eql (.t 11) (.t 15), none, .write, 0⟩])
 (.cond (.t 16) (.seq (.region [⟨(some 17), .move (.t 5), none, .write, 0⟩, ⟨(some 4), .move (.t 17), none, .write, 0⟩])
 .ret) .skip))))
 (.region [⟨(some 18), .arith .add (.t 8) (.c (.int .i64 1)), none, .write, 0⟩, ⟨(some 8), .move (.t 18), none, .write, 0⟩]))))

def t119k0 : DCode :=
 (.seq (.region [⟨(some 4), .move (.c (.int .i64 (-1))), none, .write, 0⟩])
 .ret)

/-- slices.Index[[]int,int] -/
def t119 : DFunc := { ntmps := 19, results := [(.t 4)], mode := .pure, body :=
 (.seq (.region [⟨(some 4), .move (.c (.int .i64 0)), none, .write, 0⟩])
 (.seq (.seq (.region [⟨(some 6), .move (.t 0), none, .write, 0⟩, ⟨(some 7), .len 1 (.t 6), none, .write, 0⟩, ⟨(some 8), .move (.c (.int .i64 0)), none, .write, 0⟩])
 (.block 0 (.loop t119l0)))
 t119k0)) }

theorem c119 : compFunc Try.prog Try.f119 .pure = some t119 := by kernel_rfl

def t120l0 : DCode :=
 (.seq (.region [⟨(some 7), .arith .lss (.t 6) (.t 5), none, .write, 0⟩])
 (.seq (.cond (.t 7) .skip (.exit 0))
 (.seq (.block 1 (.seq (.region [⟨(some 8), .move (.t 6), none, .write, 0⟩, ⟨(some 3), .move (.t 8), none, .write, 0⟩])
 (.seq (.region [⟨(some 9), .move (.t 0), none, .write, 0⟩, ⟨(some 10), .move (.t 3), none, .write, 0⟩, ⟨(some 11), .indexStr (.t 9) (.t 10), none, .write, 0⟩, ⟨(some 12), .arith .lss (.t 11) (.c (.int .u8 97)), none, .write, 0⟩, ⟨(some 13), .move (.t 12), none, .write, 0⟩, ⟨(some 14), .move (.t 0), (some (13, false)), .write, 0⟩, ⟨(some 15), .move (.t 3), (some (13, false)), .write, 0⟩, ⟨(some 16), .indexStr (.t 14) (.t 15), (some (13, false)), .write, 0⟩, ⟨(some 17), .arith .gtr (.t 16) (.c (.int .u8 122)), (some (13, false)), .write, 0⟩, ⟨(some 18), .pick (.t 13) (.c (.bool true)) (.t 17), none, .write, 0⟩])
 (.cond (.t 18) (.seq (.region [⟨(some 2), .move (.c (.bool false)), none, .write, 0⟩])
 .ret) .skip))))
 (.region [⟨(some 19), .arith .add (.t 6) (.c (.int .i64 1)), none, .write, 0⟩, ⟨(some 6), .move (.t 19), none, .write, 0⟩]))))

def t120k0 : DCode :=
 (.seq (.region [⟨(some 20), .move (.t 0), none, .write, 0⟩, ⟨(some 21), .arith .neq (.t 20) (.c (.str [])), none, .write, 0⟩, ⟨(some 22), .move (.t 21), none, .write, 0⟩, ⟨(some 23), .move (.t 0), (some (22, true)), .write, 0⟩, ⟨(some 24), .len 0 (.t 23), (some (22, true)), .write, 0⟩, ⟨(some 25), .arith .leq (.t 24) (.c (.int .i64 12)), (some (22, true)), .write, 0⟩, ⟨(some 26), .pick (.t 22) (.t 25) (.c (.bool false)), none, .write, 0⟩, ⟨(some 2), .move (.t 26), none, .write, 0⟩])
 .ret)

/-- broadside/tuple.Name -/
def t120 : DFunc := { ntmps := 27, results := [(.t 2)], mode := .pure, body :=
 (.seq (.region [⟨(some 2), .move (.c (.bool false)), none, .write, 0⟩])
 (.seq (.seq (.region [⟨(some 4), .move (.t 0), none, .write, 0⟩, ⟨(some 5), .len 0 (.t 4), none, .write, 0⟩, ⟨(some 6), .move (.c (.int .i64 0)), none, .write, 0⟩])
 (.block 0 (.loop t120l0)))
 t120k0)) }

theorem c120 : compFunc Try.prog Try.f120 .pure = some t120 := by kernel_rfl

/-- slices.rotateLeft[broadside/api.Entry] -/
def t121 : DFunc := { ntmps := 14, results := [], mode := .full, body :=
 (.seq (.region [⟨(some 4), .move (.t 0), none, .write, 0⟩, ⟨(some 5), .move (.t 1), none, .write, 0⟩, ⟨(some 6), .sliceSl 7 (.t 4) none (some (.t 5)), none, .write, 0⟩, ⟨(some 7), .call (.c (.func 130 [])) [(.t 6)], none, .write, 0⟩])
 (.seq (.region [⟨(some 8), .move (.t 0), none, .write, 0⟩, ⟨(some 9), .move (.t 1), none, .write, 0⟩, ⟨(some 10), .sliceSl 7 (.t 8) (some (.t 9)) none, none, .write, 0⟩, ⟨(some 11), .call (.c (.func 130 [])) [(.t 10)], none, .write, 0⟩])
 (.region [⟨(some 12), .move (.t 0), none, .write, 0⟩, ⟨(some 13), .call (.c (.func 130 [])) [(.t 12)], none, .write, 0⟩]))) }

theorem c121 : compFunc Try.prog Try.f121 .full = some t121 := by kernel_rfl

def t123l0 : DCode :=
 (.block 1 (.seq (.region [⟨(some 11), .move (.t 8), none, .write, 0⟩, ⟨(some 12), .arith .mul (.c (.int .i64 2)) (.t 11), none, .write, 0⟩, ⟨(some 13), .arith .add (.t 12) (.c (.int .i64 1)), none, .write, 0⟩, ⟨(some 9), .move (.t 13), none, .write, 0⟩])
 (.seq (.seq (.region [⟨(some 14), .move (.t 9), none, .write, 0⟩, ⟨(some 15), .move (.t 2), none, .write, 0⟩, ⟨(some 16), .arith .geq (.t 14) (.t 15), none, .write, 0⟩])
 (.cond (.t 16) (.exit 0) .skip))
 (.seq (.seq (.draw [⟨(some 17), .move (.t 9), none, .read, 0⟩, ⟨(some 18), .arith .add (.t 17) (.c (.int .i64 1)), none, .read, 0⟩, ⟨(some 19), .move (.t 2), none, .read, 0⟩, ⟨(some 20), .arith .lss (.t 18) (.t 19), none, .read, 0⟩, ⟨(some 21), .move (.t 20), none, .read, 0⟩, ⟨(some 22), .move (.t 0), (some (21, true)), .read, 0⟩, ⟨(some 23), .move (.t 3), (some (21, true)), .read, 0⟩, ⟨(some 24), .move (.t 9), (some (21, true)), .read, 0⟩, ⟨(some 25), .arith .add (.t 23) (.t 24), (some (21, true)), .read, 0⟩, ⟨(some 26), .indexAddr 1 (.t 22) (.t 25), (some (21, true)), .read, 0⟩, ⟨(some 27), .load none (.t 26), (some (21, true)), .read, 0⟩, ⟨(some 28), .move (.t 0), (some (21, true)), .read, 0⟩, ⟨(some 29), .move (.t 3), (some (21, true)), .read, 0⟩, ⟨(some 30), .move (.t 9), (some (21, true)), .read, 0⟩, ⟨(some 31), .arith .add (.t 29) (.t 30), (some (21, true)), .read, 0⟩, ⟨(some 32), .arith .add (.t 31) (.c (.int .i64 1)), (some (21, true)), .read, 0⟩, ⟨(some 33), .indexAddr 1 (.t 28) (.t 32), (some (21, true)), .read, 0⟩, ⟨(some 34), .load none (.t 33), (some (21, true)), .read, 0⟩, ⟨(some 35), .call (.c (.func 111 [])) [(.t 27), (.t 34)], (some (21, true)), .write, 0⟩, ⟨(some 36), .pick (.t 21) (.t 35) (.c (.bool false)), none, .read, 1⟩])
 (.cond (.t 36) (.region [⟨(some 37), .move (.t 9), none, .write, 0⟩, ⟨(some 38), .arith .add (.t 37) (.c (.int .i64 1)), none, .write, 0⟩, ⟨(some 9), .move (.t 38), none, .write, 0⟩]) .skip))
 (.seq (.seq (.draw [⟨(some 39), .move (.t 0), none, .read, 0⟩, ⟨(some 40), .move (.t 3), none, .read, 0⟩, ⟨(some 41), .move (.t 8), none, .read, 0⟩, ⟨(some 42), .arith .add (.t 40) (.t 41), none, .read, 0⟩, ⟨(some 43), .indexAddr 1 (.t 39) (.t 42), none, .read, 0⟩, ⟨(some 44), .load none (.t 43), none, .read, 0⟩, ⟨(some 45), .move (.t 0), none, .read, 0⟩, ⟨(some 46), .move (.t 3), none, .read, 0⟩, ⟨(some 47), .move (.t 9), none, .read, 0⟩, ⟨(some 48), .arith .add (.t 46) (.t 47), none, .read, 0⟩, ⟨(some 49), .indexAddr 1 (.t 45) (.t 48), none, .read, 0⟩, ⟨(some 50), .load none (.t 49), none, .read, 0⟩, ⟨(some 51), .call (.c (.func 111 [])) [(.t 44), (.t 50)], none, .write, 0⟩, ⟨(some 52), .un .not (.t 51), none, .read, 1⟩])
 (.cond (.t 52) .ret .skip))
 (.seq (.draw [⟨(some 61), .move (.t 0), none, .read, 0⟩, ⟨(some 62), .move (.t 3), none, .read, 0⟩, ⟨(some 63), .move (.t 9), none, .read, 0⟩, ⟨(some 64), .arith .add (.t 62) (.t 63), none, .read, 0⟩, ⟨(some 65), .indexAddr 1 (.t 61) (.t 64), none, .read, 0⟩, ⟨(some 66), .load none (.t 65), none, .read, 0⟩, ⟨(some 67), .move (.t 0), none, .read, 0⟩, ⟨(some 68), .move (.t 3), none, .read, 0⟩, ⟨(some 69), .move (.t 8), none, .read, 0⟩, ⟨(some 70), .arith .add (.t 68) (.t 69), none, .read, 0⟩, ⟨(some 71), .indexAddr 1 (.t 67) (.t 70), none, .read, 0⟩, ⟨(some 72), .load none (.t 71), none, .read, 0⟩, ⟨(some 53), .move (.t 0), none, .read, 0⟩, ⟨(some 54), .move (.t 3), none, .read, 0⟩, ⟨(some 55), .move (.t 8), none, .read, 0⟩, ⟨(some 56), .arith .add (.t 54) (.t 55), none, .read, 0⟩, ⟨(some 73), .indexAddr 1 (.t 53) (.t 56), none, .read, 0⟩, ⟨none, .store 1 (.t 73) (.t 66), none, .write, 0⟩, ⟨(some 57), .move (.t 0), none, .read, 0⟩, ⟨(some 58), .move (.t 3), none, .read, 0⟩, ⟨(some 59), .move (.t 9), none, .read, 0⟩, ⟨(some 60), .arith .add (.t 58) (.t 59), none, .read, 0⟩, ⟨(some 74), .indexAddr 1 (.t 57) (.t 60), none, .read, 1⟩, ⟨none, .store 1 (.t 74) (.t 72), none, .write, 1⟩])
 (.region [⟨(some 75), .move (.t 9), none, .write, 0⟩, ⟨(some 8), .move (.t 75), none, .write, 0⟩])))))))

/-- slices.siftDownOrdered[int] -/
def t123 : DFunc := { ntmps := 76, results := [], mode := .full, body :=
 (.seq (.region [⟨(some 10), .move (.t 1), none, .write, 0⟩, ⟨(some 8), .move (.t 10), none, .write, 0⟩])
 (.block 0 (.loop t123l0))) }

theorem c123 : compFunc Try.prog Try.f123 .full = some t123 := by kernel_rfl

/-- slices.nextPowerOfTwo -/
def t124 : DFunc := { ntmps := 7, results := [(.t 2)], mode := .pure, body :=
 (.seq (.region [⟨(some 2), .move (.c (.int .u64 0)), none, .write, 0⟩])
 (.seq (.region [⟨(some 3), .move (.t 0), none, .write, 0⟩, ⟨(some 4), .conv .u64 (.t 3), none, .write, 0⟩, ⟨(some 5), .call (.c (.func 79 [])) [(.t 4)], none, .write, 0⟩, ⟨(some 6), .arith .shl (.c (.int .u64 1)) (.t 5), none, .write, 0⟩, ⟨(some 2), .move (.t 6), none, .write, 0⟩])
 .ret)) }

theorem c124 : compFunc Try.prog Try.f124 .pure = some t124 := by kernel_rfl

/-- (*slices.xorshift).Next -/
def t125 : DFunc := { ntmps := 33, results := [(.t 2)], mode := .full, body :=
 (.seq (.region [⟨(some 2), .move (.c (.int .u64 0)), none, .write, 0⟩])
 (.seq (.draw [⟨(some 3), .move (.t 0), none, .read, 0⟩, ⟨(some 4), .nilCheck (.t 3), none, .read, 0⟩, ⟨(some 5), .load none (.t 4), none, .read, 0⟩, ⟨(some 6), .move (.t 0), none, .read, 0⟩, ⟨(some 7), .nilCheck (.t 6), none, .read, 0⟩, ⟨(some 8), .load none (.t 7), none, .read, 0⟩, ⟨(some 9), .arith .shl (.t 8) (.c (.int .u64 13)), none, .read, 0⟩, ⟨(some 10), .arith .xor (.t 5) (.t 9), none, .read, 0⟩, ⟨(some 11), .nilCheck (.t 3), none, .read, 0⟩, ⟨none, .store 1 (.t 11) (.t 10), none, .write, 0⟩])
 (.seq (.draw [⟨(some 12), .move (.t 0), none, .read, 0⟩, ⟨(some 13), .nilCheck (.t 12), none, .read, 0⟩, ⟨(some 14), .load none (.t 13), none, .read, 0⟩, ⟨(some 15), .move (.t 0), none, .read, 0⟩, ⟨(some 16), .nilCheck (.t 15), none, .read, 0⟩, ⟨(some 17), .load none (.t 16), none, .read, 0⟩, ⟨(some 18), .arith .shr (.t 17) (.c (.int .u64 7)), none, .read, 0⟩, ⟨(some 19), .arith .xor (.t 14) (.t 18), none, .read, 0⟩, ⟨(some 20), .nilCheck (.t 12), none, .read, 0⟩, ⟨none, .store 1 (.t 20) (.t 19), none, .write, 0⟩])
 (.seq (.draw [⟨(some 21), .move (.t 0), none, .read, 0⟩, ⟨(some 22), .nilCheck (.t 21), none, .read, 0⟩, ⟨(some 23), .load none (.t 22), none, .read, 0⟩, ⟨(some 24), .move (.t 0), none, .read, 0⟩, ⟨(some 25), .nilCheck (.t 24), none, .read, 0⟩, ⟨(some 26), .load none (.t 25), none, .read, 0⟩, ⟨(some 27), .arith .shl (.t 26) (.c (.int .u64 17)), none, .read, 0⟩, ⟨(some 28), .arith .xor (.t 23) (.t 27), none, .read, 0⟩, ⟨(some 29), .nilCheck (.t 21), none, .read, 0⟩, ⟨none, .store 1 (.t 29) (.t 28), none, .write, 0⟩])
 (.seq (.region [⟨(some 30), .move (.t 0), none, .write, 0⟩, ⟨(some 31), .nilCheck (.t 30), none, .write, 0⟩, ⟨(some 32), .load none (.t 31), none, .write, 0⟩, ⟨(some 2), .move (.t 32), none, .write, 0⟩])
 .ret))))) }

theorem c125 : compFunc Try.prog Try.f125 .full = some t125 := by kernel_rfl

/-- slices.medianAdjacentOrdered[int] -/
def t126 : DFunc := { ntmps := 15, results := [(.t 6)], mode := .full, body :=
 (.seq (.region [⟨(some 6), .move (.c (.int .i64 0)), none, .write, 0⟩])
 (.seq (.region [⟨(some 7), .move (.t 0), none, .write, 0⟩, ⟨(some 8), .move (.t 1), none, .write, 0⟩, ⟨(some 9), .arith .sub (.t 8) (.c (.int .i64 1)), none, .write, 0⟩, ⟨(some 10), .move (.t 1), none, .write, 0⟩, ⟨(some 11), .move (.t 1), none, .write, 0⟩, ⟨(some 12), .arith .add (.t 11) (.c (.int .i64 1)), none, .write, 0⟩, ⟨(some 13), .move (.t 2), none, .write, 0⟩, ⟨(some 14), .call (.c (.func 127 [])) [(.t 7), (.t 9), (.t 10), (.t 12), (.t 13)], none, .write, 0⟩, ⟨(some 6), .move (.t 14), none, .write, 0⟩])
 .ret)) }

theorem c126 : compFunc Try.prog Try.f126 .full = some t126 := by kernel_rfl

/-- slices.medianOrdered[int] -/
def t127 : DFunc := { ntmps := 36, results := [(.t 10)], mode := .full, body :=
 (.seq (.region [⟨(some 10), .move (.c (.int .i64 0)), none, .write, 0⟩])
 (.seq (.region [⟨(some 12), .move (.t 0), none, .write, 0⟩, ⟨(some 13), .move (.t 1), none, .write, 0⟩, ⟨(some 14), .move (.t 2), none, .write, 0⟩, ⟨(some 15), .move (.t 4), none, .write, 0⟩, ⟨(some 16), .call (.c (.func 131 [])) [(.t 12), (.t 13), (.t 14), (.t 15)], none, .write, 0⟩, ⟨(some 11), .move (.t 16), none, .write, 0⟩, ⟨(some 17), .extract (.t 11) 0, none, .write, 0⟩, ⟨(some 18), .extract (.t 11) 1, none, .write, 0⟩, ⟨(some 1), .move (.t 17), none, .write, 0⟩, ⟨(some 2), .move (.t 18), none, .write, 0⟩])
 (.seq (.region [⟨(some 20), .move (.t 0), none, .write, 0⟩, ⟨(some 21), .move (.t 2), none, .write, 0⟩, ⟨(some 22), .move (.t 3), none, .write, 0⟩, ⟨(some 23), .move (.t 4), none, .write, 0⟩, ⟨(some 24), .call (.c (.func 131 [])) [(.t 20), (.t 21), (.t 22), (.t 23)], none, .write, 0⟩, ⟨(some 19), .move (.t 24), none, .write, 0⟩, ⟨(some 25), .extract (.t 19) 0, none, .write, 0⟩, ⟨(some 26), .extract (.t 19) 1, none, .write, 0⟩, ⟨(some 2), .move (.t 25), none, .write, 0⟩, ⟨(some 3), .move (.t 26), none, .write, 0⟩])
 (.seq (.region [⟨(some 28), .move (.t 0), none, .write, 0⟩, ⟨(some 29), .move (.t 1), none, .write, 0⟩, ⟨(some 30), .move (.t 2), none, .write, 0⟩, ⟨(some 31), .move (.t 4), none, .write, 0⟩, ⟨(some 32), .call (.c (.func 131 [])) [(.t 28), (.t 29), (.t 30), (.t 31)], none, .write, 0⟩, ⟨(some 27), .move (.t 32), none, .write, 0⟩, ⟨(some 33), .extract (.t 27) 0, none, .write, 0⟩, ⟨(some 34), .extract (.t 27) 1, none, .write, 0⟩, ⟨(some 1), .move (.t 33), none, .write, 0⟩, ⟨(some 2), .move (.t 34), none, .write, 0⟩])
 (.seq (.region [⟨(some 35), .move (.t 2), none, .write, 0⟩, ⟨(some 10), .move (.t 35), none, .write, 0⟩])
 .ret))))) }

theorem c127 : compFunc Try.prog Try.f127 .full = some t127 := by kernel_rfl

def t128l0 : DCode :=
 (.seq (.seq (.region [⟨(some 7), .move (.t 2), none, .write, 0⟩, ⟨(some 8), .move (.t 3), none, .write, 0⟩, ⟨(some 9), .arith .lss (.t 7) (.t 8), none, .write, 0⟩])
 (.cond (.t 9) .skip (.exit 0)))
 (.seq (.block 1 (.draw [⟨(some 18), .move (.t 0), none, .read, 0⟩, ⟨(some 19), .move (.t 3), none, .read, 0⟩, ⟨(some 20), .indexAddr 4 (.t 18) (.t 19), none, .read, 0⟩, ⟨(some 21), .load (some 4) (.t 20), none, .read, 0⟩, ⟨(some 22), .move (.t 0), none, .read, 0⟩, ⟨(some 23), .move (.t 2), none, .read, 0⟩, ⟨(some 24), .indexAddr 4 (.t 22) (.t 23), none, .read, 0⟩, ⟨(some 25), .load (some 4) (.t 24), none, .read, 0⟩, ⟨(some 14), .move (.t 0), none, .read, 0⟩, ⟨(some 15), .move (.t 2), none, .read, 0⟩, ⟨(some 26), .indexAddr 4 (.t 14) (.t 15), none, .read, 0⟩, ⟨none, .store 4 (.t 26) (.t 21), none, .write, 0⟩, ⟨(some 16), .move (.t 0), none, .read, 0⟩, ⟨(some 17), .move (.t 3), none, .read, 0⟩, ⟨(some 27), .indexAddr 4 (.t 16) (.t 17), none, .read, 1⟩, ⟨none, .store 4 (.t 27) (.t 25), none, .write, 1⟩]))
 (.region [⟨(some 10), .move (.t 2), none, .write, 0⟩, ⟨(some 11), .arith .add (.t 10) (.c (.int .i64 1)), none, .write, 0⟩, ⟨(some 12), .move (.t 3), none, .write, 0⟩, ⟨(some 13), .arith .sub (.t 12) (.c (.int .i64 1)), none, .write, 0⟩, ⟨(some 2), .move (.t 11), none, .write, 0⟩, ⟨(some 3), .move (.t 13), none, .write, 0⟩])))

/-- slices.Reverse[[]broadside/api.Advert,broadside/api.Advert] -/
def t128 : DFunc := { ntmps := 28, results := [], mode := .full, body :=
 (.seq (.region [⟨(some 4), .move (.t 0), none, .write, 0⟩, ⟨(some 5), .len 1 (.t 4), none, .write, 0⟩, ⟨(some 6), .arith .sub (.t 5) (.c (.int .i64 1)), none, .write, 0⟩, ⟨(some 2), .move (.c (.int .i64 0)), none, .write, 0⟩, ⟨(some 3), .move (.t 6), none, .write, 0⟩])
 (.block 0 (.loop t128l0))) }

theorem c128 : compFunc Try.prog Try.f128 .full = some t128 := by kernel_rfl

def t129l0 : DCode :=
 (.seq (.seq (.region [⟨(some 7), .move (.t 2), none, .write, 0⟩, ⟨(some 8), .move (.t 3), none, .write, 0⟩, ⟨(some 9), .arith .lss (.t 7) (.t 8), none, .write, 0⟩])
 (.cond (.t 9) .skip (.exit 0)))
 (.seq (.block 1 (.draw [⟨(some 18), .move (.t 0), none, .read, 0⟩, ⟨(some 19), .move (.t 3), none, .read, 0⟩, ⟨(some 20), .indexAddr 2 (.t 18) (.t 19), none, .read, 0⟩, ⟨(some 21), .load (some 2) (.t 20), none, .read, 0⟩, ⟨(some 22), .move (.t 0), none, .read, 0⟩, ⟨(some 23), .move (.t 2), none, .read, 0⟩, ⟨(some 24), .indexAddr 2 (.t 22) (.t 23), none, .read, 0⟩, ⟨(some 25), .load (some 2) (.t 24), none, .read, 0⟩, ⟨(some 14), .move (.t 0), none, .read, 0⟩, ⟨(some 15), .move (.t 2), none, .read, 0⟩, ⟨(some 26), .indexAddr 2 (.t 14) (.t 15), none, .read, 0⟩, ⟨none, .store 2 (.t 26) (.t 21), none, .write, 0⟩, ⟨(some 16), .move (.t 0), none, .read, 0⟩, ⟨(some 17), .move (.t 3), none, .read, 0⟩, ⟨(some 27), .indexAddr 2 (.t 16) (.t 17), none, .read, 1⟩, ⟨none, .store 2 (.t 27) (.t 25), none, .write, 1⟩]))
 (.region [⟨(some 10), .move (.t 2), none, .write, 0⟩, ⟨(some 11), .arith .add (.t 10) (.c (.int .i64 1)), none, .write, 0⟩, ⟨(some 12), .move (.t 3), none, .write, 0⟩, ⟨(some 13), .arith .sub (.t 12) (.c (.int .i64 1)), none, .write, 0⟩, ⟨(some 2), .move (.t 11), none, .write, 0⟩, ⟨(some 3), .move (.t 13), none, .write, 0⟩])))

/-- slices.Reverse[[]broadside/api.ID,broadside/api.ID] -/
def t129 : DFunc := { ntmps := 28, results := [], mode := .full, body :=
 (.seq (.region [⟨(some 4), .move (.t 0), none, .write, 0⟩, ⟨(some 5), .len 1 (.t 4), none, .write, 0⟩, ⟨(some 6), .arith .sub (.t 5) (.c (.int .i64 1)), none, .write, 0⟩, ⟨(some 2), .move (.c (.int .i64 0)), none, .write, 0⟩, ⟨(some 3), .move (.t 6), none, .write, 0⟩])
 (.block 0 (.loop t129l0))) }

theorem c129 : compFunc Try.prog Try.f129 .full = some t129 := by kernel_rfl

def t130l0 : DCode :=
 (.seq (.seq (.region [⟨(some 7), .move (.t 2), none, .write, 0⟩, ⟨(some 8), .move (.t 3), none, .write, 0⟩, ⟨(some 9), .arith .lss (.t 7) (.t 8), none, .write, 0⟩])
 (.cond (.t 9) .skip (.exit 0)))
 (.seq (.block 1 (.draw [⟨(some 18), .move (.t 0), none, .read, 0⟩, ⟨(some 19), .move (.t 3), none, .read, 0⟩, ⟨(some 20), .indexAddr 7 (.t 18) (.t 19), none, .read, 0⟩, ⟨(some 21), .load (some 7) (.t 20), none, .read, 0⟩, ⟨(some 22), .move (.t 0), none, .read, 0⟩, ⟨(some 23), .move (.t 2), none, .read, 0⟩, ⟨(some 24), .indexAddr 7 (.t 22) (.t 23), none, .read, 0⟩, ⟨(some 25), .load (some 7) (.t 24), none, .read, 0⟩, ⟨(some 14), .move (.t 0), none, .read, 0⟩, ⟨(some 15), .move (.t 2), none, .read, 0⟩, ⟨(some 26), .indexAddr 7 (.t 14) (.t 15), none, .read, 0⟩, ⟨none, .store 7 (.t 26) (.t 21), none, .write, 0⟩, ⟨(some 16), .move (.t 0), none, .read, 0⟩, ⟨(some 17), .move (.t 3), none, .read, 0⟩, ⟨(some 27), .indexAddr 7 (.t 16) (.t 17), none, .read, 1⟩, ⟨none, .store 7 (.t 27) (.t 25), none, .write, 1⟩]))
 (.region [⟨(some 10), .move (.t 2), none, .write, 0⟩, ⟨(some 11), .arith .add (.t 10) (.c (.int .i64 1)), none, .write, 0⟩, ⟨(some 12), .move (.t 3), none, .write, 0⟩, ⟨(some 13), .arith .sub (.t 12) (.c (.int .i64 1)), none, .write, 0⟩, ⟨(some 2), .move (.t 11), none, .write, 0⟩, ⟨(some 3), .move (.t 13), none, .write, 0⟩])))

/-- slices.Reverse[[]broadside/api.Entry,broadside/api.Entry] -/
def t130 : DFunc := { ntmps := 28, results := [], mode := .full, body :=
 (.seq (.region [⟨(some 4), .move (.t 0), none, .write, 0⟩, ⟨(some 5), .len 1 (.t 4), none, .write, 0⟩, ⟨(some 6), .arith .sub (.t 5) (.c (.int .i64 1)), none, .write, 0⟩, ⟨(some 2), .move (.c (.int .i64 0)), none, .write, 0⟩, ⟨(some 3), .move (.t 6), none, .write, 0⟩])
 (.block 0 (.loop t130l0))) }

theorem c130 : compFunc Try.prog Try.f130 .full = some t130 := by kernel_rfl

/-- slices.order2Ordered[int] -/
def t131 : DFunc := { ntmps := 28, results := [(.t 8), (.t 9)], mode := .pure, body :=
 (.seq (.region [⟨(some 8), .move (.c (.int .i64 0)), none, .write, 0⟩, ⟨(some 9), .move (.c (.int .i64 0)), none, .write, 0⟩])
 (.seq (.seq (.draw [⟨(some 10), .move (.t 0), none, .read, 0⟩, ⟨(some 11), .move (.t 2), none, .read, 0⟩, ⟨(some 12), .indexAddr 1 (.t 10) (.t 11), none, .read, 0⟩, ⟨(some 13), .load none (.t 12), none, .read, 0⟩, ⟨(some 14), .move (.t 0), none, .read, 0⟩, ⟨(some 15), .move (.t 1), none, .read, 0⟩, ⟨(some 16), .indexAddr 1 (.t 14) (.t 15), none, .read, 0⟩, ⟨(some 17), .load none (.t 16), none, .read, 0⟩, ⟨(some 18), .call (.c (.func 111 [])) [(.t 13), (.t 17)], none, .write, 0⟩])
 (.cond (.t 18) (.seq (.region [⟨(some 19), .move (.t 3), none, .write, 0⟩, ⟨(some 20), .nilCheck (.t 19), none, .write, 0⟩, ⟨(some 21), .load none (.t 20), none, .write, 0⟩, ⟨(some 22), .arith .add (.t 21) (.c (.int .i64 1)), none, .write, 0⟩, ⟨(some 23), .nilCheck (.t 19), none, .write, 0⟩, ⟨none, .store 1 (.t 23) (.t 22), none, .write, 0⟩])
 (.seq (.region [⟨(some 24), .move (.t 2), none, .write, 0⟩, ⟨(some 25), .move (.t 1), none, .write, 0⟩, ⟨(some 8), .move (.t 24), none, .write, 0⟩, ⟨(some 9), .move (.t 25), none, .write, 0⟩])
 .ret)) .skip))
 (.seq (.region [⟨(some 26), .move (.t 1), none, .write, 0⟩, ⟨(some 27), .move (.t 2), none, .write, 0⟩, ⟨(some 8), .move (.t 26), none, .write, 0⟩, ⟨(some 9), .move (.t 27), none, .write, 0⟩])
 .ret))) }

theorem c131 : compFunc Try.prog Try.f131 .pure = some t131 := by kernel_rfl

end Go.Dm.Tc
