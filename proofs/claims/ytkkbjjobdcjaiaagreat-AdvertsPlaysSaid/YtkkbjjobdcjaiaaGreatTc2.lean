/-
The table of functions, brought into the machine's form (Tc, part 2). Written by program (wip/tools/table.lean.txt).
-/
import Derived.Test.YtkkbjjobdcjaiaaGreatMm3
import Derived.Test.YtkkbjjobdcjaiaaGreatRows
import Derived.KernelRfl
namespace Go.Dm.Tc
open Go.Proofs

def t139l0 : DCode :=
 (.seq (.seq (.region [⟨(some 15), .move (.t 9), none, .write, 0⟩, ⟨(some 16), .move (.t 10), none, .write, 0⟩, ⟨(some 17), .arith .lss (.t 15) (.t 16), none, .write, 0⟩])
 (.cond (.t 17) .skip (.exit 0)))
 (.block 1 (.seq (.region [⟨(some 18), .move (.t 9), none, .write, 0⟩, ⟨(some 19), .move (.t 10), none, .write, 0⟩, ⟨(some 20), .arith .add (.t 18) (.t 19), none, .write, 0⟩, ⟨(some 21), .conv .u64 (.t 20), none, .write, 0⟩, ⟨(some 22), .arith .shr (.t 21) (.c (.int .u64 1)), none, .write, 0⟩, ⟨(some 23), .conv .i64 (.t 22), none, .write, 0⟩, ⟨(some 11), .move (.t 23), none, .write, 0⟩])
 (.seq (.draw [⟨(some 25), .move (.t 0), none, .read, 0⟩, ⟨(some 26), .move (.t 11), none, .read, 0⟩, ⟨(some 27), .indexAddr 2 (.t 25) (.t 26), none, .read, 0⟩, ⟨(some 28), .load (some 2) (.t 27), none, .read, 0⟩, ⟨(some 29), .load (some 2) (.t 4), none, .read, 0⟩, ⟨(some 24), .move (.t 2), none, .read, 0⟩, ⟨(some 30), .call (.t 24) [(.t 28), (.t 29)], none, .write, 0⟩, ⟨(some 31), .arith .lss (.t 30) (.c (.int .i64 0)), none, .read, 1⟩])
 (.cond (.t 31) (.region [⟨(some 32), .move (.t 11), none, .write, 0⟩, ⟨(some 33), .arith .add (.t 32) (.c (.int .i64 1)), none, .write, 0⟩, ⟨(some 9), .move (.t 33), none, .write, 0⟩]) (.region [⟨(some 34), .move (.t 11), none, .write, 0⟩, ⟨(some 10), .move (.t 34), none, .write, 0⟩]))))))

def t139k0 : DCode :=
 (.seq (.draw [⟨(some 36), .move (.t 9), none, .read, 0⟩, ⟨(some 37), .move (.t 8), none, .read, 0⟩, ⟨(some 38), .arith .lss (.t 36) (.t 37), none, .read, 0⟩, ⟨(some 39), .move (.t 38), none, .read, 0⟩, ⟨(some 41), .move (.t 0), (some (39, true)), .read, 0⟩, ⟨(some 42), .move (.t 9), (some (39, true)), .read, 0⟩, ⟨(some 43), .indexAddr 2 (.t 41) (.t 42), (some (39, true)), .read, 0⟩, ⟨(some 44), .load (some 2) (.t 43), (some (39, true)), .read, 0⟩, ⟨(some 45), .load (some 2) (.t 4), (some (39, true)), .read, 0⟩, ⟨(some 40), .move (.t 2), (some (39, true)), .read, 0⟩, ⟨(some 46), .call (.t 40) [(.t 44), (.t 45)], (some (39, true)), .write, 0⟩, ⟨(some 35), .move (.t 9), none, .read, 0⟩, ⟨(some 47), .arith .eql (.t 46) (.c (.int .i64 0)), (some (39, true)), .read, 1⟩, ⟨(some 48), .pick (.t 39) (.t 47) (.c (.bool false)), none, .read, 1⟩, ⟨(some 6), .move (.t 35), none, .read, 1⟩, ⟨(some 7), .move (.t 48), none, .read, 1⟩])
 .ret)

/-- slices.BinarySearchFunc[[]broadside/api.ID,broadside/api.ID,broadside/api.ID] -/
def t139 : DFunc := { ntmps := 49, results := [(.t 6), (.t 7)], mode := .pure, body :=
 (.seq (.region [⟨(some 4), .box 37 2 (.t 1), none, .write, 0⟩, ⟨(some 6), .move (.c (.int .i64 0)), none, .write, 0⟩, ⟨(some 7), .move (.c (.bool false)), none, .write, 0⟩])
 (.seq (.region [⟨(some 12), .move (.t 0), none, .write, 0⟩, ⟨(some 13), .len 1 (.t 12), none, .write, 0⟩, ⟨(some 8), .move (.t 13), none, .write, 0⟩])
 (.seq (.region [⟨(some 14), .move (.t 8), none, .write, 0⟩, ⟨(some 9), .move (.c (.int .i64 0)), none, .write, 0⟩, ⟨(some 10), .move (.t 14), none, .write, 0⟩])
 (.seq (.block 0 (.loop t139l0))
 t139k0)))) }

theorem c139 : compFunc Tryz.prog Tryz.f139 .pure = some t139 := by kernel_rfl

def t140l0 : DCode :=
 (.seq (.seq (.region [⟨(some 15), .move (.t 9), none, .write, 0⟩, ⟨(some 16), .move (.t 10), none, .write, 0⟩, ⟨(some 17), .arith .lss (.t 15) (.t 16), none, .write, 0⟩])
 (.cond (.t 17) .skip (.exit 0)))
 (.block 1 (.seq (.region [⟨(some 18), .move (.t 9), none, .write, 0⟩, ⟨(some 19), .move (.t 10), none, .write, 0⟩, ⟨(some 20), .arith .add (.t 18) (.t 19), none, .write, 0⟩, ⟨(some 21), .conv .u64 (.t 20), none, .write, 0⟩, ⟨(some 22), .arith .shr (.t 21) (.c (.int .u64 1)), none, .write, 0⟩, ⟨(some 23), .conv .i64 (.t 22), none, .write, 0⟩, ⟨(some 11), .move (.t 23), none, .write, 0⟩])
 (.seq (.draw [⟨(some 25), .move (.t 0), none, .read, 0⟩, ⟨(some 26), .move (.t 11), none, .read, 0⟩, ⟨(some 27), .indexAddr 4 (.t 25) (.t 26), none, .read, 0⟩, ⟨(some 28), .load (some 4) (.t 27), none, .read, 0⟩, ⟨(some 29), .load (some 2) (.t 4), none, .read, 0⟩, ⟨(some 24), .move (.t 2), none, .read, 0⟩, ⟨(some 30), .call (.t 24) [(.t 28), (.t 29)], none, .write, 0⟩, ⟨(some 31), .arith .lss (.t 30) (.c (.int .i64 0)), none, .read, 1⟩])
 (.cond (.t 31) (.region [⟨(some 32), .move (.t 11), none, .write, 0⟩, ⟨(some 33), .arith .add (.t 32) (.c (.int .i64 1)), none, .write, 0⟩, ⟨(some 9), .move (.t 33), none, .write, 0⟩]) (.region [⟨(some 34), .move (.t 11), none, .write, 0⟩, ⟨(some 10), .move (.t 34), none, .write, 0⟩]))))))

def t140k0 : DCode :=
 (.seq (.draw [⟨(some 36), .move (.t 9), none, .read, 0⟩, ⟨(some 37), .move (.t 8), none, .read, 0⟩, ⟨(some 38), .arith .lss (.t 36) (.t 37), none, .read, 0⟩, ⟨(some 39), .move (.t 38), none, .read, 0⟩, ⟨(some 41), .move (.t 0), (some (39, true)), .read, 0⟩, ⟨(some 42), .move (.t 9), (some (39, true)), .read, 0⟩, ⟨(some 43), .indexAddr 4 (.t 41) (.t 42), (some (39, true)), .read, 0⟩, ⟨(some 44), .load (some 4) (.t 43), (some (39, true)), .read, 0⟩, ⟨(some 45), .load (some 2) (.t 4), (some (39, true)), .read, 0⟩, ⟨(some 40), .move (.t 2), (some (39, true)), .read, 0⟩, ⟨(some 46), .call (.t 40) [(.t 44), (.t 45)], (some (39, true)), .write, 0⟩, ⟨(some 35), .move (.t 9), none, .read, 0⟩, ⟨(some 47), .arith .eql (.t 46) (.c (.int .i64 0)), (some (39, true)), .read, 1⟩, ⟨(some 48), .pick (.t 39) (.t 47) (.c (.bool false)), none, .read, 1⟩, ⟨(some 6), .move (.t 35), none, .read, 1⟩, ⟨(some 7), .move (.t 48), none, .read, 1⟩])
 .ret)

/-- slices.BinarySearchFunc[[]broadside/api.Advert,broadside/api.Advert,broadside/api.ID] -/
def t140 : DFunc := { ntmps := 49, results := [(.t 6), (.t 7)], mode := .pure, body :=
 (.seq (.region [⟨(some 4), .box 37 2 (.t 1), none, .write, 0⟩, ⟨(some 6), .move (.c (.int .i64 0)), none, .write, 0⟩, ⟨(some 7), .move (.c (.bool false)), none, .write, 0⟩])
 (.seq (.region [⟨(some 12), .move (.t 0), none, .write, 0⟩, ⟨(some 13), .len 1 (.t 12), none, .write, 0⟩, ⟨(some 8), .move (.t 13), none, .write, 0⟩])
 (.seq (.region [⟨(some 14), .move (.t 8), none, .write, 0⟩, ⟨(some 9), .move (.c (.int .i64 0)), none, .write, 0⟩, ⟨(some 10), .move (.t 14), none, .write, 0⟩])
 (.seq (.block 0 (.loop t140l0))
 t140k0)))) }

theorem c140 : compFunc Tryz.prog Tryz.f140 .pure = some t140 := by kernel_rfl

/-- broadside/adverts.place$1 -/
def t141 : DFunc := { ntmps := 9, results := [(.t 4)], mode := .pure, body :=
 (.seq (.region [⟨(some 2), .box 42 4 (.t 0), none, .write, 0⟩, ⟨(some 3), .box 37 2 (.t 1), none, .write, 0⟩, ⟨(some 4), .move (.c (.int .i64 0)), none, .write, 0⟩])
 (.seq (.region [⟨(some 5), .fieldAddr 0 (.t 2), none, .write, 0⟩, ⟨(some 6), .load (some 2) (.t 5), none, .write, 0⟩, ⟨(some 7), .load (some 2) (.t 3), none, .write, 0⟩, ⟨(some 8), .call (.c (.func 101 [])) [(.t 6), (.t 7)], none, .write, 0⟩, ⟨(some 4), .move (.t 8), none, .write, 0⟩])
 .ret)) }

theorem c141 : compFunc Tryz.prog Tryz.f141 .pure = some t141 := by kernel_rfl

/-- slices.rotateRight[broadside/api.Advert] -/
def t143 : DFunc := { ntmps := 10, results := [], mode := .full, body :=
 (.region [⟨(some 4), .move (.t 0), none, .write, 0⟩, ⟨(some 5), .move (.t 0), none, .write, 0⟩, ⟨(some 6), .len 1 (.t 5), none, .write, 0⟩, ⟨(some 7), .move (.t 1), none, .write, 0⟩, ⟨(some 8), .arith .sub (.t 6) (.t 7), none, .write, 0⟩, ⟨(some 9), .call (.c (.func 181 [])) [(.t 4), (.t 8)], none, .write, 0⟩]) }

theorem c143 : compFunc Tryz.prog Tryz.f143 .full = some t143 := by kernel_rfl

/-- slices.rotateRight[broadside/api.ID] -/
def t145 : DFunc := { ntmps := 10, results := [], mode := .full, body :=
 (.region [⟨(some 4), .move (.t 0), none, .write, 0⟩, ⟨(some 5), .move (.t 0), none, .write, 0⟩, ⟨(some 6), .len 1 (.t 5), none, .write, 0⟩, ⟨(some 7), .move (.t 1), none, .write, 0⟩, ⟨(some 8), .arith .sub (.t 6) (.t 7), none, .write, 0⟩, ⟨(some 9), .call (.c (.func 182 [])) [(.t 4), (.t 8)], none, .write, 0⟩]) }

theorem c145 : compFunc Tryz.prog Tryz.f145 .full = some t145 := by kernel_rfl

def t146l0 : DCode :=
 (.seq (.region [⟨(some 9), .arith .lss (.t 8) (.t 7), none, .write, 0⟩])
 (.seq (.cond (.t 9) .skip (.exit 0))
 (.seq (.block 1 (.seq (.region [⟨(some 10), .move (.t 8), none, .write, 0⟩, ⟨(some 5), .move (.t 10), none, .write, 0⟩])
 (.seq (.region [⟨(some 11), .move (.t 1), none, .write, 0⟩, ⟨(some 12), .move (.t 0), none, .write, 0⟩, ⟨(some 13), .move (.t 5), none, .write, 0⟩, ⟨(some 14), .indexAddr 7 (.t 12) (.t 13), none, .write, 0⟩, ⟨(some 15), .load (some 7) (.t 14), none, .write, 0⟩, ⟨(some 16), .call (.t 11) [(.t 15)], none, .write, 0⟩])
 (.cond (.t 16) (.seq (.region [⟨(some 17), .move (.t 5), none, .write, 0⟩, ⟨(some 4), .move (.t 17), none, .write, 0⟩])
 .ret) .skip))))
 (.region [⟨(some 18), .arith .add (.t 8) (.c (.int .i64 1)), none, .write, 0⟩, ⟨(some 8), .move (.t 18), none, .write, 0⟩]))))

def t146k0 : DCode :=
 (.seq (.region [⟨(some 4), .move (.c (.int .i64 (-1))), none, .write, 0⟩])
 .ret)

/-- slices.IndexFunc[[]broadside/api.Entry,broadside/api.Entry] -/
def t146 : DFunc := { ntmps := 19, results := [(.t 4)], mode := .pure, body :=
 (.seq (.region [⟨(some 4), .move (.c (.int .i64 0)), none, .write, 0⟩])
 (.seq (.seq (.region [⟨(some 6), .move (.t 0), none, .write, 0⟩, ⟨(some 7), .len 1 (.t 6), none, .write, 0⟩, ⟨(some 8), .move (.c (.int .i64 0)), none, .write, 0⟩])
 (.block 0 (.loop t146l0)))
 t146k0)) }

theorem c146 : compFunc Tryz.prog Tryz.f146 .pure = some t146 := by kernel_rfl

def t147l0 : DCode :=
 (.seq (.region [⟨(some 14), .arith .lss (.t 13) (.t 12), none, .write, 0⟩])
 (.seq (.cond (.t 14) .skip (.exit 0))
 (.seq (.block 1 (.seq (.region [⟨(some 15), .move (.t 13), none, .write, 0⟩, ⟨(some 5), .move (.t 15), none, .write, 0⟩])
 (.seq (.draw [⟨(some 16), .move (.t 0), none, .read, 0⟩, ⟨(some 17), .move (.t 5), none, .read, 0⟩, ⟨(some 18), .indexAddr 5 (.t 16) (.t 17), none, .read, 0⟩, ⟨(some 19), .load (some 5) (.t 18), none, .read, 0⟩, ⟨(some 20), .move (.t 1), none, .read, 0⟩, ⟨(some 21), .move (.t 5), none, .read, 0⟩, ⟨(some 22), .indexAddr 5 (.t 20) (.t 21), none, .read, 0⟩, ⟨(some 23), .load (some 5) (.t 22), none, .read, 0⟩, ⟨(some 24), .eqa true [2, 1, 1, 1, 2] (.t 19) (.t 23), none, .read, 0⟩])
 (.cond (.t 24) (.seq (.region [⟨(some 4), .move (.c (.bool false)), none, .write, 0⟩])
 .ret) .skip))))
 (.region [⟨(some 25), .arith .add (.t 13) (.c (.int .i64 1)), none, .write, 0⟩, ⟨(some 13), .move (.t 25), none, .write, 0⟩]))))

def t147k0 : DCode :=
 (.seq (.region [⟨(some 4), .move (.c (.bool true)), none, .write, 0⟩])
 .ret)

/-- slices.Equal[[]broadside/api.Constraint,broadside/api.Constraint] -/
def t147 : DFunc := { ntmps := 26, results := [(.t 4)], mode := .pure, body :=
 (.seq (.region [⟨(some 4), .move (.c (.bool false)), none, .write, 0⟩])
 (.seq (.seq (.region [⟨(some 6), .move (.t 0), none, .write, 0⟩, ⟨(some 7), .len 1 (.t 6), none, .write, 0⟩, ⟨(some 8), .move (.t 1), none, .write, 0⟩, ⟨(some 9), .len 1 (.t 8), none, .write, 0⟩, ⟨(some 10), .arith .neq (.t 7) (.t 9), none, .write, 0⟩])
 (.cond (.t 10) (.seq (.region [⟨(some 4), .move (.c (.bool false)), none, .write, 0⟩])
 .ret) .skip))
 (.seq (.seq (.region [⟨(some 11), .move (.t 0), none, .write, 0⟩, ⟨(some 12), .len 1 (.t 11), none, .write, 0⟩, ⟨(some 13), .move (.c (.int .i64 0)), none, .write, 0⟩])
 (.block 0 (.loop t147l0)))
 t147k0))) }

theorem c147 : compFunc Tryz.prog Tryz.f147 .pure = some t147 := by kernel_rfl

/-- cmp.Compare[int] -/
def t148 : DFunc := { ntmps := 20, results := [(.t 4)], mode := .pure, body :=
 (.seq (.region [⟨(some 4), .move (.c (.int .i64 0)), none, .write, 0⟩])
 (.seq (.region [⟨(some 7), .move (.t 0), none, .write, 0⟩, ⟨(some 8), .call (.c (.func 183 [])) [(.t 7)], none, .write, 0⟩, ⟨(some 5), .move (.t 8), none, .write, 0⟩])
 (.seq (.region [⟨(some 9), .move (.t 1), none, .write, 0⟩, ⟨(some 10), .call (.c (.func 183 [])) [(.t 9)], none, .write, 0⟩, ⟨(some 6), .move (.t 10), none, .write, 0⟩])
 (.seq (.seq (.region [⟨(some 11), .move (.t 5), none, .write, 0⟩])
 (.cond (.t 11) (.seq (.seq (.region [⟨(some 12), .move (.t 6), none, .write, 0⟩])
 (.cond (.t 12) (.seq (.region [⟨(some 4), .move (.c (.int .i64 0)), none, .write, 0⟩])
 .ret) .skip))
 (.seq (.region [⟨(some 4), .move (.c (.int .i64 (-1))), none, .write, 0⟩])
 .ret)) .skip))
 (.seq (.seq (.region [⟨(some 13), .move (.t 6), none, .write, 0⟩])
 (.cond (.t 13) (.seq (.region [⟨(some 4), .move (.c (.int .i64 1)), none, .write, 0⟩])
 .ret) .skip))
 (.seq (.seq (.region [⟨(some 14), .move (.t 0), none, .write, 0⟩, ⟨(some 15), .move (.t 1), none, .write, 0⟩, ⟨(some 16), .arith .lss (.t 14) (.t 15), none, .write, 0⟩])
 (.cond (.t 16) (.seq (.region [⟨(some 4), .move (.c (.int .i64 (-1))), none, .write, 0⟩])
 .ret) .skip))
 (.seq (.seq (.region [⟨(some 17), .move (.t 0), none, .write, 0⟩, ⟨(some 18), .move (.t 1), none, .write, 0⟩, ⟨(some 19), .arith .gtr (.t 17) (.t 18), none, .write, 0⟩])
 (.cond (.t 19) (.seq (.region [⟨(some 4), .move (.c (.int .i64 1)), none, .write, 0⟩])
 .ret) .skip))
 (.seq (.region [⟨(some 4), .move (.c (.int .i64 0)), none, .write, 0⟩])
 .ret)))))))) }

theorem c148 : compFunc Tryz.prog Tryz.f148 .pure = some t148 := by kernel_rfl

def t149l0 : DCode :=
 (.seq (.region [⟨(some 9), .arith .lss (.t 8) (.t 7), none, .write, 0⟩])
 (.seq (.cond (.t 9) .skip (.exit 0))
 (.seq (.block 1 (.seq (.region [⟨(some 10), .move (.t 8), none, .write, 0⟩, ⟨(some 5), .move (.t 10), none, .write, 0⟩])
 (.seq (.region [⟨(some 11), .move (.t 1), none, .write, 0⟩, ⟨(some 12), .move (.t 0), none, .write, 0⟩, ⟨(some 13), .move (.t 5), none, .write, 0⟩, ⟨(some 14), .indexAddr 4 (.t 12) (.t 13), none, .write, 0⟩, ⟨(some 15), .load (some 4) (.t 14), none, .write, 0⟩, ⟨(some 16), .call (.t 11) [(.t 15)], none, .write, 0⟩])
 (.cond (.t 16) (.seq (.region [⟨(some 17), .move (.t 5), none, .write, 0⟩, ⟨(some 4), .move (.t 17), none, .write, 0⟩])
 .ret) .skip))))
 (.region [⟨(some 18), .arith .add (.t 8) (.c (.int .i64 1)), none, .write, 0⟩, ⟨(some 8), .move (.t 18), none, .write, 0⟩]))))

def t149k0 : DCode :=
 (.seq (.region [⟨(some 4), .move (.c (.int .i64 (-1))), none, .write, 0⟩])
 .ret)

/-- slices.IndexFunc[[]broadside/api.Advert,broadside/api.Advert] -/
def t149 : DFunc := { ntmps := 19, results := [(.t 4)], mode := .pure, body :=
 (.seq (.region [⟨(some 4), .move (.c (.int .i64 0)), none, .write, 0⟩])
 (.seq (.seq (.region [⟨(some 6), .move (.t 0), none, .write, 0⟩, ⟨(some 7), .len 1 (.t 6), none, .write, 0⟩, ⟨(some 8), .move (.c (.int .i64 0)), none, .write, 0⟩])
 (.block 0 (.loop t149l0)))
 t149k0)) }

theorem c149 : compFunc Tryz.prog Tryz.f149 .pure = some t149 := by kernel_rfl

/-- slices.Contains[[]int,int] -/
def t150 : DFunc := { ntmps := 9, results := [(.t 4)], mode := .pure, body :=
 (.seq (.region [⟨(some 4), .move (.c (.bool false)), none, .write, 0⟩])
 (.seq (.region [⟨(some 5), .move (.t 0), none, .write, 0⟩, ⟨(some 6), .move (.t 1), none, .write, 0⟩, ⟨(some 7), .call (.c (.func 184 [])) [(.t 5), (.t 6)], none, .write, 0⟩, ⟨(some 8), .arith .geq (.t 7) (.c (.int .i64 0)), none, .write, 0⟩, ⟨(some 4), .move (.t 8), none, .write, 0⟩])
 .ret)) }

theorem c150 : compFunc Tryz.prog Tryz.f150 .pure = some t150 := by kernel_rfl

/-- broadside/pred.RightOne -/
def t151 : DFunc := { ntmps := 43, results := [(.t 2)], mode := .pure, body :=
 (.seq (.region [⟨(some 1), .box 62 5 (.t 0), none, .write, 0⟩, ⟨(some 2), .move (.c (.bool false)), none, .write, 0⟩])
 (.seq (.seq (.region [⟨(some 3), .fieldAddr 0 (.t 1), none, .write, 0⟩, ⟨(some 4), .load none (.t 3), none, .write, 0⟩, ⟨(some 5), .call (.c (.func 185 [])) [(.t 4)], none, .write, 0⟩, ⟨(some 6), .un .not (.t 5), none, .write, 0⟩])
 (.cond (.t 6) (.seq (.region [⟨(some 2), .move (.c (.bool false)), none, .write, 0⟩])
 .ret) .skip))
 (.seq (.seq (.region [⟨(some 7), .fieldAddr 1 (.t 1), none, .write, 0⟩, ⟨(some 8), .load none (.t 7), none, .write, 0⟩])
 (.block 0 (.seq (.block 3 (.seq (.block 2 (.seq (.block 1 (.seq (.seq (.seq (.region [⟨(some 10), .arith .eql (.t 8) (.c (.int .i64 1)), none, .write, 0⟩, ⟨(some 9), .move (.t 10), none, .write, 0⟩])
 (.cond (.t 9) (.exit 1) .skip))
 (.seq (.seq (.region [⟨(some 12), .arith .eql (.t 8) (.c (.int .i64 3)), none, .write, 0⟩, ⟨(some 11), .move (.t 12), none, .write, 0⟩])
 (.cond (.t 11) (.exit 2) .skip))
 (.seq (.region [⟨(some 14), .arith .eql (.t 8) (.c (.int .i64 2)), none, .write, 0⟩, ⟨(some 13), .move (.t 14), none, .write, 0⟩])
 (.cond (.t 13) (.exit 3) .skip))))
 (.exit 0)))
 (.seq (.seq (.region [⟨(some 15), .fieldAddr 2 (.t 1), none, .write, 0⟩, ⟨(some 16), .load none (.t 15), none, .write, 0⟩, ⟨(some 17), .fieldAddr 3 (.t 1), none, .write, 0⟩, ⟨(some 18), .load none (.t 17), none, .write, 0⟩, ⟨(some 19), .arith .leq (.t 16) (.t 18), none, .write, 0⟩, ⟨(some 20), .move (.t 19), none, .write, 0⟩, ⟨(some 21), .fieldAddr 4 (.t 1), (some (20, true)), .write, 0⟩, ⟨(some 22), .load none (.t 21), (some (20, true)), .write, 0⟩, ⟨(some 23), .arith .eql (.t 22) (.c (.str [])), (some (20, true)), .write, 0⟩, ⟨(some 24), .pick (.t 20) (.t 23) (.c (.bool false)), none, .write, 0⟩, ⟨(some 2), .move (.t 24), none, .write, 0⟩])
 .ret)
 (.exit 0))))
 (.seq (.region [⟨(some 25), .fieldAddr 4 (.t 1), none, .write, 0⟩, ⟨(some 26), .load none (.t 25), none, .write, 0⟩, ⟨(some 27), .len 0 (.t 26), none, .write, 0⟩, ⟨(some 28), .arith .eql (.t 27) (.c (.int .i64 12)), none, .write, 0⟩])
 (.cond (.t 28) (.seq (.region [⟨(some 2), .move (.c (.bool false)), none, .write, 0⟩])
 .ret) .skip))))
 (.seq (.seq (.region [⟨(some 29), .fieldAddr 2 (.t 1), none, .write, 0⟩, ⟨(some 30), .load none (.t 29), none, .write, 0⟩, ⟨(some 31), .arith .eql (.t 30) (.c (.int .i64 0)), none, .write, 0⟩, ⟨(some 32), .move (.t 31), none, .write, 0⟩, ⟨(some 33), .fieldAddr 3 (.t 1), (some (32, true)), .write, 0⟩, ⟨(some 34), .load none (.t 33), (some (32, true)), .write, 0⟩, ⟨(some 35), .arith .eql (.t 34) (.c (.int .i64 0)), (some (32, true)), .write, 0⟩, ⟨(some 36), .pick (.t 32) (.t 35) (.c (.bool false)), none, .write, 0⟩, ⟨(some 37), .move (.t 36), none, .write, 0⟩, ⟨(some 38), .fieldAddr 4 (.t 1), (some (37, true)), .write, 0⟩, ⟨(some 39), .load none (.t 38), (some (37, true)), .write, 0⟩, ⟨(some 40), .len 0 (.t 39), (some (37, true)), .write, 0⟩, ⟨(some 41), .arith .leq (.t 40) (.c (.int .i64 12)), (some (37, true)), .write, 0⟩, ⟨(some 42), .pick (.t 37) (.t 41) (.c (.bool false)), none, .write, 0⟩, ⟨(some 2), .move (.t 42), none, .write, 0⟩])
 .ret)
 (.exit 0)))))
 (.seq (.region [⟨(some 2), .move (.c (.bool false)), none, .write, 0⟩])
 .ret)))) }

theorem c151 : compFunc Tryz.prog Tryz.f151 .pure = some t151 := by kernel_rfl

def t152l0 : DCode :=
 (.seq (.region [⟨(some 9), .arith .lss (.t 8) (.t 7), none, .write, 0⟩])
 (.seq (.cond (.t 9) .skip (.exit 0))
 (.seq (.block 1 (.seq (.region [⟨(some 10), .move (.t 8), none, .write, 0⟩, ⟨(some 5), .move (.t 10), none, .write, 0⟩])
 (.seq (.region [⟨(some 11), .move (.t 1), none, .write, 0⟩, ⟨(some 12), .move (.t 0), none, .write, 0⟩, ⟨(some 13), .move (.t 5), none, .write, 0⟩, ⟨(some 14), .indexAddr 3 (.t 12) (.t 13), none, .write, 0⟩, ⟨(some 15), .load (some 3) (.t 14), none, .write, 0⟩, ⟨(some 16), .call (.t 11) [(.t 15)], none, .write, 0⟩])
 (.cond (.t 16) (.seq (.region [⟨(some 17), .move (.t 5), none, .write, 0⟩, ⟨(some 4), .move (.t 17), none, .write, 0⟩])
 .ret) .skip))))
 (.region [⟨(some 18), .arith .add (.t 8) (.c (.int .i64 1)), none, .write, 0⟩, ⟨(some 8), .move (.t 18), none, .write, 0⟩]))))

def t152k0 : DCode :=
 (.seq (.region [⟨(some 4), .move (.c (.int .i64 (-1))), none, .write, 0⟩])
 .ret)

/-- slices.IndexFunc[[]broadside/api.Own,broadside/api.Own] -/
def t152 : DFunc := { ntmps := 19, results := [(.t 4)], mode := .pure, body :=
 (.seq (.region [⟨(some 4), .move (.c (.int .i64 0)), none, .write, 0⟩])
 (.seq (.seq (.region [⟨(some 6), .move (.t 0), none, .write, 0⟩, ⟨(some 7), .len 1 (.t 6), none, .write, 0⟩, ⟨(some 8), .move (.c (.int .i64 0)), none, .write, 0⟩])
 (.block 0 (.loop t152l0)))
 t152k0)) }

theorem c152 : compFunc Tryz.prog Tryz.f152 .pure = some t152 := by kernel_rfl

def t154l0 : DCode :=
 (.seq (.seq (.region [⟨(some 15), .move (.t 9), none, .write, 0⟩, ⟨(some 16), .move (.t 10), none, .write, 0⟩, ⟨(some 17), .arith .lss (.t 15) (.t 16), none, .write, 0⟩])
 (.cond (.t 17) .skip (.exit 0)))
 (.block 1 (.seq (.region [⟨(some 18), .move (.t 9), none, .write, 0⟩, ⟨(some 19), .move (.t 10), none, .write, 0⟩, ⟨(some 20), .arith .add (.t 18) (.t 19), none, .write, 0⟩, ⟨(some 21), .conv .u64 (.t 20), none, .write, 0⟩, ⟨(some 22), .arith .shr (.t 21) (.c (.int .u64 1)), none, .write, 0⟩, ⟨(some 23), .conv .i64 (.t 22), none, .write, 0⟩, ⟨(some 11), .move (.t 23), none, .write, 0⟩])
 (.seq (.draw [⟨(some 25), .move (.t 0), none, .read, 0⟩, ⟨(some 26), .move (.t 11), none, .read, 0⟩, ⟨(some 27), .indexAddr 7 (.t 25) (.t 26), none, .read, 0⟩, ⟨(some 28), .load (some 7) (.t 27), none, .read, 0⟩, ⟨(some 29), .load (some 2) (.t 4), none, .read, 0⟩, ⟨(some 24), .move (.t 2), none, .read, 0⟩, ⟨(some 30), .call (.t 24) [(.t 28), (.t 29)], none, .write, 0⟩, ⟨(some 31), .arith .lss (.t 30) (.c (.int .i64 0)), none, .read, 1⟩])
 (.cond (.t 31) (.region [⟨(some 32), .move (.t 11), none, .write, 0⟩, ⟨(some 33), .arith .add (.t 32) (.c (.int .i64 1)), none, .write, 0⟩, ⟨(some 9), .move (.t 33), none, .write, 0⟩]) (.region [⟨(some 34), .move (.t 11), none, .write, 0⟩, ⟨(some 10), .move (.t 34), none, .write, 0⟩]))))))

def t154k0 : DCode :=
 (.seq (.draw [⟨(some 36), .move (.t 9), none, .read, 0⟩, ⟨(some 37), .move (.t 8), none, .read, 0⟩, ⟨(some 38), .arith .lss (.t 36) (.t 37), none, .read, 0⟩, ⟨(some 39), .move (.t 38), none, .read, 0⟩, ⟨(some 41), .move (.t 0), (some (39, true)), .read, 0⟩, ⟨(some 42), .move (.t 9), (some (39, true)), .read, 0⟩, ⟨(some 43), .indexAddr 7 (.t 41) (.t 42), (some (39, true)), .read, 0⟩, ⟨(some 44), .load (some 7) (.t 43), (some (39, true)), .read, 0⟩, ⟨(some 45), .load (some 2) (.t 4), (some (39, true)), .read, 0⟩, ⟨(some 40), .move (.t 2), (some (39, true)), .read, 0⟩, ⟨(some 46), .call (.t 40) [(.t 44), (.t 45)], (some (39, true)), .write, 0⟩, ⟨(some 35), .move (.t 9), none, .read, 0⟩, ⟨(some 47), .arith .eql (.t 46) (.c (.int .i64 0)), (some (39, true)), .read, 1⟩, ⟨(some 48), .pick (.t 39) (.t 47) (.c (.bool false)), none, .read, 1⟩, ⟨(some 6), .move (.t 35), none, .read, 1⟩, ⟨(some 7), .move (.t 48), none, .read, 1⟩])
 .ret)

/-- slices.BinarySearchFunc[[]broadside/api.Entry,broadside/api.Entry,broadside/api.ID] -/
def t154 : DFunc := { ntmps := 49, results := [(.t 6), (.t 7)], mode := .pure, body :=
 (.seq (.region [⟨(some 4), .box 37 2 (.t 1), none, .write, 0⟩, ⟨(some 6), .move (.c (.int .i64 0)), none, .write, 0⟩, ⟨(some 7), .move (.c (.bool false)), none, .write, 0⟩])
 (.seq (.region [⟨(some 12), .move (.t 0), none, .write, 0⟩, ⟨(some 13), .len 1 (.t 12), none, .write, 0⟩, ⟨(some 8), .move (.t 13), none, .write, 0⟩])
 (.seq (.region [⟨(some 14), .move (.t 8), none, .write, 0⟩, ⟨(some 9), .move (.c (.int .i64 0)), none, .write, 0⟩, ⟨(some 10), .move (.t 14), none, .write, 0⟩])
 (.seq (.block 0 (.loop t154l0))
 t154k0)))) }

theorem c154 : compFunc Tryz.prog Tryz.f154 .pure = some t154 := by kernel_rfl

/-- slices.rotateRight[broadside/api.Entry] -/
def t157 : DFunc := { ntmps := 10, results := [], mode := .full, body :=
 (.region [⟨(some 4), .move (.t 0), none, .write, 0⟩, ⟨(some 5), .move (.t 0), none, .write, 0⟩, ⟨(some 6), .len 1 (.t 5), none, .write, 0⟩, ⟨(some 7), .move (.t 1), none, .write, 0⟩, ⟨(some 8), .arith .sub (.t 6) (.t 7), none, .write, 0⟩, ⟨(some 9), .call (.c (.func 187 [])) [(.t 4), (.t 8)], none, .write, 0⟩]) }

theorem c157 : compFunc Tryz.prog Tryz.f157 .full = some t157 := by kernel_rfl

def t162l0 : DCode :=
 (.seq (.seq (.region [⟨(some 11), .move (.t 5), none, .write, 0⟩, ⟨(some 12), .move (.t 0), none, .write, 0⟩, ⟨(some 13), .len 1 (.t 12), none, .write, 0⟩, ⟨(some 14), .arith .lss (.t 11) (.t 13), none, .write, 0⟩])
 (.cond (.t 14) .skip (.exit 0)))
 (.seq (.block 1 (.seq (.draw [⟨(some 17), .move (.t 0), none, .read, 0⟩, ⟨(some 18), .move (.t 5), none, .read, 0⟩, ⟨(some 19), .indexAddr 4 (.t 17) (.t 18), none, .read, 0⟩, ⟨(some 20), .load (some 4) (.t 19), none, .read, 0⟩, ⟨(some 21), .move (.t 1), none, .read, 0⟩, ⟨(some 22), .move (.t 5), none, .read, 0⟩, ⟨(some 23), .indexAddr 4 (.t 21) (.t 22), none, .read, 0⟩, ⟨(some 24), .load (some 4) (.t 23), none, .read, 0⟩, ⟨(some 25), .eqa true [2, 0, 1, 2] (.t 20) (.t 24), none, .read, 0⟩])
 (.cond (.t 25) (.seq (.region [⟨(some 4), .move (.c (.bool false)), none, .write, 0⟩])
 .ret) .skip)))
 (.region [⟨(some 15), .move (.t 5), none, .write, 0⟩, ⟨(some 16), .arith .add (.t 15) (.c (.int .i64 1)), none, .write, 0⟩, ⟨(some 5), .move (.t 16), none, .write, 0⟩])))

def t162k0 : DCode :=
 (.seq (.region [⟨(some 4), .move (.c (.bool true)), none, .write, 0⟩])
 .ret)

/-- broadside/broadsidebook.Same[broadside/api.Attr] -/
def t162 : DFunc := { ntmps := 26, results := [(.t 4)], mode := .pure, body :=
 (.seq (.region [⟨(some 4), .move (.c (.bool false)), none, .write, 0⟩])
 (.seq (.seq (.region [⟨(some 6), .move (.t 0), none, .write, 0⟩, ⟨(some 7), .len 1 (.t 6), none, .write, 0⟩, ⟨(some 8), .move (.t 1), none, .write, 0⟩, ⟨(some 9), .len 1 (.t 8), none, .write, 0⟩, ⟨(some 10), .arith .neq (.t 7) (.t 9), none, .write, 0⟩])
 (.cond (.t 10) (.seq (.region [⟨(some 4), .move (.c (.bool false)), none, .write, 0⟩])
 .ret) .skip))
 (.seq (.seq (.region [⟨(some 5), .move (.c (.int .i64 0)), none, .write, 0⟩])
 (.block 0 (.loop t162l0)))
 t162k0))) }

theorem c162 : compFunc Tryz.prog Tryz.f162 .pure = some t162 := by kernel_rfl

def t163l0 : DCode :=
 (.seq (.seq (.region [⟨(some 15), .move (.t 9), none, .write, 0⟩, ⟨(some 16), .move (.t 10), none, .write, 0⟩, ⟨(some 17), .arith .lss (.t 15) (.t 16), none, .write, 0⟩])
 (.cond (.t 17) .skip (.exit 0)))
 (.block 1 (.seq (.region [⟨(some 18), .move (.t 9), none, .write, 0⟩, ⟨(some 19), .move (.t 10), none, .write, 0⟩, ⟨(some 20), .arith .add (.t 18) (.t 19), none, .write, 0⟩, ⟨(some 21), .conv .u64 (.t 20), none, .write, 0⟩, ⟨(some 22), .arith .shr (.t 21) (.c (.int .u64 1)), none, .write, 0⟩, ⟨(some 23), .conv .i64 (.t 22), none, .write, 0⟩, ⟨(some 11), .move (.t 23), none, .write, 0⟩])
 (.seq (.draw [⟨(some 25), .move (.t 0), none, .read, 0⟩, ⟨(some 26), .move (.t 11), none, .read, 0⟩, ⟨(some 27), .indexAddr 3 (.t 25) (.t 26), none, .read, 0⟩, ⟨(some 28), .load (some 3) (.t 27), none, .read, 0⟩, ⟨(some 29), .load (some 2) (.t 4), none, .read, 0⟩, ⟨(some 24), .move (.t 2), none, .read, 0⟩, ⟨(some 30), .call (.t 24) [(.t 28), (.t 29)], none, .write, 0⟩, ⟨(some 31), .arith .lss (.t 30) (.c (.int .i64 0)), none, .read, 1⟩])
 (.cond (.t 31) (.region [⟨(some 32), .move (.t 11), none, .write, 0⟩, ⟨(some 33), .arith .add (.t 32) (.c (.int .i64 1)), none, .write, 0⟩, ⟨(some 9), .move (.t 33), none, .write, 0⟩]) (.region [⟨(some 34), .move (.t 11), none, .write, 0⟩, ⟨(some 10), .move (.t 34), none, .write, 0⟩]))))))

def t163k0 : DCode :=
 (.seq (.draw [⟨(some 36), .move (.t 9), none, .read, 0⟩, ⟨(some 37), .move (.t 8), none, .read, 0⟩, ⟨(some 38), .arith .lss (.t 36) (.t 37), none, .read, 0⟩, ⟨(some 39), .move (.t 38), none, .read, 0⟩, ⟨(some 41), .move (.t 0), (some (39, true)), .read, 0⟩, ⟨(some 42), .move (.t 9), (some (39, true)), .read, 0⟩, ⟨(some 43), .indexAddr 3 (.t 41) (.t 42), (some (39, true)), .read, 0⟩, ⟨(some 44), .load (some 3) (.t 43), (some (39, true)), .read, 0⟩, ⟨(some 45), .load (some 2) (.t 4), (some (39, true)), .read, 0⟩, ⟨(some 40), .move (.t 2), (some (39, true)), .read, 0⟩, ⟨(some 46), .call (.t 40) [(.t 44), (.t 45)], (some (39, true)), .write, 0⟩, ⟨(some 35), .move (.t 9), none, .read, 0⟩, ⟨(some 47), .arith .eql (.t 46) (.c (.int .i64 0)), (some (39, true)), .read, 1⟩, ⟨(some 48), .pick (.t 39) (.t 47) (.c (.bool false)), none, .read, 1⟩, ⟨(some 6), .move (.t 35), none, .read, 1⟩, ⟨(some 7), .move (.t 48), none, .read, 1⟩])
 .ret)

/-- slices.BinarySearchFunc[[]broadside/api.Own,broadside/api.Own,broadside/api.ID] -/
def t163 : DFunc := { ntmps := 49, results := [(.t 6), (.t 7)], mode := .pure, body :=
 (.seq (.region [⟨(some 4), .box 37 2 (.t 1), none, .write, 0⟩, ⟨(some 6), .move (.c (.int .i64 0)), none, .write, 0⟩, ⟨(some 7), .move (.c (.bool false)), none, .write, 0⟩])
 (.seq (.region [⟨(some 12), .move (.t 0), none, .write, 0⟩, ⟨(some 13), .len 1 (.t 12), none, .write, 0⟩, ⟨(some 8), .move (.t 13), none, .write, 0⟩])
 (.seq (.region [⟨(some 14), .move (.t 8), none, .write, 0⟩, ⟨(some 9), .move (.c (.int .i64 0)), none, .write, 0⟩, ⟨(some 10), .move (.t 14), none, .write, 0⟩])
 (.seq (.block 0 (.loop t163l0))
 t163k0)))) }

theorem c163 : compFunc Tryz.prog Tryz.f163 .pure = some t163 := by kernel_rfl

/-- slices.rotateRight[broadside/api.Own] -/
def t166 : DFunc := { ntmps := 10, results := [], mode := .full, body :=
 (.region [⟨(some 4), .move (.t 0), none, .write, 0⟩, ⟨(some 5), .move (.t 0), none, .write, 0⟩, ⟨(some 6), .len 1 (.t 5), none, .write, 0⟩, ⟨(some 7), .move (.t 1), none, .write, 0⟩, ⟨(some 8), .arith .sub (.t 6) (.t 7), none, .write, 0⟩, ⟨(some 9), .call (.c (.func 197 [])) [(.t 4), (.t 8)], none, .write, 0⟩]) }

theorem c166 : compFunc Tryz.prog Tryz.f166 .full = some t166 := by kernel_rfl

def t170l0 : DCode :=
 (.seq (.seq (.draw [⟨(some 16), .move (.t 7), none, .read, 0⟩, ⟨(some 17), .move (.t 1), none, .read, 0⟩, ⟨(some 18), .arith .gtr (.t 16) (.t 17), none, .read, 0⟩, ⟨(some 19), .move (.t 18), none, .read, 0⟩, ⟨(some 20), .move (.t 0), (some (19, true)), .read, 0⟩, ⟨(some 21), .move (.t 7), (some (19, true)), .read, 0⟩, ⟨(some 22), .indexAddr 1 (.t 20) (.t 21), (some (19, true)), .read, 0⟩, ⟨(some 23), .load none (.t 22), (some (19, true)), .read, 0⟩, ⟨(some 24), .move (.t 0), (some (19, true)), .read, 0⟩, ⟨(some 25), .move (.t 7), (some (19, true)), .read, 0⟩, ⟨(some 26), .arith .sub (.t 25) (.c (.int .i64 1)), (some (19, true)), .read, 0⟩, ⟨(some 27), .indexAddr 1 (.t 24) (.t 26), (some (19, true)), .read, 0⟩, ⟨(some 28), .load none (.t 27), (some (19, true)), .read, 0⟩, ⟨(some 29), .call (.c (.func 176 [])) [(.t 23), (.t 28)], (some (19, true)), .write, 0⟩, ⟨(some 30), .pick (.t 19) (.t 29) (.c (.bool false)), none, .read, 1⟩])
 (.cond (.t 30) .skip (.exit 2)))
 (.seq (.block 3 (.draw [⟨(some 38), .move (.t 0), none, .read, 0⟩, ⟨(some 39), .move (.t 7), none, .read, 0⟩, ⟨(some 40), .arith .sub (.t 39) (.c (.int .i64 1)), none, .read, 0⟩, ⟨(some 41), .indexAddr 1 (.t 38) (.t 40), none, .read, 0⟩, ⟨(some 42), .load none (.t 41), none, .read, 0⟩, ⟨(some 43), .move (.t 0), none, .read, 0⟩, ⟨(some 44), .move (.t 7), none, .read, 0⟩, ⟨(some 45), .indexAddr 1 (.t 43) (.t 44), none, .read, 0⟩, ⟨(some 46), .load none (.t 45), none, .read, 0⟩, ⟨(some 33), .move (.t 0), none, .read, 0⟩, ⟨(some 34), .move (.t 7), none, .read, 0⟩, ⟨(some 47), .indexAddr 1 (.t 33) (.t 34), none, .read, 0⟩, ⟨none, .store 1 (.t 47) (.t 42), none, .write, 0⟩, ⟨(some 35), .move (.t 0), none, .read, 0⟩, ⟨(some 36), .move (.t 7), none, .read, 0⟩, ⟨(some 37), .arith .sub (.t 36) (.c (.int .i64 1)), none, .read, 0⟩, ⟨(some 48), .indexAddr 1 (.t 35) (.t 37), none, .read, 1⟩, ⟨none, .store 1 (.t 48) (.t 46), none, .write, 1⟩]))
 (.region [⟨(some 31), .move (.t 7), none, .write, 0⟩, ⟨(some 32), .arith .sub (.t 31) (.c (.int .i64 1)), none, .write, 0⟩, ⟨(some 7), .move (.t 32), none, .write, 0⟩])))

def t170k0 : DCode :=
 (.region [⟨(some 13), .move (.t 6), none, .write, 0⟩, ⟨(some 14), .arith .add (.t 13) (.c (.int .i64 1)), none, .write, 0⟩, ⟨(some 6), .move (.t 14), none, .write, 0⟩])

def t170l1 : DCode :=
 (.seq (.seq (.region [⟨(some 10), .move (.t 6), none, .write, 0⟩, ⟨(some 11), .move (.t 2), none, .write, 0⟩, ⟨(some 12), .arith .lss (.t 10) (.t 11), none, .write, 0⟩])
 (.cond (.t 12) .skip (.exit 0)))
 (.seq (.block 1 (.seq (.region [⟨(some 15), .move (.t 6), none, .write, 0⟩, ⟨(some 7), .move (.t 15), none, .write, 0⟩])
 (.block 2 (.loop t170l0))))
 t170k0))

/-- slices.insertionSortOrdered[int] -/
def t170 : DFunc := { ntmps := 49, results := [], mode := .full, body :=
 (.seq (.region [⟨(some 8), .move (.t 1), none, .write, 0⟩, ⟨(some 9), .arith .add (.t 8) (.c (.int .i64 1)), none, .write, 0⟩, ⟨(some 6), .move (.t 9), none, .write, 0⟩])
 (.block 0 (.loop t170l1))) }

theorem c170 : compFunc Tryz.prog Tryz.f170 .full = some t170 := by kernel_rfl

def t171l0 : DCode :=
 (.seq (.seq (.region [⟨(some 18), .move (.t 9), none, .write, 0⟩, ⟨(some 19), .arith .geq (.t 18) (.c (.int .i64 0)), none, .write, 0⟩])
 (.cond (.t 19) .skip (.exit 0)))
 (.seq (.block 1 (.region [⟨(some 22), .move (.t 0), none, .write, 0⟩, ⟨(some 23), .move (.t 9), none, .write, 0⟩, ⟨(some 24), .move (.t 8), none, .write, 0⟩, ⟨(some 25), .move (.t 6), none, .write, 0⟩, ⟨(some 26), .call (.c (.func 199 [])) [(.t 22), (.t 23), (.t 24), (.t 25)], none, .write, 0⟩]))
 (.region [⟨(some 20), .move (.t 9), none, .write, 0⟩, ⟨(some 21), .arith .sub (.t 20) (.c (.int .i64 1)), none, .write, 0⟩, ⟨(some 9), .move (.t 21), none, .write, 0⟩])))

def t171l1 : DCode :=
 (.seq (.seq (.region [⟨(some 29), .move (.t 10), none, .write, 0⟩, ⟨(some 30), .arith .geq (.t 29) (.c (.int .i64 0)), none, .write, 0⟩])
 (.cond (.t 30) .skip (.exit 2)))
 (.seq (.block 3 (.seq (.draw [⟨(some 39), .move (.t 0), none, .read, 0⟩, ⟨(some 40), .move (.t 6), none, .read, 0⟩, ⟨(some 41), .move (.t 10), none, .read, 0⟩, ⟨(some 42), .arith .add (.t 40) (.t 41), none, .read, 0⟩, ⟨(some 43), .indexAddr 1 (.t 39) (.t 42), none, .read, 0⟩, ⟨(some 44), .load none (.t 43), none, .read, 0⟩, ⟨(some 45), .move (.t 0), none, .read, 0⟩, ⟨(some 46), .move (.t 6), none, .read, 0⟩, ⟨(some 47), .indexAddr 1 (.t 45) (.t 46), none, .read, 0⟩, ⟨(some 48), .load none (.t 47), none, .read, 0⟩, ⟨(some 33), .move (.t 0), none, .read, 0⟩, ⟨(some 34), .move (.t 6), none, .read, 0⟩, ⟨(some 49), .indexAddr 1 (.t 33) (.t 34), none, .read, 0⟩, ⟨none, .store 1 (.t 49) (.t 44), none, .write, 0⟩, ⟨(some 35), .move (.t 0), none, .read, 0⟩, ⟨(some 36), .move (.t 6), none, .read, 0⟩, ⟨(some 37), .move (.t 10), none, .read, 0⟩, ⟨(some 38), .arith .add (.t 36) (.t 37), none, .read, 0⟩, ⟨(some 50), .indexAddr 1 (.t 35) (.t 38), none, .read, 1⟩, ⟨none, .store 1 (.t 50) (.t 48), none, .write, 1⟩])
 (.region [⟨(some 51), .move (.t 0), none, .write, 0⟩, ⟨(some 52), .move (.t 7), none, .write, 0⟩, ⟨(some 53), .move (.t 10), none, .write, 0⟩, ⟨(some 54), .move (.t 6), none, .write, 0⟩, ⟨(some 55), .call (.c (.func 199 [])) [(.t 51), (.t 52), (.t 53), (.t 54)], none, .write, 0⟩])))
 (.region [⟨(some 31), .move (.t 10), none, .write, 0⟩, ⟨(some 32), .arith .sub (.t 31) (.c (.int .i64 1)), none, .write, 0⟩, ⟨(some 10), .move (.t 32), none, .write, 0⟩])))

def t171k0 : DCode :=
 (.seq (.region [⟨(some 27), .move (.t 8), none, .write, 0⟩, ⟨(some 28), .arith .sub (.t 27) (.c (.int .i64 1)), none, .write, 0⟩, ⟨(some 10), .move (.t 28), none, .write, 0⟩])
 (.block 2 (.loop t171l1)))

/-- slices.heapSortOrdered[int] -/
def t171 : DFunc := { ntmps := 56, results := [], mode := .full, body :=
 (.seq (.region [⟨(some 11), .move (.t 1), none, .write, 0⟩, ⟨(some 6), .move (.t 11), none, .write, 0⟩])
 (.seq (.region [⟨(some 7), .move (.c (.int .i64 0)), none, .write, 0⟩])
 (.seq (.region [⟨(some 12), .move (.t 2), none, .write, 0⟩, ⟨(some 13), .move (.t 1), none, .write, 0⟩, ⟨(some 14), .arith .sub (.t 12) (.t 13), none, .write, 0⟩, ⟨(some 8), .move (.t 14), none, .write, 0⟩])
 (.seq (.seq (.region [⟨(some 15), .move (.t 8), none, .write, 0⟩, ⟨(some 16), .arith .sub (.t 15) (.c (.int .i64 1)), none, .write, 0⟩, ⟨(some 17), .arith .quo (.t 16) (.c (.int .i64 2)), none, .write, 0⟩, ⟨(some 9), .move (.t 17), none, .write, 0⟩])
 (.block 0 (.loop t171l0)))
 t171k0)))) }

theorem c171 : compFunc Tryz.prog Tryz.f171 .full = some t171 := by kernel_rfl

def t172l0 : DCode :=
 (.seq (.seq (.region [⟨(some 26), .move (.t 9), none, .write, 0⟩, ⟨(some 27), .move (.t 1), none, .write, 0⟩, ⟨(some 28), .move (.t 6), none, .write, 0⟩, ⟨(some 29), .arith .quo (.t 28) (.c (.int .i64 4)), none, .write, 0⟩, ⟨(some 30), .arith .mul (.t 29) (.c (.int .i64 2)), none, .write, 0⟩, ⟨(some 31), .arith .add (.t 27) (.t 30), none, .write, 0⟩, ⟨(some 32), .arith .add (.t 31) (.c (.int .i64 1)), none, .write, 0⟩, ⟨(some 33), .arith .leq (.t 26) (.t 32), none, .write, 0⟩])
 (.cond (.t 33) .skip (.exit 0)))
 (.seq (.block 1 (.seq (.region [⟨(some 36), .call (.c (.func 201 [])) [(.t 7)], none, .write, 0⟩, ⟨(some 37), .move (.t 8), none, .write, 0⟩, ⟨(some 38), .arith .sub (.t 37) (.c (.int .u64 1)), none, .write, 0⟩, ⟨(some 39), .arith .and (.t 36) (.t 38), none, .write, 0⟩, ⟨(some 40), .conv .i64 (.t 39), none, .write, 0⟩, ⟨(some 10), .move (.t 40), none, .write, 0⟩])
 (.seq (.seq (.region [⟨(some 41), .move (.t 10), none, .write, 0⟩, ⟨(some 42), .move (.t 6), none, .write, 0⟩, ⟨(some 43), .arith .geq (.t 41) (.t 42), none, .write, 0⟩])
 (.cond (.t 43) (.region [⟨(some 44), .move (.t 10), none, .write, 0⟩, ⟨(some 45), .move (.t 6), none, .write, 0⟩, ⟨(some 46), .arith .sub (.t 44) (.t 45), none, .write, 0⟩, ⟨(some 10), .move (.t 46), none, .write, 0⟩]) .skip))
 (.draw [⟨(some 53), .move (.t 0), none, .read, 0⟩, ⟨(some 54), .move (.t 1), none, .read, 0⟩, ⟨(some 55), .move (.t 10), none, .read, 0⟩, ⟨(some 56), .arith .add (.t 54) (.t 55), none, .read, 0⟩, ⟨(some 57), .indexAddr 1 (.t 53) (.t 56), none, .read, 0⟩, ⟨(some 58), .load none (.t 57), none, .read, 0⟩, ⟨(some 59), .move (.t 0), none, .read, 0⟩, ⟨(some 60), .move (.t 9), none, .read, 0⟩, ⟨(some 61), .indexAddr 1 (.t 59) (.t 60), none, .read, 0⟩, ⟨(some 62), .load none (.t 61), none, .read, 0⟩, ⟨(some 47), .move (.t 0), none, .read, 0⟩, ⟨(some 48), .move (.t 9), none, .read, 0⟩, ⟨(some 63), .indexAddr 1 (.t 47) (.t 48), none, .read, 0⟩, ⟨none, .store 1 (.t 63) (.t 58), none, .write, 0⟩, ⟨(some 49), .move (.t 0), none, .read, 0⟩, ⟨(some 50), .move (.t 1), none, .read, 0⟩, ⟨(some 51), .move (.t 10), none, .read, 0⟩, ⟨(some 52), .arith .add (.t 50) (.t 51), none, .read, 0⟩, ⟨(some 64), .indexAddr 1 (.t 49) (.t 52), none, .read, 1⟩, ⟨none, .store 1 (.t 64) (.t 62), none, .write, 1⟩]))))
 (.region [⟨(some 34), .move (.t 9), none, .write, 0⟩, ⟨(some 35), .arith .add (.t 34) (.c (.int .i64 1)), none, .write, 0⟩, ⟨(some 9), .move (.t 35), none, .write, 0⟩])))

/-- slices.breakPatternsOrdered[int] -/
def t172 : DFunc := { ntmps := 65, results := [], mode := .full, body :=
 (.seq (.region [⟨(some 11), .move (.t 2), none, .write, 0⟩, ⟨(some 12), .move (.t 1), none, .write, 0⟩, ⟨(some 13), .arith .sub (.t 11) (.t 12), none, .write, 0⟩, ⟨(some 6), .move (.t 13), none, .write, 0⟩])
 (.seq (.region [⟨(some 14), .move (.t 6), none, .write, 0⟩, ⟨(some 15), .arith .geq (.t 14) (.c (.int .i64 8)), none, .write, 0⟩])
 (.cond (.t 15) (.seq (.region [⟨(some 16), .move (.t 6), none, .write, 0⟩, ⟨(some 17), .conv .u64 (.t 16), none, .write, 0⟩, ⟨(some 7), .alloc 231 1 (.int .u64 0), none, .write, 0⟩, ⟨none, .store 1 (.t 7) (.t 17), none, .write, 0⟩])
 (.seq (.region [⟨(some 18), .move (.t 6), none, .write, 0⟩, ⟨(some 19), .call (.c (.func 200 [])) [(.t 18)], none, .write, 0⟩, ⟨(some 8), .move (.t 19), none, .write, 0⟩])
 (.seq (.region [⟨(some 20), .move (.t 1), none, .write, 0⟩, ⟨(some 21), .move (.t 6), none, .write, 0⟩, ⟨(some 22), .arith .quo (.t 21) (.c (.int .i64 4)), none, .write, 0⟩, ⟨(some 23), .arith .mul (.t 22) (.c (.int .i64 2)), none, .write, 0⟩, ⟨(some 24), .arith .add (.t 20) (.t 23), none, .write, 0⟩, ⟨(some 25), .arith .sub (.t 24) (.c (.int .i64 1)), none, .write, 0⟩, ⟨(some 9), .move (.t 25), none, .write, 0⟩])
 (.block 0 (.loop t172l0))))) .skip))) }

theorem c172 : compFunc Tryz.prog Tryz.f172 .full = some t172 := by kernel_rfl

/-- slices.choosePivotOrdered[int] -/
def t173 : DFunc := { ntmps := 57, results := [(.t 6), (.t 7)], mode := .full, body :=
 (.seq (.region [⟨(some 6), .move (.c (.int .i64 0)), none, .write, 0⟩, ⟨(some 7), .move (.c (.int .i64 0)), none, .write, 0⟩])
 (.seq (.region [⟨(some 13), .move (.t 2), none, .write, 0⟩, ⟨(some 14), .move (.t 1), none, .write, 0⟩, ⟨(some 15), .arith .sub (.t 13) (.t 14), none, .write, 0⟩, ⟨(some 8), .move (.t 15), none, .write, 0⟩])
 (.seq (.region [⟨(some 9), .alloc 3 1 (.int .i64 0), none, .write, 0⟩])
 (.seq (.region [⟨(some 16), .move (.t 1), none, .write, 0⟩, ⟨(some 17), .move (.t 8), none, .write, 0⟩, ⟨(some 18), .arith .quo (.t 17) (.c (.int .i64 4)), none, .write, 0⟩, ⟨(some 19), .arith .mul (.t 18) (.c (.int .i64 1)), none, .write, 0⟩, ⟨(some 20), .arith .add (.t 16) (.t 19), none, .write, 0⟩, ⟨(some 10), .move (.t 20), none, .write, 0⟩])
 (.seq (.region [⟨(some 21), .move (.t 1), none, .write, 0⟩, ⟨(some 22), .move (.t 8), none, .write, 0⟩, ⟨(some 23), .arith .quo (.t 22) (.c (.int .i64 4)), none, .write, 0⟩, ⟨(some 24), .arith .mul (.t 23) (.c (.int .i64 2)), none, .write, 0⟩, ⟨(some 25), .arith .add (.t 21) (.t 24), none, .write, 0⟩, ⟨(some 11), .move (.t 25), none, .write, 0⟩])
 (.seq (.region [⟨(some 26), .move (.t 1), none, .write, 0⟩, ⟨(some 27), .move (.t 8), none, .write, 0⟩, ⟨(some 28), .arith .quo (.t 27) (.c (.int .i64 4)), none, .write, 0⟩, ⟨(some 29), .arith .mul (.t 28) (.c (.int .i64 3)), none, .write, 0⟩, ⟨(some 30), .arith .add (.t 26) (.t 29), none, .write, 0⟩, ⟨(some 12), .move (.t 30), none, .write, 0⟩])
 (.seq (.seq (.region [⟨(some 31), .move (.t 8), none, .write, 0⟩, ⟨(some 32), .arith .geq (.t 31) (.c (.int .i64 8)), none, .write, 0⟩])
 (.cond (.t 32) (.seq (.seq (.region [⟨(some 33), .move (.t 8), none, .write, 0⟩, ⟨(some 34), .arith .geq (.t 33) (.c (.int .i64 50)), none, .write, 0⟩])
 (.cond (.t 34) (.seq (.region [⟨(some 35), .move (.t 0), none, .write, 0⟩, ⟨(some 36), .move (.t 10), none, .write, 0⟩, ⟨(some 37), .call (.c (.func 202 [])) [(.t 35), (.t 36), (.t 9)], none, .write, 0⟩, ⟨(some 10), .move (.t 37), none, .write, 0⟩])
 (.seq (.region [⟨(some 38), .move (.t 0), none, .write, 0⟩, ⟨(some 39), .move (.t 11), none, .write, 0⟩, ⟨(some 40), .call (.c (.func 202 [])) [(.t 38), (.t 39), (.t 9)], none, .write, 0⟩, ⟨(some 11), .move (.t 40), none, .write, 0⟩])
 (.region [⟨(some 41), .move (.t 0), none, .write, 0⟩, ⟨(some 42), .move (.t 12), none, .write, 0⟩, ⟨(some 43), .call (.c (.func 202 [])) [(.t 41), (.t 42), (.t 9)], none, .write, 0⟩, ⟨(some 12), .move (.t 43), none, .write, 0⟩]))) .skip))
 (.region [⟨(some 44), .move (.t 0), none, .write, 0⟩, ⟨(some 45), .move (.t 10), none, .write, 0⟩, ⟨(some 46), .move (.t 11), none, .write, 0⟩, ⟨(some 47), .move (.t 12), none, .write, 0⟩, ⟨(some 48), .call (.c (.func 203 [])) [(.t 44), (.t 45), (.t 46), (.t 47), (.t 9)], none, .write, 0⟩, ⟨(some 11), .move (.t 48), none, .write, 0⟩])) .skip))
 (.seq (.region [⟨(some 49), .load none (.t 9), none, .write, 0⟩])
 (.block 0 (.seq (.region [⟨(some 52), .arith .eql (.t 49) (.c (.int .i64 0)), none, .write, 0⟩, ⟨(some 51), .move (.t 52), none, .write, 0⟩])
 (.cond (.t 51) (.seq (.region [⟨(some 53), .move (.t 11), none, .write, 0⟩, ⟨(some 6), .move (.t 53), none, .write, 0⟩, ⟨(some 7), .move (.c (.int .i64 1)), none, .write, 0⟩])
 .ret) (.seq (.region [⟨(some 55), .arith .eql (.t 49) (.c (.int .i64 12)), none, .write, 0⟩, ⟨(some 54), .move (.t 55), none, .write, 0⟩])
 (.cond (.t 54) (.seq (.region [⟨(some 56), .move (.t 11), none, .write, 0⟩, ⟨(some 6), .move (.t 56), none, .write, 0⟩, ⟨(some 7), .move (.c (.int .i64 2)), none, .write, 0⟩])
 .ret) (.seq (.region [⟨(some 50), .move (.t 11), none, .write, 0⟩, ⟨(some 6), .move (.t 50), none, .write, 0⟩, ⟨(some 7), .move (.c (.int .i64 0)), none, .write, 0⟩])
 .ret)))))))))))))) }

theorem c173 : compFunc Tryz.prog Tryz.f173 .full = some t173 := by kernel_rfl

def t174l0 : DCode :=
 (.seq (.seq (.region [⟨(some 11), .move (.t 6), none, .write, 0⟩, ⟨(some 12), .move (.t 7), none, .write, 0⟩, ⟨(some 13), .arith .lss (.t 11) (.t 12), none, .write, 0⟩])
 (.cond (.t 13) .skip (.exit 0)))
 (.block 1 (.seq (.draw [⟨(some 18), .move (.t 0), none, .read, 0⟩, ⟨(some 19), .move (.t 7), none, .read, 0⟩, ⟨(some 20), .indexAddr 1 (.t 18) (.t 19), none, .read, 0⟩, ⟨(some 21), .load none (.t 20), none, .read, 0⟩, ⟨(some 22), .move (.t 0), none, .read, 0⟩, ⟨(some 23), .move (.t 6), none, .read, 0⟩, ⟨(some 24), .indexAddr 1 (.t 22) (.t 23), none, .read, 0⟩, ⟨(some 25), .load none (.t 24), none, .read, 0⟩, ⟨(some 14), .move (.t 0), none, .read, 0⟩, ⟨(some 15), .move (.t 6), none, .read, 0⟩, ⟨(some 26), .indexAddr 1 (.t 14) (.t 15), none, .read, 0⟩, ⟨none, .store 1 (.t 26) (.t 21), none, .write, 0⟩, ⟨(some 16), .move (.t 0), none, .read, 0⟩, ⟨(some 17), .move (.t 7), none, .read, 0⟩, ⟨(some 27), .indexAddr 1 (.t 16) (.t 17), none, .read, 1⟩, ⟨none, .store 1 (.t 27) (.t 25), none, .write, 1⟩])
 (.seq (.region [⟨(some 28), .move (.t 6), none, .write, 0⟩, ⟨(some 29), .arith .add (.t 28) (.c (.int .i64 1)), none, .write, 0⟩, ⟨(some 6), .move (.t 29), none, .write, 0⟩])
 (.region [⟨(some 30), .move (.t 7), none, .write, 0⟩, ⟨(some 31), .arith .sub (.t 30) (.c (.int .i64 1)), none, .write, 0⟩, ⟨(some 7), .move (.t 31), none, .write, 0⟩])))))

/-- slices.reverseRangeOrdered[int] -/
def t174 : DFunc := { ntmps := 32, results := [], mode := .full, body :=
 (.seq (.region [⟨(some 8), .move (.t 1), none, .write, 0⟩, ⟨(some 6), .move (.t 8), none, .write, 0⟩])
 (.seq (.region [⟨(some 9), .move (.t 2), none, .write, 0⟩, ⟨(some 10), .arith .sub (.t 9) (.c (.int .i64 1)), none, .write, 0⟩, ⟨(some 7), .move (.t 10), none, .write, 0⟩])
 (.block 0 (.loop t174l0)))) }

theorem c174 : compFunc Tryz.prog Tryz.f174 .full = some t174 := by kernel_rfl

def t175l0 : DCode :=
 (.seq (.seq (.draw [⟨(some 17), .move (.t 7), none, .read, 0⟩, ⟨(some 18), .move (.t 2), none, .read, 0⟩, ⟨(some 19), .arith .lss (.t 17) (.t 18), none, .read, 0⟩, ⟨(some 20), .move (.t 19), none, .read, 0⟩, ⟨(some 21), .move (.t 0), (some (20, true)), .read, 0⟩, ⟨(some 22), .move (.t 7), (some (20, true)), .read, 0⟩, ⟨(some 23), .indexAddr 1 (.t 21) (.t 22), (some (20, true)), .read, 0⟩, ⟨(some 24), .load none (.t 23), (some (20, true)), .read, 0⟩, ⟨(some 25), .move (.t 0), (some (20, true)), .read, 0⟩, ⟨(some 26), .move (.t 7), (some (20, true)), .read, 0⟩, ⟨(some 27), .arith .sub (.t 26) (.c (.int .i64 1)), (some (20, true)), .read, 0⟩, ⟨(some 28), .indexAddr 1 (.t 25) (.t 27), (some (20, true)), .read, 0⟩, ⟨(some 29), .load none (.t 28), (some (20, true)), .read, 0⟩, ⟨(some 30), .call (.c (.func 176 [])) [(.t 24), (.t 29)], (some (20, true)), .write, 0⟩, ⟨(some 31), .un .not (.t 30), (some (20, true)), .read, 1⟩, ⟨(some 32), .pick (.t 20) (.t 31) (.c (.bool false)), none, .read, 1⟩])
 (.cond (.t 32) .skip (.exit 2)))
 (.block 3 (.region [⟨(some 33), .move (.t 7), none, .write, 0⟩, ⟨(some 34), .arith .add (.t 33) (.c (.int .i64 1)), none, .write, 0⟩, ⟨(some 7), .move (.t 34), none, .write, 0⟩])))

def t175l1 : DCode :=
 (.seq (.seq (.region [⟨(some 64), .move (.t 9), none, .write, 0⟩, ⟨(some 65), .arith .geq (.t 64) (.c (.int .i64 1)), none, .write, 0⟩])
 (.cond (.t 65) .skip (.exit 4)))
 (.seq (.block 5 (.seq (.seq (.draw [⟨(some 68), .move (.t 0), none, .read, 0⟩, ⟨(some 69), .move (.t 9), none, .read, 0⟩, ⟨(some 70), .indexAddr 1 (.t 68) (.t 69), none, .read, 0⟩, ⟨(some 71), .load none (.t 70), none, .read, 0⟩, ⟨(some 72), .move (.t 0), none, .read, 0⟩, ⟨(some 73), .move (.t 9), none, .read, 0⟩, ⟨(some 74), .arith .sub (.t 73) (.c (.int .i64 1)), none, .read, 0⟩, ⟨(some 75), .indexAddr 1 (.t 72) (.t 74), none, .read, 0⟩, ⟨(some 76), .load none (.t 75), none, .read, 0⟩, ⟨(some 77), .call (.c (.func 176 [])) [(.t 71), (.t 76)], none, .write, 0⟩, ⟨(some 78), .un .not (.t 77), none, .read, 1⟩])
 (.cond (.t 78) (.exit 4) .skip))
 (.draw [⟨(some 84), .move (.t 0), none, .read, 0⟩, ⟨(some 85), .move (.t 9), none, .read, 0⟩, ⟨(some 86), .arith .sub (.t 85) (.c (.int .i64 1)), none, .read, 0⟩, ⟨(some 87), .indexAddr 1 (.t 84) (.t 86), none, .read, 0⟩, ⟨(some 88), .load none (.t 87), none, .read, 0⟩, ⟨(some 89), .move (.t 0), none, .read, 0⟩, ⟨(some 90), .move (.t 9), none, .read, 0⟩, ⟨(some 91), .indexAddr 1 (.t 89) (.t 90), none, .read, 0⟩, ⟨(some 92), .load none (.t 91), none, .read, 0⟩, ⟨(some 79), .move (.t 0), none, .read, 0⟩, ⟨(some 80), .move (.t 9), none, .read, 0⟩, ⟨(some 93), .indexAddr 1 (.t 79) (.t 80), none, .read, 0⟩, ⟨none, .store 1 (.t 93) (.t 88), none, .write, 0⟩, ⟨(some 81), .move (.t 0), none, .read, 0⟩, ⟨(some 82), .move (.t 9), none, .read, 0⟩, ⟨(some 83), .arith .sub (.t 82) (.c (.int .i64 1)), none, .read, 0⟩, ⟨(some 94), .indexAddr 1 (.t 81) (.t 83), none, .read, 1⟩, ⟨none, .store 1 (.t 94) (.t 92), none, .write, 1⟩])))
 (.region [⟨(some 66), .move (.t 9), none, .write, 0⟩, ⟨(some 67), .arith .sub (.t 66) (.c (.int .i64 1)), none, .write, 0⟩, ⟨(some 9), .move (.t 67), none, .write, 0⟩])))

def t175l2 : DCode :=
 (.seq (.seq (.region [⟨(some 101), .move (.t 10), none, .write, 0⟩, ⟨(some 102), .move (.t 2), none, .write, 0⟩, ⟨(some 103), .arith .lss (.t 101) (.t 102), none, .write, 0⟩])
 (.cond (.t 103) .skip (.exit 6)))
 (.seq (.block 7 (.seq (.seq (.draw [⟨(some 106), .move (.t 0), none, .read, 0⟩, ⟨(some 107), .move (.t 10), none, .read, 0⟩, ⟨(some 108), .indexAddr 1 (.t 106) (.t 107), none, .read, 0⟩, ⟨(some 109), .load none (.t 108), none, .read, 0⟩, ⟨(some 110), .move (.t 0), none, .read, 0⟩, ⟨(some 111), .move (.t 10), none, .read, 0⟩, ⟨(some 112), .arith .sub (.t 111) (.c (.int .i64 1)), none, .read, 0⟩, ⟨(some 113), .indexAddr 1 (.t 110) (.t 112), none, .read, 0⟩, ⟨(some 114), .load none (.t 113), none, .read, 0⟩, ⟨(some 115), .call (.c (.func 176 [])) [(.t 109), (.t 114)], none, .write, 0⟩, ⟨(some 116), .un .not (.t 115), none, .read, 1⟩])
 (.cond (.t 116) (.exit 6) .skip))
 (.draw [⟨(some 122), .move (.t 0), none, .read, 0⟩, ⟨(some 123), .move (.t 10), none, .read, 0⟩, ⟨(some 124), .arith .sub (.t 123) (.c (.int .i64 1)), none, .read, 0⟩, ⟨(some 125), .indexAddr 1 (.t 122) (.t 124), none, .read, 0⟩, ⟨(some 126), .load none (.t 125), none, .read, 0⟩, ⟨(some 127), .move (.t 0), none, .read, 0⟩, ⟨(some 128), .move (.t 10), none, .read, 0⟩, ⟨(some 129), .indexAddr 1 (.t 127) (.t 128), none, .read, 0⟩, ⟨(some 130), .load none (.t 129), none, .read, 0⟩, ⟨(some 117), .move (.t 0), none, .read, 0⟩, ⟨(some 118), .move (.t 10), none, .read, 0⟩, ⟨(some 131), .indexAddr 1 (.t 117) (.t 118), none, .read, 0⟩, ⟨none, .store 1 (.t 131) (.t 126), none, .write, 0⟩, ⟨(some 119), .move (.t 0), none, .read, 0⟩, ⟨(some 120), .move (.t 10), none, .read, 0⟩, ⟨(some 121), .arith .sub (.t 120) (.c (.int .i64 1)), none, .read, 0⟩, ⟨(some 132), .indexAddr 1 (.t 119) (.t 121), none, .read, 1⟩, ⟨none, .store 1 (.t 132) (.t 130), none, .write, 1⟩])))
 (.region [⟨(some 104), .move (.t 10), none, .write, 0⟩, ⟨(some 105), .arith .add (.t 104) (.c (.int .i64 1)), none, .write, 0⟩, ⟨(some 10), .move (.t 105), none, .write, 0⟩])))

def t175k0 : DCode :=
 (.seq (.region [⟨(some 95), .move (.t 2), none, .write, 0⟩, ⟨(some 96), .move (.t 7), none, .write, 0⟩, ⟨(some 97), .arith .sub (.t 95) (.t 96), none, .write, 0⟩, ⟨(some 98), .arith .geq (.t 97) (.c (.int .i64 2)), none, .write, 0⟩])
 (.cond (.t 98) (.seq (.region [⟨(some 99), .move (.t 7), none, .write, 0⟩, ⟨(some 100), .arith .add (.t 99) (.c (.int .i64 1)), none, .write, 0⟩, ⟨(some 10), .move (.t 100), none, .write, 0⟩])
 (.block 6 (.loop t175l2))) .skip))

def t175k1 : DCode :=
 (.seq (.seq (.region [⟨(some 35), .move (.t 7), none, .write, 0⟩, ⟨(some 36), .move (.t 2), none, .write, 0⟩, ⟨(some 37), .arith .eql (.t 35) (.t 36), none, .write, 0⟩])
 (.cond (.t 37) (.seq (.region [⟨(some 6), .move (.c (.bool true)), none, .write, 0⟩])
 .ret) .skip))
 (.seq (.seq (.region [⟨(some 38), .move (.t 2), none, .write, 0⟩, ⟨(some 39), .move (.t 1), none, .write, 0⟩, ⟨(some 40), .arith .sub (.t 38) (.t 39), none, .write, 0⟩, ⟨(some 41), .arith .lss (.t 40) (.c (.int .i64 50)), none, .write, 0⟩])
 (.cond (.t 41) (.seq (.region [⟨(some 6), .move (.c (.bool false)), none, .write, 0⟩])
 .ret) .skip))
 (.seq (.draw [⟨(some 47), .move (.t 0), none, .read, 0⟩, ⟨(some 48), .move (.t 7), none, .read, 0⟩, ⟨(some 49), .arith .sub (.t 48) (.c (.int .i64 1)), none, .read, 0⟩, ⟨(some 50), .indexAddr 1 (.t 47) (.t 49), none, .read, 0⟩, ⟨(some 51), .load none (.t 50), none, .read, 0⟩, ⟨(some 52), .move (.t 0), none, .read, 0⟩, ⟨(some 53), .move (.t 7), none, .read, 0⟩, ⟨(some 54), .indexAddr 1 (.t 52) (.t 53), none, .read, 0⟩, ⟨(some 55), .load none (.t 54), none, .read, 0⟩, ⟨(some 42), .move (.t 0), none, .read, 0⟩, ⟨(some 43), .move (.t 7), none, .read, 0⟩, ⟨(some 56), .indexAddr 1 (.t 42) (.t 43), none, .read, 0⟩, ⟨none, .store 1 (.t 56) (.t 51), none, .write, 0⟩, ⟨(some 44), .move (.t 0), none, .read, 0⟩, ⟨(some 45), .move (.t 7), none, .read, 0⟩, ⟨(some 46), .arith .sub (.t 45) (.c (.int .i64 1)), none, .read, 0⟩, ⟨(some 57), .indexAddr 1 (.t 44) (.t 46), none, .read, 1⟩, ⟨none, .store 1 (.t 57) (.t 55), none, .write, 1⟩])
 (.seq (.seq (.region [⟨(some 58), .move (.t 7), none, .write, 0⟩, ⟨(some 59), .move (.t 1), none, .write, 0⟩, ⟨(some 60), .arith .sub (.t 58) (.t 59), none, .write, 0⟩, ⟨(some 61), .arith .geq (.t 60) (.c (.int .i64 2)), none, .write, 0⟩])
 (.cond (.t 61) (.seq (.region [⟨(some 62), .move (.t 7), none, .write, 0⟩, ⟨(some 63), .arith .sub (.t 62) (.c (.int .i64 1)), none, .write, 0⟩, ⟨(some 9), .move (.t 63), none, .write, 0⟩])
 (.block 4 (.loop t175l1))) .skip))
 t175k0))))

def t175k2 : DCode :=
 (.region [⟨(some 15), .move (.t 8), none, .write, 0⟩, ⟨(some 16), .arith .add (.t 15) (.c (.int .i64 1)), none, .write, 0⟩, ⟨(some 8), .move (.t 16), none, .write, 0⟩])

def t175l3 : DCode :=
 (.seq (.seq (.region [⟨(some 13), .move (.t 8), none, .write, 0⟩, ⟨(some 14), .arith .lss (.t 13) (.c (.int .i64 5)), none, .write, 0⟩])
 (.cond (.t 14) .skip (.exit 0)))
 (.seq (.block 1 (.seq (.block 2 (.loop t175l0))
 t175k1))
 t175k2))

def t175k3 : DCode :=
 (.seq (.region [⟨(some 6), .move (.c (.bool false)), none, .write, 0⟩])
 .ret)

/-- slices.partialInsertionSortOrdered[int] -/
def t175 : DFunc := { ntmps := 133, results := [(.t 6)], mode := .full, body :=
 (.seq (.region [⟨(some 6), .move (.c (.bool false)), none, .write, 0⟩])
 (.seq (.region [⟨(some 11), .move (.t 1), none, .write, 0⟩, ⟨(some 12), .arith .add (.t 11) (.c (.int .i64 1)), none, .write, 0⟩, ⟨(some 7), .move (.t 12), none, .write, 0⟩])
 (.seq (.seq (.region [⟨(some 8), .move (.c (.int .i64 0)), none, .write, 0⟩])
 (.block 0 (.loop t175l3)))
 t175k3))) }

theorem c175 : compFunc Tryz.prog Tryz.f175 .full = some t175 := by kernel_rfl

/-- cmp.Less[int] -/
def t176 : DFunc := { ntmps := 17, results := [(.t 4)], mode := .pure, body :=
 (.seq (.region [⟨(some 4), .move (.c (.bool false)), none, .write, 0⟩])
 (.seq (.region [⟨(some 5), .move (.t 0), none, .write, 0⟩, ⟨(some 6), .call (.c (.func 183 [])) [(.t 5)], none, .write, 0⟩, ⟨(some 7), .move (.t 6), none, .write, 0⟩, ⟨(some 8), .move (.t 1), (some (7, true)), .write, 0⟩, ⟨(some 9), .call (.c (.func 183 [])) [(.t 8)], (some (7, true)), .write, 0⟩, ⟨(some 10), .un .not (.t 9), (some (7, true)), .write, 0⟩, ⟨(some 11), .pick (.t 7) (.t 10) (.c (.bool false)), none, .write, 0⟩, ⟨(some 12), .move (.t 11), none, .write, 0⟩, ⟨(some 13), .move (.t 0), (some (12, false)), .write, 0⟩, ⟨(some 14), .move (.t 1), (some (12, false)), .write, 0⟩, ⟨(some 15), .arith .lss (.t 13) (.t 14), (some (12, false)), .write, 0⟩, ⟨(some 16), .pick (.t 12) (.c (.bool true)) (.t 15), none, .write, 0⟩, ⟨(some 4), .move (.t 16), none, .write, 0⟩])
 .ret)) }

theorem c176 : compFunc Tryz.prog Tryz.f176 .pure = some t176 := by kernel_rfl

def t177l0 : DCode :=
 (.seq (.seq (.draw [⟨(some 29), .move (.t 9), none, .read, 0⟩, ⟨(some 30), .move (.t 10), none, .read, 0⟩, ⟨(some 31), .arith .leq (.t 29) (.t 30), none, .read, 0⟩, ⟨(some 32), .move (.t 31), none, .read, 0⟩, ⟨(some 33), .move (.t 0), (some (32, true)), .read, 0⟩, ⟨(some 34), .move (.t 1), (some (32, true)), .read, 0⟩, ⟨(some 35), .indexAddr 1 (.t 33) (.t 34), (some (32, true)), .read, 0⟩, ⟨(some 36), .load none (.t 35), (some (32, true)), .read, 0⟩, ⟨(some 37), .move (.t 0), (some (32, true)), .read, 0⟩, ⟨(some 38), .move (.t 9), (some (32, true)), .read, 0⟩, ⟨(some 39), .indexAddr 1 (.t 37) (.t 38), (some (32, true)), .read, 0⟩, ⟨(some 40), .load none (.t 39), (some (32, true)), .read, 0⟩, ⟨(some 41), .call (.c (.func 176 [])) [(.t 36), (.t 40)], (some (32, true)), .write, 0⟩, ⟨(some 42), .un .not (.t 41), (some (32, true)), .read, 1⟩, ⟨(some 43), .pick (.t 32) (.t 42) (.c (.bool false)), none, .read, 1⟩])
 (.cond (.t 43) .skip (.exit 2)))
 (.block 3 (.region [⟨(some 44), .move (.t 9), none, .write, 0⟩, ⟨(some 45), .arith .add (.t 44) (.c (.int .i64 1)), none, .write, 0⟩, ⟨(some 9), .move (.t 45), none, .write, 0⟩])))

def t177l1 : DCode :=
 (.seq (.seq (.draw [⟨(some 46), .move (.t 9), none, .read, 0⟩, ⟨(some 47), .move (.t 10), none, .read, 0⟩, ⟨(some 48), .arith .leq (.t 46) (.t 47), none, .read, 0⟩, ⟨(some 49), .move (.t 48), none, .read, 0⟩, ⟨(some 50), .move (.t 0), (some (49, true)), .read, 0⟩, ⟨(some 51), .move (.t 1), (some (49, true)), .read, 0⟩, ⟨(some 52), .indexAddr 1 (.t 50) (.t 51), (some (49, true)), .read, 0⟩, ⟨(some 53), .load none (.t 52), (some (49, true)), .read, 0⟩, ⟨(some 54), .move (.t 0), (some (49, true)), .read, 0⟩, ⟨(some 55), .move (.t 10), (some (49, true)), .read, 0⟩, ⟨(some 56), .indexAddr 1 (.t 54) (.t 55), (some (49, true)), .read, 0⟩, ⟨(some 57), .load none (.t 56), (some (49, true)), .read, 0⟩, ⟨(some 58), .call (.c (.func 176 [])) [(.t 53), (.t 57)], (some (49, true)), .write, 0⟩, ⟨(some 59), .pick (.t 49) (.t 58) (.c (.bool false)), none, .read, 1⟩])
 (.cond (.t 59) .skip (.exit 4)))
 (.block 5 (.region [⟨(some 60), .move (.t 10), none, .write, 0⟩, ⟨(some 61), .arith .sub (.t 60) (.c (.int .i64 1)), none, .write, 0⟩, ⟨(some 10), .move (.t 61), none, .write, 0⟩])))

def t177k0 : DCode :=
 (.seq (.seq (.region [⟨(some 62), .move (.t 9), none, .write, 0⟩, ⟨(some 63), .move (.t 10), none, .write, 0⟩, ⟨(some 64), .arith .gtr (.t 62) (.t 63), none, .write, 0⟩])
 (.cond (.t 64) (.exit 0) .skip))
 (.seq (.draw [⟨(some 69), .move (.t 0), none, .read, 0⟩, ⟨(some 70), .move (.t 10), none, .read, 0⟩, ⟨(some 71), .indexAddr 1 (.t 69) (.t 70), none, .read, 0⟩, ⟨(some 72), .load none (.t 71), none, .read, 0⟩, ⟨(some 73), .move (.t 0), none, .read, 0⟩, ⟨(some 74), .move (.t 9), none, .read, 0⟩, ⟨(some 75), .indexAddr 1 (.t 73) (.t 74), none, .read, 0⟩, ⟨(some 76), .load none (.t 75), none, .read, 0⟩, ⟨(some 65), .move (.t 0), none, .read, 0⟩, ⟨(some 66), .move (.t 9), none, .read, 0⟩, ⟨(some 77), .indexAddr 1 (.t 65) (.t 66), none, .read, 0⟩, ⟨none, .store 1 (.t 77) (.t 72), none, .write, 0⟩, ⟨(some 67), .move (.t 0), none, .read, 0⟩, ⟨(some 68), .move (.t 10), none, .read, 0⟩, ⟨(some 78), .indexAddr 1 (.t 67) (.t 68), none, .read, 1⟩, ⟨none, .store 1 (.t 78) (.t 76), none, .write, 1⟩])
 (.seq (.region [⟨(some 79), .move (.t 9), none, .write, 0⟩, ⟨(some 80), .arith .add (.t 79) (.c (.int .i64 1)), none, .write, 0⟩, ⟨(some 9), .move (.t 80), none, .write, 0⟩])
 (.region [⟨(some 81), .move (.t 10), none, .write, 0⟩, ⟨(some 82), .arith .sub (.t 81) (.c (.int .i64 1)), none, .write, 0⟩, ⟨(some 10), .move (.t 82), none, .write, 0⟩]))))

def t177k1 : DCode :=
 (.seq (.block 4 (.loop t177l1))
 t177k0)

def t177l2 : DCode :=
 (.block 1 (.seq (.block 2 (.loop t177l0))
 t177k1))

def t177k2 : DCode :=
 (.seq (.region [⟨(some 83), .move (.t 9), none, .write, 0⟩, ⟨(some 8), .move (.t 83), none, .write, 0⟩])
 .ret)

/-- slices.partitionEqualOrdered[int] -/
def t177 : DFunc := { ntmps := 84, results := [(.t 8)], mode := .full, body :=
 (.seq (.region [⟨(some 8), .move (.c (.int .i64 0)), none, .write, 0⟩])
 (.seq (.draw [⟨(some 15), .move (.t 0), none, .read, 0⟩, ⟨(some 16), .move (.t 3), none, .read, 0⟩, ⟨(some 17), .indexAddr 1 (.t 15) (.t 16), none, .read, 0⟩, ⟨(some 18), .load none (.t 17), none, .read, 0⟩, ⟨(some 19), .move (.t 0), none, .read, 0⟩, ⟨(some 20), .move (.t 1), none, .read, 0⟩, ⟨(some 21), .indexAddr 1 (.t 19) (.t 20), none, .read, 0⟩, ⟨(some 22), .load none (.t 21), none, .read, 0⟩, ⟨(some 11), .move (.t 0), none, .read, 0⟩, ⟨(some 12), .move (.t 1), none, .read, 0⟩, ⟨(some 23), .indexAddr 1 (.t 11) (.t 12), none, .read, 0⟩, ⟨none, .store 1 (.t 23) (.t 18), none, .write, 0⟩, ⟨(some 13), .move (.t 0), none, .read, 0⟩, ⟨(some 14), .move (.t 3), none, .read, 0⟩, ⟨(some 24), .indexAddr 1 (.t 13) (.t 14), none, .read, 1⟩, ⟨none, .store 1 (.t 24) (.t 22), none, .write, 1⟩])
 (.seq (.region [⟨(some 25), .move (.t 1), none, .write, 0⟩, ⟨(some 26), .arith .add (.t 25) (.c (.int .i64 1)), none, .write, 0⟩, ⟨(some 27), .move (.t 2), none, .write, 0⟩, ⟨(some 28), .arith .sub (.t 27) (.c (.int .i64 1)), none, .write, 0⟩, ⟨(some 9), .move (.t 26), none, .write, 0⟩, ⟨(some 10), .move (.t 28), none, .write, 0⟩])
 (.seq (.block 0 (.loop t177l2))
 t177k2)))) }

theorem c177 : compFunc Tryz.prog Tryz.f177 .full = some t177 := by kernel_rfl

def t178l0 : DCode :=
 (.seq (.seq (.draw [⟨(some 30), .move (.t 10), none, .read, 0⟩, ⟨(some 31), .move (.t 11), none, .read, 0⟩, ⟨(some 32), .arith .leq (.t 30) (.t 31), none, .read, 0⟩, ⟨(some 33), .move (.t 32), none, .read, 0⟩, ⟨(some 34), .move (.t 0), (some (33, true)), .read, 0⟩, ⟨(some 35), .move (.t 10), (some (33, true)), .read, 0⟩, ⟨(some 36), .indexAddr 1 (.t 34) (.t 35), (some (33, true)), .read, 0⟩, ⟨(some 37), .load none (.t 36), (some (33, true)), .read, 0⟩, ⟨(some 38), .move (.t 0), (some (33, true)), .read, 0⟩, ⟨(some 39), .move (.t 1), (some (33, true)), .read, 0⟩, ⟨(some 40), .indexAddr 1 (.t 38) (.t 39), (some (33, true)), .read, 0⟩, ⟨(some 41), .load none (.t 40), (some (33, true)), .read, 0⟩, ⟨(some 42), .call (.c (.func 176 [])) [(.t 37), (.t 41)], (some (33, true)), .write, 0⟩, ⟨(some 43), .pick (.t 33) (.t 42) (.c (.bool false)), none, .read, 1⟩])
 (.cond (.t 43) .skip (.exit 0)))
 (.block 1 (.region [⟨(some 44), .move (.t 10), none, .write, 0⟩, ⟨(some 45), .arith .add (.t 44) (.c (.int .i64 1)), none, .write, 0⟩, ⟨(some 10), .move (.t 45), none, .write, 0⟩])))

def t178l1 : DCode :=
 (.seq (.seq (.draw [⟨(some 46), .move (.t 10), none, .read, 0⟩, ⟨(some 47), .move (.t 11), none, .read, 0⟩, ⟨(some 48), .arith .leq (.t 46) (.t 47), none, .read, 0⟩, ⟨(some 49), .move (.t 48), none, .read, 0⟩, ⟨(some 50), .move (.t 0), (some (49, true)), .read, 0⟩, ⟨(some 51), .move (.t 11), (some (49, true)), .read, 0⟩, ⟨(some 52), .indexAddr 1 (.t 50) (.t 51), (some (49, true)), .read, 0⟩, ⟨(some 53), .load none (.t 52), (some (49, true)), .read, 0⟩, ⟨(some 54), .move (.t 0), (some (49, true)), .read, 0⟩, ⟨(some 55), .move (.t 1), (some (49, true)), .read, 0⟩, ⟨(some 56), .indexAddr 1 (.t 54) (.t 55), (some (49, true)), .read, 0⟩, ⟨(some 57), .load none (.t 56), (some (49, true)), .read, 0⟩, ⟨(some 58), .call (.c (.func 176 [])) [(.t 53), (.t 57)], (some (49, true)), .write, 0⟩, ⟨(some 59), .un .not (.t 58), (some (49, true)), .read, 1⟩, ⟨(some 60), .pick (.t 49) (.t 59) (.c (.bool false)), none, .read, 1⟩])
 (.cond (.t 60) .skip (.exit 2)))
 (.block 3 (.region [⟨(some 61), .move (.t 11), none, .write, 0⟩, ⟨(some 62), .arith .sub (.t 61) (.c (.int .i64 1)), none, .write, 0⟩, ⟨(some 11), .move (.t 62), none, .write, 0⟩])))

def t178l2 : DCode :=
 (.seq (.seq (.draw [⟨(some 99), .move (.t 10), none, .read, 0⟩, ⟨(some 100), .move (.t 11), none, .read, 0⟩, ⟨(some 101), .arith .leq (.t 99) (.t 100), none, .read, 0⟩, ⟨(some 102), .move (.t 101), none, .read, 0⟩, ⟨(some 103), .move (.t 0), (some (102, true)), .read, 0⟩, ⟨(some 104), .move (.t 10), (some (102, true)), .read, 0⟩, ⟨(some 105), .indexAddr 1 (.t 103) (.t 104), (some (102, true)), .read, 0⟩, ⟨(some 106), .load none (.t 105), (some (102, true)), .read, 0⟩, ⟨(some 107), .move (.t 0), (some (102, true)), .read, 0⟩, ⟨(some 108), .move (.t 1), (some (102, true)), .read, 0⟩, ⟨(some 109), .indexAddr 1 (.t 107) (.t 108), (some (102, true)), .read, 0⟩, ⟨(some 110), .load none (.t 109), (some (102, true)), .read, 0⟩, ⟨(some 111), .call (.c (.func 176 [])) [(.t 106), (.t 110)], (some (102, true)), .write, 0⟩, ⟨(some 112), .pick (.t 102) (.t 111) (.c (.bool false)), none, .read, 1⟩])
 (.cond (.t 112) .skip (.exit 6)))
 (.block 7 (.region [⟨(some 113), .move (.t 10), none, .write, 0⟩, ⟨(some 114), .arith .add (.t 113) (.c (.int .i64 1)), none, .write, 0⟩, ⟨(some 10), .move (.t 114), none, .write, 0⟩])))

def t178l3 : DCode :=
 (.seq (.seq (.draw [⟨(some 115), .move (.t 10), none, .read, 0⟩, ⟨(some 116), .move (.t 11), none, .read, 0⟩, ⟨(some 117), .arith .leq (.t 115) (.t 116), none, .read, 0⟩, ⟨(some 118), .move (.t 117), none, .read, 0⟩, ⟨(some 119), .move (.t 0), (some (118, true)), .read, 0⟩, ⟨(some 120), .move (.t 11), (some (118, true)), .read, 0⟩, ⟨(some 121), .indexAddr 1 (.t 119) (.t 120), (some (118, true)), .read, 0⟩, ⟨(some 122), .load none (.t 121), (some (118, true)), .read, 0⟩, ⟨(some 123), .move (.t 0), (some (118, true)), .read, 0⟩, ⟨(some 124), .move (.t 1), (some (118, true)), .read, 0⟩, ⟨(some 125), .indexAddr 1 (.t 123) (.t 124), (some (118, true)), .read, 0⟩, ⟨(some 126), .load none (.t 125), (some (118, true)), .read, 0⟩, ⟨(some 127), .call (.c (.func 176 [])) [(.t 122), (.t 126)], (some (118, true)), .write, 0⟩, ⟨(some 128), .un .not (.t 127), (some (118, true)), .read, 1⟩, ⟨(some 129), .pick (.t 118) (.t 128) (.c (.bool false)), none, .read, 1⟩])
 (.cond (.t 129) .skip (.exit 8)))
 (.block 9 (.region [⟨(some 130), .move (.t 11), none, .write, 0⟩, ⟨(some 131), .arith .sub (.t 130) (.c (.int .i64 1)), none, .write, 0⟩, ⟨(some 11), .move (.t 131), none, .write, 0⟩])))

def t178k0 : DCode :=
 (.seq (.seq (.region [⟨(some 132), .move (.t 10), none, .write, 0⟩, ⟨(some 133), .move (.t 11), none, .write, 0⟩, ⟨(some 134), .arith .gtr (.t 132) (.t 133), none, .write, 0⟩])
 (.cond (.t 134) (.exit 4) .skip))
 (.seq (.draw [⟨(some 139), .move (.t 0), none, .read, 0⟩, ⟨(some 140), .move (.t 11), none, .read, 0⟩, ⟨(some 141), .indexAddr 1 (.t 139) (.t 140), none, .read, 0⟩, ⟨(some 142), .load none (.t 141), none, .read, 0⟩, ⟨(some 143), .move (.t 0), none, .read, 0⟩, ⟨(some 144), .move (.t 10), none, .read, 0⟩, ⟨(some 145), .indexAddr 1 (.t 143) (.t 144), none, .read, 0⟩, ⟨(some 146), .load none (.t 145), none, .read, 0⟩, ⟨(some 135), .move (.t 0), none, .read, 0⟩, ⟨(some 136), .move (.t 10), none, .read, 0⟩, ⟨(some 147), .indexAddr 1 (.t 135) (.t 136), none, .read, 0⟩, ⟨none, .store 1 (.t 147) (.t 142), none, .write, 0⟩, ⟨(some 137), .move (.t 0), none, .read, 0⟩, ⟨(some 138), .move (.t 11), none, .read, 0⟩, ⟨(some 148), .indexAddr 1 (.t 137) (.t 138), none, .read, 1⟩, ⟨none, .store 1 (.t 148) (.t 146), none, .write, 1⟩])
 (.seq (.region [⟨(some 149), .move (.t 10), none, .write, 0⟩, ⟨(some 150), .arith .add (.t 149) (.c (.int .i64 1)), none, .write, 0⟩, ⟨(some 10), .move (.t 150), none, .write, 0⟩])
 (.region [⟨(some 151), .move (.t 11), none, .write, 0⟩, ⟨(some 152), .arith .sub (.t 151) (.c (.int .i64 1)), none, .write, 0⟩, ⟨(some 11), .move (.t 152), none, .write, 0⟩]))))

def t178k1 : DCode :=
 (.seq (.block 8 (.loop t178l3))
 t178k0)

def t178l4 : DCode :=
 (.block 5 (.seq (.block 6 (.loop t178l2))
 t178k1))

def t178k2 : DCode :=
 (.seq (.draw [⟨(some 157), .move (.t 0), none, .read, 0⟩, ⟨(some 158), .move (.t 1), none, .read, 0⟩, ⟨(some 159), .indexAddr 1 (.t 157) (.t 158), none, .read, 0⟩, ⟨(some 160), .load none (.t 159), none, .read, 0⟩, ⟨(some 161), .move (.t 0), none, .read, 0⟩, ⟨(some 162), .move (.t 11), none, .read, 0⟩, ⟨(some 163), .indexAddr 1 (.t 161) (.t 162), none, .read, 0⟩, ⟨(some 164), .load none (.t 163), none, .read, 0⟩, ⟨(some 153), .move (.t 0), none, .read, 0⟩, ⟨(some 154), .move (.t 11), none, .read, 0⟩, ⟨(some 165), .indexAddr 1 (.t 153) (.t 154), none, .read, 0⟩, ⟨none, .store 1 (.t 165) (.t 160), none, .write, 0⟩, ⟨(some 155), .move (.t 0), none, .read, 0⟩, ⟨(some 156), .move (.t 1), none, .read, 0⟩, ⟨(some 166), .indexAddr 1 (.t 155) (.t 156), none, .read, 1⟩, ⟨none, .store 1 (.t 166) (.t 164), none, .write, 1⟩])
 (.seq (.region [⟨(some 167), .move (.t 11), none, .write, 0⟩, ⟨(some 8), .move (.t 167), none, .write, 0⟩, ⟨(some 9), .move (.c (.bool false)), none, .write, 0⟩])
 .ret))

def t178k3 : DCode :=
 (.seq (.seq (.region [⟨(some 63), .move (.t 10), none, .write, 0⟩, ⟨(some 64), .move (.t 11), none, .write, 0⟩, ⟨(some 65), .arith .gtr (.t 63) (.t 64), none, .write, 0⟩])
 (.cond (.t 65) (.seq (.draw [⟨(some 70), .move (.t 0), none, .read, 0⟩, ⟨(some 71), .move (.t 1), none, .read, 0⟩, ⟨(some 72), .indexAddr 1 (.t 70) (.t 71), none, .read, 0⟩, ⟨(some 73), .load none (.t 72), none, .read, 0⟩, ⟨(some 74), .move (.t 0), none, .read, 0⟩, ⟨(some 75), .move (.t 11), none, .read, 0⟩, ⟨(some 76), .indexAddr 1 (.t 74) (.t 75), none, .read, 0⟩, ⟨(some 77), .load none (.t 76), none, .read, 0⟩, ⟨(some 66), .move (.t 0), none, .read, 0⟩, ⟨(some 67), .move (.t 11), none, .read, 0⟩, ⟨(some 78), .indexAddr 1 (.t 66) (.t 67), none, .read, 0⟩, ⟨none, .store 1 (.t 78) (.t 73), none, .write, 0⟩, ⟨(some 68), .move (.t 0), none, .read, 0⟩, ⟨(some 69), .move (.t 1), none, .read, 0⟩, ⟨(some 79), .indexAddr 1 (.t 68) (.t 69), none, .read, 1⟩, ⟨none, .store 1 (.t 79) (.t 77), none, .write, 1⟩])
 (.seq (.region [⟨(some 80), .move (.t 11), none, .write, 0⟩, ⟨(some 8), .move (.t 80), none, .write, 0⟩, ⟨(some 9), .move (.c (.bool true)), none, .write, 0⟩])
 .ret)) .skip))
 (.seq (.draw [⟨(some 85), .move (.t 0), none, .read, 0⟩, ⟨(some 86), .move (.t 11), none, .read, 0⟩, ⟨(some 87), .indexAddr 1 (.t 85) (.t 86), none, .read, 0⟩, ⟨(some 88), .load none (.t 87), none, .read, 0⟩, ⟨(some 89), .move (.t 0), none, .read, 0⟩, ⟨(some 90), .move (.t 10), none, .read, 0⟩, ⟨(some 91), .indexAddr 1 (.t 89) (.t 90), none, .read, 0⟩, ⟨(some 92), .load none (.t 91), none, .read, 0⟩, ⟨(some 81), .move (.t 0), none, .read, 0⟩, ⟨(some 82), .move (.t 10), none, .read, 0⟩, ⟨(some 93), .indexAddr 1 (.t 81) (.t 82), none, .read, 0⟩, ⟨none, .store 1 (.t 93) (.t 88), none, .write, 0⟩, ⟨(some 83), .move (.t 0), none, .read, 0⟩, ⟨(some 84), .move (.t 11), none, .read, 0⟩, ⟨(some 94), .indexAddr 1 (.t 83) (.t 84), none, .read, 1⟩, ⟨none, .store 1 (.t 94) (.t 92), none, .write, 1⟩])
 (.seq (.region [⟨(some 95), .move (.t 10), none, .write, 0⟩, ⟨(some 96), .arith .add (.t 95) (.c (.int .i64 1)), none, .write, 0⟩, ⟨(some 10), .move (.t 96), none, .write, 0⟩])
 (.seq (.region [⟨(some 97), .move (.t 11), none, .write, 0⟩, ⟨(some 98), .arith .sub (.t 97) (.c (.int .i64 1)), none, .write, 0⟩, ⟨(some 11), .move (.t 98), none, .write, 0⟩])
 (.seq (.block 4 (.loop t178l4))
 t178k2)))))

def t178k4 : DCode :=
 (.seq (.block 2 (.loop t178l1))
 t178k3)

/-- slices.partitionOrdered[int] -/
def t178 : DFunc := { ntmps := 168, results := [(.t 8), (.t 9)], mode := .full, body :=
 (.seq (.region [⟨(some 8), .move (.c (.int .i64 0)), none, .write, 0⟩, ⟨(some 9), .move (.c (.bool false)), none, .write, 0⟩])
 (.seq (.draw [⟨(some 16), .move (.t 0), none, .read, 0⟩, ⟨(some 17), .move (.t 3), none, .read, 0⟩, ⟨(some 18), .indexAddr 1 (.t 16) (.t 17), none, .read, 0⟩, ⟨(some 19), .load none (.t 18), none, .read, 0⟩, ⟨(some 20), .move (.t 0), none, .read, 0⟩, ⟨(some 21), .move (.t 1), none, .read, 0⟩, ⟨(some 22), .indexAddr 1 (.t 20) (.t 21), none, .read, 0⟩, ⟨(some 23), .load none (.t 22), none, .read, 0⟩, ⟨(some 12), .move (.t 0), none, .read, 0⟩, ⟨(some 13), .move (.t 1), none, .read, 0⟩, ⟨(some 24), .indexAddr 1 (.t 12) (.t 13), none, .read, 0⟩, ⟨none, .store 1 (.t 24) (.t 19), none, .write, 0⟩, ⟨(some 14), .move (.t 0), none, .read, 0⟩, ⟨(some 15), .move (.t 3), none, .read, 0⟩, ⟨(some 25), .indexAddr 1 (.t 14) (.t 15), none, .read, 1⟩, ⟨none, .store 1 (.t 25) (.t 23), none, .write, 1⟩])
 (.seq (.region [⟨(some 26), .move (.t 1), none, .write, 0⟩, ⟨(some 27), .arith .add (.t 26) (.c (.int .i64 1)), none, .write, 0⟩, ⟨(some 28), .move (.t 2), none, .write, 0⟩, ⟨(some 29), .arith .sub (.t 28) (.c (.int .i64 1)), none, .write, 0⟩, ⟨(some 10), .move (.t 27), none, .write, 0⟩, ⟨(some 11), .move (.t 29), none, .write, 0⟩])
 (.seq (.block 0 (.loop t178l0))
 t178k4)))) }

theorem c178 : compFunc Tryz.prog Tryz.f178 .full = some t178 := by kernel_rfl

/-- math/bits.Len32 -/
def t179 : DFunc := { ntmps := 19, results := [(.t 2)], mode := .pure, body :=
 (.seq (.region [⟨(some 2), .move (.c (.int .i64 0)), none, .write, 0⟩])
 (.seq (.seq (.region [⟨(some 3), .move (.t 0), none, .write, 0⟩, ⟨(some 4), .arith .geq (.t 3) (.c (.int .u32 65536)), none, .write, 0⟩])
 (.cond (.t 4) (.seq (.region [⟨(some 5), .move (.t 0), none, .write, 0⟩, ⟨(some 6), .arith .shr (.t 5) (.c (.int .u64 16)), none, .write, 0⟩, ⟨(some 0), .move (.t 6), none, .write, 0⟩])
 (.region [⟨(some 2), .move (.c (.int .i64 16)), none, .write, 0⟩])) .skip))
 (.seq (.seq (.region [⟨(some 7), .move (.t 0), none, .write, 0⟩, ⟨(some 8), .arith .geq (.t 7) (.c (.int .u32 256)), none, .write, 0⟩])
 (.cond (.t 8) (.seq (.region [⟨(some 9), .move (.t 0), none, .write, 0⟩, ⟨(some 10), .arith .shr (.t 9) (.c (.int .u64 8)), none, .write, 0⟩, ⟨(some 0), .move (.t 10), none, .write, 0⟩])
 (.region [⟨(some 11), .move (.t 2), none, .write, 0⟩, ⟨(some 12), .arith .add (.t 11) (.c (.int .i64 8)), none, .write, 0⟩, ⟨(some 2), .move (.t 12), none, .write, 0⟩])) .skip))
 (.seq (.region [⟨(some 13), .move (.t 2), none, .write, 0⟩, ⟨(some 14), .move (.t 0), none, .write, 0⟩, ⟨(some 15), .conv .u8 (.t 14), none, .write, 0⟩, ⟨(some 16), .indexStr (.c (.str [0, 1, 2, 2, 3, 3, 3, 3, 4, 4, 4, 4, 4, 4, 4, 4, 5, 5, 5, 5, 5, 5, 5, 5, 5, 5, 5, 5, 5, 5, 5, 5, 6, 6, 6, 6, 6, 6, 6, 6, 6, 6, 6, 6, 6, 6, 6, 6, 6, 6, 6, 6, 6, 6, 6, 6, 6, 6, 6, 6, 6, 6, 6, 6, 7, 7, 7, 7, 7, 7, 7, 7, 7, 7, 7, 7, 7, 7, 7, 7, 7, 7, 7, 7, 7, 7, 7, 7, 7, 7, 7, 7, 7, 7, 7, 7, 7, 7, 7, 7, 7, 7, 7, 7, 7, 7, 7, 7, 7, 7, 7, 7, 7, 7, 7, 7, 7, 7, 7, 7, 7, 7, 7, 7, 7, 7, 7, 7, 8, 8, 8, 8, 8, 8, 8, 8, 8, 8, 8, 8, 8, 8, 8, 8, 8, 8, 8, 8, 8, 8, 8, 8, 8, 8, 8, 8, 8, 8, 8, 8, 8, 8, 8, 8, 8, 8, 8, 8, 8, 8, 8, 8, 8, 8, 8, 8, 8, 8, 8, 8, 8, 8, 8, 8, 8, 8, 8, 8, 8, 8, 8, 8, 8, 8, 8, 8, 8, 8, 8, 8, 8, 8, 8, 8, 8, 8, 8, 8, 8, 8, 8, 8, 8, 8, 8, 8, 8, 8, 8, 8, 8, 8, 8, 8, 8, 8, 8, 8, 8, 8, 8, 8, 8, 8, 8, 8, 8, 8, 8, 8, 8, 8, 8, 8, 8, 8, 8, 8, 8, 8, 8, 8, 8, 8, 8, 8])) (.t 15), none, .write, 0⟩, ⟨(some 17), .conv .i64 (.t 16), none, .write, 0⟩, ⟨(some 18), .arith .add (.t 13) (.t 17), none, .write, 0⟩, ⟨(some 2), .move (.t 18), none, .write, 0⟩])
 .ret)))) }

theorem c179 : compFunc Tryz.prog Tryz.f179 .pure = some t179 := by kernel_rfl

/-- math/bits.Len64 -/
def t180 : DFunc := { ntmps := 25, results := [(.t 2)], mode := .pure, body :=
 (.seq (.region [⟨(some 2), .move (.c (.int .i64 0)), none, .write, 0⟩])
 (.seq (.seq (.region [⟨(some 3), .move (.t 0), none, .write, 0⟩, ⟨(some 4), .arith .geq (.t 3) (.c (.int .u64 4294967296)), none, .write, 0⟩])
 (.cond (.t 4) (.seq (.region [⟨(some 5), .move (.t 0), none, .write, 0⟩, ⟨(some 6), .arith .shr (.t 5) (.c (.int .u64 32)), none, .write, 0⟩, ⟨(some 0), .move (.t 6), none, .write, 0⟩])
 (.region [⟨(some 2), .move (.c (.int .i64 32)), none, .write, 0⟩])) .skip))
 (.seq (.seq (.region [⟨(some 7), .move (.t 0), none, .write, 0⟩, ⟨(some 8), .arith .geq (.t 7) (.c (.int .u64 65536)), none, .write, 0⟩])
 (.cond (.t 8) (.seq (.region [⟨(some 9), .move (.t 0), none, .write, 0⟩, ⟨(some 10), .arith .shr (.t 9) (.c (.int .u64 16)), none, .write, 0⟩, ⟨(some 0), .move (.t 10), none, .write, 0⟩])
 (.region [⟨(some 11), .move (.t 2), none, .write, 0⟩, ⟨(some 12), .arith .add (.t 11) (.c (.int .i64 16)), none, .write, 0⟩, ⟨(some 2), .move (.t 12), none, .write, 0⟩])) .skip))
 (.seq (.seq (.region [⟨(some 13), .move (.t 0), none, .write, 0⟩, ⟨(some 14), .arith .geq (.t 13) (.c (.int .u64 256)), none, .write, 0⟩])
 (.cond (.t 14) (.seq (.region [⟨(some 15), .move (.t 0), none, .write, 0⟩, ⟨(some 16), .arith .shr (.t 15) (.c (.int .u64 8)), none, .write, 0⟩, ⟨(some 0), .move (.t 16), none, .write, 0⟩])
 (.region [⟨(some 17), .move (.t 2), none, .write, 0⟩, ⟨(some 18), .arith .add (.t 17) (.c (.int .i64 8)), none, .write, 0⟩, ⟨(some 2), .move (.t 18), none, .write, 0⟩])) .skip))
 (.seq (.region [⟨(some 19), .move (.t 2), none, .write, 0⟩, ⟨(some 20), .move (.t 0), none, .write, 0⟩, ⟨(some 21), .conv .u8 (.t 20), none, .write, 0⟩, ⟨(some 22), .indexStr (.c (.str [0, 1, 2, 2, 3, 3, 3, 3, 4, 4, 4, 4, 4, 4, 4, 4, 5, 5, 5, 5, 5, 5, 5, 5, 5, 5, 5, 5, 5, 5, 5, 5, 6, 6, 6, 6, 6, 6, 6, 6, 6, 6, 6, 6, 6, 6, 6, 6, 6, 6, 6, 6, 6, 6, 6, 6, 6, 6, 6, 6, 6, 6, 6, 6, 7, 7, 7, 7, 7, 7, 7, 7, 7, 7, 7, 7, 7, 7, 7, 7, 7, 7, 7, 7, 7, 7, 7, 7, 7, 7, 7, 7, 7, 7, 7, 7, 7, 7, 7, 7, 7, 7, 7, 7, 7, 7, 7, 7, 7, 7, 7, 7, 7, 7, 7, 7, 7, 7, 7, 7, 7, 7, 7, 7, 7, 7, 7, 7, 8, 8, 8, 8, 8, 8, 8, 8, 8, 8, 8, 8, 8, 8, 8, 8, 8, 8, 8, 8, 8, 8, 8, 8, 8, 8, 8, 8, 8, 8, 8, 8, 8, 8, 8, 8, 8, 8, 8, 8, 8, 8, 8, 8, 8, 8, 8, 8, 8, 8, 8, 8, 8, 8, 8, 8, 8, 8, 8, 8, 8, 8, 8, 8, 8, 8, 8, 8, 8, 8, 8, 8, 8, 8, 8, 8, 8, 8, 8, 8, 8, 8, 8, 8, 8, 8, 8, 8, 8, 8, 8, 8, 8, 8, 8, 8, 8, 8, 8, 8, 8, 8, 8, 8, 8, 8, 8, 8, 8, 8, 8, 8, 8, 8, 8, 8, 8, 8, 8, 8, 8, 8, 8, 8, 8, 8, 8, 8])) (.t 21), none, .write, 0⟩, ⟨(some 23), .conv .i64 (.t 22), none, .write, 0⟩, ⟨(some 24), .arith .add (.t 19) (.t 23), none, .write, 0⟩, ⟨(some 2), .move (.t 24), none, .write, 0⟩])
 .ret))))) }

theorem c180 : compFunc Tryz.prog Tryz.f180 .pure = some t180 := by kernel_rfl

/-- slices.rotateLeft[broadside/api.Advert] -/
def t181 : DFunc := { ntmps := 14, results := [], mode := .full, body :=
 (.seq (.region [⟨(some 4), .move (.t 0), none, .write, 0⟩, ⟨(some 5), .move (.t 1), none, .write, 0⟩, ⟨(some 6), .sliceSl 4 (.t 4) none (some (.t 5)), none, .write, 0⟩, ⟨(some 7), .call (.c (.func 204 [])) [(.t 6)], none, .write, 0⟩])
 (.seq (.region [⟨(some 8), .move (.t 0), none, .write, 0⟩, ⟨(some 9), .move (.t 1), none, .write, 0⟩, ⟨(some 10), .sliceSl 4 (.t 8) (some (.t 9)) none, none, .write, 0⟩, ⟨(some 11), .call (.c (.func 204 [])) [(.t 10)], none, .write, 0⟩])
 (.region [⟨(some 12), .move (.t 0), none, .write, 0⟩, ⟨(some 13), .call (.c (.func 204 [])) [(.t 12)], none, .write, 0⟩]))) }

theorem c181 : compFunc Tryz.prog Tryz.f181 .full = some t181 := by kernel_rfl

/-- slices.rotateLeft[broadside/api.ID] -/
def t182 : DFunc := { ntmps := 14, results := [], mode := .full, body :=
 (.seq (.region [⟨(some 4), .move (.t 0), none, .write, 0⟩, ⟨(some 5), .move (.t 1), none, .write, 0⟩, ⟨(some 6), .sliceSl 2 (.t 4) none (some (.t 5)), none, .write, 0⟩, ⟨(some 7), .call (.c (.func 205 [])) [(.t 6)], none, .write, 0⟩])
 (.seq (.region [⟨(some 8), .move (.t 0), none, .write, 0⟩, ⟨(some 9), .move (.t 1), none, .write, 0⟩, ⟨(some 10), .sliceSl 2 (.t 8) (some (.t 9)) none, none, .write, 0⟩, ⟨(some 11), .call (.c (.func 205 [])) [(.t 10)], none, .write, 0⟩])
 (.region [⟨(some 12), .move (.t 0), none, .write, 0⟩, ⟨(some 13), .call (.c (.func 205 [])) [(.t 12)], none, .write, 0⟩]))) }

theorem c182 : compFunc Tryz.prog Tryz.f182 .full = some t182 := by kernel_rfl

/-- cmp.isNaN[int] -/
def t183 : DFunc := { ntmps := 6, results := [(.t 2)], mode := .pure, body :=
 (.seq (.region [⟨(some 2), .move (.c (.bool false)), none, .write, 0⟩])
 (.seq (.region [⟨(some 3), .move (.t 0), none, .write, 0⟩, ⟨(some 4), .move (.t 0), none, .write, 0⟩, ⟨(some 5), .arith .neq (.t 3) (.t 4), none, .write, 0⟩, ⟨(some 2), .move (.t 5), none, .write, 0⟩])
 .ret)) }

theorem c183 : compFunc Tryz.prog Tryz.f183 .pure = some t183 := by kernel_rfl

def t184l0 : DCode :=
 (.seq (.region [⟨(some 9), .arith .lss (.t 8) (.t 7), none, .write, 0⟩])
 (.seq (.cond (.t 9) .skip (.exit 0))
 (.seq (.block 1 (.seq (.region [⟨(some 10), .move (.t 8), none, .write, 0⟩, ⟨(some 5), .move (.t 10), none, .write, 0⟩])
 (.seq (.region [⟨(some 11), .move (.t 1), none, .write, 0⟩, ⟨(some 12), .move (.t 0), none, .write, 0⟩, ⟨(some 13), .move (.t 5), none, .write, 0⟩, ⟨(some 14), .indexAddr 1 (.t 12) (.t 13), none, .write, 0⟩, ⟨(some 15), .load none (.t 14), none, .write, 0⟩, ⟨(some 16), .arith .eql (.t 11) (.t 15), none, .write, 0⟩])
 (.cond (.t 16) (.seq (.region [⟨(some 17), .move (.t 5), none, .write, 0⟩, ⟨(some 4), .move (.t 17), none, .write, 0⟩])
 .ret) .skip))))
 (.region [⟨(some 18), .arith .add (.t 8) (.c (.int .i64 1)), none, .write, 0⟩, ⟨(some 8), .move (.t 18), none, .write, 0⟩]))))

def t184k0 : DCode :=
 (.seq (.region [⟨(some 4), .move (.c (.int .i64 (-1))), none, .write, 0⟩])
 .ret)

/-- slices.Index[[]int,int] -/
def t184 : DFunc := { ntmps := 19, results := [(.t 4)], mode := .pure, body :=
 (.seq (.region [⟨(some 4), .move (.c (.int .i64 0)), none, .write, 0⟩])
 (.seq (.seq (.region [⟨(some 6), .move (.t 0), none, .write, 0⟩, ⟨(some 7), .len 1 (.t 6), none, .write, 0⟩, ⟨(some 8), .move (.c (.int .i64 0)), none, .write, 0⟩])
 (.block 0 (.loop t184l0)))
 t184k0)) }

theorem c184 : compFunc Tryz.prog Tryz.f184 .pure = some t184 := by kernel_rfl

def t185l0 : DCode :=
 (.seq (.region [⟨(some 7), .arith .lss (.t 6) (.t 5), none, .write, 0⟩])
 (.seq (.cond (.t 7) .skip (.exit 0))
 (.seq (.block 1 (.seq (.region [⟨(some 8), .move (.t 6), none, .write, 0⟩, ⟨(some 3), .move (.t 8), none, .write, 0⟩])
 (.seq (.region [⟨(some 9), .move (.t 0), none, .write, 0⟩, ⟨(some 10), .move (.t 3), none, .write, 0⟩, ⟨(some 11), .indexStr (.t 9) (.t 10), none, .write, 0⟩, ⟨(some 12), .arith .lss (.t 11) (.c (.int .u8 97)), none, .write, 0⟩, ⟨(some 13), .move (.t 12), none, .write, 0⟩, ⟨(some 14), .move (.t 0), (some (13, false)), .write, 0⟩, ⟨(some 15), .move (.t 3), (some (13, false)), .write, 0⟩, ⟨(some 16), .indexStr (.t 14) (.t 15), (some (13, false)), .write, 0⟩, ⟨(some 17), .arith .gtr (.t 16) (.c (.int .u8 122)), (some (13, false)), .write, 0⟩, ⟨(some 18), .pick (.t 13) (.c (.bool true)) (.t 17), none, .write, 0⟩])
 (.cond (.t 18) (.seq (.region [⟨(some 2), .move (.c (.bool false)), none, .write, 0⟩])
 .ret) .skip))))
 (.region [⟨(some 19), .arith .add (.t 6) (.c (.int .i64 1)), none, .write, 0⟩, ⟨(some 6), .move (.t 19), none, .write, 0⟩]))))

def t185k0 : DCode :=
 (.seq (.region [⟨(some 20), .move (.t 0), none, .write, 0⟩, ⟨(some 21), .arith .neq (.t 20) (.c (.str [])), none, .write, 0⟩, ⟨(some 22), .move (.t 21), none, .write, 0⟩, ⟨(some 23), .move (.t 0), (some (22, true)), .write, 0⟩, ⟨(some 24), .len 0 (.t 23), (some (22, true)), .write, 0⟩, ⟨(some 25), .arith .leq (.t 24) (.c (.int .i64 12)), (some (22, true)), .write, 0⟩, ⟨(some 26), .pick (.t 22) (.t 25) (.c (.bool false)), none, .write, 0⟩, ⟨(some 2), .move (.t 26), none, .write, 0⟩])
 .ret)

/-- broadside/tuple.Name -/
def t185 : DFunc := { ntmps := 27, results := [(.t 2)], mode := .pure, body :=
 (.seq (.region [⟨(some 2), .move (.c (.bool false)), none, .write, 0⟩])
 (.seq (.seq (.region [⟨(some 4), .move (.t 0), none, .write, 0⟩, ⟨(some 5), .len 0 (.t 4), none, .write, 0⟩, ⟨(some 6), .move (.c (.int .i64 0)), none, .write, 0⟩])
 (.block 0 (.loop t185l0)))
 t185k0)) }

theorem c185 : compFunc Tryz.prog Tryz.f185 .pure = some t185 := by kernel_rfl

/-- slices.rotateLeft[broadside/api.Entry] -/
def t187 : DFunc := { ntmps := 14, results := [], mode := .full, body :=
 (.seq (.region [⟨(some 4), .move (.t 0), none, .write, 0⟩, ⟨(some 5), .move (.t 1), none, .write, 0⟩, ⟨(some 6), .sliceSl 7 (.t 4) none (some (.t 5)), none, .write, 0⟩, ⟨(some 7), .call (.c (.func 207 [])) [(.t 6)], none, .write, 0⟩])
 (.seq (.region [⟨(some 8), .move (.t 0), none, .write, 0⟩, ⟨(some 9), .move (.t 1), none, .write, 0⟩, ⟨(some 10), .sliceSl 7 (.t 8) (some (.t 9)) none, none, .write, 0⟩, ⟨(some 11), .call (.c (.func 207 [])) [(.t 10)], none, .write, 0⟩])
 (.region [⟨(some 12), .move (.t 0), none, .write, 0⟩, ⟨(some 13), .call (.c (.func 207 [])) [(.t 12)], none, .write, 0⟩]))) }

theorem c187 : compFunc Tryz.prog Tryz.f187 .full = some t187 := by kernel_rfl

/-- slices.Insert[[]broadside/api.Constraint,broadside/api.Constraint] -/
def t195 : DFunc := { ntmps := 95, results := [(.t 6)], mode := .split, body :=
 (.seq (.region [⟨(some 6), .move (.c .nsl), none, .write, 0⟩])
 (.seq (.region [⟨(some 10), .move (.t 0), none, .write, 0⟩, ⟨(some 11), .move (.t 1), none, .write, 0⟩, ⟨(some 12), .sliceSl 5 (.t 10) (some (.t 11)) none, none, .write, 0⟩])
 (.seq (.region [⟨(some 13), .move (.t 2), none, .write, 0⟩, ⟨(some 14), .len 1 (.t 13), none, .write, 0⟩, ⟨(some 7), .move (.t 14), none, .write, 0⟩])
 (.seq (.seq (.region [⟨(some 15), .move (.t 7), none, .write, 0⟩, ⟨(some 16), .arith .eql (.t 15) (.c (.int .i64 0)), none, .write, 0⟩])
 (.cond (.t 16) (.seq (.region [⟨(some 17), .move (.t 0), none, .write, 0⟩, ⟨(some 6), .move (.t 17), none, .write, 0⟩])
 .ret) .skip))
 (.seq (.region [⟨(some 18), .move (.t 0), none, .write, 0⟩, ⟨(some 19), .len 1 (.t 18), none, .write, 0⟩, ⟨(some 8), .move (.t 19), none, .write, 0⟩])
 (.seq (.seq (.region [⟨(some 20), .move (.t 1), none, .write, 0⟩, ⟨(some 21), .move (.t 8), none, .write, 0⟩, ⟨(some 22), .arith .eql (.t 20) (.t 21), none, .write, 0⟩])
 (.cond (.t 22) (.seq (.region [⟨(some 23), .move (.t 0), none, .write, 0⟩, ⟨(some 24), .move (.t 2), none, .write, 0⟩, ⟨(some 25), .append 62 5 56 (.t 23) (.t 24), none, .write, 0⟩, ⟨(some 6), .move (.t 25), none, .write, 0⟩])
 .ret) .skip))
 (.seq (.seq (.region [⟨(some 26), .move (.t 8), none, .write, 0⟩, ⟨(some 27), .move (.t 7), none, .write, 0⟩, ⟨(some 28), .arith .add (.t 26) (.t 27), none, .write, 0⟩, ⟨(some 29), .move (.t 0), none, .write, 0⟩, ⟨(some 30), .cap (.t 29), none, .write, 0⟩, ⟨(some 31), .arith .gtr (.t 28) (.t 30), none, .write, 0⟩])
 (.cond (.t 31) (.seq (.region [⟨(some 32), .move (.t 0), none, .write, 0⟩, ⟨(some 33), .move (.t 1), none, .write, 0⟩, ⟨(some 34), .sliceSl 5 (.t 32) none (some (.t 33)), none, .write, 0⟩, ⟨(some 35), .move (.t 8), none, .write, 0⟩, ⟨(some 36), .move (.t 7), none, .write, 0⟩, ⟨(some 37), .arith .add (.t 35) (.t 36), none, .write, 0⟩, ⟨(some 38), .move (.t 1), none, .write, 0⟩, ⟨(some 39), .arith .sub (.t 37) (.t 38), none, .write, 0⟩, ⟨(some 40), .appendZ 62 5 56 (.agg [(.str []), (.int .i64 0), (.int .i64 0), (.int .i64 0), (.str [])]) (.t 34) (.t 39), none, .write, 0⟩, ⟨(some 9), .move (.t 40), none, .write, 0⟩])
 (.seq (.region [⟨(some 41), .move (.t 9), none, .write, 0⟩, ⟨(some 42), .move (.t 1), none, .write, 0⟩, ⟨(some 43), .sliceSl 5 (.t 41) (some (.t 42)) none, none, .write, 0⟩, ⟨(some 44), .move (.t 2), none, .write, 0⟩, ⟨(some 45), .copy 5 (.t 43) (.t 44), none, .write, 0⟩])
 (.seq (.draw [⟨(some 46), .move (.t 9), none, .read, 0⟩, ⟨(some 47), .move (.t 1), none, .read, 0⟩, ⟨(some 48), .move (.t 7), none, .read, 0⟩, ⟨(some 49), .arith .add (.t 47) (.t 48), none, .read, 0⟩, ⟨(some 50), .sliceSl 5 (.t 46) (some (.t 49)) none, none, .read, 0⟩, ⟨(some 51), .move (.t 0), none, .read, 0⟩, ⟨(some 52), .move (.t 1), none, .read, 0⟩, ⟨(some 53), .sliceSl 5 (.t 51) (some (.t 52)) none, none, .read, 0⟩, ⟨(some 54), .copy 5 (.t 50) (.t 53), none, .write, 0⟩])
 (.seq (.region [⟨(some 55), .move (.t 9), none, .write, 0⟩, ⟨(some 6), .move (.t 55), none, .write, 0⟩])
 .ret)))) .skip))
 (.seq (.region [⟨(some 56), .move (.t 0), none, .write, 0⟩, ⟨(some 57), .move (.t 8), none, .write, 0⟩, ⟨(some 58), .move (.t 7), none, .write, 0⟩, ⟨(some 59), .arith .add (.t 57) (.t 58), none, .write, 0⟩, ⟨(some 60), .sliceSl 5 (.t 56) none (some (.t 59)), none, .write, 0⟩, ⟨(some 0), .move (.t 60), none, .write, 0⟩])
 (.seq (.seq (.region [⟨(some 61), .move (.t 2), none, .write, 0⟩, ⟨(some 62), .move (.t 0), none, .write, 0⟩, ⟨(some 63), .move (.t 1), none, .write, 0⟩, ⟨(some 64), .move (.t 7), none, .write, 0⟩, ⟨(some 65), .arith .add (.t 63) (.t 64), none, .write, 0⟩, ⟨(some 66), .sliceSl 5 (.t 62) (some (.t 65)) none, none, .write, 0⟩, ⟨(some 67), .call (.c (.func 209 [])) [(.t 61), (.t 66)], none, .write, 0⟩, ⟨(some 68), .un .not (.t 67), none, .write, 0⟩])
 (.cond (.t 68) (.seq (.draw [⟨(some 69), .move (.t 0), none, .read, 0⟩, ⟨(some 70), .move (.t 1), none, .read, 0⟩, ⟨(some 71), .move (.t 7), none, .read, 0⟩, ⟨(some 72), .arith .add (.t 70) (.t 71), none, .read, 0⟩, ⟨(some 73), .sliceSl 5 (.t 69) (some (.t 72)) none, none, .read, 0⟩, ⟨(some 74), .move (.t 0), none, .read, 0⟩, ⟨(some 75), .move (.t 1), none, .read, 0⟩, ⟨(some 76), .sliceSl 5 (.t 74) (some (.t 75)) none, none, .read, 0⟩, ⟨(some 77), .copy 5 (.t 73) (.t 76), none, .write, 0⟩])
 (.seq (.region [⟨(some 78), .move (.t 0), none, .write, 0⟩, ⟨(some 79), .move (.t 1), none, .write, 0⟩, ⟨(some 80), .sliceSl 5 (.t 78) (some (.t 79)) none, none, .write, 0⟩, ⟨(some 81), .move (.t 2), none, .write, 0⟩, ⟨(some 82), .copy 5 (.t 80) (.t 81), none, .write, 0⟩])
 (.seq (.region [⟨(some 83), .move (.t 0), none, .write, 0⟩, ⟨(some 6), .move (.t 83), none, .write, 0⟩])
 .ret))) .skip))
 (.seq (.region [⟨(some 84), .move (.t 0), none, .write, 0⟩, ⟨(some 85), .move (.t 8), none, .write, 0⟩, ⟨(some 86), .sliceSl 5 (.t 84) (some (.t 85)) none, none, .write, 0⟩, ⟨(some 87), .move (.t 2), none, .write, 0⟩, ⟨(some 88), .copy 5 (.t 86) (.t 87), none, .write, 0⟩])
 (.seq (.region [⟨(some 89), .move (.t 0), none, .write, 0⟩, ⟨(some 90), .move (.t 1), none, .write, 0⟩, ⟨(some 91), .sliceSl 5 (.t 89) (some (.t 90)) none, none, .write, 0⟩, ⟨(some 92), .move (.t 7), none, .write, 0⟩, ⟨(some 93), .call (.c (.func 210 [])) [(.t 91), (.t 92)], none, .write, 0⟩])
 (.seq (.region [⟨(some 94), .move (.t 0), none, .write, 0⟩, ⟨(some 6), .move (.t 94), none, .write, 0⟩])
 .ret)))))))))))) }

theorem c195 : compFunc Tryz.prog Tryz.f195 .split = some t195 := by kernel_rfl

/-- slices.rotateLeft[broadside/api.Own] -/
def t197 : DFunc := { ntmps := 14, results := [], mode := .full, body :=
 (.seq (.region [⟨(some 4), .move (.t 0), none, .write, 0⟩, ⟨(some 5), .move (.t 1), none, .write, 0⟩, ⟨(some 6), .sliceSl 3 (.t 4) none (some (.t 5)), none, .write, 0⟩, ⟨(some 7), .call (.c (.func 211 [])) [(.t 6)], none, .write, 0⟩])
 (.seq (.region [⟨(some 8), .move (.t 0), none, .write, 0⟩, ⟨(some 9), .move (.t 1), none, .write, 0⟩, ⟨(some 10), .sliceSl 3 (.t 8) (some (.t 9)) none, none, .write, 0⟩, ⟨(some 11), .call (.c (.func 211 [])) [(.t 10)], none, .write, 0⟩])
 (.region [⟨(some 12), .move (.t 0), none, .write, 0⟩, ⟨(some 13), .call (.c (.func 211 [])) [(.t 12)], none, .write, 0⟩]))) }

theorem c197 : compFunc Tryz.prog Tryz.f197 .full = some t197 := by kernel_rfl

end Go.Dm.Tc
