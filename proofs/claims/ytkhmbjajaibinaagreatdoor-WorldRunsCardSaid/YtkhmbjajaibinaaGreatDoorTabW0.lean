/-
The table of functions, brought into the machine's form (TabW, part 0). Written by program (wip/tools/table.lean.txt).
-/
import Derived.Test.YtkhmbjajaibinaaGreatDoorDm32
import Derived.Test.YtkhmbjajaibinaaGreatDoorRows
import Derived.KernelRfl
namespace Go.Dm.TabW
open Go.Proofs

/-- broadside/broadsidelaw19.WorldRuns -/
def t3 : DFunc := { ntmps := 56, results := [(.t 0)], mode := .full, body :=
 (.seq (.region [⟨(some 0), .move (.c (.bool false)), none, .write, 0⟩])
 (.seq (.region [⟨(some 6), .build [(.int .i64 0), .nsl] [(0, 1, (.c (.int .i64 1)))], none, .write, 0⟩, ⟨(some 7), .call (.c (.func 8 [])) [(.t 6)], none, .write, 0⟩, ⟨(some 5), .move (.t 7), none, .write, 0⟩, ⟨(some 8), .extract (.t 5) 0, none, .write, 0⟩, ⟨(some 9), .extract (.t 5) 1, none, .write, 0⟩, ⟨(some 1), .move (.t 8), none, .write, 0⟩, ⟨(some 2), .move (.t 9), none, .write, 0⟩])
 (.seq (.seq (.region [⟨(some 10), .move (.t 1), none, .write, 0⟩, ⟨(some 11), .eqn 0 false (.t 10) (.c .nilp), none, .write, 0⟩, ⟨(some 12), .move (.t 11), none, .write, 0⟩, ⟨(some 13), .move (.t 2), (some (12, false)), .write, 0⟩, ⟨(some 14), .eqn 4 true (.t 13) (.c .nili), (some (12, false)), .write, 0⟩, ⟨(some 15), .pick (.t 12) (.c (.bool true)) (.t 14), none, .write, 0⟩])
 (.cond (.t 15) (.seq (.region [⟨(some 0), .move (.c (.bool false)), none, .write, 0⟩])
 .ret) .skip))
 (.seq (.region [⟨(some 16), .move (.t 1), none, .write, 0⟩, ⟨(some 17), .build [(.int .i64 0), (.int .i64 0), (.int .i64 0), (.int .i64 0), (.int .i64 0), (.int .i64 0), .nsl, .nsl, .nsl] [(0, 1, (.c (.int .i64 1)))], none, .write, 0⟩, ⟨(some 18), .call (.c (.func 9 [])) [(.t 16), (.t 17)], none, .write, 0⟩])
 (.seq (.region [⟨(some 19), .move (.t 1), none, .write, 0⟩, ⟨(some 20), .build [(.int .i64 0), (.int .i64 0), (.int .i64 0), (.int .i64 0), (.int .i64 0), (.int .i64 0), .nsl, .nsl, .nsl] [(0, 1, (.c (.int .i64 4)))], none, .write, 0⟩, ⟨(some 21), .call (.c (.func 9 [])) [(.t 19), (.t 20)], none, .write, 0⟩])
 (.seq (.region [⟨(some 22), .move (.t 1), none, .write, 0⟩, ⟨(some 23), .build [(.int .i64 0), (.int .i64 0), (.int .i64 0), (.int .i64 0), (.int .i64 0), (.int .i64 0), .nsl, .nsl, .nsl] [(0, 1, (.c (.int .i64 2)))], none, .write, 0⟩, ⟨(some 24), .call (.c (.func 9 [])) [(.t 22), (.t 23)], none, .write, 0⟩])
 (.seq (.region [⟨(some 25), .move (.t 1), none, .write, 0⟩, ⟨(some 26), .build [(.int .i64 0), (.int .i64 0), (.int .i64 0), (.int .i64 0), (.int .i64 0), (.int .i64 0), .nsl, .nsl, .nsl] [(0, 1, (.c (.int .i64 6)))], none, .write, 0⟩, ⟨(some 27), .call (.c (.func 9 [])) [(.t 25), (.t 26)], none, .write, 0⟩, ⟨(some 3), .alloc 35 7 (.agg [(.int .i64 0), (.int .i64 0), (.int .i64 0), (.int .i64 0), (.int .i64 0), (.int .i64 0), .nsl]), none, .write, 0⟩, ⟨none, .store 7 (.t 3) (.t 27), none, .write, 0⟩])
 (.seq (.region [⟨(some 28), .move (.t 1), none, .write, 0⟩, ⟨(some 29), .build [(.int .i64 0), (.int .i64 0), (.int .i64 0), (.int .i64 0), (.int .i64 0), (.int .i64 0), .nsl, .nsl, .nsl] [(0, 1, (.c (.int .i64 5))), (2, 1, (.c (.int .i64 7)))], none, .write, 0⟩, ⟨(some 30), .call (.c (.func 9 [])) [(.t 28), (.t 29)], none, .write, 0⟩, ⟨(some 4), .alloc 35 7 (.agg [(.int .i64 0), (.int .i64 0), (.int .i64 0), (.int .i64 0), (.int .i64 0), (.int .i64 0), .nsl]), none, .write, 0⟩, ⟨none, .store 7 (.t 4) (.t 30), none, .write, 0⟩])
 (.seq (.region [⟨(some 31), .fieldAddr 0 (.t 3), none, .write, 0⟩, ⟨(some 32), .load none (.t 31), none, .write, 0⟩, ⟨(some 33), .arith .eql (.t 32) (.c (.int .i64 0)), none, .write, 0⟩, ⟨(some 34), .move (.t 33), none, .write, 0⟩, ⟨(some 35), .move (.t 1), (some (34, true)), .write, 0⟩, ⟨(some 36), .call (.c (.func 10 [])) [(.t 35), (.c (.int .i64 0))], (some (34, true)), .write, 0⟩, ⟨(some 37), .len 1 (.t 36), (some (34, true)), .write, 0⟩, ⟨(some 38), .arith .eql (.t 37) (.c (.int .i64 1)), (some (34, true)), .write, 0⟩, ⟨(some 39), .pick (.t 34) (.t 38) (.c (.bool false)), none, .write, 0⟩, ⟨(some 40), .move (.t 39), none, .write, 0⟩, ⟨(some 41), .fieldAddr 0 (.t 4), (some (40, true)), .write, 0⟩, ⟨(some 42), .load none (.t 41), (some (40, true)), .write, 0⟩, ⟨(some 43), .arith .eql (.t 42) (.c (.int .i64 4)), (some (40, true)), .write, 0⟩, ⟨(some 44), .pick (.t 40) (.t 43) (.c (.bool false)), none, .write, 0⟩, ⟨(some 45), .move (.t 44), none, .write, 0⟩, ⟨(some 46), .move (.t 1), (some (45, true)), .write, 0⟩, ⟨(some 47), .call (.c (.func 12 [])) [(.t 46)], (some (45, true)), .write, 0⟩, ⟨(some 48), .call (.c (.func 11 [])) [(.t 47)], (some (45, true)), .write, 0⟩, ⟨(some 49), .arith .eql (.t 48) (.c (.int .i64 4)), (some (45, true)), .write, 0⟩, ⟨(some 50), .pick (.t 45) (.t 49) (.c (.bool false)), none, .write, 0⟩, ⟨(some 51), .move (.t 50), none, .write, 0⟩, ⟨(some 52), .move (.t 1), (some (51, true)), .write, 0⟩, ⟨(some 53), .call (.c (.func 13 [])) [(.t 52)], (some (51, true)), .write, 0⟩, ⟨(some 54), .arith .eql (.t 53) (.c (.int .i64 3)), (some (51, true)), .write, 0⟩, ⟨(some 55), .pick (.t 51) (.t 54) (.c (.bool false)), none, .write, 0⟩, ⟨(some 0), .move (.t 55), none, .write, 0⟩])
 .ret))))))))) }

theorem c3 : compFunc Tryz.prog Tryz.f3 .full = some t3 := by kernel_rfl

/-- broadside/world.New -/
def t8 : DFunc := { ntmps := 19, results := [(.t 2), (.t 3)], mode := .full, body :=
 (.seq (.region [⟨(some 1), .box 29 2 (.t 0), none, .write, 0⟩, ⟨(some 2), .move (.c .nilp), none, .write, 0⟩, ⟨(some 3), .move (.c .nili), none, .write, 0⟩])
 (.seq (.region [⟨(some 7), .load (some 2) (.t 1), none, .write, 0⟩, ⟨(some 8), .call (.c (.func 15 [])) [(.t 7)], none, .write, 0⟩, ⟨(some 6), .move (.t 8), none, .write, 0⟩, ⟨(some 9), .extract (.t 6) 0, none, .write, 0⟩, ⟨(some 10), .extract (.t 6) 1, none, .write, 0⟩, ⟨(some 4), .move (.t 9), none, .write, 0⟩, ⟨(some 5), .move (.t 10), none, .write, 0⟩])
 (.seq (.seq (.region [⟨(some 11), .move (.t 5), none, .write, 0⟩, ⟨(some 12), .eqn 4 true (.t 11) (.c .nili), none, .write, 0⟩])
 (.cond (.t 12) (.seq (.region [⟨(some 13), .move (.t 5), none, .write, 0⟩, ⟨(some 14), .call (.c (.func 33 [])) [(.c (.str [119, 111, 114, 108, 100])), (.c (.int .i64 (-1))), (.t 13)], none, .write, 0⟩, ⟨(some 2), .move (.c .nilp), none, .write, 0⟩, ⟨(some 3), .move (.t 14), none, .write, 0⟩])
 .ret) .skip))
 (.seq (.region [⟨(some 15), .move (.t 4), none, .write, 0⟩, ⟨(some 16), .call (.c (.func 34 [])) [], none, .write, 0⟩, ⟨(some 17), .build [.nilp, .nsl, .nilp, (.int .i64 0), .nili] [(0, 1, (.t 15)), (2, 1, (.t 16))], none, .write, 0⟩, ⟨(some 18), .box 87 5 (.t 17), none, .write, 0⟩, ⟨(some 2), .move (.t 18), none, .write, 0⟩, ⟨(some 3), .move (.c .nili), none, .write, 0⟩])
 .ret)))) }

theorem c8 : compFunc Tryz.prog Tryz.f8 .full = some t8 := by kernel_rfl

/-- (*broadside/world.World).Do -/
def t9 : DFunc := { ntmps := 26, results := [(.cell 4 (some 7))], mode := .full, body :=
 (.seq (.region [⟨(some 3), .box 41 9 (.t 1), none, .write, 0⟩, ⟨(some 4), .alloc 35 7 (.agg [(.int .i64 0), (.int .i64 0), (.int .i64 0), (.int .i64 0), (.int .i64 0), (.int .i64 0), .nsl]), none, .write, 0⟩])
 (.seq (.region [⟨(some 8), .move (.t 0), none, .write, 0⟩, ⟨(some 9), .load (some 9) (.t 3), none, .write, 0⟩, ⟨(some 10), .call (.c (.func 35 [])) [(.t 8), (.t 9)], none, .write, 0⟩, ⟨(some 7), .move (.t 10), none, .write, 0⟩, ⟨(some 11), .extract (.t 7) 0, none, .write, 0⟩, ⟨(some 12), .extract (.t 7) 1, none, .write, 0⟩, ⟨(some 5), .alloc 35 7 (.agg [(.int .i64 0), (.int .i64 0), (.int .i64 0), (.int .i64 0), (.int .i64 0), (.int .i64 0), .nsl]), none, .write, 0⟩, ⟨none, .store 7 (.t 5) (.t 11), none, .write, 0⟩, ⟨(some 6), .move (.t 12), none, .write, 0⟩])
 (.seq (.region [⟨(some 13), .move (.t 0), none, .write, 0⟩, ⟨(some 14), .fieldAddr 0 (.t 3), none, .write, 0⟩, ⟨(some 15), .load none (.t 14), none, .write, 0⟩, ⟨(some 16), .move (.t 6), none, .write, 0⟩, ⟨(some 17), .call (.c (.func 33 [])) [(.c (.str [119, 111, 114, 108, 100])), (.t 15), (.t 16)], none, .write, 0⟩, ⟨(some 18), .nilCheck (.t 13), none, .write, 0⟩, ⟨(some 19), .fieldAddr 4 (.t 18), none, .write, 0⟩, ⟨none, .store 1 (.t 19) (.t 17), none, .write, 0⟩])
 (.seq (.seq (.region [⟨(some 20), .move (.t 6), none, .write, 0⟩, ⟨(some 21), .eqn 4 true (.t 20) (.c .nili), none, .write, 0⟩])
 (.cond (.t 21) (.seq (.region [⟨(some 22), .move (.t 6), none, .write, 0⟩, ⟨(some 23), .call (.c (.func 11 [])) [(.t 22)], none, .write, 0⟩, ⟨(some 24), .build [(.int .i64 0), (.int .i64 0), (.int .i64 0), (.int .i64 0), (.int .i64 0), (.int .i64 0), .nsl] [(0, 1, (.t 23))], none, .write, 0⟩, ⟨none, .store 7 (.t 4) (.t 24), none, .write, 0⟩])
 .ret) .skip))
 (.seq (.region [⟨(some 25), .load (some 7) (.t 5), none, .write, 0⟩, ⟨none, .store 7 (.t 4) (.t 25), none, .write, 0⟩])
 .ret))))) }

theorem c9 : compFunc Tryz.prog Tryz.f9 .full = some t9 := by kernel_rfl

/-- (*broadside/world.World).Inbox -/
def t10 : DFunc := { ntmps := 11, results := [(.t 4)], mode := .full, body :=
 (.seq (.region [⟨(some 4), .move (.c .nsl), none, .write, 0⟩])
 (.seq (.region [⟨(some 5), .move (.t 0), none, .write, 0⟩, ⟨(some 6), .nilCheck (.t 5), none, .write, 0⟩, ⟨(some 7), .fieldAddr 2 (.t 6), none, .write, 0⟩, ⟨(some 8), .load none (.t 7), none, .write, 0⟩, ⟨(some 9), .move (.t 1), none, .write, 0⟩, ⟨(some 10), .call (.c (.func 36 [])) [(.t 8), (.t 9)], none, .write, 0⟩, ⟨(some 4), .move (.t 10), none, .write, 0⟩])
 .ret)) }

theorem c10 : compFunc Tryz.prog Tryz.f10 .full = some t10 := by kernel_rfl

/-- broadside/fault.Kind -/
def t11 : DFunc := { ntmps := 8, results := [(.t 2)], mode := .full, body :=
 (.seq (.region [⟨(some 2), .move (.c (.int .i64 0)), none, .write, 0⟩])
 (.seq (.region [⟨(some 3), .alloc 30 1 (.int .i64 0), none, .write, 0⟩])
 (.seq (.seq (.region [⟨(some 4), .move (.t 0), none, .write, 0⟩, ⟨(some 5), .makeIface 91 (.t 3), none, .write, 0⟩, ⟨(some 6), .call (.c (.func 37 [])) [(.t 4), (.t 5)], none, .write, 0⟩])
 (.cond (.t 6) (.seq (.region [⟨(some 7), .load none (.t 3), none, .write, 0⟩, ⟨(some 2), .move (.t 7), none, .write, 0⟩])
 .ret) .skip))
 (.seq (.region [⟨(some 2), .move (.c (.int .i64 0)), none, .write, 0⟩])
 .ret)))) }

theorem c11 : compFunc Tryz.prog Tryz.f11 .full = some t11 := by kernel_rfl

/-- (*broadside/world.World).Last -/
def t12 : DFunc := { ntmps := 7, results := [(.t 2)], mode := .full, body :=
 (.seq (.region [⟨(some 2), .move (.c .nili), none, .write, 0⟩])
 (.seq (.region [⟨(some 3), .move (.t 0), none, .write, 0⟩, ⟨(some 4), .nilCheck (.t 3), none, .write, 0⟩, ⟨(some 5), .fieldAddr 4 (.t 4), none, .write, 0⟩, ⟨(some 6), .load none (.t 5), none, .write, 0⟩, ⟨(some 2), .move (.t 6), none, .write, 0⟩])
 .ret)) }

theorem c12 : compFunc Tryz.prog Tryz.f12 .full = some t12 := by kernel_rfl

/-- (*broadside/world.World).Ops -/
def t13 : DFunc := { ntmps := 7, results := [(.t 2)], mode := .full, body :=
 (.seq (.region [⟨(some 2), .move (.c (.int .i64 0)), none, .write, 0⟩])
 (.seq (.region [⟨(some 3), .move (.t 0), none, .write, 0⟩, ⟨(some 4), .nilCheck (.t 3), none, .write, 0⟩, ⟨(some 5), .fieldAddr 3 (.t 4), none, .write, 0⟩, ⟨(some 6), .load none (.t 5), none, .write, 0⟩, ⟨(some 2), .move (.t 6), none, .write, 0⟩])
 .ret)) }

theorem c13 : compFunc Tryz.prog Tryz.f13 .full = some t13 := by kernel_rfl

/-- broadside/net.New -/
def t15 : DFunc := { ntmps := 40, results := [(.t 2), (.t 3)], mode := .full, body :=
 (.seq (.region [⟨(some 1), .box 29 2 (.t 0), none, .write, 0⟩, ⟨(some 2), .move (.c .nilp), none, .write, 0⟩, ⟨(some 3), .move (.c .nili), none, .write, 0⟩])
 (.seq (.seq (.region [⟨(some 7), .load (some 2) (.t 1), none, .write, 0⟩, ⟨(some 8), .call (.c (.func 38 [])) [(.t 7)], none, .write, 0⟩, ⟨(some 4), .move (.t 8), none, .write, 0⟩])
 (.seq (.region [⟨(some 9), .move (.t 4), none, .write, 0⟩, ⟨(some 10), .eqn 4 true (.t 9) (.c .nili), none, .write, 0⟩])
 (.cond (.t 10) (.seq (.region [⟨(some 11), .move (.t 4), none, .write, 0⟩, ⟨(some 12), .call (.c (.func 33 [])) [(.c (.str [110, 101, 116])), (.c (.int .i64 (-1))), (.t 11)], none, .write, 0⟩, ⟨(some 2), .move (.c .nilp), none, .write, 0⟩, ⟨(some 3), .move (.t 12), none, .write, 0⟩])
 .ret) .skip)))
 (.seq (.draw [⟨(some 13), .load (some 2) (.t 1), none, .read, 0⟩, ⟨(some 14), .call (.c (.func 39 [])) [(.t 13)], none, .create, 0⟩, ⟨(some 15), .load (some 2) (.t 1), none, .read, 0⟩, ⟨(some 16), .call (.c (.func 40 [])) [(.t 15)], none, .write, 1⟩, ⟨(some 17), .build [(.int .i64 0), .nsl, .nsl, .nilp, .nsl] [(0, 2, (.t 14)), (3, 1, (.t 16))], none, .read, 2⟩, ⟨(some 18), .box 98 5 (.t 17), none, .write, 2⟩, ⟨(some 5), .move (.t 18), none, .read, 3⟩])
 (.seq (.seq (.region [⟨(some 19), .fieldAddr 0 (.t 1), none, .write, 0⟩, ⟨(some 20), .load none (.t 19), none, .write, 0⟩, ⟨(some 21), .move (.c (.int .i64 0)), none, .write, 0⟩])
 (.block 0 (.loop (.seq (.region [⟨(some 22), .arith .lss (.t 21) (.t 20), none, .write, 0⟩])
 (.seq (.cond (.t 22) .skip (.exit 0))
 (.seq (.block 1 (.seq (.region [⟨(some 23), .move (.t 21), none, .write, 0⟩, ⟨(some 6), .move (.t 23), none, .write, 0⟩])
 (.draw [⟨(some 25), .move (.t 5), none, .read, 0⟩, ⟨(some 26), .nilCheck (.t 25), none, .read, 0⟩, ⟨(some 27), .fieldAddr 2 (.t 26), none, .read, 0⟩, ⟨(some 28), .load none (.t 27), none, .read, 0⟩, ⟨(some 30), .load (some 2) (.t 1), none, .read, 0⟩, ⟨(some 31), .move (.t 6), none, .read, 0⟩, ⟨(some 32), .call (.c (.func 42 [])) [(.t 30), (.t 31)], none, .create, 0⟩, ⟨(some 29), .move (.t 6), none, .read, 0⟩, ⟨(some 33), .call (.c (.func 41 [])) [(.t 29), (.t 32)], none, .create, 0⟩, ⟨(some 34), .buildSlice 79 6 (.agg [(.int .i64 0), .nsl, .nsl, .nsl, .nsl, .nsl]) 1 [(0, (.t 33))], none, .create, 0⟩, ⟨(some 35), .append 79 6 128 (.t 28) (.t 34), none, .write, 3⟩, ⟨(some 24), .move (.t 5), none, .read, 0⟩, ⟨(some 36), .nilCheck (.t 24), none, .read, 4⟩, ⟨(some 37), .fieldAddr 2 (.t 36), none, .read, 4⟩, ⟨none, .store 1 (.t 37) (.t 35), none, .write, 4⟩])))
 (.region [⟨(some 38), .arith .add (.t 21) (.c (.int .i64 1)), none, .write, 0⟩, ⟨(some 21), .move (.t 38), none, .write, 0⟩])))))))
 (.seq (.region [⟨(some 39), .move (.t 5), none, .write, 0⟩, ⟨(some 2), .move (.t 39), none, .write, 0⟩, ⟨(some 3), .move (.c .nili), none, .write, 0⟩])
 .ret))))) }

theorem c15 : compFunc Tryz.prog Tryz.f15 .full = some t15 := by kernel_rfl

/-- (*broadside/net.Net).Pick -/
def t18 : DFunc := { ntmps := 54, results := [(.t 6), (.t 7)], mode := .full, body :=
 (.seq (.region [⟨(some 6), .move (.c .nsl), none, .write, 0⟩, ⟨(some 7), .move (.c .nili), none, .write, 0⟩])
 (.seq (.region [⟨(some 14), .move (.t 0), none, .write, 0⟩, ⟨(some 15), .nilCheck (.t 14), none, .write, 0⟩, ⟨(some 16), .fieldAddr 3 (.t 15), none, .write, 0⟩, ⟨(some 17), .load none (.t 16), none, .write, 0⟩, ⟨(some 18), .move (.t 1), none, .write, 0⟩, ⟨(some 19), .move (.t 2), none, .write, 0⟩, ⟨(some 20), .call (.c (.func 44 [])) [(.t 17), (.t 18), (.t 19)], none, .write, 0⟩, ⟨(some 13), .move (.t 20), none, .write, 0⟩, ⟨(some 21), .extract (.t 13) 0, none, .write, 0⟩, ⟨(some 22), .extract (.t 13) 1, none, .write, 0⟩, ⟨(some 8), .alloc 102 7 (.agg [(.int .i64 0), (.int .i64 0), (.int .i64 0), (.int .i64 0), (.int .i64 0), .nsl, .nsl]), none, .write, 0⟩, ⟨none, .store 7 (.t 8) (.t 21), none, .write, 0⟩, ⟨(some 9), .move (.t 22), none, .write, 0⟩])
 (.seq (.seq (.region [⟨(some 23), .move (.t 9), none, .write, 0⟩, ⟨(some 24), .eqn 4 true (.t 23) (.c .nili), none, .write, 0⟩])
 (.cond (.t 24) (.seq (.region [⟨(some 25), .move (.t 1), none, .write, 0⟩, ⟨(some 26), .move (.t 9), none, .write, 0⟩, ⟨(some 27), .call (.c (.func 33 [])) [(.c (.str [110, 101, 116])), (.t 25), (.t 26)], none, .write, 0⟩, ⟨(some 6), .move (.c .nsl), none, .write, 0⟩, ⟨(some 7), .move (.t 27), none, .write, 0⟩])
 .ret) .skip))
 (.seq (.draw [⟨(some 29), .move (.t 0), none, .read, 0⟩, ⟨(some 30), .nilCheck (.t 29), none, .read, 0⟩, ⟨(some 31), .fieldAddr 2 (.t 30), none, .read, 0⟩, ⟨(some 32), .load none (.t 31), none, .read, 0⟩, ⟨(some 33), .move (.t 2), none, .read, 0⟩, ⟨(some 34), .indexAddr 6 (.t 32) (.t 33), none, .read, 0⟩, ⟨(some 35), .load (some 6) (.t 34), none, .read, 0⟩, ⟨(some 37), .load (some 7) (.t 8), none, .read, 0⟩, ⟨(some 36), .move (.t 1), none, .read, 0⟩, ⟨(some 38), .call (.c (.func 45 [])) [(.t 35), (.t 36), (.t 37)], none, .write, 0⟩, ⟨(some 28), .move (.t 38), none, .read, 1⟩, ⟨(some 39), .extract (.t 28) 0, none, .read, 1⟩, ⟨(some 10), .alloc 79 6 (.agg [(.int .i64 0), .nsl, .nsl, .nsl, .nsl, .nsl]), none, .create, 0⟩, ⟨none, .store 6 (.t 10) (.t 39), none, .write, 2⟩, ⟨(some 40), .extract (.t 28) 1, none, .read, 1⟩, ⟨(some 41), .extract (.t 28) 2, none, .read, 1⟩, ⟨(some 11), .move (.t 40), none, .read, 3⟩, ⟨(some 12), .move (.t 41), none, .read, 3⟩])
 (.seq (.draw [⟨(some 42), .move (.t 0), none, .read, 0⟩, ⟨(some 43), .nilCheck (.t 42), none, .read, 0⟩, ⟨(some 44), .fieldAddr 2 (.t 43), none, .read, 0⟩, ⟨(some 45), .load none (.t 44), none, .read, 0⟩, ⟨(some 47), .load (some 6) (.t 10), none, .read, 0⟩, ⟨(some 46), .move (.t 2), none, .read, 0⟩, ⟨(some 48), .indexAddr 6 (.t 45) (.t 46), none, .read, 0⟩, ⟨none, .store 6 (.t 48) (.t 47), none, .write, 0⟩])
 (.seq (.region [⟨(some 49), .move (.t 0), none, .write, 0⟩, ⟨(some 50), .move (.t 2), none, .write, 0⟩, ⟨(some 51), .move (.t 11), none, .write, 0⟩, ⟨(some 52), .call (.c (.func 46 [])) [(.t 49), (.t 50), (.t 51)], none, .write, 0⟩])
 (.seq (.region [⟨(some 53), .move (.t 12), none, .write, 0⟩, ⟨(some 6), .move (.t 53), none, .write, 0⟩, ⟨(some 7), .move (.c .nili), none, .write, 0⟩])
 .ret))))))) }

theorem c18 : compFunc Tryz.prog Tryz.f18 .full = some t18 := by kernel_rfl

/-- (*broadside/net.Net).Advertise -/
def t19 : DFunc := { ntmps := 13, results := [(.t 8)], mode := .full, body :=
 (.seq (.region [⟨(some 6), .box 32 2 (.t 2), none, .write, 0⟩, ⟨(some 7), .box 37 1 (.t 3), none, .write, 0⟩, ⟨(some 8), .move (.c .nili), none, .write, 0⟩])
 (.seq (.region [⟨(some 9), .move (.t 0), none, .write, 0⟩, ⟨(some 10), .move (.t 1), none, .write, 0⟩, ⟨(some 11), .makeFunc 48 [(.t 6), (.t 7)], none, .write, 0⟩, ⟨(some 12), .call (.c (.func 47 [])) [(.t 9), (.t 10), (.t 11)], none, .write, 0⟩, ⟨(some 8), .move (.t 12), none, .write, 0⟩])
 .ret)) }

theorem c19 : compFunc Tryz.prog Tryz.f19 .full = some t19 := by kernel_rfl

/-- (*broadside/net.Net).Subscribe -/
def t20 : DFunc := { ntmps := 13, results := [(.t 8)], mode := .full, body :=
 (.seq (.region [⟨(some 6), .box 32 2 (.t 2), none, .write, 0⟩, ⟨(some 7), .box 37 1 (.t 3), none, .write, 0⟩, ⟨(some 8), .move (.c .nili), none, .write, 0⟩])
 (.seq (.region [⟨(some 9), .move (.t 0), none, .write, 0⟩, ⟨(some 10), .move (.t 1), none, .write, 0⟩, ⟨(some 11), .makeFunc 50 [(.t 6), (.t 7)], none, .write, 0⟩, ⟨(some 12), .call (.c (.func 47 [])) [(.t 9), (.t 10), (.t 11)], none, .write, 0⟩, ⟨(some 8), .move (.t 12), none, .write, 0⟩])
 .ret)) }

theorem c20 : compFunc Tryz.prog Tryz.f20 .full = some t20 := by kernel_rfl

/-- (*broadside/net.Net).Publish -/
def t21 : DFunc := { ntmps := 20, results := [(.t 10), (.t 11)], mode := .full, body :=
 (.seq (.region [⟨(some 7), .box 32 2 (.t 2), none, .write, 0⟩, ⟨(some 8), .box 32 2 (.t 3), none, .write, 0⟩, ⟨(some 9), .box 38 1 (.t 4), none, .write, 0⟩, ⟨(some 10), .move (.c .nsl), none, .write, 0⟩, ⟨(some 11), .move (.c .nili), none, .write, 0⟩])
 (.seq (.region [⟨(some 12), .alloc 33 1 .nsl, none, .write, 0⟩])
 (.seq (.region [⟨(some 14), .move (.t 0), none, .write, 0⟩, ⟨(some 15), .move (.t 1), none, .write, 0⟩, ⟨(some 16), .makeFunc 52 [(.t 7), (.t 8), (.t 9), (.t 12)], none, .write, 0⟩, ⟨(some 17), .call (.c (.func 47 [])) [(.t 14), (.t 15), (.t 16)], none, .write, 0⟩, ⟨(some 13), .move (.t 17), none, .write, 0⟩])
 (.seq (.region [⟨(some 18), .load none (.t 12), none, .write, 0⟩, ⟨(some 19), .move (.t 13), none, .write, 0⟩, ⟨(some 10), .move (.t 18), none, .write, 0⟩, ⟨(some 11), .move (.t 19), none, .write, 0⟩])
 .ret)))) }

theorem c21 : compFunc Tryz.prog Tryz.f21 .full = some t21 := by kernel_rfl

/-- broadside/graph.Ways -/
def t28 : DFunc := { ntmps := 30, results := [(.t 2)], mode := .full, body :=
 (.seq (.region [⟨(some 1), .box 29 2 (.t 0), none, .write, 0⟩, ⟨(some 2), .move (.c .nsl), none, .write, 0⟩])
 (.seq (.region [⟨(some 3), .move (.c .nsl), none, .write, 0⟩])
 (.seq (.seq (.region [⟨(some 6), .fieldAddr 1 (.t 1), none, .write, 0⟩, ⟨(some 7), .load none (.t 6), none, .write, 0⟩, ⟨(some 8), .len 1 (.t 7), none, .write, 0⟩, ⟨(some 9), .move (.c (.int .i64 0)), none, .write, 0⟩])
 (.block 0 (.loop (.seq (.region [⟨(some 10), .arith .lss (.t 9) (.t 8), none, .write, 0⟩])
 (.seq (.cond (.t 10) .skip (.exit 0))
 (.seq (.block 1 (.seq (.region [⟨(some 11), .indexAddr 2 (.t 7) (.t 9), none, .write, 0⟩, ⟨(some 12), .load (some 2) (.t 11), none, .write, 0⟩, ⟨(some 5), .alloc 48 2 (.agg [(.int .i64 0), (.int .i64 0)]), none, .write, 0⟩, ⟨none, .store 2 (.t 5) (.t 12), none, .write, 0⟩])
 (.seq (.region [⟨(some 13), .load (some 2) (.t 1), none, .write, 0⟩, ⟨(some 14), .load (some 2) (.t 5), none, .write, 0⟩, ⟨(some 15), .call (.c (.func 63 [])) [(.t 13), (.t 14)], none, .write, 0⟩])
 (.cond (.t 15) (.region [⟨(some 16), .move (.t 3), none, .write, 0⟩, ⟨(some 17), .load (some 2) (.t 5), none, .write, 0⟩, ⟨(some 18), .indexArr 2 1 (.t 5) (.c (.int .i64 1)), none, .write, 0⟩, ⟨(some 19), .load none (.t 18), none, .write, 0⟩, ⟨(some 20), .indexArr 2 1 (.t 5) (.c (.int .i64 0)), none, .write, 0⟩, ⟨(some 21), .load none (.t 20), none, .write, 0⟩, ⟨(some 22), .build [(.int .i64 0), (.int .i64 0)] [(0, 1, (.t 19)), (1, 1, (.t 21))], none, .write, 0⟩, ⟨(some 23), .buildSlice 48 2 (.agg [(.int .i64 0), (.int .i64 0)]) 2 [(0, (.t 17)), (1, (.t 22))], none, .write, 0⟩, ⟨(some 24), .append 48 2 16 (.t 16) (.t 23), none, .write, 0⟩, ⟨(some 3), .move (.t 24), none, .write, 0⟩]) .skip))))
 (.region [⟨(some 25), .arith .add (.t 9) (.c (.int .i64 1)), none, .write, 0⟩, ⟨(some 9), .move (.t 25), none, .write, 0⟩])))))))
 (.seq (.region [⟨(some 26), .move (.t 3), none, .write, 0⟩, ⟨(some 27), .call (.c (.func 64 [])) [(.t 26), (.c (.func 65 []))], none, .write, 0⟩])
 (.seq (.region [⟨(some 28), .move (.t 3), none, .write, 0⟩, ⟨(some 29), .call (.c (.func 68 [])) [(.t 28)], none, .write, 0⟩, ⟨(some 2), .move (.t 29), none, .write, 0⟩])
 .ret))))) }

theorem c28 : compFunc Tryz.prog Tryz.f28 .full = some t28 := by kernel_rfl

/-- broadside/fault.New -/
def t33 : DFunc := { ntmps := 15, results := [(.t 6)], mode := .full, body :=
 (.seq (.region [⟨(some 6), .move (.c .nili), none, .write, 0⟩])
 (.seq (.seq (.region [⟨(some 7), .move (.t 2), none, .write, 0⟩, ⟨(some 8), .eqn 4 false (.t 7) (.c .nili), none, .write, 0⟩])
 (.cond (.t 8) (.seq (.region [⟨(some 6), .move (.c .nili), none, .write, 0⟩])
 .ret) .skip))
 (.seq (.region [⟨(some 9), .move (.t 0), none, .write, 0⟩, ⟨(some 10), .move (.t 1), none, .write, 0⟩, ⟨(some 11), .move (.t 2), none, .write, 0⟩, ⟨(some 12), .build [(.str []), (.int .i64 0), .nili] [(0, 1, (.t 9)), (1, 1, (.t 10)), (2, 1, (.t 11))], none, .write, 0⟩, ⟨(some 13), .box 149 3 (.t 12), none, .write, 0⟩, ⟨(some 14), .makeIface 146 (.t 13), none, .write, 0⟩, ⟨(some 6), .move (.t 14), none, .write, 0⟩])
 .ret))) }

theorem c33 : compFunc Tryz.prog Tryz.f33 .full = some t33 := by kernel_rfl

/-- broadside/inbox.New -/
def t34 : DFunc := { ntmps := 4, results := [(.t 0)], mode := .full, body :=
 (.seq (.region [⟨(some 0), .move (.c .nilp), none, .write, 0⟩])
 (.seq (.region [⟨(some 1), .makeMap, none, .write, 0⟩, ⟨(some 2), .build [.nmap, .nsl] [(0, 1, (.t 1))], none, .write, 0⟩, ⟨(some 3), .box 152 2 (.t 2), none, .write, 0⟩, ⟨(some 0), .move (.t 3), none, .write, 0⟩])
 .ret)) }

theorem c34 : compFunc Tryz.prog Tryz.f34 .full = some t34 := by kernel_rfl

/-- (*broadside/world.World).do -/
def t35 : DFunc := { ntmps := 38, results := [(.cell 4 (some 7)), (.t 5)], mode := .full, body :=
 (.seq (.region [⟨(some 3), .box 41 9 (.t 1), none, .write, 0⟩, ⟨(some 4), .alloc 35 7 (.agg [(.int .i64 0), (.int .i64 0), (.int .i64 0), (.int .i64 0), (.int .i64 0), (.int .i64 0), .nsl]), none, .write, 0⟩, ⟨(some 5), .move (.c .nili), none, .write, 0⟩])
 (.seq (.seq (.region [⟨(some 6), .fieldAddr 0 (.t 3), none, .write, 0⟩, ⟨(some 7), .load none (.t 6), none, .write, 0⟩])
 (.block 0 (.seq (.region [⟨(some 9), .arith .eql (.t 7) (.c (.int .i64 1)), none, .write, 0⟩, ⟨(some 8), .move (.t 9), none, .write, 0⟩])
 (.cond (.t 8) (.seq (.region [⟨(some 10), .move (.t 0), none, .write, 0⟩, ⟨(some 11), .fieldAddr 4 (.t 3), none, .write, 0⟩, ⟨(some 12), .load none (.t 11), none, .write, 0⟩, ⟨(some 13), .call (.c (.func 75 [])) [(.t 10), (.t 12)], none, .write, 0⟩, ⟨(some 14), .extract (.t 13) 0, none, .write, 0⟩, ⟨(some 15), .extract (.t 13) 1, none, .write, 0⟩, ⟨none, .store 7 (.t 4) (.t 14), none, .write, 0⟩, ⟨(some 5), .move (.t 15), none, .write, 0⟩])
 .ret) (.seq (.seq (.region [⟨(some 17), .arith .eql (.t 7) (.c (.int .i64 8)), none, .write, 0⟩, ⟨(some 16), .move (.t 17), none, .write, 0⟩])
 (.cond (.t 16) .skip (.region [⟨(some 18), .arith .eql (.t 7) (.c (.int .i64 9)), none, .write, 0⟩, ⟨(some 16), .move (.t 18), none, .write, 0⟩])))
 (.cond (.t 16) (.seq (.region [⟨(some 19), .move (.t 0), none, .write, 0⟩, ⟨(some 20), .load (some 9) (.t 3), none, .write, 0⟩, ⟨(some 21), .call (.c (.func 76 [])) [(.t 19), (.t 20)], none, .write, 0⟩, ⟨(some 22), .extract (.t 21) 0, none, .write, 0⟩, ⟨(some 23), .extract (.t 21) 1, none, .write, 0⟩, ⟨none, .store 7 (.t 4) (.t 22), none, .write, 0⟩, ⟨(some 5), .move (.t 23), none, .write, 0⟩])
 .ret) (.seq (.seq (.region [⟨(some 25), .arith .eql (.t 7) (.c (.int .i64 2)), none, .write, 0⟩, ⟨(some 24), .move (.t 25), none, .write, 0⟩])
 (.cond (.t 24) .skip (.seq (.region [⟨(some 26), .arith .eql (.t 7) (.c (.int .i64 3)), none, .write, 0⟩, ⟨(some 24), .move (.t 26), none, .write, 0⟩])
 (.cond (.t 24) .skip (.seq (.region [⟨(some 27), .arith .eql (.t 7) (.c (.int .i64 4)), none, .write, 0⟩, ⟨(some 24), .move (.t 27), none, .write, 0⟩])
 (.cond (.t 24) .skip (.seq (.region [⟨(some 28), .arith .eql (.t 7) (.c (.int .i64 5)), none, .write, 0⟩, ⟨(some 24), .move (.t 28), none, .write, 0⟩])
 (.cond (.t 24) .skip (.seq (.region [⟨(some 29), .arith .eql (.t 7) (.c (.int .i64 6)), none, .write, 0⟩, ⟨(some 24), .move (.t 29), none, .write, 0⟩])
 (.cond (.t 24) .skip (.region [⟨(some 30), .arith .eql (.t 7) (.c (.int .i64 7)), none, .write, 0⟩, ⟨(some 24), .move (.t 30), none, .write, 0⟩])))))))))))
 (.cond (.t 24) (.seq (.region [⟨(some 31), .move (.t 0), none, .write, 0⟩, ⟨(some 32), .load (some 9) (.t 3), none, .write, 0⟩, ⟨(some 33), .call (.c (.func 77 [])) [(.t 31), (.t 32)], none, .write, 0⟩, ⟨(some 34), .extract (.t 33) 0, none, .write, 0⟩, ⟨(some 35), .extract (.t 33) 1, none, .write, 0⟩, ⟨none, .store 7 (.t 4) (.t 34), none, .write, 0⟩, ⟨(some 5), .move (.t 35), none, .write, 0⟩])
 .ret) .skip))))))))
 (.seq (.region [⟨(some 36), .build [(.int .i64 0), (.int .i64 0), (.int .i64 0), (.int .i64 0), (.int .i64 0), (.int .i64 0), .nsl] [], none, .write, 0⟩, ⟨(some 37), .makeIface 30 (.c (.int .i64 1)), none, .write, 0⟩, ⟨none, .store 7 (.t 4) (.t 36), none, .write, 0⟩, ⟨(some 5), .move (.t 37), none, .write, 0⟩])
 .ret))) }

theorem c35 : compFunc Tryz.prog Tryz.f35 .full = some t35 := by kernel_rfl

/-- (*broadside/inbox.Boxes).Look -/
def t36 : DFunc := { ntmps := 12, results := [(.t 4)], mode := .full, body :=
 (.seq (.region [⟨(some 4), .move (.c .nsl), none, .write, 0⟩])
 (.seq (.region [⟨(some 5), .move (.t 0), none, .write, 0⟩, ⟨(some 6), .nilCheck (.t 5), none, .write, 0⟩, ⟨(some 7), .fieldAddr 0 (.t 6), none, .write, 0⟩, ⟨(some 8), .load none (.t 7), none, .write, 0⟩, ⟨(some 9), .move (.t 1), none, .write, 0⟩, ⟨(some 10), .lookup (.prim 1) .nsl false (.t 8) (.t 9), none, .write, 0⟩, ⟨(some 11), .call (.c (.func 78 [])) [(.t 10)], none, .write, 0⟩, ⟨(some 4), .move (.t 11), none, .write, 0⟩])
 .ret)) }

theorem c36 : compFunc Tryz.prog Tryz.f36 .full = some t36 := by kernel_rfl

/-- broadside/graph.Check -/
def t38 : DFunc := { ntmps := 56, results := [(.t 2)], mode := .full, body :=
 (.seq (.region [⟨(some 1), .box 29 2 (.t 0), none, .write, 0⟩, ⟨(some 2), .move (.c .nili), none, .write, 0⟩])
 (.seq (.region [⟨(some 6), .makeMap, none, .write, 0⟩, ⟨(some 3), .move (.t 6), none, .write, 0⟩])
 (.seq (.seq (.region [⟨(some 7), .fieldAddr 1 (.t 1), none, .write, 0⟩, ⟨(some 8), .load none (.t 7), none, .write, 0⟩, ⟨(some 9), .len 1 (.t 8), none, .write, 0⟩, ⟨(some 10), .move (.c (.int .i64 0)), none, .write, 0⟩])
 (.block 0 (.loop (.seq (.region [⟨(some 11), .arith .lss (.t 10) (.t 9), none, .write, 0⟩])
 (.seq (.cond (.t 11) .skip (.exit 0))
 (.seq (.block 1 (.seq (.region [⟨(some 12), .move (.t 10), none, .write, 0⟩, ⟨(some 13), .indexAddr 2 (.t 8) (.t 10), none, .write, 0⟩, ⟨(some 14), .load (some 2) (.t 13), none, .write, 0⟩, ⟨(some 5), .alloc 48 2 (.agg [(.int .i64 0), (.int .i64 0)]), none, .write, 0⟩, ⟨(some 4), .move (.t 12), none, .write, 0⟩, ⟨none, .store 2 (.t 5) (.t 14), none, .write, 0⟩])
 (.seq (.seq (.region [⟨(some 15), .load (some 2) (.t 1), none, .write, 0⟩, ⟨(some 16), .load (some 2) (.t 5), none, .write, 0⟩, ⟨(some 17), .call (.c (.func 63 [])) [(.t 15), (.t 16)], none, .write, 0⟩, ⟨(some 18), .un .not (.t 17), none, .write, 0⟩, ⟨(some 19), .move (.t 18), none, .write, 0⟩, ⟨(some 20), .move (.t 3), (some (19, false)), .write, 0⟩, ⟨(some 21), .load (some 2) (.t 5), (some (19, false)), .write, 0⟩, ⟨(some 22), .call (.c (.func 83 [])) [(.t 21)], (some (19, false)), .write, 0⟩, ⟨(some 23), .lookup (.agg [1, 1]) (.bool false) false (.t 20) (.t 22), (some (19, false)), .write, 0⟩, ⟨(some 24), .pick (.t 19) (.c (.bool true)) (.t 23), none, .write, 0⟩])
 (.cond (.t 24) (.seq (.region [⟨(some 25), .move (.t 4), none, .write, 0⟩, ⟨(some 26), .makeIface 30 (.c (.int .i64 2)), none, .write, 0⟩, ⟨(some 27), .call (.c (.func 33 [])) [(.c (.str [103, 114, 97, 112, 104])), (.t 25), (.t 26)], none, .write, 0⟩, ⟨(some 2), .move (.t 27), none, .write, 0⟩])
 .ret) .skip))
 (.region [⟨(some 28), .move (.t 3), none, .write, 0⟩, ⟨(some 29), .load (some 2) (.t 5), none, .write, 0⟩, ⟨(some 30), .call (.c (.func 83 [])) [(.t 29)], none, .write, 0⟩, ⟨none, .mapUpdate (.agg [1, 1]) (.t 28) (.t 30) (.c (.bool true)), none, .write, 0⟩]))))
 (.region [⟨(some 31), .arith .add (.t 10) (.c (.int .i64 1)), none, .write, 0⟩, ⟨(some 10), .move (.t 31), none, .write, 0⟩])))))))
 (.seq (.seq (.draw [⟨(some 32), .fieldAddr 0 (.t 1), none, .read, 0⟩, ⟨(some 33), .load none (.t 32), none, .read, 0⟩, ⟨(some 34), .arith .lss (.t 33) (.c (.int .i64 1)), none, .read, 0⟩, ⟨(some 35), .move (.t 34), none, .read, 0⟩, ⟨(some 36), .fieldAddr 0 (.t 1), (some (35, false)), .read, 0⟩, ⟨(some 37), .load none (.t 36), (some (35, false)), .read, 0⟩, ⟨(some 38), .arith .gtr (.t 37) (.c (.int .i64 64)), (some (35, false)), .read, 0⟩, ⟨(some 39), .pick (.t 35) (.c (.bool true)) (.t 38), none, .read, 0⟩, ⟨(some 40), .move (.t 39), none, .read, 0⟩, ⟨(some 41), .fieldAddr 1 (.t 1), (some (40, false)), .read, 0⟩, ⟨(some 42), .load none (.t 41), (some (40, false)), .read, 0⟩, ⟨(some 43), .len 1 (.t 42), (some (40, false)), .read, 0⟩, ⟨(some 44), .arith .gtr (.t 43) (.c (.int .i64 200)), (some (40, false)), .read, 0⟩, ⟨(some 45), .pick (.t 40) (.c (.bool true)) (.t 44), none, .read, 0⟩, ⟨(some 46), .move (.t 45), none, .read, 0⟩, ⟨(some 47), .load (some 2) (.t 1), (some (46, false)), .read, 0⟩, ⟨(some 48), .call (.c (.func 84 [])) [(.t 47), (.c (.int .i64 0))], (some (46, false)), .create, 0⟩, ⟨(some 49), .len 2 (.t 48), (some (46, false)), .read, 1⟩, ⟨(some 50), .fieldAddr 0 (.t 1), (some (46, false)), .read, 0⟩, ⟨(some 51), .load none (.t 50), (some (46, false)), .read, 0⟩, ⟨(some 52), .arith .neq (.t 49) (.t 51), (some (46, false)), .read, 1⟩, ⟨(some 53), .pick (.t 46) (.c (.bool true)) (.t 52), none, .read, 1⟩])
 (.cond (.t 53) (.seq (.region [⟨(some 54), .makeIface 30 (.c (.int .i64 2)), none, .write, 0⟩, ⟨(some 55), .call (.c (.func 33 [])) [(.c (.str [103, 114, 97, 112, 104])), (.c (.int .i64 (-1))), (.t 54)], none, .write, 0⟩, ⟨(some 2), .move (.t 55), none, .write, 0⟩])
 .ret) .skip))
 (.seq (.region [⟨(some 2), .move (.c .nili), none, .write, 0⟩])
 .ret))))) }

theorem c38 : compFunc Tryz.prog Tryz.f38 .full = some t38 := by kernel_rfl

/-- broadside/net.copied -/
def t39 : DFunc := { ntmps := 8, results := [(.cell 2 (some 2))], mode := .full, body :=
 (.seq (.region [⟨(some 1), .box 29 2 (.t 0), none, .write, 0⟩, ⟨(some 2), .alloc 29 2 (.agg [(.int .i64 0), .nsl]), none, .write, 0⟩])
 (.seq (.region [⟨(some 3), .fieldAddr 1 (.t 1), none, .write, 0⟩, ⟨(some 4), .load none (.t 3), none, .write, 0⟩, ⟨(some 5), .call (.c (.func 85 [])) [(.t 4)], none, .write, 0⟩, ⟨(some 6), .fieldAddr 1 (.t 1), none, .write, 0⟩, ⟨none, .store 1 (.t 6) (.t 5), none, .write, 0⟩])
 (.seq (.region [⟨(some 7), .load (some 2) (.t 1), none, .write, 0⟩, ⟨none, .store 2 (.t 2) (.t 7), none, .write, 0⟩])
 .ret))) }

theorem c39 : compFunc Tryz.prog Tryz.f39 .full = some t39 := by kernel_rfl

/-- broadside/queue.New -/
def t40 : DFunc := { ntmps := 8, results := [(.t 2)], mode := .full, body :=
 (.seq (.region [⟨(some 1), .box 29 2 (.t 0), none, .write, 0⟩, ⟨(some 2), .move (.c .nilp), none, .write, 0⟩])
 (.seq (.region [⟨(some 3), .load (some 2) (.t 1), none, .write, 0⟩, ⟨(some 4), .call (.c (.func 28 [])) [(.t 3)], none, .write, 0⟩, ⟨(some 5), .makeMap, none, .write, 0⟩, ⟨(some 6), .build [.nsl, .nmap] [(0, 1, (.t 4)), (1, 1, (.t 5))], none, .write, 0⟩, ⟨(some 7), .box 174 2 (.t 6), none, .write, 0⟩, ⟨(some 2), .move (.t 7), none, .write, 0⟩])
 .ret)) }

theorem c40 : compFunc Tryz.prog Tryz.f40 .full = some t40 := by kernel_rfl

/-- broadside/adverts.New -/
def t41 : DFunc := { ntmps := 14, results := [(.cell 4 (some 6))], mode := .full, body :=
 (.seq (.region [⟨(some 4), .alloc 79 6 (.agg [(.int .i64 0), .nsl, .nsl, .nsl, .nsl, .nsl]), none, .write, 0⟩])
 (.seq (.region [⟨(some 6), .move (.t 1), none, .write, 0⟩, ⟨(some 7), .call (.c (.func 86 [])) [(.t 6)], none, .write, 0⟩, ⟨(some 5), .move (.t 7), none, .write, 0⟩])
 (.seq (.region [⟨(some 8), .move (.t 5), none, .write, 0⟩, ⟨(some 9), .call (.c (.func 87 [])) [(.t 8)], none, .write, 0⟩])
 (.seq (.region [⟨(some 10), .move (.t 0), none, .write, 0⟩, ⟨(some 11), .move (.t 5), none, .write, 0⟩, ⟨(some 12), .call (.c (.func 88 [])) [(.t 11)], none, .write, 0⟩, ⟨(some 13), .build [(.int .i64 0), .nsl, .nsl, .nsl, .nsl, .nsl] [(0, 1, (.t 10)), (1, 1, (.t 12))], none, .write, 0⟩, ⟨none, .store 6 (.t 4) (.t 13), none, .write, 0⟩])
 .ret)))) }

theorem c41 : compFunc Tryz.prog Tryz.f41 .full = some t41 := by kernel_rfl

/-- broadside/graph.Near -/
def t42 : DFunc := { ntmps := 45, results := [(.t 4)], mode := .full, body :=
 (.seq (.region [⟨(some 2), .box 29 2 (.t 0), none, .write, 0⟩, ⟨(some 4), .move (.c .nsl), none, .write, 0⟩])
 (.seq (.region [⟨(some 5), .move (.c .nsl), none, .write, 0⟩])
 (.seq (.seq (.region [⟨(some 8), .fieldAddr 1 (.t 2), none, .write, 0⟩, ⟨(some 9), .load none (.t 8), none, .write, 0⟩, ⟨(some 10), .len 1 (.t 9), none, .write, 0⟩, ⟨(some 11), .move (.c (.int .i64 0)), none, .write, 0⟩])
 (.block 0 (.loop (.seq (.region [⟨(some 12), .arith .lss (.t 11) (.t 10), none, .write, 0⟩])
 (.seq (.cond (.t 12) .skip (.exit 0))
 (.seq (.block 1 (.seq (.region [⟨(some 13), .indexAddr 2 (.t 9) (.t 11), none, .write, 0⟩, ⟨(some 14), .load (some 2) (.t 13), none, .write, 0⟩, ⟨(some 7), .alloc 48 2 (.agg [(.int .i64 0), (.int .i64 0)]), none, .write, 0⟩, ⟨none, .store 2 (.t 7) (.t 14), none, .write, 0⟩])
 (.block 2 (.seq (.region [⟨(some 16), .load (some 2) (.t 2), none, .write, 0⟩, ⟨(some 17), .load (some 2) (.t 7), none, .write, 0⟩, ⟨(some 18), .call (.c (.func 63 [])) [(.t 16), (.t 17)], none, .write, 0⟩, ⟨(some 19), .un .not (.t 18), none, .write, 0⟩, ⟨(some 15), .move (.t 19), none, .write, 0⟩])
 (.cond (.t 15) .skip (.seq (.region [⟨(some 21), .indexArr 2 1 (.t 7) (.c (.int .i64 0)), none, .write, 0⟩, ⟨(some 22), .load none (.t 21), none, .write, 0⟩, ⟨(some 23), .move (.t 1), none, .write, 0⟩, ⟨(some 24), .arith .eql (.t 22) (.t 23), none, .write, 0⟩, ⟨(some 20), .move (.t 24), none, .write, 0⟩])
 (.cond (.t 20) (.region [⟨(some 25), .move (.t 5), none, .write, 0⟩, ⟨(some 26), .indexArr 2 1 (.t 7) (.c (.int .i64 1)), none, .write, 0⟩, ⟨(some 27), .load none (.t 26), none, .write, 0⟩, ⟨(some 28), .buildSlice 3 1 (.int .i64 0) 1 [(0, (.t 27))], none, .write, 0⟩, ⟨(some 29), .append 3 1 8 (.t 25) (.t 28), none, .write, 0⟩, ⟨(some 5), .move (.t 29), none, .write, 0⟩]) (.seq (.region [⟨(some 31), .indexArr 2 1 (.t 7) (.c (.int .i64 1)), none, .write, 0⟩, ⟨(some 32), .load none (.t 31), none, .write, 0⟩, ⟨(some 33), .move (.t 1), none, .write, 0⟩, ⟨(some 34), .arith .eql (.t 32) (.t 33), none, .write, 0⟩, ⟨(some 30), .move (.t 34), none, .write, 0⟩])
 (.cond (.t 30) (.region [⟨(some 35), .move (.t 5), none, .write, 0⟩, ⟨(some 36), .indexArr 2 1 (.t 7) (.c (.int .i64 0)), none, .write, 0⟩, ⟨(some 37), .load none (.t 36), none, .write, 0⟩, ⟨(some 38), .buildSlice 3 1 (.int .i64 0) 1 [(0, (.t 37))], none, .write, 0⟩, ⟨(some 39), .append 3 1 8 (.t 35) (.t 38), none, .write, 0⟩, ⟨(some 5), .move (.t 39), none, .write, 0⟩]) .skip)))))))))
 (.region [⟨(some 40), .arith .add (.t 11) (.c (.int .i64 1)), none, .write, 0⟩, ⟨(some 11), .move (.t 40), none, .write, 0⟩])))))))
 (.seq (.region [⟨(some 41), .move (.t 5), none, .write, 0⟩, ⟨(some 42), .call (.c (.func 87 [])) [(.t 41)], none, .write, 0⟩])
 (.seq (.region [⟨(some 43), .move (.t 5), none, .write, 0⟩, ⟨(some 44), .call (.c (.func 88 [])) [(.t 43)], none, .write, 0⟩, ⟨(some 4), .move (.t 44), none, .write, 0⟩])
 .ret))))) }

theorem c42 : compFunc Tryz.prog Tryz.f42 .full = some t42 := by kernel_rfl

/-- (*broadside/queue.Queues).Pop -/
def t44 : DFunc := { ntmps := 35, results := [(.cell 6 (some 7)), (.t 7)], mode := .full, body :=
 (.seq (.region [⟨(some 6), .alloc 102 7 (.agg [(.int .i64 0), (.int .i64 0), (.int .i64 0), (.int .i64 0), (.int .i64 0), .nsl, .nsl]), none, .write, 0⟩, ⟨(some 7), .move (.c .nili), none, .write, 0⟩])
 (.seq (.region [⟨(some 10), .move (.t 1), none, .write, 0⟩, ⟨(some 11), .move (.t 2), none, .write, 0⟩, ⟨(some 12), .build [(.int .i64 0), (.int .i64 0)] [(0, 1, (.t 10)), (1, 1, (.t 11))], none, .write, 0⟩, ⟨(some 8), .alloc 48 2 (.agg [(.int .i64 0), (.int .i64 0)]), none, .write, 0⟩, ⟨none, .store 2 (.t 8) (.t 12), none, .write, 0⟩])
 (.seq (.draw [⟨(some 13), .move (.t 0), none, .read, 0⟩, ⟨(some 14), .nilCheck (.t 13), none, .read, 0⟩, ⟨(some 15), .fieldAddr 1 (.t 14), none, .read, 0⟩, ⟨(some 16), .load none (.t 15), none, .read, 0⟩, ⟨(some 17), .load (some 2) (.t 8), none, .read, 0⟩, ⟨(some 18), .lookup (.agg [1, 1]) .nsl false (.t 16) (.t 17), none, .read, 0⟩, ⟨(some 9), .move (.t 18), none, .read, 0⟩])
 (.seq (.seq (.region [⟨(some 19), .move (.t 9), none, .write, 0⟩, ⟨(some 20), .len 1 (.t 19), none, .write, 0⟩, ⟨(some 21), .arith .eql (.t 20) (.c (.int .i64 0)), none, .write, 0⟩])
 (.cond (.t 21) (.seq (.region [⟨(some 22), .build [(.int .i64 0), (.int .i64 0), (.int .i64 0), (.int .i64 0), (.int .i64 0), .nsl, .nsl] [], none, .write, 0⟩, ⟨(some 23), .move (.t 1), none, .write, 0⟩, ⟨(some 24), .call (.c (.func 89 [])) [(.t 23)], none, .write, 0⟩, ⟨none, .store 7 (.t 6) (.t 22), none, .write, 0⟩, ⟨(some 7), .move (.t 24), none, .write, 0⟩])
 .ret) .skip))
 (.seq (.draw [⟨(some 25), .move (.t 0), none, .read, 0⟩, ⟨(some 26), .nilCheck (.t 25), none, .read, 0⟩, ⟨(some 27), .fieldAddr 1 (.t 26), none, .read, 0⟩, ⟨(some 28), .load none (.t 27), none, .read, 0⟩, ⟨(some 29), .load (some 2) (.t 8), none, .read, 0⟩, ⟨(some 30), .move (.t 9), none, .read, 0⟩, ⟨(some 31), .sliceSl 7 (.t 30) (some (.c (.int .i64 1))) none, none, .read, 0⟩, ⟨none, .mapUpdate (.agg [1, 1]) (.t 28) (.t 29) (.t 31), none, .write, 0⟩])
 (.seq (.region [⟨(some 32), .move (.t 9), none, .write, 0⟩, ⟨(some 33), .indexAddr 7 (.t 32) (.c (.int .i64 0)), none, .write, 0⟩, ⟨(some 34), .load (some 7) (.t 33), none, .write, 0⟩, ⟨none, .store 7 (.t 6) (.t 34), none, .write, 0⟩, ⟨(some 7), .move (.c .nili), none, .write, 0⟩])
 .ret)))))) }

theorem c44 : compFunc Tryz.prog Tryz.f44 .full = some t44 := by kernel_rfl

/-- broadside/broker.Step -/
def t45 : DFunc := { ntmps := 68, results := [(.cell 6 (some 6)), (.t 7), (.t 8)], mode := .full, body :=
 (.seq (.region [⟨(some 3), .box 79 6 (.t 0), none, .write, 0⟩, ⟨(some 5), .box 102 7 (.t 2), none, .write, 0⟩, ⟨(some 6), .alloc 79 6 (.agg [(.int .i64 0), .nsl, .nsl, .nsl, .nsl, .nsl]), none, .write, 0⟩, ⟨(some 7), .move (.c .nsl), none, .write, 0⟩, ⟨(some 8), .move (.c .nsl), none, .write, 0⟩])
 (.seq (.region [⟨(some 9), .move (.c .nsl), none, .write, 0⟩])
 (.seq (.seq (.region [⟨(some 12), .fieldAddr 0 (.t 5), none, .write, 0⟩, ⟨(some 13), .load none (.t 12), none, .write, 0⟩])
 (.block 0 (.seq (.region [⟨(some 15), .arith .eql (.t 13) (.c (.int .i64 1)), none, .write, 0⟩, ⟨(some 14), .move (.t 15), none, .write, 0⟩])
 (.cond (.t 14) (.region [⟨(some 17), .load (some 6) (.t 3), none, .write, 0⟩, ⟨(some 18), .move (.t 1), none, .write, 0⟩, ⟨(some 19), .fieldAddr 1 (.t 5), none, .write, 0⟩, ⟨(some 20), .load (some 2) (.t 19), none, .write, 0⟩, ⟨(some 21), .fieldAddr 5 (.t 5), none, .write, 0⟩, ⟨(some 22), .load none (.t 21), none, .write, 0⟩, ⟨(some 23), .call (.c (.func 49 [])) [(.t 17), (.t 18), (.t 20), (.t 22)], none, .write, 0⟩, ⟨(some 16), .move (.t 23), none, .write, 0⟩, ⟨(some 24), .extract (.t 16) 0, none, .write, 0⟩, ⟨(some 25), .extract (.t 16) 1, none, .write, 0⟩, ⟨none, .store 6 (.t 3) (.t 24), none, .write, 0⟩, ⟨(some 9), .move (.t 25), none, .write, 0⟩]) (.seq (.region [⟨(some 27), .arith .eql (.t 13) (.c (.int .i64 2)), none, .write, 0⟩, ⟨(some 26), .move (.t 27), none, .write, 0⟩])
 (.cond (.t 26) (.region [⟨(some 29), .load (some 6) (.t 3), none, .write, 0⟩, ⟨(some 30), .move (.t 1), none, .write, 0⟩, ⟨(some 31), .fieldAddr 1 (.t 5), none, .write, 0⟩, ⟨(some 32), .load (some 2) (.t 31), none, .write, 0⟩, ⟨(some 33), .call (.c (.func 90 [])) [(.t 29), (.t 30), (.t 32)], none, .write, 0⟩, ⟨(some 28), .move (.t 33), none, .write, 0⟩, ⟨(some 34), .extract (.t 28) 0, none, .write, 0⟩, ⟨(some 35), .extract (.t 28) 1, none, .write, 0⟩, ⟨none, .store 6 (.t 3) (.t 34), none, .write, 0⟩, ⟨(some 9), .move (.t 35), none, .write, 0⟩]) (.seq (.region [⟨(some 37), .arith .eql (.t 13) (.c (.int .i64 3)), none, .write, 0⟩, ⟨(some 36), .move (.t 37), none, .write, 0⟩])
 (.cond (.t 36) (.region [⟨(some 39), .load (some 6) (.t 3), none, .write, 0⟩, ⟨(some 40), .move (.t 1), none, .write, 0⟩, ⟨(some 41), .load (some 7) (.t 5), none, .write, 0⟩, ⟨(some 42), .call (.c (.func 91 [])) [(.t 39), (.t 40), (.t 41)], none, .write, 0⟩, ⟨(some 38), .move (.t 42), none, .write, 0⟩, ⟨(some 43), .extract (.t 38) 0, none, .write, 0⟩, ⟨(some 44), .extract (.t 38) 1, none, .write, 0⟩, ⟨none, .store 6 (.t 3) (.t 43), none, .write, 0⟩, ⟨(some 9), .move (.t 44), none, .write, 0⟩]) (.seq (.region [⟨(some 46), .arith .eql (.t 13) (.c (.int .i64 4)), none, .write, 0⟩, ⟨(some 45), .move (.t 46), none, .write, 0⟩])
 (.cond (.t 45) (.region [⟨(some 48), .load (some 6) (.t 3), none, .write, 0⟩, ⟨(some 49), .move (.t 1), none, .write, 0⟩, ⟨(some 50), .load (some 7) (.t 5), none, .write, 0⟩, ⟨(some 51), .call (.c (.func 92 [])) [(.t 48), (.t 49), (.t 50)], none, .write, 0⟩, ⟨(some 47), .move (.t 51), none, .write, 0⟩, ⟨(some 52), .extract (.t 47) 0, none, .write, 0⟩, ⟨(some 53), .extract (.t 47) 1, none, .write, 0⟩, ⟨none, .store 6 (.t 3) (.t 52), none, .write, 0⟩, ⟨(some 9), .move (.t 53), none, .write, 0⟩]) (.seq (.region [⟨(some 55), .arith .eql (.t 13) (.c (.int .i64 5)), none, .write, 0⟩, ⟨(some 54), .move (.t 55), none, .write, 0⟩])
 (.cond (.t 54) (.seq (.region [⟨(some 57), .load (some 6) (.t 3), none, .write, 0⟩, ⟨(some 58), .move (.t 1), none, .write, 0⟩, ⟨(some 59), .load (some 7) (.t 5), none, .write, 0⟩, ⟨(some 60), .call (.c (.func 53 [])) [(.t 57), (.t 58), (.t 59)], none, .write, 0⟩, ⟨(some 56), .move (.t 60), none, .write, 0⟩, ⟨(some 61), .extract (.t 56) 0, none, .write, 0⟩, ⟨(some 62), .extract (.t 56) 1, none, .write, 0⟩, ⟨(some 10), .move (.t 61), none, .write, 0⟩, ⟨(some 11), .move (.t 62), none, .write, 0⟩])
 (.seq (.region [⟨(some 63), .load (some 6) (.t 3), none, .write, 0⟩, ⟨(some 64), .move (.t 10), none, .write, 0⟩, ⟨(some 65), .move (.t 11), none, .write, 0⟩, ⟨none, .store 6 (.t 6) (.t 63), none, .write, 0⟩, ⟨(some 7), .move (.t 64), none, .write, 0⟩, ⟨(some 8), .move (.t 65), none, .write, 0⟩])
 .ret)) .skip))))))))))))
 (.seq (.region [⟨(some 66), .load (some 6) (.t 3), none, .write, 0⟩, ⟨(some 67), .move (.t 9), none, .write, 0⟩, ⟨none, .store 6 (.t 6) (.t 66), none, .write, 0⟩, ⟨(some 7), .move (.t 67), none, .write, 0⟩, ⟨(some 8), .move (.c .nsl), none, .write, 0⟩])
 .ret)))) }

theorem c45 : compFunc Tryz.prog Tryz.f45 .full = some t45 := by kernel_rfl

/-- (*broadside/net.Net).send -/
def t46 : DFunc := { ntmps := 46, results := [], mode := .full, body :=
 (.seq (.region [⟨(some 8), .move (.t 2), none, .write, 0⟩, ⟨(some 9), .len 1 (.t 8), none, .write, 0⟩, ⟨(some 10), .move (.c (.int .i64 0)), none, .write, 0⟩])
 (.block 0 (.loop (.seq (.region [⟨(some 11), .arith .lss (.t 10) (.t 9), none, .write, 0⟩])
 (.seq (.cond (.t 11) .skip (.exit 0))
 (.seq (.block 1 (.seq (.region [⟨(some 12), .indexAddr 8 (.t 8) (.t 10), none, .write, 0⟩, ⟨(some 13), .load (some 8) (.t 12), none, .write, 0⟩, ⟨(some 7), .alloc 182 8 (.agg [(.int .i64 0), (.int .i64 0), (.int .i64 0), (.int .i64 0), (.int .i64 0), (.int .i64 0), .nsl, .nsl]), none, .write, 0⟩, ⟨none, .store 8 (.t 7) (.t 13), none, .write, 0⟩])
 (.seq (.draw [⟨(some 14), .move (.t 0), none, .read, 0⟩, ⟨(some 15), .nilCheck (.t 14), none, .read, 0⟩, ⟨(some 16), .fieldAddr 3 (.t 15), none, .read, 0⟩, ⟨(some 17), .load none (.t 16), none, .read, 0⟩, ⟨(some 19), .fieldAddr 0 (.t 7), none, .read, 0⟩, ⟨(some 20), .load none (.t 19), none, .read, 0⟩, ⟨(some 21), .fieldAddr 1 (.t 7), none, .read, 0⟩, ⟨(some 22), .load (some 7) (.t 21), none, .read, 0⟩, ⟨(some 18), .move (.t 1), none, .read, 0⟩, ⟨(some 23), .buildSlice 102 7 (.agg [(.int .i64 0), (.int .i64 0), (.int .i64 0), (.int .i64 0), (.int .i64 0), .nsl, .nsl]) 1 [(0, (.t 22))], none, .create, 0⟩, ⟨(some 24), .call (.c (.func 93 [])) [(.t 17), (.t 18), (.t 20), (.t 23)], none, .write, 1⟩])
 (.seq (.region [⟨(some 25), .fieldAddr 1 (.t 7), none, .write, 0⟩, ⟨(some 26), .fieldAddr 0 (.t 25), none, .write, 0⟩, ⟨(some 27), .load none (.t 26), none, .write, 0⟩, ⟨(some 28), .arith .eql (.t 27) (.c (.int .i64 5)), none, .write, 0⟩])
 (.cond (.t 28) (.draw [⟨(some 30), .move (.t 0), none, .read, 0⟩, ⟨(some 31), .nilCheck (.t 30), none, .read, 0⟩, ⟨(some 32), .fieldAddr 4 (.t 31), none, .read, 0⟩, ⟨(some 33), .load none (.t 32), none, .read, 0⟩, ⟨(some 35), .fieldAddr 0 (.t 7), none, .read, 0⟩, ⟨(some 36), .load none (.t 35), none, .read, 0⟩, ⟨(some 37), .fieldAddr 1 (.t 7), none, .read, 0⟩, ⟨(some 38), .fieldAddr 3 (.t 37), none, .read, 0⟩, ⟨(some 39), .load (some 2) (.t 38), none, .read, 0⟩, ⟨(some 34), .move (.t 1), none, .read, 0⟩, ⟨(some 40), .build [(.int .i64 0), (.int .i64 0), (.int .i64 0), (.int .i64 0)] [(0, 1, (.t 34)), (1, 1, (.t 36)), (2, 2, (.t 39))], none, .read, 0⟩, ⟨(some 41), .buildSlice 118 4 (.agg [(.int .i64 0), (.int .i64 0), (.int .i64 0), (.int .i64 0)]) 1 [(0, (.t 40))], none, .create, 0⟩, ⟨(some 42), .append 118 4 32 (.t 33) (.t 41), none, .write, 1⟩, ⟨(some 29), .move (.t 0), none, .read, 0⟩, ⟨(some 43), .nilCheck (.t 29), none, .read, 2⟩, ⟨(some 44), .fieldAddr 4 (.t 43), none, .read, 2⟩, ⟨none, .store 1 (.t 44) (.t 42), none, .write, 2⟩]) .skip)))))
 (.region [⟨(some 45), .arith .add (.t 10) (.c (.int .i64 1)), none, .write, 0⟩, ⟨(some 10), .move (.t 45), none, .write, 0⟩]))))))) }

theorem c46 : compFunc Tryz.prog Tryz.f46 .full = some t46 := by kernel_rfl

/-- (*broadside/net.Net).does -/
def t47 : DFunc := { ntmps := 39, results := [(.t 6)], mode := .full, body :=
 (.seq (.region [⟨(some 6), .move (.c .nili), none, .write, 0⟩])
 (.seq (.seq (.region [⟨(some 9), .move (.t 0), none, .write, 0⟩, ⟨(some 10), .move (.t 1), none, .write, 0⟩, ⟨(some 11), .call (.c (.func 94 [])) [(.t 9), (.t 10)], none, .write, 0⟩, ⟨(some 12), .un .not (.t 11), none, .write, 0⟩])
 (.cond (.t 12) (.seq (.region [⟨(some 13), .move (.t 1), none, .write, 0⟩, ⟨(some 14), .makeIface 30 (.c (.int .i64 3)), none, .write, 0⟩, ⟨(some 15), .call (.c (.func 33 [])) [(.c (.str [110, 101, 116])), (.t 13), (.t 14)], none, .write, 0⟩, ⟨(some 6), .move (.t 15), none, .write, 0⟩])
 .ret) .skip))
 (.seq (.region [⟨(some 17), .move (.t 2), none, .write, 0⟩, ⟨(some 18), .move (.t 0), none, .write, 0⟩, ⟨(some 19), .nilCheck (.t 18), none, .write, 0⟩, ⟨(some 20), .fieldAddr 2 (.t 19), none, .write, 0⟩, ⟨(some 21), .load none (.t 20), none, .write, 0⟩, ⟨(some 22), .move (.t 1), none, .write, 0⟩, ⟨(some 23), .indexAddr 6 (.t 21) (.t 22), none, .write, 0⟩, ⟨(some 24), .load (some 6) (.t 23), none, .write, 0⟩, ⟨(some 25), .call (.t 17) [(.t 24)], none, .write, 0⟩, ⟨(some 16), .move (.t 25), none, .write, 0⟩, ⟨(some 26), .extract (.t 16) 0, none, .write, 0⟩, ⟨(some 27), .extract (.t 16) 1, none, .write, 0⟩, ⟨(some 7), .alloc 79 6 (.agg [(.int .i64 0), .nsl, .nsl, .nsl, .nsl, .nsl]), none, .write, 0⟩, ⟨none, .store 6 (.t 7) (.t 26), none, .write, 0⟩, ⟨(some 8), .move (.t 27), none, .write, 0⟩])
 (.seq (.draw [⟨(some 28), .move (.t 0), none, .read, 0⟩, ⟨(some 29), .nilCheck (.t 28), none, .read, 0⟩, ⟨(some 30), .fieldAddr 2 (.t 29), none, .read, 0⟩, ⟨(some 31), .load none (.t 30), none, .read, 0⟩, ⟨(some 33), .load (some 6) (.t 7), none, .read, 0⟩, ⟨(some 32), .move (.t 1), none, .read, 0⟩, ⟨(some 34), .indexAddr 6 (.t 31) (.t 32), none, .read, 0⟩, ⟨none, .store 6 (.t 34) (.t 33), none, .write, 0⟩])
 (.seq (.region [⟨(some 35), .move (.t 0), none, .write, 0⟩, ⟨(some 36), .move (.t 1), none, .write, 0⟩, ⟨(some 37), .move (.t 8), none, .write, 0⟩, ⟨(some 38), .call (.c (.func 46 [])) [(.t 35), (.t 36), (.t 37)], none, .write, 0⟩])
 (.seq (.region [⟨(some 6), .move (.c .nili), none, .write, 0⟩])
 .ret)))))) }

theorem c47 : compFunc Tryz.prog Tryz.f47 .full = some t47 := by kernel_rfl

/-- (*broadside/net.Net).Advertise$1 -/
def t48 : DFunc := { ntmps := 12, results := [(.cell 4 (some 6)), (.t 5)], mode := .full, body :=
 (.seq (.region [⟨(some 3), .box 79 6 (.t 0), none, .write, 0⟩, ⟨(some 4), .alloc 79 6 (.agg [(.int .i64 0), .nsl, .nsl, .nsl, .nsl, .nsl]), none, .write, 0⟩, ⟨(some 5), .move (.c .nsl), none, .write, 0⟩])
 (.seq (.region [⟨(some 6), .load (some 6) (.t 3), none, .write, 0⟩, ⟨(some 7), .load (some 2) (.t 1), none, .write, 0⟩, ⟨(some 8), .load none (.t 2), none, .write, 0⟩, ⟨(some 9), .call (.c (.func 49 [])) [(.t 6), (.c (.int .i64 (-1))), (.t 7), (.t 8)], none, .write, 0⟩, ⟨(some 10), .extract (.t 9) 0, none, .write, 0⟩, ⟨(some 11), .extract (.t 9) 1, none, .write, 0⟩, ⟨none, .store 6 (.t 4) (.t 10), none, .write, 0⟩, ⟨(some 5), .move (.t 11), none, .write, 0⟩])
 .ret)) }

theorem c48 : compFunc Tryz.prog Tryz.f48 .full = some t48 := by kernel_rfl

/-- broadside/flood.Advertise -/
def t49 : DFunc := { ntmps := 70, results := [(.cell 8 (some 6)), (.t 9)], mode := .full, body :=
 (.seq (.region [⟨(some 4), .box 79 6 (.t 0), none, .write, 0⟩, ⟨(some 6), .box 32 2 (.t 2), none, .write, 0⟩, ⟨(some 8), .alloc 79 6 (.agg [(.int .i64 0), .nsl, .nsl, .nsl, .nsl, .nsl]), none, .write, 0⟩, ⟨(some 9), .move (.c .nsl), none, .write, 0⟩])
 (.seq (.region [⟨(some 18), .load (some 6) (.t 4), none, .write, 0⟩, ⟨(some 19), .load (some 2) (.t 6), none, .write, 0⟩, ⟨(some 20), .move (.t 3), none, .write, 0⟩, ⟨(some 21), .move (.t 1), none, .write, 0⟩, ⟨(some 22), .build [(.int .i64 0), (.int .i64 0), .nsl, (.int .i64 0)] [(0, 2, (.t 19)), (2, 1, (.t 20)), (3, 1, (.t 21))], none, .write, 0⟩, ⟨(some 23), .call (.c (.func 95 [])) [(.t 18), (.t 22)], none, .write, 0⟩, ⟨(some 17), .move (.t 23), none, .write, 0⟩, ⟨(some 24), .extract (.t 17) 0, none, .write, 0⟩, ⟨(some 25), .extract (.t 17) 1, none, .write, 0⟩, ⟨(some 10), .alloc 79 6 (.agg [(.int .i64 0), .nsl, .nsl, .nsl, .nsl, .nsl]), none, .write, 0⟩, ⟨none, .store 6 (.t 10) (.t 24), none, .write, 0⟩, ⟨(some 11), .move (.t 25), none, .write, 0⟩])
 (.seq (.seq (.region [⟨(some 26), .move (.t 11), none, .write, 0⟩, ⟨(some 27), .un .not (.t 26), none, .write, 0⟩])
 (.cond (.t 27) (.seq (.region [⟨(some 28), .load (some 6) (.t 4), none, .write, 0⟩, ⟨none, .store 6 (.t 8) (.t 28), none, .write, 0⟩, ⟨(some 9), .move (.c .nsl), none, .write, 0⟩])
 .ret) .skip))
 (.seq (.region [⟨(some 29), .load (some 6) (.t 4), none, .write, 0⟩, ⟨(some 30), .move (.t 1), none, .write, 0⟩, ⟨(some 31), .load (some 2) (.t 6), none, .write, 0⟩, ⟨(some 32), .move (.t 3), none, .write, 0⟩, ⟨(some 33), .build [(.int .i64 0), (.int .i64 0), (.int .i64 0), (.int .i64 0), (.int .i64 0), .nsl, .nsl] [(0, 1, (.c (.int .i64 1))), (1, 2, (.t 31)), (5, 1, (.t 32))], none, .write, 0⟩, ⟨(some 34), .call (.c (.func 96 [])) [(.t 29), (.t 30), (.t 33)], none, .write, 0⟩, ⟨(some 12), .move (.t 34), none, .write, 0⟩])
 (.seq (.seq (.region [⟨(some 35), .fieldAddr 5 (.t 4), none, .write, 0⟩, ⟨(some 36), .load none (.t 35), none, .write, 0⟩, ⟨(some 37), .len 1 (.t 36), none, .write, 0⟩, ⟨(some 38), .move (.c (.int .i64 0)), none, .write, 0⟩])
 (.block 0 (.loop (.seq (.region [⟨(some 39), .arith .lss (.t 38) (.t 37), none, .write, 0⟩])
 (.seq (.cond (.t 39) .skip (.exit 0))
 (.seq (.block 1 (.seq (.region [⟨(some 40), .indexAddr 3 (.t 36) (.t 38), none, .write, 0⟩, ⟨(some 41), .load (some 3) (.t 40), none, .write, 0⟩, ⟨(some 14), .alloc 189 3 (.agg [(.int .i64 0), (.int .i64 0), .nsl]), none, .write, 0⟩, ⟨none, .store 3 (.t 14) (.t 41), none, .write, 0⟩])
 (.seq (.seq (.region [⟨(some 42), .fieldAddr 2 (.t 14), none, .write, 0⟩, ⟨(some 43), .load none (.t 42), none, .write, 0⟩, ⟨(some 44), .move (.t 3), none, .write, 0⟩, ⟨(some 45), .call (.c (.func 97 [])) [(.t 43), (.t 44)], none, .write, 0⟩, ⟨(some 46), .un .not (.t 45), none, .write, 0⟩])
 (.cond (.t 46) (.exit 1) .skip))
 (.seq (.region [⟨(some 47), .load (some 2) (.t 6), none, .write, 0⟩, ⟨(some 48), .fieldAddr 0 (.t 14), none, .write, 0⟩, ⟨(some 49), .load (some 2) (.t 48), none, .write, 0⟩, ⟨(some 50), .fieldAddr 2 (.t 14), none, .write, 0⟩, ⟨(some 51), .load none (.t 50), none, .write, 0⟩, ⟨(some 52), .build [(.int .i64 0), (.int .i64 0), (.int .i64 0), (.int .i64 0), .nsl, (.int .i64 0), (.bool false)] [(0, 2, (.t 47)), (2, 2, (.t 49)), (4, 1, (.t 51)), (5, 1, (.c (.int .i64 (-1))))], none, .write, 0⟩, ⟨(some 15), .alloc 192 7 (.agg [(.int .i64 0), (.int .i64 0), (.int .i64 0), (.int .i64 0), .nsl, (.int .i64 0), (.bool false)]), none, .write, 0⟩, ⟨none, .store 7 (.t 15) (.t 52), none, .write, 0⟩])
 (.seq (.region [⟨(some 16), .move (.c (.bool false)), none, .write, 0⟩])
 (.seq (.region [⟨(some 54), .load (some 6) (.t 10), none, .write, 0⟩, ⟨(some 55), .load (some 7) (.t 15), none, .write, 0⟩, ⟨(some 56), .call (.c (.func 98 [])) [(.t 54), (.t 55)], none, .write, 0⟩, ⟨(some 53), .move (.t 56), none, .write, 0⟩, ⟨(some 57), .extract (.t 53) 0, none, .write, 0⟩, ⟨(some 58), .extract (.t 53) 1, none, .write, 0⟩, ⟨none, .store 6 (.t 10) (.t 57), none, .write, 0⟩, ⟨(some 16), .move (.t 58), none, .write, 0⟩])
 (.seq (.region [⟨(some 59), .move (.t 16), none, .write, 0⟩])
 (.cond (.t 59) (.region [⟨(some 60), .move (.t 12), none, .write, 0⟩, ⟨(some 61), .move (.t 1), none, .write, 0⟩, ⟨(some 62), .load (some 7) (.t 15), none, .write, 0⟩, ⟨(some 63), .call (.c (.func 99 [])) [(.t 62)], none, .write, 0⟩, ⟨(some 64), .build [(.int .i64 0), (.int .i64 0), (.int .i64 0), (.int .i64 0), (.int .i64 0), (.int .i64 0), .nsl, .nsl] [(0, 1, (.t 61)), (1, 7, (.t 63))], none, .write, 0⟩, ⟨(some 65), .buildSlice 182 8 (.agg [(.int .i64 0), (.int .i64 0), (.int .i64 0), (.int .i64 0), (.int .i64 0), (.int .i64 0), .nsl, .nsl]) 1 [(0, (.t 64))], none, .write, 0⟩, ⟨(some 66), .append 182 8 96 (.t 60) (.t 65), none, .write, 0⟩, ⟨(some 12), .move (.t 66), none, .write, 0⟩]) .skip))))))))
 (.region [⟨(some 67), .arith .add (.t 38) (.c (.int .i64 1)), none, .write, 0⟩, ⟨(some 38), .move (.t 67), none, .write, 0⟩])))))))
 (.seq (.region [⟨(some 68), .load (some 6) (.t 10), none, .write, 0⟩, ⟨(some 69), .move (.t 12), none, .write, 0⟩, ⟨none, .store 6 (.t 8) (.t 68), none, .write, 0⟩, ⟨(some 9), .move (.t 69), none, .write, 0⟩])
 .ret)))))) }

theorem c49 : compFunc Tryz.prog Tryz.f49 .full = some t49 := by kernel_rfl

/-- (*broadside/net.Net).Subscribe$1 -/
def t50 : DFunc := { ntmps := 12, results := [(.cell 4 (some 6)), (.t 5)], mode := .full, body :=
 (.seq (.region [⟨(some 3), .box 79 6 (.t 0), none, .write, 0⟩, ⟨(some 4), .alloc 79 6 (.agg [(.int .i64 0), .nsl, .nsl, .nsl, .nsl, .nsl]), none, .write, 0⟩, ⟨(some 5), .move (.c .nsl), none, .write, 0⟩])
 (.seq (.region [⟨(some 6), .load (some 6) (.t 3), none, .write, 0⟩, ⟨(some 7), .load (some 2) (.t 1), none, .write, 0⟩, ⟨(some 8), .load none (.t 2), none, .write, 0⟩, ⟨(some 9), .call (.c (.func 51 [])) [(.t 6), (.t 7), (.t 8)], none, .write, 0⟩, ⟨(some 10), .extract (.t 9) 0, none, .write, 0⟩, ⟨(some 11), .extract (.t 9) 1, none, .write, 0⟩, ⟨none, .store 6 (.t 4) (.t 10), none, .write, 0⟩, ⟨(some 5), .move (.t 11), none, .write, 0⟩])
 .ret)) }

theorem c50 : compFunc Tryz.prog Tryz.f50 .full = some t50 := by kernel_rfl

/-- broadside/route.Subscribe -/
def t51 : DFunc := { ntmps := 62, results := [(.cell 6 (some 6)), (.t 7)], mode := .full, body :=
 (.seq (.region [⟨(some 3), .box 79 6 (.t 0), none, .write, 0⟩, ⟨(some 4), .box 32 2 (.t 1), none, .write, 0⟩, ⟨(some 6), .alloc 79 6 (.agg [(.int .i64 0), .nsl, .nsl, .nsl, .nsl, .nsl]), none, .write, 0⟩, ⟨(some 7), .move (.c .nsl), none, .write, 0⟩])
 (.seq (.region [⟨(some 16), .load (some 6) (.t 3), none, .write, 0⟩, ⟨(some 17), .load (some 2) (.t 4), none, .write, 0⟩, ⟨(some 18), .call (.c (.func 100 [])) [(.t 16), (.t 17)], none, .write, 0⟩, ⟨(some 15), .move (.t 18), none, .write, 0⟩, ⟨(some 19), .extract (.t 15) 0, none, .write, 0⟩, ⟨(some 20), .extract (.t 15) 1, none, .write, 0⟩, ⟨(some 8), .move (.t 19), none, .write, 0⟩, ⟨(some 9), .move (.t 20), none, .write, 0⟩])
 (.seq (.seq (.region [⟨(some 21), .move (.t 9), none, .write, 0⟩])
 (.cond (.t 21) (.seq (.region [⟨(some 22), .load (some 6) (.t 3), none, .write, 0⟩, ⟨none, .store 6 (.t 6) (.t 22), none, .write, 0⟩, ⟨(some 7), .move (.c .nsl), none, .write, 0⟩])
 .ret) .skip))
 (.seq (.draw [⟨(some 23), .fieldAddr 5 (.t 3), none, .read, 0⟩, ⟨(some 24), .load none (.t 23), none, .read, 0⟩, ⟨(some 25), .call (.c (.func 102 [])) [(.t 24)], none, .create, 0⟩, ⟨(some 27), .load (some 2) (.t 4), none, .read, 0⟩, ⟨(some 26), .move (.t 8), none, .read, 0⟩, ⟨(some 28), .move (.t 2), none, .read, 0⟩, ⟨(some 29), .build [(.int .i64 0), (.int .i64 0), .nsl] [(0, 2, (.t 27)), (2, 1, (.t 28))], none, .read, 0⟩, ⟨(some 30), .buildSlice 189 3 (.agg [(.int .i64 0), (.int .i64 0), .nsl]) 1 [(0, (.t 29))], none, .create, 0⟩, ⟨(some 31), .call (.c (.func 101 [])) [(.t 25), (.t 26), (.t 30)], none, .write, 2⟩, ⟨(some 32), .fieldAddr 5 (.t 3), none, .read, 3⟩, ⟨none, .store 1 (.t 32) (.t 31), none, .write, 3⟩])
 (.seq (.region [⟨(some 10), .move (.c .nsl), none, .write, 0⟩])
 (.seq (.seq (.region [⟨(some 33), .fieldAddr 2 (.t 3), none, .write, 0⟩, ⟨(some 34), .load none (.t 33), none, .write, 0⟩, ⟨(some 35), .len 1 (.t 34), none, .write, 0⟩, ⟨(some 36), .move (.c (.int .i64 0)), none, .write, 0⟩])
 (.block 0 (.loop (.seq (.region [⟨(some 37), .arith .lss (.t 36) (.t 35), none, .write, 0⟩])
 (.seq (.cond (.t 37) .skip (.exit 0))
 (.seq (.block 1 (.seq (.region [⟨(some 38), .indexAddr 4 (.t 34) (.t 36), none, .write, 0⟩, ⟨(some 39), .load (some 4) (.t 38), none, .write, 0⟩, ⟨(some 12), .alloc 120 4 (.agg [(.int .i64 0), (.int .i64 0), .nsl, (.int .i64 0)]), none, .write, 0⟩, ⟨none, .store 4 (.t 12) (.t 39), none, .write, 0⟩])
 (.seq (.seq (.region [⟨(some 40), .move (.t 2), none, .write, 0⟩, ⟨(some 41), .fieldAddr 2 (.t 12), none, .write, 0⟩, ⟨(some 42), .load none (.t 41), none, .write, 0⟩, ⟨(some 43), .call (.c (.func 97 [])) [(.t 40), (.t 42)], none, .write, 0⟩, ⟨(some 44), .un .not (.t 43), none, .write, 0⟩])
 (.cond (.t 44) (.exit 1) .skip))
 (.seq (.region [⟨(some 46), .load (some 6) (.t 3), none, .write, 0⟩, ⟨(some 47), .fieldAddr 0 (.t 12), none, .write, 0⟩, ⟨(some 48), .load (some 2) (.t 47), none, .write, 0⟩, ⟨(some 49), .load (some 2) (.t 4), none, .write, 0⟩, ⟨(some 50), .move (.t 2), none, .write, 0⟩, ⟨(some 51), .build [(.int .i64 0), (.int .i64 0), (.int .i64 0), (.int .i64 0), .nsl, (.int .i64 0), (.bool false)] [(0, 2, (.t 48)), (2, 2, (.t 49)), (4, 1, (.t 50)), (5, 1, (.c (.int .i64 (-1))))], none, .write, 0⟩, ⟨(some 52), .call (.c (.func 103 [])) [(.t 46), (.t 51)], none, .write, 0⟩, ⟨(some 45), .move (.t 52), none, .write, 0⟩, ⟨(some 53), .extract (.t 45) 0, none, .write, 0⟩, ⟨(some 54), .extract (.t 45) 1, none, .write, 0⟩, ⟨(some 13), .alloc 79 6 (.agg [(.int .i64 0), .nsl, .nsl, .nsl, .nsl, .nsl]), none, .write, 0⟩, ⟨none, .store 6 (.t 13) (.t 53), none, .write, 0⟩, ⟨(some 14), .move (.t 54), none, .write, 0⟩])
 (.draw [⟨(some 55), .load (some 6) (.t 13), none, .read, 0⟩, ⟨(some 56), .move (.t 10), none, .read, 0⟩, ⟨(some 57), .move (.t 14), none, .read, 0⟩, ⟨(some 58), .append 182 8 96 (.t 56) (.t 57), none, .create, 0⟩, ⟨none, .store 6 (.t 3) (.t 55), none, .write, 1⟩, ⟨(some 10), .move (.t 58), none, .read, 2⟩])))))
 (.region [⟨(some 59), .arith .add (.t 36) (.c (.int .i64 1)), none, .write, 0⟩, ⟨(some 36), .move (.t 59), none, .write, 0⟩])))))))
 (.seq (.region [⟨(some 60), .load (some 6) (.t 3), none, .write, 0⟩, ⟨(some 61), .move (.t 10), none, .write, 0⟩, ⟨none, .store 6 (.t 6) (.t 60), none, .write, 0⟩, ⟨(some 7), .move (.t 61), none, .write, 0⟩])
 .ret))))))) }

theorem c51 : compFunc Tryz.prog Tryz.f51 .full = some t51 := by kernel_rfl

/-- (*broadside/net.Net).Publish$1 -/
def t52 : DFunc := { ntmps := 22, results := [(.cell 6 (some 6)), (.t 7)], mode := .full, body :=
 (.seq (.region [⟨(some 5), .box 79 6 (.t 0), none, .write, 0⟩, ⟨(some 6), .alloc 79 6 (.agg [(.int .i64 0), .nsl, .nsl, .nsl, .nsl, .nsl]), none, .write, 0⟩, ⟨(some 7), .move (.c .nsl), none, .write, 0⟩])
 (.seq (.region [⟨(some 11), .load (some 6) (.t 5), none, .write, 0⟩, ⟨(some 12), .load (some 2) (.t 1), none, .write, 0⟩, ⟨(some 13), .load (some 2) (.t 2), none, .write, 0⟩, ⟨(some 14), .load none (.t 3), none, .write, 0⟩, ⟨(some 15), .build [(.int .i64 0), (.int .i64 0), (.int .i64 0), (.int .i64 0), (.int .i64 0), .nsl, .nsl] [(0, 1, (.c (.int .i64 5))), (1, 2, (.t 12)), (3, 2, (.t 13)), (6, 1, (.t 14))], none, .write, 0⟩, ⟨(some 16), .call (.c (.func 53 [])) [(.t 11), (.c (.int .i64 (-1))), (.t 15)], none, .write, 0⟩, ⟨(some 10), .move (.t 16), none, .write, 0⟩, ⟨(some 17), .extract (.t 10) 0, none, .write, 0⟩, ⟨(some 18), .extract (.t 10) 1, none, .write, 0⟩, ⟨(some 8), .move (.t 17), none, .write, 0⟩, ⟨(some 9), .move (.t 18), none, .write, 0⟩])
 (.seq (.region [⟨(some 19), .move (.t 9), none, .write, 0⟩, ⟨none, .store 1 (.t 4) (.t 19), none, .write, 0⟩])
 (.seq (.region [⟨(some 20), .load (some 6) (.t 5), none, .write, 0⟩, ⟨(some 21), .move (.t 8), none, .write, 0⟩, ⟨none, .store 6 (.t 6) (.t 20), none, .write, 0⟩, ⟨(some 7), .move (.t 21), none, .write, 0⟩])
 .ret)))) }

theorem c52 : compFunc Tryz.prog Tryz.f52 .full = some t52 := by kernel_rfl

/-- broadside/carry.Pub -/
def t53 : DFunc := { ntmps := 70, results := [(.t 6), (.t 7)], mode := .full, body :=
 (.seq (.region [⟨(some 3), .box 79 6 (.t 0), none, .write, 0⟩, ⟨(some 5), .box 102 7 (.t 2), none, .write, 0⟩, ⟨(some 6), .move (.c .nsl), none, .write, 0⟩, ⟨(some 7), .move (.c .nsl), none, .write, 0⟩])
 (.seq (.region [⟨(some 17), .load (some 6) (.t 3), none, .write, 0⟩, ⟨(some 18), .fieldAddr 1 (.t 5), none, .write, 0⟩, ⟨(some 19), .load (some 2) (.t 18), none, .write, 0⟩, ⟨(some 20), .call (.c (.func 55 [])) [(.t 17), (.t 19)], none, .write, 0⟩, ⟨(some 16), .move (.t 20), none, .write, 0⟩, ⟨(some 21), .extract (.t 16) 0, none, .write, 0⟩, ⟨(some 22), .extract (.t 16) 1, none, .write, 0⟩, ⟨(some 8), .alloc 120 4 (.agg [(.int .i64 0), (.int .i64 0), .nsl, (.int .i64 0)]), none, .write, 0⟩, ⟨none, .store 4 (.t 8) (.t 21), none, .write, 0⟩, ⟨(some 9), .move (.t 22), none, .write, 0⟩])
 (.seq (.seq (.region [⟨(some 23), .move (.t 9), none, .write, 0⟩, ⟨(some 24), .un .not (.t 23), none, .write, 0⟩, ⟨(some 25), .move (.t 24), none, .write, 0⟩, ⟨(some 26), .fieldAddr 3 (.t 8), (some (25, false)), .write, 0⟩, ⟨(some 27), .load none (.t 26), (some (25, false)), .write, 0⟩, ⟨(some 28), .move (.t 1), (some (25, false)), .write, 0⟩, ⟨(some 29), .arith .neq (.t 27) (.t 28), (some (25, false)), .write, 0⟩, ⟨(some 30), .pick (.t 25) (.c (.bool true)) (.t 29), none, .write, 0⟩])
 (.cond (.t 30) (.seq (.region [⟨(some 6), .move (.c .nsl), none, .write, 0⟩, ⟨(some 7), .move (.c .nsl), none, .write, 0⟩])
 .ret) .skip))
 (.seq (.region [⟨(some 10), .move (.c .nsl), none, .write, 0⟩])
 (.seq (.region [⟨(some 11), .move (.c .nsl), none, .write, 0⟩])
 (.seq (.seq (.region [⟨(some 31), .load (some 6) (.t 3), none, .write, 0⟩, ⟨(some 32), .fieldAddr 1 (.t 5), none, .write, 0⟩, ⟨(some 33), .load (some 2) (.t 32), none, .write, 0⟩, ⟨(some 34), .fieldAddr 6 (.t 5), none, .write, 0⟩, ⟨(some 35), .load none (.t 34), none, .write, 0⟩, ⟨(some 36), .call (.c (.func 104 [])) [(.t 31), (.t 33), (.t 35)], none, .write, 0⟩, ⟨(some 37), .len 1 (.t 36), none, .write, 0⟩, ⟨(some 38), .move (.c (.int .i64 0)), none, .write, 0⟩])
 (.block 0 (.loop (.seq (.region [⟨(some 39), .arith .lss (.t 38) (.t 37), none, .write, 0⟩])
 (.seq (.cond (.t 39) .skip (.exit 0))
 (.seq (.block 1 (.seq (.region [⟨(some 40), .indexAddr 1 (.t 36) (.t 38), none, .write, 0⟩, ⟨(some 41), .load none (.t 40), none, .write, 0⟩, ⟨(some 13), .move (.t 41), none, .write, 0⟩])
 (.region [⟨(some 42), .move (.t 10), none, .write, 0⟩, ⟨(some 43), .move (.t 13), none, .write, 0⟩, ⟨(some 44), .load (some 7) (.t 5), none, .write, 0⟩, ⟨(some 45), .build [(.int .i64 0), (.int .i64 0), (.int .i64 0), (.int .i64 0), (.int .i64 0), (.int .i64 0), .nsl, .nsl] [(0, 1, (.t 43)), (1, 7, (.t 44))], none, .write, 0⟩, ⟨(some 46), .buildSlice 182 8 (.agg [(.int .i64 0), (.int .i64 0), (.int .i64 0), (.int .i64 0), (.int .i64 0), (.int .i64 0), .nsl, .nsl]) 1 [(0, (.t 45))], none, .write, 0⟩, ⟨(some 47), .append 182 8 96 (.t 42) (.t 46), none, .write, 0⟩, ⟨(some 10), .move (.t 47), none, .write, 0⟩])))
 (.region [⟨(some 48), .arith .add (.t 38) (.c (.int .i64 1)), none, .write, 0⟩, ⟨(some 38), .move (.t 48), none, .write, 0⟩])))))))
 (.seq (.seq (.region [⟨(some 49), .load (some 6) (.t 3), none, .write, 0⟩, ⟨(some 50), .fieldAddr 6 (.t 5), none, .write, 0⟩, ⟨(some 51), .load none (.t 50), none, .write, 0⟩, ⟨(some 52), .call (.c (.func 105 [])) [(.t 49), (.t 51)], none, .write, 0⟩, ⟨(some 53), .len 1 (.t 52), none, .write, 0⟩, ⟨(some 54), .move (.c (.int .i64 0)), none, .write, 0⟩])
 (.block 2 (.loop (.seq (.region [⟨(some 55), .arith .lss (.t 54) (.t 53), none, .write, 0⟩])
 (.seq (.cond (.t 55) .skip (.exit 2))
 (.seq (.block 3 (.seq (.region [⟨(some 56), .indexAddr 1 (.t 52) (.t 54), none, .write, 0⟩, ⟨(some 57), .load none (.t 56), none, .write, 0⟩, ⟨(some 15), .move (.t 57), none, .write, 0⟩])
 (.region [⟨(some 58), .move (.t 11), none, .write, 0⟩, ⟨(some 59), .move (.t 15), none, .write, 0⟩, ⟨(some 60), .fieldAddr 3 (.t 5), none, .write, 0⟩, ⟨(some 61), .load (some 2) (.t 60), none, .write, 0⟩, ⟨(some 62), .fieldAddr 6 (.t 5), none, .write, 0⟩, ⟨(some 63), .load none (.t 62), none, .write, 0⟩, ⟨(some 64), .build [(.int .i64 0), (.int .i64 0), (.int .i64 0), .nsl] [(0, 1, (.t 59)), (1, 2, (.t 61)), (3, 1, (.t 63))], none, .write, 0⟩, ⟨(some 65), .buildSlice 156 4 (.agg [(.int .i64 0), (.int .i64 0), (.int .i64 0), .nsl]) 1 [(0, (.t 64))], none, .write, 0⟩, ⟨(some 66), .append 156 4 48 (.t 58) (.t 65), none, .write, 0⟩, ⟨(some 11), .move (.t 66), none, .write, 0⟩])))
 (.region [⟨(some 67), .arith .add (.t 54) (.c (.int .i64 1)), none, .write, 0⟩, ⟨(some 54), .move (.t 67), none, .write, 0⟩])))))))
 (.seq (.region [⟨(some 68), .move (.t 10), none, .write, 0⟩, ⟨(some 69), .move (.t 11), none, .write, 0⟩, ⟨(some 6), .move (.t 68), none, .write, 0⟩, ⟨(some 7), .move (.t 69), none, .write, 0⟩])
 .ret)))))))) }

theorem c53 : compFunc Tryz.prog Tryz.f53 .full = some t53 := by kernel_rfl

/-- broadside/adverts.Find -/
def t55 : DFunc := { ntmps := 22, results := [(.cell 4 (some 4)), (.t 5)], mode := .full, body :=
 (.seq (.region [⟨(some 2), .box 79 6 (.t 0), none, .write, 0⟩, ⟨(some 3), .box 32 2 (.t 1), none, .write, 0⟩, ⟨(some 4), .alloc 120 4 (.agg [(.int .i64 0), (.int .i64 0), .nsl, (.int .i64 0)]), none, .write, 0⟩, ⟨(some 5), .move (.c (.bool false)), none, .write, 0⟩])
 (.seq (.region [⟨(some 9), .load (some 6) (.t 2), none, .write, 0⟩, ⟨(some 10), .load (some 2) (.t 3), none, .write, 0⟩, ⟨(some 11), .call (.c (.func 106 [])) [(.t 9), (.t 10)], none, .write, 0⟩, ⟨(some 8), .move (.t 11), none, .write, 0⟩, ⟨(some 12), .extract (.t 8) 0, none, .write, 0⟩, ⟨(some 13), .extract (.t 8) 1, none, .write, 0⟩, ⟨(some 6), .move (.t 12), none, .write, 0⟩, ⟨(some 7), .move (.t 13), none, .write, 0⟩])
 (.seq (.seq (.region [⟨(some 14), .move (.t 7), none, .write, 0⟩, ⟨(some 15), .un .not (.t 14), none, .write, 0⟩])
 (.cond (.t 15) (.seq (.region [⟨(some 16), .build [(.int .i64 0), (.int .i64 0), .nsl, (.int .i64 0)] [], none, .write, 0⟩, ⟨none, .store 4 (.t 4) (.t 16), none, .write, 0⟩, ⟨(some 5), .move (.c (.bool false)), none, .write, 0⟩])
 .ret) .skip))
 (.seq (.region [⟨(some 17), .fieldAddr 2 (.t 2), none, .write, 0⟩, ⟨(some 18), .load none (.t 17), none, .write, 0⟩, ⟨(some 19), .move (.t 6), none, .write, 0⟩, ⟨(some 20), .indexAddr 4 (.t 18) (.t 19), none, .write, 0⟩, ⟨(some 21), .load (some 4) (.t 20), none, .write, 0⟩, ⟨none, .store 4 (.t 4) (.t 21), none, .write, 0⟩, ⟨(some 5), .move (.c (.bool true)), none, .write, 0⟩])
 .ret)))) }

theorem c55 : compFunc Tryz.prog Tryz.f55 .full = some t55 := by kernel_rfl

/-- broadside/graph.may -/
def t63 : DFunc := { ntmps := 22, results := [(.t 4)], mode := .full, body :=
 (.seq (.region [⟨(some 2), .box 29 2 (.t 0), none, .write, 0⟩, ⟨(some 3), .box 48 2 (.t 1), none, .write, 0⟩, ⟨(some 4), .move (.c (.bool false)), none, .write, 0⟩])
 (.seq (.region [⟨(some 5), .load (some 2) (.t 2), none, .write, 0⟩, ⟨(some 6), .indexArr 2 1 (.t 3) (.c (.int .i64 0)), none, .write, 0⟩, ⟨(some 7), .load none (.t 6), none, .write, 0⟩, ⟨(some 8), .call (.c (.func 113 [])) [(.t 5), (.t 7)], none, .write, 0⟩, ⟨(some 9), .move (.t 8), none, .write, 0⟩, ⟨(some 10), .load (some 2) (.t 2), (some (9, true)), .write, 0⟩, ⟨(some 11), .indexArr 2 1 (.t 3) (.c (.int .i64 1)), (some (9, true)), .write, 0⟩, ⟨(some 12), .load none (.t 11), (some (9, true)), .write, 0⟩, ⟨(some 13), .call (.c (.func 113 [])) [(.t 10), (.t 12)], (some (9, true)), .write, 0⟩, ⟨(some 14), .pick (.t 9) (.t 13) (.c (.bool false)), none, .write, 0⟩, ⟨(some 15), .move (.t 14), none, .write, 0⟩, ⟨(some 16), .indexArr 2 1 (.t 3) (.c (.int .i64 0)), (some (15, true)), .write, 0⟩, ⟨(some 17), .load none (.t 16), (some (15, true)), .write, 0⟩, ⟨(some 18), .indexArr 2 1 (.t 3) (.c (.int .i64 1)), (some (15, true)), .write, 0⟩, ⟨(some 19), .load none (.t 18), (some (15, true)), .write, 0⟩, ⟨(some 20), .arith .neq (.t 17) (.t 19), (some (15, true)), .write, 0⟩, ⟨(some 21), .pick (.t 15) (.t 20) (.c (.bool false)), none, .write, 0⟩, ⟨(some 4), .move (.t 21), none, .write, 0⟩])
 .ret)) }

theorem c63 : compFunc Tryz.prog Tryz.f63 .full = some t63 := by kernel_rfl

/-- slices.SortFunc[[][2]int,[2]int] -/
def t64 : DFunc := { ntmps := 14, results := [], mode := .full, body :=
 (.seq (.region [⟨(some 5), .move (.t 0), none, .write, 0⟩, ⟨(some 6), .len 1 (.t 5), none, .write, 0⟩, ⟨(some 4), .move (.t 6), none, .write, 0⟩])
 (.region [⟨(some 7), .move (.t 0), none, .write, 0⟩, ⟨(some 8), .move (.t 4), none, .write, 0⟩, ⟨(some 9), .move (.t 4), none, .write, 0⟩, ⟨(some 10), .conv .u64 (.t 9), none, .write, 0⟩, ⟨(some 11), .call (.c (.func 115 [])) [(.t 10)], none, .write, 0⟩, ⟨(some 12), .move (.t 1), none, .write, 0⟩, ⟨(some 13), .call (.c (.func 114 [])) [(.t 7), (.c (.int .i64 0)), (.t 8), (.t 11), (.t 12)], none, .write, 0⟩])) }

theorem c64 : compFunc Tryz.prog Tryz.f64 .full = some t64 := by kernel_rfl

/-- broadside/graph.Ways$1 -/
def t65 : DFunc := { ntmps := 17, results := [(.t 4)], mode := .full, body :=
 (.seq (.region [⟨(some 2), .box 48 2 (.t 0), none, .write, 0⟩, ⟨(some 3), .box 48 2 (.t 1), none, .write, 0⟩, ⟨(some 4), .move (.c (.int .i64 0)), none, .write, 0⟩])
 (.seq (.draw [⟨(some 5), .indexArr 2 1 (.t 2) (.c (.int .i64 0)), none, .read, 0⟩, ⟨(some 6), .load none (.t 5), none, .read, 0⟩, ⟨(some 7), .indexArr 2 1 (.t 3) (.c (.int .i64 0)), none, .read, 0⟩, ⟨(some 8), .load none (.t 7), none, .read, 0⟩, ⟨(some 9), .call (.c (.func 67 [])) [(.t 6), (.t 8)], none, .create, 0⟩, ⟨(some 10), .indexArr 2 1 (.t 2) (.c (.int .i64 1)), none, .read, 0⟩, ⟨(some 11), .load none (.t 10), none, .read, 0⟩, ⟨(some 12), .indexArr 2 1 (.t 3) (.c (.int .i64 1)), none, .read, 0⟩, ⟨(some 13), .load none (.t 12), none, .read, 0⟩, ⟨(some 14), .call (.c (.func 67 [])) [(.t 11), (.t 13)], none, .write, 1⟩, ⟨(some 15), .buildSlice 3 1 (.int .i64 0) 2 [(0, (.t 9)), (1, (.t 14))], none, .create, 0⟩, ⟨(some 16), .call (.c (.func 66 [])) [(.t 15)], none, .write, 3⟩, ⟨(some 4), .move (.t 16), none, .read, 4⟩])
 .ret)) }

theorem c65 : compFunc Tryz.prog Tryz.f65 .full = some t65 := by kernel_rfl

end Go.Dm.TabW
