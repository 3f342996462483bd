/-
The table of functions, brought into the machine's form (TabB, part 0). Written by program (wip/tools/table.lean.txt).
-/
import Derived.Test.YtdacnhfdcejahaaGreatDoorDm32
import Derived.Test.YtdacnhfdcejahaaGreatDoorRows
import Derived.KernelRfl
namespace Go.Dm.TabB
open Go.Proofs

/-- broadside/broadsidelaw14.BrokerRuns -/
def t3 : DFunc := { ntmps := 34, results := [(.t 0)], mode := .full, body :=
 (.seq (.region [⟨(some 0), .move (.c (.bool false)), none, .write, 0⟩])
 (.seq (.region [⟨(some 6), .buildSlice 3 1 (.int .i64 0) 1 [(0, (.c (.int .i64 1)))], none, .write, 0⟩, ⟨(some 7), .call (.c (.func 12 [])) [(.c (.int .i64 0)), (.t 6)], none, .write, 0⟩, ⟨(some 8), .buildSlice 5 1 (.int .u8 0) 1 [(0, (.c (.int .u8 9)))], none, .write, 0⟩, ⟨(some 9), .call (.c (.func 11 [])) [(.t 7), (.c (.int .i64 1)), (.t 8)], none, .write, 0⟩, ⟨(some 5), .move (.t 9), none, .write, 0⟩, ⟨(some 10), .extract (.t 5) 0, none, .write, 0⟩, ⟨(some 11), .extract (.t 5) 1, none, .write, 0⟩, ⟨(some 12), .extract (.t 5) 2, none, .write, 0⟩, ⟨(some 13), .extract (.t 5) 3, none, .write, 0⟩, ⟨(some 1), .alloc 28 6 (.agg [(.int .i64 0), .nsl, .nsl, .nsl, .nsl, .nsl]), none, .write, 0⟩, ⟨none, .store 6 (.t 1) (.t 10), none, .write, 0⟩, ⟨(some 2), .move (.t 11), none, .write, 0⟩, ⟨(some 3), .move (.t 12), none, .write, 0⟩, ⟨(some 4), .move (.t 13), none, .write, 0⟩])
 (.seq (.region [⟨(some 14), .move (.t 4), none, .write, 0⟩, ⟨(some 15), .call (.c (.func 13 [])) [(.t 14)], none, .write, 0⟩, ⟨(some 16), .arith .eql (.t 15) (.c (.int .i64 1)), none, .write, 0⟩, ⟨(some 17), .move (.t 16), none, .write, 0⟩, ⟨(some 18), .move (.t 4), (some (17, true)), .write, 0⟩, ⟨(some 19), .call (.c (.func 15 [])) [(.t 18)], (some (17, true)), .write, 0⟩, ⟨(some 20), .buildSlice 9 1 (.str []) 2 [(0, (.c (.str [98, 114, 111, 107, 101, 114]))), (1, (.c (.str [119, 105, 114, 101])))], (some (17, true)), .write, 0⟩, ⟨(some 21), .call (.c (.func 14 [])) [(.t 19), (.t 20)], (some (17, true)), .write, 0⟩, ⟨(some 22), .pick (.t 17) (.t 21) (.c (.bool false)), none, .write, 0⟩, ⟨(some 23), .move (.t 22), none, .write, 0⟩, ⟨(some 24), .move (.t 4), (some (23, true)), .write, 0⟩, ⟨(some 25), .call (.c (.func 16 [])) [(.t 24)], (some (23, true)), .write, 0⟩, ⟨(some 26), .arith .eql (.t 25) (.c (.int .i64 1)), (some (23, true)), .write, 0⟩, ⟨(some 27), .pick (.t 23) (.t 26) (.c (.bool false)), none, .write, 0⟩, ⟨(some 28), .move (.t 27), none, .write, 0⟩, ⟨(some 29), .buildSlice 3 1 (.int .i64 0) 1 [(0, (.c (.int .i64 1)))], (some (28, true)), .write, 0⟩, ⟨(some 30), .call (.c (.func 12 [])) [(.c (.int .i64 0)), (.t 29)], (some (28, true)), .write, 0⟩, ⟨(some 31), .build [(.int .i64 0), (.int .i64 0), (.int .i64 0), (.int .i64 0), (.int .i64 0), .nsl, .nsl] [(0, 1, (.c (.int .i64 2)))], (some (28, true)), .write, 0⟩, ⟨(some 32), .call (.c (.func 17 [])) [(.t 30), (.c (.int .i64 1)), (.t 31)], (some (28, true)), .write, 0⟩, ⟨(some 33), .pick (.t 28) (.t 32) (.c (.bool false)), none, .write, 0⟩, ⟨(some 0), .move (.t 33), none, .write, 0⟩])
 .ret))) }

theorem c3 : compFunc Tryz.prog Tryz.f3 .full = some t3 := by kernel_rfl

/-- broadside/broker.Bytes -/
def t11 : DFunc := { ntmps := 37, results := [(.cell 6 (some 6)), (.t 7), (.t 8), (.t 9)], mode := .full, body :=
 (.seq (.region [⟨(some 3), .box 28 6 (.t 0), none, .write, 0⟩, ⟨(some 6), .alloc 28 6 (.agg [(.int .i64 0), .nsl, .nsl, .nsl, .nsl, .nsl]), none, .write, 0⟩, ⟨(some 7), .move (.c .nsl), none, .write, 0⟩, ⟨(some 8), .move (.c .nsl), none, .write, 0⟩, ⟨(some 9), .move (.c .nili), none, .write, 0⟩])
 (.seq (.region [⟨(some 16), .move (.t 2), none, .write, 0⟩, ⟨(some 17), .call (.c (.func 46 [])) [(.t 16)], none, .write, 0⟩, ⟨(some 15), .move (.t 17), none, .write, 0⟩, ⟨(some 18), .extract (.t 15) 0, none, .write, 0⟩, ⟨(some 19), .extract (.t 15) 1, none, .write, 0⟩, ⟨(some 10), .alloc 49 7 (.agg [(.int .i64 0), (.int .i64 0), (.int .i64 0), (.int .i64 0), (.int .i64 0), .nsl, .nsl]), none, .write, 0⟩, ⟨none, .store 7 (.t 10) (.t 18), none, .write, 0⟩, ⟨(some 11), .move (.t 19), none, .write, 0⟩])
 (.seq (.seq (.region [⟨(some 20), .move (.t 11), none, .write, 0⟩, ⟨(some 21), .eqn 4 true (.t 20) (.c .nili), none, .write, 0⟩])
 (.cond (.t 21) (.seq (.draw [⟨(some 22), .load (some 6) (.t 3), none, .read, 0⟩, ⟨(some 23), .move (.t 1), none, .read, 0⟩, ⟨(some 24), .move (.t 11), none, .read, 0⟩, ⟨(some 25), .call (.c (.func 47 [])) [(.c (.str [98, 114, 111, 107, 101, 114])), (.t 23), (.t 24)], none, .create, 0⟩, ⟨none, .store 6 (.t 6) (.t 22), none, .write, 1⟩, ⟨(some 7), .move (.c .nsl), none, .read, 2⟩, ⟨(some 8), .move (.c .nsl), none, .read, 2⟩, ⟨(some 9), .move (.t 25), none, .read, 2⟩])
 .ret) .skip))
 (.seq (.region [⟨(some 27), .load (some 6) (.t 3), none, .write, 0⟩, ⟨(some 28), .move (.t 1), none, .write, 0⟩, ⟨(some 29), .load (some 7) (.t 10), none, .write, 0⟩, ⟨(some 30), .call (.c (.func 48 [])) [(.t 27), (.t 28), (.t 29)], none, .write, 0⟩, ⟨(some 26), .move (.t 30), none, .write, 0⟩, ⟨(some 31), .extract (.t 26) 0, none, .write, 0⟩, ⟨(some 32), .extract (.t 26) 1, none, .write, 0⟩, ⟨(some 33), .extract (.t 26) 2, none, .write, 0⟩, ⟨(some 12), .alloc 28 6 (.agg [(.int .i64 0), .nsl, .nsl, .nsl, .nsl, .nsl]), none, .write, 0⟩, ⟨none, .store 6 (.t 12) (.t 31), none, .write, 0⟩, ⟨(some 13), .move (.t 32), none, .write, 0⟩, ⟨(some 14), .move (.t 33), none, .write, 0⟩])
 (.seq (.region [⟨(some 34), .load (some 6) (.t 12), none, .write, 0⟩, ⟨(some 35), .move (.t 13), none, .write, 0⟩, ⟨(some 36), .move (.t 14), none, .write, 0⟩, ⟨none, .store 6 (.t 6) (.t 34), none, .write, 0⟩, ⟨(some 7), .move (.t 35), none, .write, 0⟩, ⟨(some 8), .move (.t 36), none, .write, 0⟩, ⟨(some 9), .move (.c .nili), none, .write, 0⟩])
 .ret))))) }

theorem c11 : compFunc Tryz.prog Tryz.f11 .full = some t11 := by kernel_rfl

/-- broadside/adverts.New -/
def t12 : DFunc := { ntmps := 14, results := [(.cell 4 (some 6))], mode := .full, body :=
 (.seq (.region [⟨(some 4), .alloc 28 6 (.agg [(.int .i64 0), .nsl, .nsl, .nsl, .nsl, .nsl]), none, .write, 0⟩])
 (.seq (.region [⟨(some 6), .move (.t 1), none, .write, 0⟩, ⟨(some 7), .call (.c (.func 49 [])) [(.t 6)], none, .write, 0⟩, ⟨(some 5), .move (.t 7), none, .write, 0⟩])
 (.seq (.region [⟨(some 8), .move (.t 5), none, .write, 0⟩, ⟨(some 9), .call (.c (.func 50 [])) [(.t 8)], none, .write, 0⟩])
 (.seq (.region [⟨(some 10), .move (.t 0), none, .write, 0⟩, ⟨(some 11), .move (.t 5), none, .write, 0⟩, ⟨(some 12), .call (.c (.func 51 [])) [(.t 11)], none, .write, 0⟩, ⟨(some 13), .build [(.int .i64 0), .nsl, .nsl, .nsl, .nsl, .nsl] [(0, 1, (.t 10)), (1, 1, (.t 12))], none, .write, 0⟩, ⟨none, .store 6 (.t 4) (.t 13), none, .write, 0⟩])
 .ret)))) }

theorem c12 : compFunc Tryz.prog Tryz.f12 .full = some t12 := by kernel_rfl

/-- broadside/fault.Kind -/
def t13 : DFunc := { ntmps := 8, results := [(.t 2)], mode := .full, body :=
 (.seq (.region [⟨(some 2), .move (.c (.int .i64 0)), none, .write, 0⟩])
 (.seq (.region [⟨(some 3), .alloc 37 1 (.int .i64 0), none, .write, 0⟩])
 (.seq (.seq (.region [⟨(some 4), .move (.t 0), none, .write, 0⟩, ⟨(some 5), .makeIface 113 (.t 3), none, .write, 0⟩, ⟨(some 6), .call (.c (.func 52 [])) [(.t 4), (.t 5)], none, .write, 0⟩])
 (.cond (.t 6) (.seq (.region [⟨(some 7), .load none (.t 3), none, .write, 0⟩, ⟨(some 2), .move (.t 7), none, .write, 0⟩])
 .ret) .skip))
 (.seq (.region [⟨(some 2), .move (.c (.int .i64 0)), none, .write, 0⟩])
 .ret)))) }

theorem c13 : compFunc Tryz.prog Tryz.f13 .full = some t13 := by kernel_rfl

/-- broadside/broadsidebook.Same[string] -/
def t14 : DFunc := { ntmps := 26, results := [(.t 4)], mode := .full, body :=
 (.seq (.region [⟨(some 4), .move (.c (.bool false)), none, .write, 0⟩])
 (.seq (.seq (.region [⟨(some 6), .move (.t 0), none, .write, 0⟩, ⟨(some 7), .len 1 (.t 6), none, .write, 0⟩, ⟨(some 8), .move (.t 1), none, .write, 0⟩, ⟨(some 9), .len 1 (.t 8), none, .write, 0⟩, ⟨(some 10), .arith .neq (.t 7) (.t 9), none, .write, 0⟩])
 (.cond (.t 10) (.seq (.region [⟨(some 4), .move (.c (.bool false)), none, .write, 0⟩])
 .ret) .skip))
 (.seq (.seq (.region [⟨(some 5), .move (.c (.int .i64 0)), none, .write, 0⟩])
 (.block 0 (.loop (.seq (.seq (.region [⟨(some 11), .move (.t 5), none, .write, 0⟩, ⟨(some 12), .move (.t 0), none, .write, 0⟩, ⟨(some 13), .len 1 (.t 12), none, .write, 0⟩, ⟨(some 14), .arith .lss (.t 11) (.t 13), none, .write, 0⟩])
 (.cond (.t 14) .skip (.exit 0)))
 (.seq (.block 1 (.seq (.draw [⟨(some 17), .move (.t 0), none, .read, 0⟩, ⟨(some 18), .move (.t 5), none, .read, 0⟩, ⟨(some 19), .indexAddr 1 (.t 17) (.t 18), none, .read, 0⟩, ⟨(some 20), .load none (.t 19), none, .read, 0⟩, ⟨(some 21), .move (.t 1), none, .read, 0⟩, ⟨(some 22), .move (.t 5), none, .read, 0⟩, ⟨(some 23), .indexAddr 1 (.t 21) (.t 22), none, .read, 0⟩, ⟨(some 24), .load none (.t 23), none, .read, 0⟩, ⟨(some 25), .arith .neq (.t 20) (.t 24), none, .read, 0⟩])
 (.cond (.t 25) (.seq (.region [⟨(some 4), .move (.c (.bool false)), none, .write, 0⟩])
 .ret) .skip)))
 (.region [⟨(some 15), .move (.t 5), none, .write, 0⟩, ⟨(some 16), .arith .add (.t 15) (.c (.int .i64 1)), none, .write, 0⟩, ⟨(some 5), .move (.t 16), none, .write, 0⟩]))))))
 (.seq (.region [⟨(some 4), .move (.c (.bool true)), none, .write, 0⟩])
 .ret)))) }

theorem c14 : compFunc Tryz.prog Tryz.f14 .full = some t14 := by kernel_rfl

/-- broadside/fault.Trace -/
def t15 : DFunc := { ntmps := 22, results := [(.t 2)], mode := .full, body :=
 (.seq (.region [⟨(some 2), .move (.c .nsl), none, .write, 0⟩])
 (.seq (.region [⟨(some 3), .move (.c .nsl), none, .write, 0⟩])
 (.seq (.seq (.region [⟨(some 6), .move (.t 0), none, .write, 0⟩, ⟨(some 7), .call (.c (.func 53 [])) [(.t 6)], none, .write, 0⟩, ⟨(some 8), .len 1 (.t 7), none, .write, 0⟩, ⟨(some 9), .move (.c (.int .i64 0)), none, .write, 0⟩])
 (.block 0 (.loop (.seq (.region [⟨(some 10), .arith .lss (.t 9) (.t 8), none, .write, 0⟩])
 (.seq (.cond (.t 10) .skip (.exit 0))
 (.seq (.block 1 (.seq (.region [⟨(some 11), .indexAddr 1 (.t 7) (.t 9), none, .write, 0⟩, ⟨(some 12), .load none (.t 11), none, .write, 0⟩, ⟨(some 5), .move (.t 12), none, .write, 0⟩])
 (.region [⟨(some 13), .move (.t 3), none, .write, 0⟩, ⟨(some 14), .move (.t 5), none, .write, 0⟩, ⟨(some 15), .nilCheck (.t 14), none, .write, 0⟩, ⟨(some 16), .fieldAddr 0 (.t 15), none, .write, 0⟩, ⟨(some 17), .load none (.t 16), none, .write, 0⟩, ⟨(some 18), .buildSlice 9 1 (.str []) 1 [(0, (.t 17))], none, .write, 0⟩, ⟨(some 19), .append 9 1 16 (.t 13) (.t 18), none, .write, 0⟩, ⟨(some 3), .move (.t 19), none, .write, 0⟩])))
 (.region [⟨(some 20), .arith .add (.t 9) (.c (.int .i64 1)), none, .write, 0⟩, ⟨(some 9), .move (.t 20), none, .write, 0⟩])))))))
 (.seq (.region [⟨(some 21), .move (.t 3), none, .write, 0⟩, ⟨(some 2), .move (.t 21), none, .write, 0⟩])
 .ret)))) }

theorem c15 : compFunc Tryz.prog Tryz.f15 .full = some t15 := by kernel_rfl

/-- broadside/fault.Place -/
def t16 : DFunc := { ntmps := 11, results := [(.t 2)], mode := .full, body :=
 (.seq (.region [⟨(some 2), .move (.c (.int .i64 0)), none, .write, 0⟩])
 (.seq (.region [⟨(some 3), .alloc 116 1 .nilp, none, .write, 0⟩])
 (.seq (.seq (.region [⟨(some 4), .move (.t 0), none, .write, 0⟩, ⟨(some 5), .makeIface 119 (.t 3), none, .write, 0⟩, ⟨(some 6), .call (.c (.func 52 [])) [(.t 4), (.t 5)], none, .write, 0⟩])
 (.cond (.t 6) (.seq (.region [⟨(some 7), .load none (.t 3), none, .write, 0⟩, ⟨(some 8), .nilCheck (.t 7), none, .write, 0⟩, ⟨(some 9), .fieldAddr 1 (.t 8), none, .write, 0⟩, ⟨(some 10), .load none (.t 9), none, .write, 0⟩, ⟨(some 2), .move (.t 10), none, .write, 0⟩])
 .ret) .skip))
 (.seq (.region [⟨(some 2), .move (.c (.int .i64 (-1))), none, .write, 0⟩])
 .ret)))) }

theorem c16 : compFunc Tryz.prog Tryz.f16 .full = some t16 := by kernel_rfl

/-- broadside/broker.Quiet -/
def t17 : DFunc := { ntmps := 31, results := [(.t 6)], mode := .full, body :=
 (.seq (.region [⟨(some 3), .box 28 6 (.t 0), none, .write, 0⟩, ⟨(some 5), .box 49 7 (.t 2), none, .write, 0⟩, ⟨(some 6), .move (.c (.bool false)), none, .write, 0⟩])
 (.seq (.region [⟨(some 11), .load (some 6) (.t 3), none, .write, 0⟩, ⟨(some 12), .move (.t 1), none, .write, 0⟩, ⟨(some 13), .load (some 7) (.t 5), none, .write, 0⟩, ⟨(some 14), .call (.c (.func 48 [])) [(.t 11), (.t 12), (.t 13)], none, .write, 0⟩, ⟨(some 10), .move (.t 14), none, .write, 0⟩, ⟨(some 15), .extract (.t 10) 0, none, .write, 0⟩, ⟨(some 16), .extract (.t 10) 1, none, .write, 0⟩, ⟨(some 17), .extract (.t 10) 2, none, .write, 0⟩, ⟨(some 7), .alloc 28 6 (.agg [(.int .i64 0), .nsl, .nsl, .nsl, .nsl, .nsl]), none, .write, 0⟩, ⟨none, .store 6 (.t 7) (.t 15), none, .write, 0⟩, ⟨(some 8), .move (.t 16), none, .write, 0⟩, ⟨(some 9), .move (.t 17), none, .write, 0⟩])
 (.seq (.region [⟨(some 18), .load (some 6) (.t 7), none, .write, 0⟩, ⟨(some 19), .load (some 6) (.t 3), none, .write, 0⟩, ⟨(some 20), .call (.c (.func 54 [])) [(.t 18), (.t 19)], none, .write, 0⟩, ⟨(some 21), .move (.t 20), none, .write, 0⟩, ⟨(some 22), .move (.t 8), (some (21, true)), .write, 0⟩, ⟨(some 23), .len 1 (.t 22), (some (21, true)), .write, 0⟩, ⟨(some 24), .arith .eql (.t 23) (.c (.int .i64 0)), (some (21, true)), .write, 0⟩, ⟨(some 25), .pick (.t 21) (.t 24) (.c (.bool false)), none, .write, 0⟩, ⟨(some 26), .move (.t 25), none, .write, 0⟩, ⟨(some 27), .move (.t 9), (some (26, true)), .write, 0⟩, ⟨(some 28), .len 1 (.t 27), (some (26, true)), .write, 0⟩, ⟨(some 29), .arith .eql (.t 28) (.c (.int .i64 0)), (some (26, true)), .write, 0⟩, ⟨(some 30), .pick (.t 26) (.t 29) (.c (.bool false)), none, .write, 0⟩, ⟨(some 6), .move (.t 30), none, .write, 0⟩])
 .ret))) }

theorem c17 : compFunc Tryz.prog Tryz.f17 .full = some t17 := by kernel_rfl

/-- broadside/adverts.Find -/
def t26 : DFunc := { ntmps := 22, results := [(.cell 4 (some 4)), (.t 5)], mode := .full, body :=
 (.seq (.region [⟨(some 2), .box 28 6 (.t 0), none, .write, 0⟩, ⟨(some 3), .box 45 2 (.t 1), none, .write, 0⟩, ⟨(some 4), .alloc 70 4 (.agg [(.int .i64 0), (.int .i64 0), .nsl, (.int .i64 0)]), none, .write, 0⟩, ⟨(some 5), .move (.c (.bool false)), none, .write, 0⟩])
 (.seq (.region [⟨(some 9), .load (some 6) (.t 2), none, .write, 0⟩, ⟨(some 10), .load (some 2) (.t 3), none, .write, 0⟩, ⟨(some 11), .call (.c (.func 73 [])) [(.t 9), (.t 10)], none, .write, 0⟩, ⟨(some 8), .move (.t 11), none, .write, 0⟩, ⟨(some 12), .extract (.t 8) 0, none, .write, 0⟩, ⟨(some 13), .extract (.t 8) 1, none, .write, 0⟩, ⟨(some 6), .move (.t 12), none, .write, 0⟩, ⟨(some 7), .move (.t 13), none, .write, 0⟩])
 (.seq (.seq (.region [⟨(some 14), .move (.t 7), none, .write, 0⟩, ⟨(some 15), .un .not (.t 14), none, .write, 0⟩])
 (.cond (.t 15) (.seq (.region [⟨(some 16), .build [(.int .i64 0), (.int .i64 0), .nsl, (.int .i64 0)] [], none, .write, 0⟩, ⟨none, .store 4 (.t 4) (.t 16), none, .write, 0⟩, ⟨(some 5), .move (.c (.bool false)), none, .write, 0⟩])
 .ret) .skip))
 (.seq (.region [⟨(some 17), .fieldAddr 2 (.t 2), none, .write, 0⟩, ⟨(some 18), .load none (.t 17), none, .write, 0⟩, ⟨(some 19), .move (.t 6), none, .write, 0⟩, ⟨(some 20), .indexAddr 4 (.t 18) (.t 19), none, .write, 0⟩, ⟨(some 21), .load (some 4) (.t 20), none, .write, 0⟩, ⟨none, .store 4 (.t 4) (.t 21), none, .write, 0⟩, ⟨(some 5), .move (.c (.bool true)), none, .write, 0⟩])
 .ret)))) }

theorem c26 : compFunc Tryz.prog Tryz.f26 .full = some t26 := by kernel_rfl

/-- broadside/wire.Decode -/
def t46 : DFunc := { ntmps := 31, results := [(.cell 2 (some 7)), (.t 3)], mode := .full, body :=
 (.seq (.region [⟨(some 2), .alloc 49 7 (.agg [(.int .i64 0), (.int .i64 0), (.int .i64 0), (.int .i64 0), (.int .i64 0), .nsl, .nsl]), none, .write, 0⟩, ⟨(some 3), .move (.c .nili), none, .write, 0⟩])
 (.seq (.region [⟨(some 6), .move (.t 0), none, .write, 0⟩, ⟨(some 7), .call (.c (.func 97 [])) [(.t 6)], none, .write, 0⟩, ⟨(some 4), .move (.t 7), none, .write, 0⟩])
 (.seq (.region [⟨(some 8), .move (.t 4), none, .write, 0⟩, ⟨(some 9), .call (.c (.func 98 [])) [(.t 8)], none, .write, 0⟩, ⟨(some 5), .alloc 49 7 (.agg [(.int .i64 0), (.int .i64 0), (.int .i64 0), (.int .i64 0), (.int .i64 0), .nsl, .nsl]), none, .write, 0⟩, ⟨none, .store 7 (.t 5) (.t 9), none, .write, 0⟩])
 (.seq (.seq (.region [⟨(some 10), .move (.t 4), none, .write, 0⟩, ⟨(some 11), .call (.c (.func 99 [])) [(.t 10)], none, .write, 0⟩, ⟨(some 12), .un .not (.t 11), none, .write, 0⟩, ⟨(some 13), .move (.t 12), none, .write, 0⟩, ⟨(some 14), .load (some 7) (.t 5), (some (13, false)), .write, 0⟩, ⟨(some 15), .call (.c (.func 100 [])) [(.t 14)], (some (13, false)), .write, 0⟩, ⟨(some 16), .un .not (.t 15), (some (13, false)), .write, 0⟩, ⟨(some 17), .pick (.t 13) (.c (.bool true)) (.t 16), none, .write, 0⟩, ⟨(some 18), .move (.t 17), none, .write, 0⟩, ⟨(some 19), .load (some 7) (.t 5), (some (18, false)), .write, 0⟩, ⟨(some 20), .call (.c (.func 102 [])) [(.t 19)], (some (18, false)), .write, 0⟩, ⟨(some 21), .move (.t 0), (some (18, false)), .write, 0⟩, ⟨(some 22), .call (.c (.func 101 [])) [(.t 20), (.t 21)], (some (18, false)), .write, 0⟩, ⟨(some 23), .un .not (.t 22), (some (18, false)), .write, 0⟩, ⟨(some 24), .pick (.t 18) (.c (.bool true)) (.t 23), none, .write, 0⟩])
 (.cond (.t 24) (.seq (.region [⟨(some 25), .build [(.int .i64 0), (.int .i64 0), (.int .i64 0), (.int .i64 0), (.int .i64 0), .nsl, .nsl] [], none, .write, 0⟩, ⟨(some 26), .move (.t 0), none, .write, 0⟩, ⟨(some 27), .len 1 (.t 26), none, .write, 0⟩, ⟨(some 28), .makeIface 37 (.c (.int .i64 1)), none, .write, 0⟩, ⟨(some 29), .call (.c (.func 47 [])) [(.c (.str [119, 105, 114, 101])), (.t 27), (.t 28)], none, .write, 0⟩, ⟨none, .store 7 (.t 2) (.t 25), none, .write, 0⟩, ⟨(some 3), .move (.t 29), none, .write, 0⟩])
 .ret) .skip))
 (.seq (.region [⟨(some 30), .load (some 7) (.t 5), none, .write, 0⟩, ⟨none, .store 7 (.t 2) (.t 30), none, .write, 0⟩, ⟨(some 3), .move (.c .nili), none, .write, 0⟩])
 .ret))))) }

theorem c46 : compFunc Tryz.prog Tryz.f46 .full = some t46 := by kernel_rfl

/-- broadside/fault.New -/
def t47 : DFunc := { ntmps := 15, results := [(.t 6)], mode := .full, body :=
 (.seq (.region [⟨(some 6), .move (.c .nili), none, .write, 0⟩])
 (.seq (.seq (.region [⟨(some 7), .move (.t 2), none, .write, 0⟩, ⟨(some 8), .eqn 4 false (.t 7) (.c .nili), none, .write, 0⟩])
 (.cond (.t 8) (.seq (.region [⟨(some 6), .move (.c .nili), none, .write, 0⟩])
 .ret) .skip))
 (.seq (.region [⟨(some 9), .move (.t 0), none, .write, 0⟩, ⟨(some 10), .move (.t 1), none, .write, 0⟩, ⟨(some 11), .move (.t 2), none, .write, 0⟩, ⟨(some 12), .build [(.str []), (.int .i64 0), .nili] [(0, 1, (.t 9)), (1, 1, (.t 10)), (2, 1, (.t 11))], none, .write, 0⟩, ⟨(some 13), .box 118 3 (.t 12), none, .write, 0⟩, ⟨(some 14), .makeIface 116 (.t 13), none, .write, 0⟩, ⟨(some 6), .move (.t 14), none, .write, 0⟩])
 .ret))) }

theorem c47 : compFunc Tryz.prog Tryz.f47 .full = some t47 := by kernel_rfl

/-- broadside/broker.Step -/
def t48 : DFunc := { ntmps := 68, results := [(.cell 6 (some 6)), (.t 7), (.t 8)], mode := .full, body :=
 (.seq (.region [⟨(some 3), .box 28 6 (.t 0), none, .write, 0⟩, ⟨(some 5), .box 49 7 (.t 2), none, .write, 0⟩, ⟨(some 6), .alloc 28 6 (.agg [(.int .i64 0), .nsl, .nsl, .nsl, .nsl, .nsl]), none, .write, 0⟩, ⟨(some 7), .move (.c .nsl), none, .write, 0⟩, ⟨(some 8), .move (.c .nsl), none, .write, 0⟩])
 (.seq (.region [⟨(some 9), .move (.c .nsl), none, .write, 0⟩])
 (.seq (.seq (.region [⟨(some 12), .fieldAddr 0 (.t 5), none, .write, 0⟩, ⟨(some 13), .load none (.t 12), none, .write, 0⟩])
 (.block 0 (.seq (.region [⟨(some 15), .arith .eql (.t 13) (.c (.int .i64 1)), none, .write, 0⟩, ⟨(some 14), .move (.t 15), none, .write, 0⟩])
 (.cond (.t 14) (.region [⟨(some 17), .load (some 6) (.t 3), none, .write, 0⟩, ⟨(some 18), .move (.t 1), none, .write, 0⟩, ⟨(some 19), .fieldAddr 1 (.t 5), none, .write, 0⟩, ⟨(some 20), .load (some 2) (.t 19), none, .write, 0⟩, ⟨(some 21), .fieldAddr 5 (.t 5), none, .write, 0⟩, ⟨(some 22), .load none (.t 21), none, .write, 0⟩, ⟨(some 23), .call (.c (.func 69 [])) [(.t 17), (.t 18), (.t 20), (.t 22)], none, .write, 0⟩, ⟨(some 16), .move (.t 23), none, .write, 0⟩, ⟨(some 24), .extract (.t 16) 0, none, .write, 0⟩, ⟨(some 25), .extract (.t 16) 1, none, .write, 0⟩, ⟨none, .store 6 (.t 3) (.t 24), none, .write, 0⟩, ⟨(some 9), .move (.t 25), none, .write, 0⟩]) (.seq (.region [⟨(some 27), .arith .eql (.t 13) (.c (.int .i64 2)), none, .write, 0⟩, ⟨(some 26), .move (.t 27), none, .write, 0⟩])
 (.cond (.t 26) (.region [⟨(some 29), .load (some 6) (.t 3), none, .write, 0⟩, ⟨(some 30), .move (.t 1), none, .write, 0⟩, ⟨(some 31), .fieldAddr 1 (.t 5), none, .write, 0⟩, ⟨(some 32), .load (some 2) (.t 31), none, .write, 0⟩, ⟨(some 33), .call (.c (.func 103 [])) [(.t 29), (.t 30), (.t 32)], none, .write, 0⟩, ⟨(some 28), .move (.t 33), none, .write, 0⟩, ⟨(some 34), .extract (.t 28) 0, none, .write, 0⟩, ⟨(some 35), .extract (.t 28) 1, none, .write, 0⟩, ⟨none, .store 6 (.t 3) (.t 34), none, .write, 0⟩, ⟨(some 9), .move (.t 35), none, .write, 0⟩]) (.seq (.region [⟨(some 37), .arith .eql (.t 13) (.c (.int .i64 3)), none, .write, 0⟩, ⟨(some 36), .move (.t 37), none, .write, 0⟩])
 (.cond (.t 36) (.region [⟨(some 39), .load (some 6) (.t 3), none, .write, 0⟩, ⟨(some 40), .move (.t 1), none, .write, 0⟩, ⟨(some 41), .load (some 7) (.t 5), none, .write, 0⟩, ⟨(some 42), .call (.c (.func 104 [])) [(.t 39), (.t 40), (.t 41)], none, .write, 0⟩, ⟨(some 38), .move (.t 42), none, .write, 0⟩, ⟨(some 43), .extract (.t 38) 0, none, .write, 0⟩, ⟨(some 44), .extract (.t 38) 1, none, .write, 0⟩, ⟨none, .store 6 (.t 3) (.t 43), none, .write, 0⟩, ⟨(some 9), .move (.t 44), none, .write, 0⟩]) (.seq (.region [⟨(some 46), .arith .eql (.t 13) (.c (.int .i64 4)), none, .write, 0⟩, ⟨(some 45), .move (.t 46), none, .write, 0⟩])
 (.cond (.t 45) (.region [⟨(some 48), .load (some 6) (.t 3), none, .write, 0⟩, ⟨(some 49), .move (.t 1), none, .write, 0⟩, ⟨(some 50), .load (some 7) (.t 5), none, .write, 0⟩, ⟨(some 51), .call (.c (.func 105 [])) [(.t 48), (.t 49), (.t 50)], none, .write, 0⟩, ⟨(some 47), .move (.t 51), none, .write, 0⟩, ⟨(some 52), .extract (.t 47) 0, none, .write, 0⟩, ⟨(some 53), .extract (.t 47) 1, none, .write, 0⟩, ⟨none, .store 6 (.t 3) (.t 52), none, .write, 0⟩, ⟨(some 9), .move (.t 53), none, .write, 0⟩]) (.seq (.region [⟨(some 55), .arith .eql (.t 13) (.c (.int .i64 5)), none, .write, 0⟩, ⟨(some 54), .move (.t 55), none, .write, 0⟩])
 (.cond (.t 54) (.seq (.region [⟨(some 57), .load (some 6) (.t 3), none, .write, 0⟩, ⟨(some 58), .move (.t 1), none, .write, 0⟩, ⟨(some 59), .load (some 7) (.t 5), none, .write, 0⟩, ⟨(some 60), .call (.c (.func 82 [])) [(.t 57), (.t 58), (.t 59)], none, .write, 0⟩, ⟨(some 56), .move (.t 60), none, .write, 0⟩, ⟨(some 61), .extract (.t 56) 0, none, .write, 0⟩, ⟨(some 62), .extract (.t 56) 1, none, .write, 0⟩, ⟨(some 10), .move (.t 61), none, .write, 0⟩, ⟨(some 11), .move (.t 62), none, .write, 0⟩])
 (.seq (.region [⟨(some 63), .load (some 6) (.t 3), none, .write, 0⟩, ⟨(some 64), .move (.t 10), none, .write, 0⟩, ⟨(some 65), .move (.t 11), none, .write, 0⟩, ⟨none, .store 6 (.t 6) (.t 63), none, .write, 0⟩, ⟨(some 7), .move (.t 64), none, .write, 0⟩, ⟨(some 8), .move (.t 65), none, .write, 0⟩])
 .ret)) .skip))))))))))))
 (.seq (.region [⟨(some 66), .load (some 6) (.t 3), none, .write, 0⟩, ⟨(some 67), .move (.t 9), none, .write, 0⟩, ⟨none, .store 6 (.t 6) (.t 66), none, .write, 0⟩, ⟨(some 7), .move (.t 67), none, .write, 0⟩, ⟨(some 8), .move (.c .nsl), none, .write, 0⟩])
 .ret)))) }

theorem c48 : compFunc Tryz.prog Tryz.f48 .full = some t48 := by kernel_rfl

/-- slices.Sort[[]int,int] -/
def t50 : DFunc := { ntmps := 11, results := [], mode := .full, body :=
 (.seq (.region [⟨(some 3), .move (.t 0), none, .write, 0⟩, ⟨(some 4), .len 1 (.t 3), none, .write, 0⟩, ⟨(some 2), .move (.t 4), none, .write, 0⟩])
 (.region [⟨(some 5), .move (.t 0), none, .write, 0⟩, ⟨(some 6), .move (.t 2), none, .write, 0⟩, ⟨(some 7), .move (.t 2), none, .write, 0⟩, ⟨(some 8), .conv .u64 (.t 7), none, .write, 0⟩, ⟨(some 9), .call (.c (.func 107 [])) [(.t 8)], none, .write, 0⟩, ⟨(some 10), .call (.c (.func 106 [])) [(.t 5), (.c (.int .i64 0)), (.t 6), (.t 9)], none, .write, 0⟩])) }

theorem c50 : compFunc Tryz.prog Tryz.f50 .full = some t50 := by kernel_rfl

/-- slices.Compact[[]int,int] -/
def t51 : DFunc := { ntmps := 61, results := [(.t 2)], mode := .full, body :=
 (.seq (.region [⟨(some 2), .move (.c .nsl), none, .write, 0⟩])
 (.seq (.seq (.region [⟨(some 6), .move (.t 0), none, .write, 0⟩, ⟨(some 7), .len 1 (.t 6), none, .write, 0⟩, ⟨(some 8), .arith .lss (.t 7) (.c (.int .i64 2)), none, .write, 0⟩])
 (.cond (.t 8) (.seq (.region [⟨(some 9), .move (.t 0), none, .write, 0⟩, ⟨(some 2), .move (.t 9), none, .write, 0⟩])
 .ret) .skip))
 (.seq (.seq (.region [⟨(some 3), .move (.c (.int .i64 1)), none, .write, 0⟩])
 (.block 0 (.loop (.seq (.seq (.region [⟨(some 10), .move (.t 3), none, .write, 0⟩, ⟨(some 11), .move (.t 0), none, .write, 0⟩, ⟨(some 12), .len 1 (.t 11), none, .write, 0⟩, ⟨(some 13), .arith .lss (.t 10) (.t 12), none, .write, 0⟩])
 (.cond (.t 13) .skip (.exit 0)))
 (.seq (.block 1 (.seq (.draw [⟨(some 16), .move (.t 0), none, .read, 0⟩, ⟨(some 17), .move (.t 3), none, .read, 0⟩, ⟨(some 18), .indexAddr 1 (.t 16) (.t 17), none, .read, 0⟩, ⟨(some 19), .load none (.t 18), none, .read, 0⟩, ⟨(some 20), .move (.t 0), none, .read, 0⟩, ⟨(some 21), .move (.t 3), none, .read, 0⟩, ⟨(some 22), .arith .sub (.t 21) (.c (.int .i64 1)), none, .read, 0⟩, ⟨(some 23), .indexAddr 1 (.t 20) (.t 22), none, .read, 0⟩, ⟨(some 24), .load none (.t 23), none, .read, 0⟩, ⟨(some 25), .arith .eql (.t 19) (.t 24), none, .read, 0⟩])
 (.cond (.t 25) (.seq (.region [⟨(some 26), .move (.t 0), none, .write, 0⟩, ⟨(some 27), .move (.t 3), none, .write, 0⟩, ⟨(some 28), .sliceSl 1 (.t 26) (some (.t 27)) none, none, .write, 0⟩, ⟨(some 4), .move (.t 28), none, .write, 0⟩])
 (.seq (.seq (.region [⟨(some 5), .move (.c (.int .i64 1)), none, .write, 0⟩])
 (.block 2 (.loop (.seq (.seq (.region [⟨(some 29), .move (.t 5), none, .write, 0⟩, ⟨(some 30), .move (.t 4), none, .write, 0⟩, ⟨(some 31), .len 1 (.t 30), none, .write, 0⟩, ⟨(some 32), .arith .lss (.t 29) (.t 31), none, .write, 0⟩])
 (.cond (.t 32) .skip (.exit 2)))
 (.seq (.block 3 (.seq (.draw [⟨(some 35), .move (.t 4), none, .read, 0⟩, ⟨(some 36), .move (.t 5), none, .read, 0⟩, ⟨(some 37), .indexAddr 1 (.t 35) (.t 36), none, .read, 0⟩, ⟨(some 38), .load none (.t 37), none, .read, 0⟩, ⟨(some 39), .move (.t 4), none, .read, 0⟩, ⟨(some 40), .move (.t 5), none, .read, 0⟩, ⟨(some 41), .arith .sub (.t 40) (.c (.int .i64 1)), none, .read, 0⟩, ⟨(some 42), .indexAddr 1 (.t 39) (.t 41), none, .read, 0⟩, ⟨(some 43), .load none (.t 42), none, .read, 0⟩, ⟨(some 44), .arith .neq (.t 38) (.t 43), none, .read, 0⟩])
 (.cond (.t 44) (.seq (.region [⟨(some 45), .move (.t 0), none, .write, 0⟩, ⟨(some 46), .move (.t 3), none, .write, 0⟩, ⟨(some 47), .move (.t 4), none, .write, 0⟩, ⟨(some 48), .move (.t 5), none, .write, 0⟩, ⟨(some 49), .indexAddr 1 (.t 47) (.t 48), none, .write, 0⟩, ⟨(some 50), .load none (.t 49), none, .write, 0⟩, ⟨(some 51), .indexAddr 1 (.t 45) (.t 46), none, .write, 0⟩, ⟨none, .store 1 (.t 51) (.t 50), none, .write, 0⟩])
 (.region [⟨(some 52), .move (.t 3), none, .write, 0⟩, ⟨(some 53), .arith .add (.t 52) (.c (.int .i64 1)), none, .write, 0⟩, ⟨(some 3), .move (.t 53), none, .write, 0⟩])) .skip)))
 (.region [⟨(some 33), .move (.t 5), none, .write, 0⟩, ⟨(some 34), .arith .add (.t 33) (.c (.int .i64 1)), none, .write, 0⟩, ⟨(some 5), .move (.t 34), none, .write, 0⟩]))))))
 (.seq (.region [⟨(some 54), .move (.t 0), none, .write, 0⟩, ⟨(some 55), .move (.t 3), none, .write, 0⟩, ⟨(some 56), .sliceSl 1 (.t 54) (some (.t 55)) none, none, .write, 0⟩, ⟨none, .clear 1 (.int .i64 0) (.t 56), none, .write, 0⟩])
 (.seq (.region [⟨(some 57), .move (.t 0), none, .write, 0⟩, ⟨(some 58), .move (.t 3), none, .write, 0⟩, ⟨(some 59), .sliceSl 1 (.t 57) none (some (.t 58)), none, .write, 0⟩, ⟨(some 2), .move (.t 59), none, .write, 0⟩])
 .ret)))) .skip)))
 (.region [⟨(some 14), .move (.t 3), none, .write, 0⟩, ⟨(some 15), .arith .add (.t 14) (.c (.int .i64 1)), none, .write, 0⟩, ⟨(some 3), .move (.t 15), none, .write, 0⟩]))))))
 (.seq (.region [⟨(some 60), .move (.t 0), none, .write, 0⟩, ⟨(some 2), .move (.t 60), none, .write, 0⟩])
 .ret)))) }

theorem c51 : compFunc Tryz.prog Tryz.f51 .full = some t51 := by kernel_rfl

/-- broadside/fault.faults -/
def t53 : DFunc := { ntmps := 17, results := [(.t 2)], mode := .full, body :=
 (.seq (.region [⟨(some 2), .move (.c .nsl), none, .write, 0⟩])
 (.seq (.region [⟨(some 3), .move (.c .nsl), none, .write, 0⟩])
 (.seq (.region [⟨(some 4), .alloc 116 1 .nilp, none, .write, 0⟩])
 (.seq (.block 0 (.loop (.seq (.seq (.region [⟨(some 5), .move (.t 0), none, .write, 0⟩, ⟨(some 6), .makeIface 119 (.t 4), none, .write, 0⟩, ⟨(some 7), .call (.c (.func 52 [])) [(.t 5), (.t 6)], none, .write, 0⟩])
 (.cond (.t 7) .skip (.exit 0)))
 (.block 1 (.seq (.region [⟨(some 8), .move (.t 3), none, .write, 0⟩, ⟨(some 9), .load none (.t 4), none, .write, 0⟩, ⟨(some 10), .buildSlice 116 1 .nilp 1 [(0, (.t 9))], none, .write, 0⟩, ⟨(some 11), .append 116 1 8 (.t 8) (.t 10), none, .write, 0⟩, ⟨(some 3), .move (.t 11), none, .write, 0⟩])
 (.region [⟨(some 12), .load none (.t 4), none, .write, 0⟩, ⟨(some 13), .nilCheck (.t 12), none, .write, 0⟩, ⟨(some 14), .fieldAddr 2 (.t 13), none, .write, 0⟩, ⟨(some 15), .load none (.t 14), none, .write, 0⟩, ⟨(some 0), .move (.t 15), none, .write, 0⟩]))))))
 (.seq (.region [⟨(some 16), .move (.t 3), none, .write, 0⟩, ⟨(some 2), .move (.t 16), none, .write, 0⟩])
 .ret))))) }

theorem c53 : compFunc Tryz.prog Tryz.f53 .full = some t53 := by kernel_rfl

/-- broadside/adverts.Same -/
def t54 : DFunc := { ntmps := 45, results := [(.t 4)], mode := .full, body :=
 (.seq (.region [⟨(some 2), .box 28 6 (.t 0), none, .write, 0⟩, ⟨(some 3), .box 28 6 (.t 1), none, .write, 0⟩, ⟨(some 4), .move (.c (.bool false)), none, .write, 0⟩])
 (.seq (.region [⟨(some 5), .fieldAddr 0 (.t 2), none, .write, 0⟩, ⟨(some 6), .load none (.t 5), none, .write, 0⟩, ⟨(some 7), .fieldAddr 0 (.t 3), none, .write, 0⟩, ⟨(some 8), .load none (.t 7), none, .write, 0⟩, ⟨(some 9), .arith .eql (.t 6) (.t 8), none, .write, 0⟩, ⟨(some 10), .move (.t 9), none, .write, 0⟩, ⟨(some 11), .fieldAddr 1 (.t 2), (some (10, true)), .write, 0⟩, ⟨(some 12), .load none (.t 11), (some (10, true)), .write, 0⟩, ⟨(some 13), .fieldAddr 1 (.t 3), (some (10, true)), .write, 0⟩, ⟨(some 14), .load none (.t 13), (some (10, true)), .write, 0⟩, ⟨(some 15), .call (.c (.func 112 [])) [(.t 12), (.t 14)], (some (10, true)), .write, 0⟩, ⟨(some 16), .pick (.t 10) (.t 15) (.c (.bool false)), none, .write, 0⟩, ⟨(some 17), .move (.t 16), none, .write, 0⟩, ⟨(some 18), .fieldAddr 3 (.t 2), (some (17, true)), .write, 0⟩, ⟨(some 19), .load none (.t 18), (some (17, true)), .write, 0⟩, ⟨(some 20), .fieldAddr 3 (.t 3), (some (17, true)), .write, 0⟩, ⟨(some 21), .load none (.t 20), (some (17, true)), .write, 0⟩, ⟨(some 22), .call (.c (.func 113 [])) [(.t 19), (.t 21)], (some (17, true)), .write, 0⟩, ⟨(some 23), .pick (.t 17) (.t 22) (.c (.bool false)), none, .write, 0⟩, ⟨(some 24), .move (.t 23), none, .write, 0⟩, ⟨(some 25), .fieldAddr 2 (.t 2), (some (24, true)), .write, 0⟩, ⟨(some 26), .load none (.t 25), (some (24, true)), .write, 0⟩, ⟨(some 27), .fieldAddr 2 (.t 3), (some (24, true)), .write, 0⟩, ⟨(some 28), .load none (.t 27), (some (24, true)), .write, 0⟩, ⟨(some 29), .call (.c (.func 114 [])) [(.t 26), (.t 28), (.c (.func 115 []))], (some (24, true)), .write, 0⟩, ⟨(some 30), .pick (.t 24) (.t 29) (.c (.bool false)), none, .write, 0⟩, ⟨(some 31), .move (.t 30), none, .write, 0⟩, ⟨(some 32), .fieldAddr 4 (.t 2), (some (31, true)), .write, 0⟩, ⟨(some 33), .load none (.t 32), (some (31, true)), .write, 0⟩, ⟨(some 34), .fieldAddr 4 (.t 3), (some (31, true)), .write, 0⟩, ⟨(some 35), .load none (.t 34), (some (31, true)), .write, 0⟩, ⟨(some 36), .call (.c (.func 117 [])) [(.t 33), (.t 35), (.c (.func 118 []))], (some (31, true)), .write, 0⟩, ⟨(some 37), .pick (.t 31) (.t 36) (.c (.bool false)), none, .write, 0⟩, ⟨(some 38), .move (.t 37), none, .write, 0⟩, ⟨(some 39), .fieldAddr 5 (.t 2), (some (38, true)), .write, 0⟩, ⟨(some 40), .load none (.t 39), (some (38, true)), .write, 0⟩, ⟨(some 41), .fieldAddr 5 (.t 3), (some (38, true)), .write, 0⟩, ⟨(some 42), .load none (.t 41), (some (38, true)), .write, 0⟩, ⟨(some 43), .call (.c (.func 119 [])) [(.t 40), (.t 42), (.c (.func 120 []))], (some (38, true)), .write, 0⟩, ⟨(some 44), .pick (.t 38) (.t 43) (.c (.bool false)), none, .write, 0⟩, ⟨(some 4), .move (.t 44), none, .write, 0⟩])
 .ret)) }

theorem c54 : compFunc Tryz.prog Tryz.f54 .full = some t54 := by kernel_rfl

/-- broadside/flood.Advertise -/
def t69 : DFunc := { ntmps := 70, results := [(.cell 8 (some 6)), (.t 9)], mode := .full, body :=
 (.seq (.region [⟨(some 4), .box 28 6 (.t 0), none, .write, 0⟩, ⟨(some 6), .box 45 2 (.t 2), none, .write, 0⟩, ⟨(some 8), .alloc 28 6 (.agg [(.int .i64 0), .nsl, .nsl, .nsl, .nsl, .nsl]), none, .write, 0⟩, ⟨(some 9), .move (.c .nsl), none, .write, 0⟩])
 (.seq (.region [⟨(some 18), .load (some 6) (.t 4), none, .write, 0⟩, ⟨(some 19), .load (some 2) (.t 6), none, .write, 0⟩, ⟨(some 20), .move (.t 3), none, .write, 0⟩, ⟨(some 21), .move (.t 1), none, .write, 0⟩, ⟨(some 22), .build [(.int .i64 0), (.int .i64 0), .nsl, (.int .i64 0)] [(0, 2, (.t 19)), (2, 1, (.t 20)), (3, 1, (.t 21))], none, .write, 0⟩, ⟨(some 23), .call (.c (.func 154 [])) [(.t 18), (.t 22)], none, .write, 0⟩, ⟨(some 17), .move (.t 23), none, .write, 0⟩, ⟨(some 24), .extract (.t 17) 0, none, .write, 0⟩, ⟨(some 25), .extract (.t 17) 1, none, .write, 0⟩, ⟨(some 10), .alloc 28 6 (.agg [(.int .i64 0), .nsl, .nsl, .nsl, .nsl, .nsl]), none, .write, 0⟩, ⟨none, .store 6 (.t 10) (.t 24), none, .write, 0⟩, ⟨(some 11), .move (.t 25), none, .write, 0⟩])
 (.seq (.seq (.region [⟨(some 26), .move (.t 11), none, .write, 0⟩, ⟨(some 27), .un .not (.t 26), none, .write, 0⟩])
 (.cond (.t 27) (.seq (.region [⟨(some 28), .load (some 6) (.t 4), none, .write, 0⟩, ⟨none, .store 6 (.t 8) (.t 28), none, .write, 0⟩, ⟨(some 9), .move (.c .nsl), none, .write, 0⟩])
 .ret) .skip))
 (.seq (.region [⟨(some 29), .load (some 6) (.t 4), none, .write, 0⟩, ⟨(some 30), .move (.t 1), none, .write, 0⟩, ⟨(some 31), .load (some 2) (.t 6), none, .write, 0⟩, ⟨(some 32), .move (.t 3), none, .write, 0⟩, ⟨(some 33), .build [(.int .i64 0), (.int .i64 0), (.int .i64 0), (.int .i64 0), (.int .i64 0), .nsl, .nsl] [(0, 1, (.c (.int .i64 1))), (1, 2, (.t 31)), (5, 1, (.t 32))], none, .write, 0⟩, ⟨(some 34), .call (.c (.func 155 [])) [(.t 29), (.t 30), (.t 33)], none, .write, 0⟩, ⟨(some 12), .move (.t 34), none, .write, 0⟩])
 (.seq (.seq (.region [⟨(some 35), .fieldAddr 5 (.t 4), none, .write, 0⟩, ⟨(some 36), .load none (.t 35), none, .write, 0⟩, ⟨(some 37), .len 1 (.t 36), none, .write, 0⟩, ⟨(some 38), .move (.c (.int .i64 0)), none, .write, 0⟩])
 (.block 0 (.loop (.seq (.region [⟨(some 39), .arith .lss (.t 38) (.t 37), none, .write, 0⟩])
 (.seq (.cond (.t 39) .skip (.exit 0))
 (.seq (.block 1 (.seq (.region [⟨(some 40), .indexAddr 3 (.t 36) (.t 38), none, .write, 0⟩, ⟨(some 41), .load (some 3) (.t 40), none, .write, 0⟩, ⟨(some 14), .alloc 159 3 (.agg [(.int .i64 0), (.int .i64 0), .nsl]), none, .write, 0⟩, ⟨none, .store 3 (.t 14) (.t 41), none, .write, 0⟩])
 (.seq (.seq (.region [⟨(some 42), .fieldAddr 2 (.t 14), none, .write, 0⟩, ⟨(some 43), .load none (.t 42), none, .write, 0⟩, ⟨(some 44), .move (.t 3), none, .write, 0⟩, ⟨(some 45), .call (.c (.func 148 [])) [(.t 43), (.t 44)], none, .write, 0⟩, ⟨(some 46), .un .not (.t 45), none, .write, 0⟩])
 (.cond (.t 46) (.exit 1) .skip))
 (.seq (.region [⟨(some 47), .load (some 2) (.t 6), none, .write, 0⟩, ⟨(some 48), .fieldAddr 0 (.t 14), none, .write, 0⟩, ⟨(some 49), .load (some 2) (.t 48), none, .write, 0⟩, ⟨(some 50), .fieldAddr 2 (.t 14), none, .write, 0⟩, ⟨(some 51), .load none (.t 50), none, .write, 0⟩, ⟨(some 52), .build [(.int .i64 0), (.int .i64 0), (.int .i64 0), (.int .i64 0), .nsl, (.int .i64 0), (.bool false)] [(0, 2, (.t 47)), (2, 2, (.t 49)), (4, 1, (.t 51)), (5, 1, (.c (.int .i64 (-1))))], none, .write, 0⟩, ⟨(some 15), .alloc 156 7 (.agg [(.int .i64 0), (.int .i64 0), (.int .i64 0), (.int .i64 0), .nsl, (.int .i64 0), (.bool false)]), none, .write, 0⟩, ⟨none, .store 7 (.t 15) (.t 52), none, .write, 0⟩])
 (.seq (.region [⟨(some 16), .move (.c (.bool false)), none, .write, 0⟩])
 (.seq (.region [⟨(some 54), .load (some 6) (.t 10), none, .write, 0⟩, ⟨(some 55), .load (some 7) (.t 15), none, .write, 0⟩, ⟨(some 56), .call (.c (.func 156 [])) [(.t 54), (.t 55)], none, .write, 0⟩, ⟨(some 53), .move (.t 56), none, .write, 0⟩, ⟨(some 57), .extract (.t 53) 0, none, .write, 0⟩, ⟨(some 58), .extract (.t 53) 1, none, .write, 0⟩, ⟨none, .store 6 (.t 10) (.t 57), none, .write, 0⟩, ⟨(some 16), .move (.t 58), none, .write, 0⟩])
 (.seq (.region [⟨(some 59), .move (.t 16), none, .write, 0⟩])
 (.cond (.t 59) (.region [⟨(some 60), .move (.t 12), none, .write, 0⟩, ⟨(some 61), .move (.t 1), none, .write, 0⟩, ⟨(some 62), .load (some 7) (.t 15), none, .write, 0⟩, ⟨(some 63), .call (.c (.func 157 [])) [(.t 62)], none, .write, 0⟩, ⟨(some 64), .build [(.int .i64 0), (.int .i64 0), (.int .i64 0), (.int .i64 0), (.int .i64 0), (.int .i64 0), .nsl, .nsl] [(0, 1, (.t 61)), (1, 7, (.t 63))], none, .write, 0⟩, ⟨(some 65), .buildSlice 254 8 (.agg [(.int .i64 0), (.int .i64 0), (.int .i64 0), (.int .i64 0), (.int .i64 0), (.int .i64 0), .nsl, .nsl]) 1 [(0, (.t 64))], none, .write, 0⟩, ⟨(some 66), .append 254 8 96 (.t 60) (.t 65), none, .write, 0⟩, ⟨(some 12), .move (.t 66), none, .write, 0⟩]) .skip))))))))
 (.region [⟨(some 67), .arith .add (.t 38) (.c (.int .i64 1)), none, .write, 0⟩, ⟨(some 38), .move (.t 67), none, .write, 0⟩])))))))
 (.seq (.region [⟨(some 68), .load (some 6) (.t 10), none, .write, 0⟩, ⟨(some 69), .move (.t 12), none, .write, 0⟩, ⟨none, .store 6 (.t 8) (.t 68), none, .write, 0⟩, ⟨(some 9), .move (.t 69), none, .write, 0⟩])
 .ret)))))) }

theorem c69 : compFunc Tryz.prog Tryz.f69 .full = some t69 := by kernel_rfl

/-- broadside/adverts.place -/
def t73 : DFunc := { ntmps := 12, results := [(.t 4), (.t 5)], mode := .full, body :=
 (.seq (.region [⟨(some 2), .box 28 6 (.t 0), none, .write, 0⟩, ⟨(some 3), .box 45 2 (.t 1), none, .write, 0⟩, ⟨(some 4), .move (.c (.int .i64 0)), none, .write, 0⟩, ⟨(some 5), .move (.c (.bool false)), none, .write, 0⟩])
 (.seq (.region [⟨(some 6), .fieldAddr 2 (.t 2), none, .write, 0⟩, ⟨(some 7), .load none (.t 6), none, .write, 0⟩, ⟨(some 8), .load (some 2) (.t 3), none, .write, 0⟩, ⟨(some 9), .call (.c (.func 160 [])) [(.t 7), (.t 8), (.c (.func 161 []))], none, .write, 0⟩, ⟨(some 10), .extract (.t 9) 0, none, .write, 0⟩, ⟨(some 11), .extract (.t 9) 1, none, .write, 0⟩, ⟨(some 4), .move (.t 10), none, .write, 0⟩, ⟨(some 5), .move (.t 11), none, .write, 0⟩])
 .ret)) }

theorem c73 : compFunc Tryz.prog Tryz.f73 .full = some t73 := by kernel_rfl

/-- broadside/carry.Pub -/
def t82 : DFunc := { ntmps := 70, results := [(.t 6), (.t 7)], mode := .full, body :=
 (.seq (.region [⟨(some 3), .box 28 6 (.t 0), none, .write, 0⟩, ⟨(some 5), .box 49 7 (.t 2), none, .write, 0⟩, ⟨(some 6), .move (.c .nsl), none, .write, 0⟩, ⟨(some 7), .move (.c .nsl), none, .write, 0⟩])
 (.seq (.region [⟨(some 17), .load (some 6) (.t 3), none, .write, 0⟩, ⟨(some 18), .fieldAddr 1 (.t 5), none, .write, 0⟩, ⟨(some 19), .load (some 2) (.t 18), none, .write, 0⟩, ⟨(some 20), .call (.c (.func 26 [])) [(.t 17), (.t 19)], none, .write, 0⟩, ⟨(some 16), .move (.t 20), none, .write, 0⟩, ⟨(some 21), .extract (.t 16) 0, none, .write, 0⟩, ⟨(some 22), .extract (.t 16) 1, none, .write, 0⟩, ⟨(some 8), .alloc 70 4 (.agg [(.int .i64 0), (.int .i64 0), .nsl, (.int .i64 0)]), none, .write, 0⟩, ⟨none, .store 4 (.t 8) (.t 21), none, .write, 0⟩, ⟨(some 9), .move (.t 22), none, .write, 0⟩])
 (.seq (.seq (.region [⟨(some 23), .move (.t 9), none, .write, 0⟩, ⟨(some 24), .un .not (.t 23), none, .write, 0⟩, ⟨(some 25), .move (.t 24), none, .write, 0⟩, ⟨(some 26), .fieldAddr 3 (.t 8), (some (25, false)), .write, 0⟩, ⟨(some 27), .load none (.t 26), (some (25, false)), .write, 0⟩, ⟨(some 28), .move (.t 1), (some (25, false)), .write, 0⟩, ⟨(some 29), .arith .neq (.t 27) (.t 28), (some (25, false)), .write, 0⟩, ⟨(some 30), .pick (.t 25) (.c (.bool true)) (.t 29), none, .write, 0⟩])
 (.cond (.t 30) (.seq (.region [⟨(some 6), .move (.c .nsl), none, .write, 0⟩, ⟨(some 7), .move (.c .nsl), none, .write, 0⟩])
 .ret) .skip))
 (.seq (.region [⟨(some 10), .move (.c .nsl), none, .write, 0⟩])
 (.seq (.region [⟨(some 11), .move (.c .nsl), none, .write, 0⟩])
 (.seq (.seq (.region [⟨(some 31), .load (some 6) (.t 3), none, .write, 0⟩, ⟨(some 32), .fieldAddr 1 (.t 5), none, .write, 0⟩, ⟨(some 33), .load (some 2) (.t 32), none, .write, 0⟩, ⟨(some 34), .fieldAddr 6 (.t 5), none, .write, 0⟩, ⟨(some 35), .load none (.t 34), none, .write, 0⟩, ⟨(some 36), .call (.c (.func 165 [])) [(.t 31), (.t 33), (.t 35)], none, .write, 0⟩, ⟨(some 37), .len 1 (.t 36), none, .write, 0⟩, ⟨(some 38), .move (.c (.int .i64 0)), none, .write, 0⟩])
 (.block 0 (.loop (.seq (.region [⟨(some 39), .arith .lss (.t 38) (.t 37), none, .write, 0⟩])
 (.seq (.cond (.t 39) .skip (.exit 0))
 (.seq (.block 1 (.seq (.region [⟨(some 40), .indexAddr 1 (.t 36) (.t 38), none, .write, 0⟩, ⟨(some 41), .load none (.t 40), none, .write, 0⟩, ⟨(some 13), .move (.t 41), none, .write, 0⟩])
 (.region [⟨(some 42), .move (.t 10), none, .write, 0⟩, ⟨(some 43), .move (.t 13), none, .write, 0⟩, ⟨(some 44), .load (some 7) (.t 5), none, .write, 0⟩, ⟨(some 45), .build [(.int .i64 0), (.int .i64 0), (.int .i64 0), (.int .i64 0), (.int .i64 0), (.int .i64 0), .nsl, .nsl] [(0, 1, (.t 43)), (1, 7, (.t 44))], none, .write, 0⟩, ⟨(some 46), .buildSlice 254 8 (.agg [(.int .i64 0), (.int .i64 0), (.int .i64 0), (.int .i64 0), (.int .i64 0), (.int .i64 0), .nsl, .nsl]) 1 [(0, (.t 45))], none, .write, 0⟩, ⟨(some 47), .append 254 8 96 (.t 42) (.t 46), none, .write, 0⟩, ⟨(some 10), .move (.t 47), none, .write, 0⟩])))
 (.region [⟨(some 48), .arith .add (.t 38) (.c (.int .i64 1)), none, .write, 0⟩, ⟨(some 38), .move (.t 48), none, .write, 0⟩])))))))
 (.seq (.seq (.region [⟨(some 49), .load (some 6) (.t 3), none, .write, 0⟩, ⟨(some 50), .fieldAddr 6 (.t 5), none, .write, 0⟩, ⟨(some 51), .load none (.t 50), none, .write, 0⟩, ⟨(some 52), .call (.c (.func 166 [])) [(.t 49), (.t 51)], none, .write, 0⟩, ⟨(some 53), .len 1 (.t 52), none, .write, 0⟩, ⟨(some 54), .move (.c (.int .i64 0)), none, .write, 0⟩])
 (.block 2 (.loop (.seq (.region [⟨(some 55), .arith .lss (.t 54) (.t 53), none, .write, 0⟩])
 (.seq (.cond (.t 55) .skip (.exit 2))
 (.seq (.block 3 (.seq (.region [⟨(some 56), .indexAddr 1 (.t 52) (.t 54), none, .write, 0⟩, ⟨(some 57), .load none (.t 56), none, .write, 0⟩, ⟨(some 15), .move (.t 57), none, .write, 0⟩])
 (.region [⟨(some 58), .move (.t 11), none, .write, 0⟩, ⟨(some 59), .move (.t 15), none, .write, 0⟩, ⟨(some 60), .fieldAddr 3 (.t 5), none, .write, 0⟩, ⟨(some 61), .load (some 2) (.t 60), none, .write, 0⟩, ⟨(some 62), .fieldAddr 6 (.t 5), none, .write, 0⟩, ⟨(some 63), .load none (.t 62), none, .write, 0⟩, ⟨(some 64), .build [(.int .i64 0), (.int .i64 0), (.int .i64 0), .nsl] [(0, 1, (.t 59)), (1, 2, (.t 61)), (3, 1, (.t 63))], none, .write, 0⟩, ⟨(some 65), .buildSlice 265 4 (.agg [(.int .i64 0), (.int .i64 0), (.int .i64 0), .nsl]) 1 [(0, (.t 64))], none, .write, 0⟩, ⟨(some 66), .append 265 4 48 (.t 58) (.t 65), none, .write, 0⟩, ⟨(some 11), .move (.t 66), none, .write, 0⟩])))
 (.region [⟨(some 67), .arith .add (.t 54) (.c (.int .i64 1)), none, .write, 0⟩, ⟨(some 54), .move (.t 67), none, .write, 0⟩])))))))
 (.seq (.region [⟨(some 68), .move (.t 10), none, .write, 0⟩, ⟨(some 69), .move (.t 11), none, .write, 0⟩, ⟨(some 6), .move (.t 68), none, .write, 0⟩, ⟨(some 7), .move (.t 69), none, .write, 0⟩])
 .ret)))))))) }

theorem c82 : compFunc Tryz.prog Tryz.f82 .full = some t82 := by kernel_rfl

/-- cmp.Or[int] -/
def t92 : DFunc := { ntmps := 18, results := [(.t 2)], mode := .full, body :=
 (.seq (.region [⟨(some 2), .move (.c (.int .i64 0)), none, .write, 0⟩])
 (.seq (.region [⟨(some 3), .move (.c (.int .i64 0)), none, .write, 0⟩])
 (.seq (.seq (.region [⟨(some 6), .move (.t 0), none, .write, 0⟩, ⟨(some 7), .len 1 (.t 6), none, .write, 0⟩, ⟨(some 8), .move (.c (.int .i64 0)), none, .write, 0⟩])
 (.block 0 (.loop (.seq (.region [⟨(some 9), .arith .lss (.t 8) (.t 7), none, .write, 0⟩])
 (.seq (.cond (.t 9) .skip (.exit 0))
 (.seq (.block 1 (.seq (.region [⟨(some 10), .indexAddr 1 (.t 6) (.t 8), none, .write, 0⟩, ⟨(some 11), .load none (.t 10), none, .write, 0⟩, ⟨(some 5), .move (.t 11), none, .write, 0⟩])
 (.seq (.region [⟨(some 12), .move (.t 5), none, .write, 0⟩, ⟨(some 13), .move (.t 3), none, .write, 0⟩, ⟨(some 14), .arith .neq (.t 12) (.t 13), none, .write, 0⟩])
 (.cond (.t 14) (.seq (.region [⟨(some 15), .move (.t 5), none, .write, 0⟩, ⟨(some 2), .move (.t 15), none, .write, 0⟩])
 .ret) .skip))))
 (.region [⟨(some 16), .arith .add (.t 8) (.c (.int .i64 1)), none, .write, 0⟩, ⟨(some 8), .move (.t 16), none, .write, 0⟩])))))))
 (.seq (.region [⟨(some 17), .move (.t 3), none, .write, 0⟩, ⟨(some 2), .move (.t 17), none, .write, 0⟩])
 .ret)))) }

theorem c92 : compFunc Tryz.prog Tryz.f92 .full = some t92 := by kernel_rfl

/-- cmp.Compare[int] -/
def t93 : DFunc := { ntmps := 20, results := [(.t 4)], mode := .full, body :=
 (.seq (.region [⟨(some 4), .move (.c (.int .i64 0)), none, .write, 0⟩])
 (.seq (.region [⟨(some 7), .move (.t 0), none, .write, 0⟩, ⟨(some 8), .call (.c (.func 174 [])) [(.t 7)], none, .write, 0⟩, ⟨(some 5), .move (.t 8), none, .write, 0⟩])
 (.seq (.region [⟨(some 9), .move (.t 1), none, .write, 0⟩, ⟨(some 10), .call (.c (.func 174 [])) [(.t 9)], none, .write, 0⟩, ⟨(some 6), .move (.t 10), none, .write, 0⟩])
 (.seq (.seq (.region [⟨(some 11), .move (.t 5), none, .write, 0⟩])
 (.cond (.t 11) (.seq (.seq (.region [⟨(some 12), .move (.t 6), none, .write, 0⟩])
 (.cond (.t 12) (.seq (.region [⟨(some 4), .move (.c (.int .i64 0)), none, .write, 0⟩])
 .ret) .skip))
 (.seq (.region [⟨(some 4), .move (.c (.int .i64 (-1))), none, .write, 0⟩])
 .ret)) .skip))
 (.seq (.seq (.region [⟨(some 13), .move (.t 6), none, .write, 0⟩])
 (.cond (.t 13) (.seq (.region [⟨(some 4), .move (.c (.int .i64 1)), none, .write, 0⟩])
 .ret) .skip))
 (.seq (.seq (.region [⟨(some 14), .move (.t 0), none, .write, 0⟩, ⟨(some 15), .move (.t 1), none, .write, 0⟩, ⟨(some 16), .arith .lss (.t 14) (.t 15), none, .write, 0⟩])
 (.cond (.t 16) (.seq (.region [⟨(some 4), .move (.c (.int .i64 (-1))), none, .write, 0⟩])
 .ret) .skip))
 (.seq (.seq (.region [⟨(some 17), .move (.t 0), none, .write, 0⟩, ⟨(some 18), .move (.t 1), none, .write, 0⟩, ⟨(some 19), .arith .gtr (.t 17) (.t 18), none, .write, 0⟩])
 (.cond (.t 19) (.seq (.region [⟨(some 4), .move (.c (.int .i64 1)), none, .write, 0⟩])
 .ret) .skip))
 (.seq (.region [⟨(some 4), .move (.c (.int .i64 0)), none, .write, 0⟩])
 .ret)))))))) }

theorem c93 : compFunc Tryz.prog Tryz.f93 .full = some t93 := by kernel_rfl

/-- broadside/num.Read -/
def t97 : DFunc := { ntmps := 8, results := [(.t 2)], mode := .full, body :=
 (.seq (.region [⟨(some 2), .move (.c .nilp), none, .write, 0⟩])
 (.seq (.region [⟨(some 3), .buildSlice 5 1 (.int .u8 0) 0 [], none, .write, 0⟩, ⟨(some 4), .move (.t 0), none, .write, 0⟩, ⟨(some 5), .append 5 1 1 (.t 3) (.t 4), none, .write, 0⟩, ⟨(some 6), .build [.nsl, (.bool false)] [(0, 1, (.t 5))], none, .write, 0⟩, ⟨(some 7), .box 283 2 (.t 6), none, .write, 0⟩, ⟨(some 2), .move (.t 7), none, .write, 0⟩])
 .ret)) }

theorem c97 : compFunc Tryz.prog Tryz.f97 .full = some t97 := by kernel_rfl

/-- broadside/wire.read -/
def t98 : DFunc := { ntmps := 69, results := [(.cell 2 (some 7))], mode := .full, body :=
 (.seq (.region [⟨(some 2), .alloc 49 7 (.agg [(.int .i64 0), (.int .i64 0), (.int .i64 0), (.int .i64 0), (.int .i64 0), .nsl, .nsl]), none, .write, 0⟩])
 (.seq (.region [⟨(some 8), .move (.t 0), none, .write, 0⟩, ⟨(some 9), .call (.c (.func 183 [])) [(.t 8)], none, .write, 0⟩, ⟨(some 10), .conv .i64 (.t 9), none, .write, 0⟩, ⟨(some 11), .move (.t 0), none, .write, 0⟩, ⟨(some 12), .call (.c (.func 184 [])) [(.t 11)], none, .write, 0⟩, ⟨(some 13), .build [(.int .i64 0), (.int .i64 0), (.int .i64 0), (.int .i64 0), (.int .i64 0), .nsl, .nsl] [(0, 1, (.t 10)), (1, 2, (.t 12))], none, .write, 0⟩, ⟨(some 3), .alloc 49 7 (.agg [(.int .i64 0), (.int .i64 0), (.int .i64 0), (.int .i64 0), (.int .i64 0), .nsl, .nsl]), none, .write, 0⟩, ⟨none, .store 7 (.t 3) (.t 13), none, .write, 0⟩])
 (.seq (.region [⟨(some 15), .fieldAddr 0 (.t 3), none, .write, 0⟩, ⟨(some 16), .load none (.t 15), none, .write, 0⟩, ⟨(some 17), .call (.c (.func 185 [])) [(.t 16)], none, .write, 0⟩, ⟨(some 14), .move (.t 17), none, .write, 0⟩, ⟨(some 18), .extract (.t 14) 0, none, .write, 0⟩, ⟨(some 19), .extract (.t 14) 1, none, .write, 0⟩, ⟨(some 4), .move (.t 18), none, .write, 0⟩, ⟨(some 5), .move (.t 19), none, .write, 0⟩])
 (.seq (.seq (.region [⟨(some 20), .move (.t 4), none, .write, 0⟩, ⟨(some 21), .arith .and (.t 20) (.c (.int .i64 1)), none, .write, 0⟩, ⟨(some 22), .arith .neq (.t 21) (.c (.int .i64 0)), none, .write, 0⟩])
 (.cond (.t 22) (.region [⟨(some 23), .move (.t 0), none, .write, 0⟩, ⟨(some 24), .call (.c (.func 184 [])) [(.t 23)], none, .write, 0⟩, ⟨(some 25), .fieldAddr 3 (.t 3), none, .write, 0⟩, ⟨none, .store 2 (.t 25) (.t 24), none, .write, 0⟩]) .skip))
 (.seq (.seq (.region [⟨(some 26), .move (.t 4), none, .write, 0⟩, ⟨(some 27), .arith .and (.t 26) (.c (.int .i64 2)), none, .write, 0⟩, ⟨(some 28), .arith .neq (.t 27) (.c (.int .i64 0)), none, .write, 0⟩])
 (.cond (.t 28) (.seq (.region [⟨(some 29), .move (.t 0), none, .write, 0⟩, ⟨(some 30), .call (.c (.func 183 [])) [(.t 29)], none, .write, 0⟩, ⟨(some 31), .conv .i64 (.t 30), none, .write, 0⟩, ⟨(some 6), .move (.t 31), none, .write, 0⟩])
 (.block 0 (.loop (.seq (.seq (.region [⟨(some 32), .move (.t 6), none, .write, 0⟩, ⟨(some 33), .arith .gtr (.t 32) (.c (.int .i64 0)), none, .write, 0⟩, ⟨(some 34), .move (.t 33), none, .write, 0⟩, ⟨(some 35), .move (.t 0), (some (34, true)), .write, 0⟩, ⟨(some 36), .call (.c (.func 186 [])) [(.t 35)], (some (34, true)), .write, 0⟩, ⟨(some 37), .pick (.t 34) (.t 36) (.c (.bool false)), none, .write, 0⟩])
 (.cond (.t 37) .skip (.exit 0)))
 (.seq (.block 1 (.draw [⟨(some 40), .fieldAddr 5 (.t 3), none, .read, 0⟩, ⟨(some 41), .load none (.t 40), none, .read, 0⟩, ⟨(some 42), .move (.t 0), none, .read, 0⟩, ⟨(some 43), .call (.c (.func 187 [])) [(.t 42)], none, .create, 0⟩, ⟨(some 44), .buildSlice 288 5 (.agg [(.str []), (.int .i64 0), (.int .i64 0), (.int .i64 0), (.str [])]) 1 [(0, (.t 43))], none, .create, 0⟩, ⟨(some 45), .append 288 5 56 (.t 41) (.t 44), none, .write, 2⟩, ⟨(some 46), .fieldAddr 5 (.t 3), none, .read, 3⟩, ⟨none, .store 1 (.t 46) (.t 45), none, .write, 3⟩]))
 (.region [⟨(some 38), .move (.t 6), none, .write, 0⟩, ⟨(some 39), .arith .sub (.t 38) (.c (.int .i64 1)), none, .write, 0⟩, ⟨(some 6), .move (.t 39), none, .write, 0⟩])))))) .skip))
 (.seq (.seq (.region [⟨(some 47), .move (.t 4), none, .write, 0⟩, ⟨(some 48), .arith .and (.t 47) (.c (.int .i64 4)), none, .write, 0⟩, ⟨(some 49), .arith .neq (.t 48) (.c (.int .i64 0)), none, .write, 0⟩])
 (.cond (.t 49) (.seq (.region [⟨(some 50), .move (.t 0), none, .write, 0⟩, ⟨(some 51), .call (.c (.func 183 [])) [(.t 50)], none, .write, 0⟩, ⟨(some 52), .conv .i64 (.t 51), none, .write, 0⟩, ⟨(some 7), .move (.t 52), none, .write, 0⟩])
 (.block 2 (.loop (.seq (.seq (.region [⟨(some 53), .move (.t 7), none, .write, 0⟩, ⟨(some 54), .arith .gtr (.t 53) (.c (.int .i64 0)), none, .write, 0⟩, ⟨(some 55), .move (.t 54), none, .write, 0⟩, ⟨(some 56), .move (.t 0), (some (55, true)), .write, 0⟩, ⟨(some 57), .call (.c (.func 186 [])) [(.t 56)], (some (55, true)), .write, 0⟩, ⟨(some 58), .pick (.t 55) (.t 57) (.c (.bool false)), none, .write, 0⟩])
 (.cond (.t 58) .skip (.exit 2)))
 (.seq (.block 3 (.draw [⟨(some 61), .fieldAddr 6 (.t 3), none, .read, 0⟩, ⟨(some 62), .load none (.t 61), none, .read, 0⟩, ⟨(some 63), .move (.t 0), none, .read, 0⟩, ⟨(some 64), .call (.c (.func 188 [])) [(.t 63)], none, .create, 0⟩, ⟨(some 65), .buildSlice 293 4 (.agg [(.str []), (.bool false), (.int .i64 0), (.str [])]) 1 [(0, (.t 64))], none, .create, 0⟩, ⟨(some 66), .append 293 4 48 (.t 62) (.t 65), none, .write, 2⟩, ⟨(some 67), .fieldAddr 6 (.t 3), none, .read, 3⟩, ⟨none, .store 1 (.t 67) (.t 66), none, .write, 3⟩]))
 (.region [⟨(some 59), .move (.t 7), none, .write, 0⟩, ⟨(some 60), .arith .sub (.t 59) (.c (.int .i64 1)), none, .write, 0⟩, ⟨(some 7), .move (.t 60), none, .write, 0⟩])))))) .skip))
 (.seq (.region [⟨(some 68), .load (some 7) (.t 3), none, .write, 0⟩, ⟨none, .store 7 (.t 2) (.t 68), none, .write, 0⟩])
 .ret))))))) }

theorem c98 : compFunc Tryz.prog Tryz.f98 .full = some t98 := by kernel_rfl

/-- (*broadside/num.Reader).Done -/
def t99 : DFunc := { ntmps := 16, results := [(.t 2)], mode := .full, body :=
 (.seq (.region [⟨(some 2), .move (.c (.bool false)), none, .write, 0⟩])
 (.seq (.region [⟨(some 3), .move (.t 0), none, .write, 0⟩, ⟨(some 4), .nilCheck (.t 3), none, .write, 0⟩, ⟨(some 5), .fieldAddr 1 (.t 4), none, .write, 0⟩, ⟨(some 6), .load none (.t 5), none, .write, 0⟩, ⟨(some 7), .un .not (.t 6), none, .write, 0⟩, ⟨(some 8), .move (.t 7), none, .write, 0⟩, ⟨(some 9), .move (.t 0), (some (8, true)), .write, 0⟩, ⟨(some 10), .nilCheck (.t 9), (some (8, true)), .write, 0⟩, ⟨(some 11), .fieldAddr 0 (.t 10), (some (8, true)), .write, 0⟩, ⟨(some 12), .load none (.t 11), (some (8, true)), .write, 0⟩, ⟨(some 13), .len 1 (.t 12), (some (8, true)), .write, 0⟩, ⟨(some 14), .arith .eql (.t 13) (.c (.int .i64 0)), (some (8, true)), .write, 0⟩, ⟨(some 15), .pick (.t 8) (.t 14) (.c (.bool false)), none, .write, 0⟩, ⟨(some 2), .move (.t 15), none, .write, 0⟩])
 .ret)) }

theorem c99 : compFunc Tryz.prog Tryz.f99 .full = some t99 := by kernel_rfl

/-- broadside/wire.Right -/
def t100 : DFunc := { ntmps := 63, results := [(.t 2)], mode := .full, body :=
 (.seq (.region [⟨(some 1), .box 49 7 (.t 0), none, .write, 0⟩, ⟨(some 2), .move (.c (.bool false)), none, .write, 0⟩])
 (.seq (.region [⟨(some 6), .fieldAddr 0 (.t 1), none, .write, 0⟩, ⟨(some 7), .load none (.t 6), none, .write, 0⟩, ⟨(some 8), .call (.c (.func 185 [])) [(.t 7)], none, .write, 0⟩, ⟨(some 5), .move (.t 8), none, .write, 0⟩, ⟨(some 9), .extract (.t 5) 0, none, .write, 0⟩, ⟨(some 10), .extract (.t 5) 1, none, .write, 0⟩, ⟨(some 3), .move (.t 9), none, .write, 0⟩, ⟨(some 4), .move (.t 10), none, .write, 0⟩])
 (.seq (.block 0 (.seq (.region [⟨(some 12), .move (.t 4), none, .write, 0⟩, ⟨(some 13), .un .not (.t 12), none, .write, 0⟩, ⟨(some 14), .move (.t 13), none, .write, 0⟩, ⟨(some 15), .fieldAddr 1 (.t 1), (some (14, false)), .write, 0⟩, ⟨(some 16), .load (some 2) (.t 15), (some (14, false)), .write, 0⟩, ⟨(some 17), .call (.c (.func 189 [])) [(.t 16)], (some (14, false)), .write, 0⟩, ⟨(some 18), .un .not (.t 17), (some (14, false)), .write, 0⟩, ⟨(some 19), .pick (.t 14) (.c (.bool true)) (.t 18), none, .write, 0⟩, ⟨(some 20), .move (.t 19), none, .write, 0⟩, ⟨(some 21), .fieldAddr 5 (.t 1), (some (20, false)), .write, 0⟩, ⟨(some 22), .load none (.t 21), (some (20, false)), .write, 0⟩, ⟨(some 23), .call (.c (.func 136 [])) [(.t 22)], (some (20, false)), .write, 0⟩, ⟨(some 24), .un .not (.t 23), (some (20, false)), .write, 0⟩, ⟨(some 25), .pick (.t 20) (.c (.bool true)) (.t 24), none, .write, 0⟩, ⟨(some 26), .move (.t 25), none, .write, 0⟩, ⟨(some 27), .fieldAddr 6 (.t 1), (some (26, false)), .write, 0⟩, ⟨(some 28), .load none (.t 27), (some (26, false)), .write, 0⟩, ⟨(some 29), .call (.c (.func 190 [])) [(.t 28)], (some (26, false)), .write, 0⟩, ⟨(some 30), .un .not (.t 29), (some (26, false)), .write, 0⟩, ⟨(some 31), .pick (.t 26) (.c (.bool true)) (.t 30), none, .write, 0⟩, ⟨(some 11), .move (.t 31), none, .write, 0⟩])
 (.cond (.t 11) (.seq (.region [⟨(some 2), .move (.c (.bool false)), none, .write, 0⟩])
 .ret) (.seq (.seq (.region [⟨(some 33), .move (.t 3), none, .write, 0⟩, ⟨(some 34), .arith .and (.t 33) (.c (.int .i64 1)), none, .write, 0⟩, ⟨(some 35), .arith .eql (.t 34) (.c (.int .i64 0)), none, .write, 0⟩, ⟨(some 36), .move (.t 35), none, .write, 0⟩, ⟨(some 37), .fieldAddr 3 (.t 1), (some (36, true)), .write, 0⟩, ⟨(some 38), .load (some 2) (.t 37), (some (36, true)), .write, 0⟩, ⟨(some 39), .build [(.int .i64 0), (.int .i64 0)] [], (some (36, true)), .write, 0⟩, ⟨(some 40), .eqa true [1, 1] (.t 38) (.t 39), (some (36, true)), .write, 0⟩, ⟨(some 41), .pick (.t 36) (.t 40) (.c (.bool false)), none, .write, 0⟩, ⟨(some 32), .move (.t 41), none, .write, 0⟩])
 (.cond (.t 32) .skip (.seq (.region [⟨(some 42), .move (.t 3), none, .write, 0⟩, ⟨(some 43), .arith .and (.t 42) (.c (.int .i64 2)), none, .write, 0⟩, ⟨(some 44), .arith .eql (.t 43) (.c (.int .i64 0)), none, .write, 0⟩, ⟨(some 45), .move (.t 44), none, .write, 0⟩, ⟨(some 46), .fieldAddr 5 (.t 1), (some (45, true)), .write, 0⟩, ⟨(some 47), .load none (.t 46), (some (45, true)), .write, 0⟩, ⟨(some 48), .len 1 (.t 47), (some (45, true)), .write, 0⟩, ⟨(some 49), .arith .gtr (.t 48) (.c (.int .i64 0)), (some (45, true)), .write, 0⟩, ⟨(some 50), .pick (.t 45) (.t 49) (.c (.bool false)), none, .write, 0⟩, ⟨(some 32), .move (.t 50), none, .write, 0⟩])
 (.cond (.t 32) .skip (.region [⟨(some 51), .move (.t 3), none, .write, 0⟩, ⟨(some 52), .arith .and (.t 51) (.c (.int .i64 4)), none, .write, 0⟩, ⟨(some 53), .arith .eql (.t 52) (.c (.int .i64 0)), none, .write, 0⟩, ⟨(some 54), .move (.t 53), none, .write, 0⟩, ⟨(some 55), .fieldAddr 6 (.t 1), (some (54, true)), .write, 0⟩, ⟨(some 56), .load none (.t 55), (some (54, true)), .write, 0⟩, ⟨(some 57), .len 1 (.t 56), (some (54, true)), .write, 0⟩, ⟨(some 58), .arith .gtr (.t 57) (.c (.int .i64 0)), (some (54, true)), .write, 0⟩, ⟨(some 59), .pick (.t 54) (.t 58) (.c (.bool false)), none, .write, 0⟩, ⟨(some 32), .move (.t 59), none, .write, 0⟩])))))
 (.cond (.t 32) (.seq (.region [⟨(some 2), .move (.c (.bool false)), none, .write, 0⟩])
 .ret) .skip)))))
 (.seq (.region [⟨(some 60), .fieldAddr 3 (.t 1), none, .write, 0⟩, ⟨(some 61), .load (some 2) (.t 60), none, .write, 0⟩, ⟨(some 62), .call (.c (.func 189 [])) [(.t 61)], none, .write, 0⟩, ⟨(some 2), .move (.t 62), none, .write, 0⟩])
 .ret)))) }

theorem c100 : compFunc Tryz.prog Tryz.f100 .full = some t100 := by kernel_rfl

/-- bytes.Equal -/
def t101 : DFunc := { ntmps := 10, results := [(.t 4)], mode := .full, body :=
 (.seq (.region [⟨(some 4), .move (.c (.bool false)), none, .write, 0⟩])
 (.seq (.region [⟨(some 5), .move (.t 0), none, .write, 0⟩, ⟨(some 6), .extract (.c .nilp) 0, none, .write, 0⟩, ⟨(some 7), .move (.t 1), none, .write, 0⟩, ⟨(some 8), .extract (.c .nilp) 0, none, .write, 0⟩, ⟨(some 9), .arith .eql (.t 6) (.t 8), none, .write, 0⟩, ⟨(some 4), .move (.t 9), none, .write, 0⟩])
 .ret)) }

theorem c101 : compFunc Tryz.prog Tryz.f101 .full = some t101 := by kernel_rfl

/-- broadside/wire.put -/
def t102 : DFunc := { ntmps := 77, results := [(.t 2)], mode := .full, body :=
 (.seq (.region [⟨(some 1), .box 49 7 (.t 0), none, .write, 0⟩, ⟨(some 2), .move (.c .nsl), none, .write, 0⟩])
 (.seq (.region [⟨(some 11), .fieldAddr 0 (.t 1), none, .write, 0⟩, ⟨(some 12), .load none (.t 11), none, .write, 0⟩, ⟨(some 13), .call (.c (.func 185 [])) [(.t 12)], none, .write, 0⟩, ⟨(some 10), .move (.t 13), none, .write, 0⟩, ⟨(some 14), .extract (.t 10) 0, none, .write, 0⟩, ⟨(some 15), .extract (.t 10) 1, none, .write, 0⟩, ⟨(some 3), .move (.t 14), none, .write, 0⟩, ⟨(some 4), .move (.t 15), none, .write, 0⟩])
 (.seq (.draw [⟨(some 16), .fieldAddr 0 (.t 1), none, .read, 0⟩, ⟨(some 17), .load none (.t 16), none, .read, 0⟩, ⟨(some 20), .fieldAddr 1 (.t 1), none, .read, 0⟩, ⟨(some 21), .load (some 2) (.t 20), none, .read, 0⟩, ⟨(some 22), .call (.c (.func 191 [])) [(.t 21)], none, .create, 0⟩, ⟨(some 18), .conv .u8 (.t 17), none, .read, 0⟩, ⟨(some 19), .buildSlice 5 1 (.int .u8 0) 1 [(0, (.t 18))], none, .create, 0⟩, ⟨(some 23), .append 5 1 1 (.t 19) (.t 22), none, .write, 2⟩, ⟨(some 5), .move (.t 23), none, .read, 3⟩])
 (.seq (.seq (.region [⟨(some 24), .move (.t 3), none, .write, 0⟩, ⟨(some 25), .arith .and (.t 24) (.c (.int .i64 1)), none, .write, 0⟩, ⟨(some 26), .arith .neq (.t 25) (.c (.int .i64 0)), none, .write, 0⟩])
 (.cond (.t 26) (.region [⟨(some 27), .move (.t 5), none, .write, 0⟩, ⟨(some 28), .fieldAddr 3 (.t 1), none, .write, 0⟩, ⟨(some 29), .load (some 2) (.t 28), none, .write, 0⟩, ⟨(some 30), .call (.c (.func 191 [])) [(.t 29)], none, .write, 0⟩, ⟨(some 31), .append 5 1 1 (.t 27) (.t 30), none, .write, 0⟩, ⟨(some 5), .move (.t 31), none, .write, 0⟩]) .skip))
 (.seq (.seq (.region [⟨(some 32), .move (.t 3), none, .write, 0⟩, ⟨(some 33), .arith .and (.t 32) (.c (.int .i64 2)), none, .write, 0⟩, ⟨(some 34), .arith .neq (.t 33) (.c (.int .i64 0)), none, .write, 0⟩])
 (.cond (.t 34) (.seq (.region [⟨(some 35), .move (.t 5), none, .write, 0⟩, ⟨(some 36), .fieldAddr 5 (.t 1), none, .write, 0⟩, ⟨(some 37), .load none (.t 36), none, .write, 0⟩, ⟨(some 38), .len 1 (.t 37), none, .write, 0⟩, ⟨(some 39), .conv .u8 (.t 38), none, .write, 0⟩, ⟨(some 40), .buildSlice 5 1 (.int .u8 0) 1 [(0, (.t 39))], none, .write, 0⟩, ⟨(some 41), .append 5 1 1 (.t 35) (.t 40), none, .write, 0⟩, ⟨(some 5), .move (.t 41), none, .write, 0⟩])
 (.seq (.region [⟨(some 42), .fieldAddr 5 (.t 1), none, .write, 0⟩, ⟨(some 43), .load none (.t 42), none, .write, 0⟩, ⟨(some 44), .len 1 (.t 43), none, .write, 0⟩, ⟨(some 45), .move (.c (.int .i64 0)), none, .write, 0⟩])
 (.block 0 (.loop (.seq (.region [⟨(some 46), .arith .lss (.t 45) (.t 44), none, .write, 0⟩])
 (.seq (.cond (.t 46) .skip (.exit 0))
 (.seq (.block 1 (.seq (.region [⟨(some 47), .indexAddr 5 (.t 43) (.t 45), none, .write, 0⟩, ⟨(some 48), .load (some 5) (.t 47), none, .write, 0⟩, ⟨(some 7), .alloc 288 5 (.agg [(.str []), (.int .i64 0), (.int .i64 0), (.int .i64 0), (.str [])]), none, .write, 0⟩, ⟨none, .store 5 (.t 7) (.t 48), none, .write, 0⟩])
 (.region [⟨(some 49), .move (.t 5), none, .write, 0⟩, ⟨(some 50), .load (some 5) (.t 7), none, .write, 0⟩, ⟨(some 51), .call (.c (.func 192 [])) [(.t 50)], none, .write, 0⟩, ⟨(some 52), .append 5 1 1 (.t 49) (.t 51), none, .write, 0⟩, ⟨(some 5), .move (.t 52), none, .write, 0⟩])))
 (.region [⟨(some 53), .arith .add (.t 45) (.c (.int .i64 1)), none, .write, 0⟩, ⟨(some 45), .move (.t 53), none, .write, 0⟩])))))))) .skip))
 (.seq (.seq (.region [⟨(some 54), .move (.t 3), none, .write, 0⟩, ⟨(some 55), .arith .and (.t 54) (.c (.int .i64 4)), none, .write, 0⟩, ⟨(some 56), .arith .neq (.t 55) (.c (.int .i64 0)), none, .write, 0⟩])
 (.cond (.t 56) (.seq (.region [⟨(some 57), .move (.t 5), none, .write, 0⟩, ⟨(some 58), .fieldAddr 6 (.t 1), none, .write, 0⟩, ⟨(some 59), .load none (.t 58), none, .write, 0⟩, ⟨(some 60), .len 1 (.t 59), none, .write, 0⟩, ⟨(some 61), .conv .u8 (.t 60), none, .write, 0⟩, ⟨(some 62), .buildSlice 5 1 (.int .u8 0) 1 [(0, (.t 61))], none, .write, 0⟩, ⟨(some 63), .append 5 1 1 (.t 57) (.t 62), none, .write, 0⟩, ⟨(some 5), .move (.t 63), none, .write, 0⟩])
 (.seq (.region [⟨(some 64), .fieldAddr 6 (.t 1), none, .write, 0⟩, ⟨(some 65), .load none (.t 64), none, .write, 0⟩, ⟨(some 66), .len 1 (.t 65), none, .write, 0⟩, ⟨(some 67), .move (.c (.int .i64 0)), none, .write, 0⟩])
 (.block 2 (.loop (.seq (.region [⟨(some 68), .arith .lss (.t 67) (.t 66), none, .write, 0⟩])
 (.seq (.cond (.t 68) .skip (.exit 2))
 (.seq (.block 3 (.seq (.region [⟨(some 69), .indexAddr 4 (.t 65) (.t 67), none, .write, 0⟩, ⟨(some 70), .load (some 4) (.t 69), none, .write, 0⟩, ⟨(some 9), .alloc 293 4 (.agg [(.str []), (.bool false), (.int .i64 0), (.str [])]), none, .write, 0⟩, ⟨none, .store 4 (.t 9) (.t 70), none, .write, 0⟩])
 (.region [⟨(some 71), .move (.t 5), none, .write, 0⟩, ⟨(some 72), .load (some 4) (.t 9), none, .write, 0⟩, ⟨(some 73), .call (.c (.func 193 [])) [(.t 72)], none, .write, 0⟩, ⟨(some 74), .append 5 1 1 (.t 71) (.t 73), none, .write, 0⟩, ⟨(some 5), .move (.t 74), none, .write, 0⟩])))
 (.region [⟨(some 75), .arith .add (.t 67) (.c (.int .i64 1)), none, .write, 0⟩, ⟨(some 67), .move (.t 75), none, .write, 0⟩])))))))) .skip))
 (.seq (.region [⟨(some 76), .move (.t 5), none, .write, 0⟩, ⟨(some 2), .move (.t 76), none, .write, 0⟩])
 .ret))))))) }

theorem c102 : compFunc Tryz.prog Tryz.f102 .full = some t102 := by kernel_rfl

/-- broadside/flood.Unadvertise -/
def t103 : DFunc := { ntmps := 26, results := [(.cell 6 (some 6)), (.t 7)], mode := .full, body :=
 (.seq (.region [⟨(some 3), .box 28 6 (.t 0), none, .write, 0⟩, ⟨(some 5), .box 45 2 (.t 2), none, .write, 0⟩, ⟨(some 6), .alloc 28 6 (.agg [(.int .i64 0), .nsl, .nsl, .nsl, .nsl, .nsl]), none, .write, 0⟩, ⟨(some 7), .move (.c .nsl), none, .write, 0⟩])
 (.seq (.region [⟨(some 11), .load (some 6) (.t 3), none, .write, 0⟩, ⟨(some 12), .load (some 2) (.t 5), none, .write, 0⟩, ⟨(some 13), .move (.t 1), none, .write, 0⟩, ⟨(some 14), .call (.c (.func 194 [])) [(.t 11), (.t 12), (.t 13)], none, .write, 0⟩, ⟨(some 10), .move (.t 14), none, .write, 0⟩, ⟨(some 15), .extract (.t 10) 0, none, .write, 0⟩, ⟨(some 16), .extract (.t 10) 1, none, .write, 0⟩, ⟨(some 8), .alloc 28 6 (.agg [(.int .i64 0), .nsl, .nsl, .nsl, .nsl, .nsl]), none, .write, 0⟩, ⟨none, .store 6 (.t 8) (.t 15), none, .write, 0⟩, ⟨(some 9), .move (.t 16), none, .write, 0⟩])
 (.seq (.seq (.region [⟨(some 17), .move (.t 9), none, .write, 0⟩, ⟨(some 18), .un .not (.t 17), none, .write, 0⟩])
 (.cond (.t 18) (.seq (.region [⟨(some 19), .load (some 6) (.t 3), none, .write, 0⟩, ⟨none, .store 6 (.t 6) (.t 19), none, .write, 0⟩, ⟨(some 7), .move (.c .nsl), none, .write, 0⟩])
 .ret) .skip))
 (.seq (.draw [⟨(some 20), .load (some 6) (.t 8), none, .read, 0⟩, ⟨(some 21), .load (some 6) (.t 3), none, .read, 0⟩, ⟨(some 23), .load (some 2) (.t 5), none, .read, 0⟩, ⟨(some 22), .move (.t 1), none, .read, 0⟩, ⟨(some 24), .build [(.int .i64 0), (.int .i64 0), (.int .i64 0), (.int .i64 0), (.int .i64 0), .nsl, .nsl] [(0, 1, (.c (.int .i64 2))), (1, 2, (.t 23))], none, .read, 0⟩, ⟨(some 25), .call (.c (.func 155 [])) [(.t 21), (.t 22), (.t 24)], none, .create, 0⟩, ⟨none, .store 6 (.t 6) (.t 20), none, .write, 1⟩, ⟨(some 7), .move (.t 25), none, .read, 2⟩])
 .ret)))) }

theorem c103 : compFunc Tryz.prog Tryz.f103 .full = some t103 := by kernel_rfl

/-- broadside/route.OnSub -/
def t104 : DFunc := { ntmps := 20, results := [(.cell 6 (some 6)), (.t 7)], mode := .full, body :=
 (.seq (.region [⟨(some 3), .box 28 6 (.t 0), none, .write, 0⟩, ⟨(some 5), .box 49 7 (.t 2), none, .write, 0⟩, ⟨(some 6), .alloc 28 6 (.agg [(.int .i64 0), .nsl, .nsl, .nsl, .nsl, .nsl]), none, .write, 0⟩, ⟨(some 7), .move (.c .nsl), none, .write, 0⟩])
 (.seq (.region [⟨(some 8), .load (some 6) (.t 3), none, .write, 0⟩, ⟨(some 9), .fieldAddr 1 (.t 5), none, .write, 0⟩, ⟨(some 10), .load (some 2) (.t 9), none, .write, 0⟩, ⟨(some 11), .fieldAddr 3 (.t 5), none, .write, 0⟩, ⟨(some 12), .load (some 2) (.t 11), none, .write, 0⟩, ⟨(some 13), .fieldAddr 5 (.t 5), none, .write, 0⟩, ⟨(some 14), .load none (.t 13), none, .write, 0⟩, ⟨(some 15), .move (.t 1), none, .write, 0⟩, ⟨(some 16), .build [(.int .i64 0), (.int .i64 0), (.int .i64 0), (.int .i64 0), .nsl, (.int .i64 0), (.bool false)] [(0, 2, (.t 10)), (2, 2, (.t 12)), (4, 1, (.t 14)), (5, 1, (.t 15))], none, .write, 0⟩, ⟨(some 17), .call (.c (.func 164 [])) [(.t 8), (.t 16)], none, .write, 0⟩, ⟨(some 18), .extract (.t 17) 0, none, .write, 0⟩, ⟨(some 19), .extract (.t 17) 1, none, .write, 0⟩, ⟨none, .store 6 (.t 6) (.t 18), none, .write, 0⟩, ⟨(some 7), .move (.t 19), none, .write, 0⟩])
 .ret)) }

theorem c104 : compFunc Tryz.prog Tryz.f104 .full = some t104 := by kernel_rfl

/-- broadside/route.OnUnsub -/
def t105 : DFunc := { ntmps := 17, results := [(.cell 6 (some 6)), (.t 7)], mode := .full, body :=
 (.seq (.region [⟨(some 3), .box 28 6 (.t 0), none, .write, 0⟩, ⟨(some 5), .box 49 7 (.t 2), none, .write, 0⟩, ⟨(some 6), .alloc 28 6 (.agg [(.int .i64 0), .nsl, .nsl, .nsl, .nsl, .nsl]), none, .write, 0⟩, ⟨(some 7), .move (.c .nsl), none, .write, 0⟩])
 (.seq (.region [⟨(some 8), .load (some 6) (.t 3), none, .write, 0⟩, ⟨(some 9), .fieldAddr 1 (.t 5), none, .write, 0⟩, ⟨(some 10), .load (some 2) (.t 9), none, .write, 0⟩, ⟨(some 11), .fieldAddr 3 (.t 5), none, .write, 0⟩, ⟨(some 12), .load (some 2) (.t 11), none, .write, 0⟩, ⟨(some 13), .move (.t 1), none, .write, 0⟩, ⟨(some 14), .call (.c (.func 195 [])) [(.t 8), (.t 10), (.t 12), (.t 13)], none, .write, 0⟩, ⟨(some 15), .extract (.t 14) 0, none, .write, 0⟩, ⟨(some 16), .extract (.t 14) 1, none, .write, 0⟩, ⟨none, .store 6 (.t 6) (.t 15), none, .write, 0⟩, ⟨(some 7), .move (.t 16), none, .write, 0⟩])
 .ret)) }

theorem c105 : compFunc Tryz.prog Tryz.f105 .full = some t105 := by kernel_rfl

/-- slices.pdqsortOrdered[int] -/
def t106 : DFunc := { ntmps := 134, results := [], mode := .full, body :=
 (.seq (.region [⟨(some 8), .move (.c (.bool true)), none, .write, 0⟩])
 (.seq (.region [⟨(some 9), .move (.c (.bool true)), none, .write, 0⟩])
 (.block 0 (.loop (.block 1 (.seq (.region [⟨(some 19), .move (.t 2), none, .write, 0⟩, ⟨(some 20), .move (.t 1), none, .write, 0⟩, ⟨(some 21), .arith .sub (.t 19) (.t 20), none, .write, 0⟩, ⟨(some 10), .move (.t 21), none, .write, 0⟩])
 (.seq (.seq (.region [⟨(some 22), .move (.t 10), none, .write, 0⟩, ⟨(some 23), .arith .leq (.t 22) (.c (.int .i64 12)), none, .write, 0⟩])
 (.cond (.t 23) (.seq (.region [⟨(some 24), .move (.t 0), none, .write, 0⟩, ⟨(some 25), .move (.t 1), none, .write, 0⟩, ⟨(some 26), .move (.t 2), none, .write, 0⟩, ⟨(some 27), .call (.c (.func 196 [])) [(.t 24), (.t 25), (.t 26)], none, .write, 0⟩])
 .ret) .skip))
 (.seq (.seq (.region [⟨(some 28), .move (.t 3), none, .write, 0⟩, ⟨(some 29), .arith .eql (.t 28) (.c (.int .i64 0)), none, .write, 0⟩])
 (.cond (.t 29) (.seq (.region [⟨(some 30), .move (.t 0), none, .write, 0⟩, ⟨(some 31), .move (.t 1), none, .write, 0⟩, ⟨(some 32), .move (.t 2), none, .write, 0⟩, ⟨(some 33), .call (.c (.func 197 [])) [(.t 30), (.t 31), (.t 32)], none, .write, 0⟩])
 .ret) .skip))
 (.seq (.seq (.region [⟨(some 34), .move (.t 8), none, .write, 0⟩, ⟨(some 35), .un .not (.t 34), none, .write, 0⟩])
 (.cond (.t 35) (.seq (.region [⟨(some 36), .move (.t 0), none, .write, 0⟩, ⟨(some 37), .move (.t 1), none, .write, 0⟩, ⟨(some 38), .move (.t 2), none, .write, 0⟩, ⟨(some 39), .call (.c (.func 198 [])) [(.t 36), (.t 37), (.t 38)], none, .write, 0⟩])
 (.region [⟨(some 40), .move (.t 3), none, .write, 0⟩, ⟨(some 41), .arith .sub (.t 40) (.c (.int .i64 1)), none, .write, 0⟩, ⟨(some 3), .move (.t 41), none, .write, 0⟩])) .skip))
 (.seq (.region [⟨(some 43), .move (.t 0), none, .write, 0⟩, ⟨(some 44), .move (.t 1), none, .write, 0⟩, ⟨(some 45), .move (.t 2), none, .write, 0⟩, ⟨(some 46), .call (.c (.func 199 [])) [(.t 43), (.t 44), (.t 45)], none, .write, 0⟩, ⟨(some 42), .move (.t 46), none, .write, 0⟩, ⟨(some 47), .extract (.t 42) 0, none, .write, 0⟩, ⟨(some 48), .extract (.t 42) 1, none, .write, 0⟩, ⟨(some 11), .move (.t 47), none, .write, 0⟩, ⟨(some 12), .move (.t 48), none, .write, 0⟩])
 (.seq (.seq (.region [⟨(some 49), .move (.t 12), none, .write, 0⟩, ⟨(some 50), .arith .eql (.t 49) (.c (.int .i64 2)), none, .write, 0⟩])
 (.cond (.t 50) (.seq (.region [⟨(some 51), .move (.t 0), none, .write, 0⟩, ⟨(some 52), .move (.t 1), none, .write, 0⟩, ⟨(some 53), .move (.t 2), none, .write, 0⟩, ⟨(some 54), .call (.c (.func 200 [])) [(.t 51), (.t 52), (.t 53)], none, .write, 0⟩])
 (.seq (.region [⟨(some 55), .move (.t 2), none, .write, 0⟩, ⟨(some 56), .arith .sub (.t 55) (.c (.int .i64 1)), none, .write, 0⟩, ⟨(some 57), .move (.t 11), none, .write, 0⟩, ⟨(some 58), .move (.t 1), none, .write, 0⟩, ⟨(some 59), .arith .sub (.t 57) (.t 58), none, .write, 0⟩, ⟨(some 60), .arith .sub (.t 56) (.t 59), none, .write, 0⟩, ⟨(some 11), .move (.t 60), none, .write, 0⟩])
 (.region [⟨(some 12), .move (.c (.int .i64 1)), none, .write, 0⟩]))) .skip))
 (.seq (.seq (.region [⟨(some 61), .move (.t 8), none, .write, 0⟩, ⟨(some 62), .move (.t 61), none, .write, 0⟩, ⟨(some 63), .move (.t 9), (some (62, true)), .write, 0⟩, ⟨(some 64), .pick (.t 62) (.t 63) (.c (.bool false)), none, .write, 0⟩, ⟨(some 65), .move (.t 64), none, .write, 0⟩, ⟨(some 66), .move (.t 12), (some (65, true)), .write, 0⟩, ⟨(some 67), .arith .eql (.t 66) (.c (.int .i64 1)), (some (65, true)), .write, 0⟩, ⟨(some 68), .pick (.t 65) (.t 67) (.c (.bool false)), none, .write, 0⟩])
 (.cond (.t 68) (.seq (.region [⟨(some 69), .move (.t 0), none, .write, 0⟩, ⟨(some 70), .move (.t 1), none, .write, 0⟩, ⟨(some 71), .move (.t 2), none, .write, 0⟩, ⟨(some 72), .call (.c (.func 201 [])) [(.t 69), (.t 70), (.t 71)], none, .write, 0⟩])
 (.cond (.t 72) .ret .skip)) .skip))
 (.seq (.seq (.draw [⟨(some 73), .move (.t 1), none, .read, 0⟩, ⟨(some 74), .arith .gtr (.t 73) (.c (.int .i64 0)), none, .read, 0⟩, ⟨(some 75), .move (.t 74), none, .read, 0⟩, ⟨(some 76), .move (.t 0), (some (75, true)), .read, 0⟩, ⟨(some 77), .move (.t 1), (some (75, true)), .read, 0⟩, ⟨(some 78), .arith .sub (.t 77) (.c (.int .i64 1)), (some (75, true)), .read, 0⟩, ⟨(some 79), .indexAddr 1 (.t 76) (.t 78), (some (75, true)), .read, 0⟩, ⟨(some 80), .load none (.t 79), (some (75, true)), .read, 0⟩, ⟨(some 81), .move (.t 0), (some (75, true)), .read, 0⟩, ⟨(some 82), .move (.t 11), (some (75, true)), .read, 0⟩, ⟨(some 83), .indexAddr 1 (.t 81) (.t 82), (some (75, true)), .read, 0⟩, ⟨(some 84), .load none (.t 83), (some (75, true)), .read, 0⟩, ⟨(some 85), .call (.c (.func 202 [])) [(.t 80), (.t 84)], (some (75, true)), .write, 0⟩, ⟨(some 86), .un .not (.t 85), (some (75, true)), .read, 1⟩, ⟨(some 87), .pick (.t 75) (.t 86) (.c (.bool false)), none, .read, 1⟩])
 (.cond (.t 87) (.seq (.region [⟨(some 88), .move (.t 0), none, .write, 0⟩, ⟨(some 89), .move (.t 1), none, .write, 0⟩, ⟨(some 90), .move (.t 2), none, .write, 0⟩, ⟨(some 91), .move (.t 11), none, .write, 0⟩, ⟨(some 92), .call (.c (.func 203 [])) [(.t 88), (.t 89), (.t 90), (.t 91)], none, .write, 0⟩, ⟨(some 13), .move (.t 92), none, .write, 0⟩])
 (.seq (.region [⟨(some 93), .move (.t 13), none, .write, 0⟩, ⟨(some 1), .move (.t 93), none, .write, 0⟩])
 (.exit 1))) .skip))
 (.seq (.region [⟨(some 95), .move (.t 0), none, .write, 0⟩, ⟨(some 96), .move (.t 1), none, .write, 0⟩, ⟨(some 97), .move (.t 2), none, .write, 0⟩, ⟨(some 98), .move (.t 11), none, .write, 0⟩, ⟨(some 99), .call (.c (.func 204 [])) [(.t 95), (.t 96), (.t 97), (.t 98)], none, .write, 0⟩, ⟨(some 94), .move (.t 99), none, .write, 0⟩, ⟨(some 100), .extract (.t 94) 0, none, .write, 0⟩, ⟨(some 101), .extract (.t 94) 1, none, .write, 0⟩, ⟨(some 14), .move (.t 100), none, .write, 0⟩, ⟨(some 15), .move (.t 101), none, .write, 0⟩])
 (.seq (.region [⟨(some 102), .move (.t 15), none, .write, 0⟩, ⟨(some 9), .move (.t 102), none, .write, 0⟩])
 (.seq (.region [⟨(some 103), .move (.t 14), none, .write, 0⟩, ⟨(some 104), .move (.t 1), none, .write, 0⟩, ⟨(some 105), .arith .sub (.t 103) (.t 104), none, .write, 0⟩, ⟨(some 106), .move (.t 2), none, .write, 0⟩, ⟨(some 107), .move (.t 14), none, .write, 0⟩, ⟨(some 108), .arith .sub (.t 106) (.t 107), none, .write, 0⟩, ⟨(some 16), .move (.t 105), none, .write, 0⟩, ⟨(some 17), .move (.t 108), none, .write, 0⟩])
 (.seq (.region [⟨(some 109), .move (.t 10), none, .write, 0⟩, ⟨(some 110), .arith .quo (.t 109) (.c (.int .i64 8)), none, .write, 0⟩, ⟨(some 18), .move (.t 110), none, .write, 0⟩])
 (.seq (.region [⟨(some 111), .move (.t 16), none, .write, 0⟩, ⟨(some 112), .move (.t 17), none, .write, 0⟩, ⟨(some 113), .arith .lss (.t 111) (.t 112), none, .write, 0⟩])
 (.cond (.t 113) (.seq (.region [⟨(some 114), .move (.t 16), none, .write, 0⟩, ⟨(some 115), .move (.t 18), none, .write, 0⟩, ⟨(some 116), .arith .geq (.t 114) (.t 115), none, .write, 0⟩, ⟨(some 8), .move (.t 116), none, .write, 0⟩])
 (.seq (.region [⟨(some 117), .move (.t 0), none, .write, 0⟩, ⟨(some 118), .move (.t 1), none, .write, 0⟩, ⟨(some 119), .move (.t 14), none, .write, 0⟩, ⟨(some 120), .move (.t 3), none, .write, 0⟩, ⟨(some 121), .call (.c (.func 106 [])) [(.t 117), (.t 118), (.t 119), (.t 120)], none, .write, 0⟩])
 (.region [⟨(some 122), .move (.t 14), none, .write, 0⟩, ⟨(some 123), .arith .add (.t 122) (.c (.int .i64 1)), none, .write, 0⟩, ⟨(some 1), .move (.t 123), none, .write, 0⟩]))) (.seq (.region [⟨(some 124), .move (.t 17), none, .write, 0⟩, ⟨(some 125), .move (.t 18), none, .write, 0⟩, ⟨(some 126), .arith .geq (.t 124) (.t 125), none, .write, 0⟩, ⟨(some 8), .move (.t 126), none, .write, 0⟩])
 (.seq (.region [⟨(some 127), .move (.t 0), none, .write, 0⟩, ⟨(some 128), .move (.t 14), none, .write, 0⟩, ⟨(some 129), .arith .add (.t 128) (.c (.int .i64 1)), none, .write, 0⟩, ⟨(some 130), .move (.t 2), none, .write, 0⟩, ⟨(some 131), .move (.t 3), none, .write, 0⟩, ⟨(some 132), .call (.c (.func 106 [])) [(.t 127), (.t 129), (.t 130), (.t 131)], none, .write, 0⟩])
 (.region [⟨(some 133), .move (.t 14), none, .write, 0⟩, ⟨(some 2), .move (.t 133), none, .write, 0⟩])))))))))))))))))))))) }

theorem c106 : compFunc Tryz.prog Tryz.f106 .full = some t106 := by kernel_rfl

/-- math/bits.Len -/
def t107 : DFunc := { ntmps := 8, results := [(.t 2)], mode := .full, body :=
 (.seq (.region [⟨(some 2), .move (.c (.int .i64 0)), none, .write, 0⟩])
 (.seq (.cond (.c (.bool false)) (.seq (.region [⟨(some 3), .move (.t 0), none, .write, 0⟩, ⟨(some 4), .conv .u32 (.t 3), none, .write, 0⟩, ⟨(some 5), .call (.c (.func 205 [])) [(.t 4)], none, .write, 0⟩, ⟨(some 2), .move (.t 5), none, .write, 0⟩])
 .ret) .skip)
 (.seq (.region [⟨(some 6), .move (.t 0), none, .write, 0⟩, ⟨(some 7), .call (.c (.func 206 [])) [(.t 6)], none, .write, 0⟩, ⟨(some 2), .move (.t 7), none, .write, 0⟩])
 .ret))) }

theorem c107 : compFunc Tryz.prog Tryz.f107 .full = some t107 := by kernel_rfl

/-- slices.Equal[[]int,int] -/
def t112 : DFunc := { ntmps := 26, results := [(.t 4)], mode := .full, body :=
 (.seq (.region [⟨(some 4), .move (.c (.bool false)), none, .write, 0⟩])
 (.seq (.seq (.region [⟨(some 6), .move (.t 0), none, .write, 0⟩, ⟨(some 7), .len 1 (.t 6), none, .write, 0⟩, ⟨(some 8), .move (.t 1), none, .write, 0⟩, ⟨(some 9), .len 1 (.t 8), none, .write, 0⟩, ⟨(some 10), .arith .neq (.t 7) (.t 9), none, .write, 0⟩])
 (.cond (.t 10) (.seq (.region [⟨(some 4), .move (.c (.bool false)), none, .write, 0⟩])
 .ret) .skip))
 (.seq (.seq (.region [⟨(some 11), .move (.t 0), none, .write, 0⟩, ⟨(some 12), .len 1 (.t 11), none, .write, 0⟩, ⟨(some 13), .move (.c (.int .i64 0)), none, .write, 0⟩])
 (.block 0 (.loop (.seq (.region [⟨(some 14), .arith .lss (.t 13) (.t 12), none, .write, 0⟩])
 (.seq (.cond (.t 14) .skip (.exit 0))
 (.seq (.block 1 (.seq (.region [⟨(some 15), .move (.t 13), none, .write, 0⟩, ⟨(some 5), .move (.t 15), none, .write, 0⟩])
 (.seq (.draw [⟨(some 16), .move (.t 0), none, .read, 0⟩, ⟨(some 17), .move (.t 5), none, .read, 0⟩, ⟨(some 18), .indexAddr 1 (.t 16) (.t 17), none, .read, 0⟩, ⟨(some 19), .load none (.t 18), none, .read, 0⟩, ⟨(some 20), .move (.t 1), none, .read, 0⟩, ⟨(some 21), .move (.t 5), none, .read, 0⟩, ⟨(some 22), .indexAddr 1 (.t 20) (.t 21), none, .read, 0⟩, ⟨(some 23), .load none (.t 22), none, .read, 0⟩, ⟨(some 24), .arith .neq (.t 19) (.t 23), none, .read, 0⟩])
 (.cond (.t 24) (.seq (.region [⟨(some 4), .move (.c (.bool false)), none, .write, 0⟩])
 .ret) .skip))))
 (.region [⟨(some 25), .arith .add (.t 13) (.c (.int .i64 1)), none, .write, 0⟩, ⟨(some 13), .move (.t 25), none, .write, 0⟩])))))))
 (.seq (.region [⟨(some 4), .move (.c (.bool true)), none, .write, 0⟩])
 .ret)))) }

theorem c112 : compFunc Tryz.prog Tryz.f112 .full = some t112 := by kernel_rfl

/-- slices.Equal[[]broadside/api.ID,broadside/api.ID] -/
def t113 : DFunc := { ntmps := 26, results := [(.t 4)], mode := .full, body :=
 (.seq (.region [⟨(some 4), .move (.c (.bool false)), none, .write, 0⟩])
 (.seq (.seq (.region [⟨(some 6), .move (.t 0), none, .write, 0⟩, ⟨(some 7), .len 1 (.t 6), none, .write, 0⟩, ⟨(some 8), .move (.t 1), none, .write, 0⟩, ⟨(some 9), .len 1 (.t 8), none, .write, 0⟩, ⟨(some 10), .arith .neq (.t 7) (.t 9), none, .write, 0⟩])
 (.cond (.t 10) (.seq (.region [⟨(some 4), .move (.c (.bool false)), none, .write, 0⟩])
 .ret) .skip))
 (.seq (.seq (.region [⟨(some 11), .move (.t 0), none, .write, 0⟩, ⟨(some 12), .len 1 (.t 11), none, .write, 0⟩, ⟨(some 13), .move (.c (.int .i64 0)), none, .write, 0⟩])
 (.block 0 (.loop (.seq (.region [⟨(some 14), .arith .lss (.t 13) (.t 12), none, .write, 0⟩])
 (.seq (.cond (.t 14) .skip (.exit 0))
 (.seq (.block 1 (.seq (.region [⟨(some 15), .move (.t 13), none, .write, 0⟩, ⟨(some 5), .move (.t 15), none, .write, 0⟩])
 (.seq (.draw [⟨(some 16), .move (.t 0), none, .read, 0⟩, ⟨(some 17), .move (.t 5), none, .read, 0⟩, ⟨(some 18), .indexAddr 2 (.t 16) (.t 17), none, .read, 0⟩, ⟨(some 19), .load (some 2) (.t 18), none, .read, 0⟩, ⟨(some 20), .move (.t 1), none, .read, 0⟩, ⟨(some 21), .move (.t 5), none, .read, 0⟩, ⟨(some 22), .indexAddr 2 (.t 20) (.t 21), none, .read, 0⟩, ⟨(some 23), .load (some 2) (.t 22), none, .read, 0⟩, ⟨(some 24), .eqa true [1, 1] (.t 19) (.t 23), none, .read, 0⟩])
 (.cond (.t 24) (.seq (.region [⟨(some 4), .move (.c (.bool false)), none, .write, 0⟩])
 .ret) .skip))))
 (.region [⟨(some 25), .arith .add (.t 13) (.c (.int .i64 1)), none, .write, 0⟩, ⟨(some 13), .move (.t 25), none, .write, 0⟩])))))))
 (.seq (.region [⟨(some 4), .move (.c (.bool true)), none, .write, 0⟩])
 .ret)))) }

theorem c113 : compFunc Tryz.prog Tryz.f113 .full = some t113 := by kernel_rfl

/-- slices.EqualFunc[[]broadside/api.Advert,[]broadside/api.Advert,broadside/api.Advert,broadside/api.Advert] -/
def t114 : DFunc := { ntmps := 32, results := [(.t 6)], mode := .full, body :=
 (.seq (.region [⟨(some 6), .move (.c (.bool false)), none, .write, 0⟩])
 (.seq (.seq (.region [⟨(some 10), .move (.t 0), none, .write, 0⟩, ⟨(some 11), .len 1 (.t 10), none, .write, 0⟩, ⟨(some 12), .move (.t 1), none, .write, 0⟩, ⟨(some 13), .len 1 (.t 12), none, .write, 0⟩, ⟨(some 14), .arith .neq (.t 11) (.t 13), none, .write, 0⟩])
 (.cond (.t 14) (.seq (.region [⟨(some 6), .move (.c (.bool false)), none, .write, 0⟩])
 .ret) .skip))
 (.seq (.seq (.region [⟨(some 15), .move (.t 0), none, .write, 0⟩, ⟨(some 16), .len 1 (.t 15), none, .write, 0⟩, ⟨(some 17), .move (.c (.int .i64 0)), none, .write, 0⟩])
 (.block 0 (.loop (.seq (.region [⟨(some 18), .arith .lss (.t 17) (.t 16), none, .write, 0⟩])
 (.seq (.cond (.t 18) .skip (.exit 0))
 (.seq (.block 1 (.seq (.region [⟨(some 19), .move (.t 17), none, .write, 0⟩, ⟨(some 20), .indexAddr 4 (.t 15) (.t 17), none, .write, 0⟩, ⟨(some 21), .load (some 4) (.t 20), none, .write, 0⟩, ⟨(some 8), .alloc 70 4 (.agg [(.int .i64 0), (.int .i64 0), .nsl, (.int .i64 0)]), none, .write, 0⟩, ⟨(some 7), .move (.t 19), none, .write, 0⟩, ⟨none, .store 4 (.t 8) (.t 21), none, .write, 0⟩])
 (.seq (.region [⟨(some 22), .move (.t 1), none, .write, 0⟩, ⟨(some 23), .move (.t 7), none, .write, 0⟩, ⟨(some 24), .indexAddr 4 (.t 22) (.t 23), none, .write, 0⟩, ⟨(some 25), .load (some 4) (.t 24), none, .write, 0⟩, ⟨(some 9), .alloc 70 4 (.agg [(.int .i64 0), (.int .i64 0), .nsl, (.int .i64 0)]), none, .write, 0⟩, ⟨none, .store 4 (.t 9) (.t 25), none, .write, 0⟩])
 (.seq (.region [⟨(some 26), .move (.t 2), none, .write, 0⟩, ⟨(some 27), .load (some 4) (.t 8), none, .write, 0⟩, ⟨(some 28), .load (some 4) (.t 9), none, .write, 0⟩, ⟨(some 29), .call (.t 26) [(.t 27), (.t 28)], none, .write, 0⟩, ⟨(some 30), .un .not (.t 29), none, .write, 0⟩])
 (.cond (.t 30) (.seq (.region [⟨(some 6), .move (.c (.bool false)), none, .write, 0⟩])
 .ret) .skip)))))
 (.region [⟨(some 31), .arith .add (.t 17) (.c (.int .i64 1)), none, .write, 0⟩, ⟨(some 17), .move (.t 31), none, .write, 0⟩])))))))
 (.seq (.region [⟨(some 6), .move (.c (.bool true)), none, .write, 0⟩])
 .ret)))) }

theorem c114 : compFunc Tryz.prog Tryz.f114 .full = some t114 := by kernel_rfl

/-- broadside/adverts.Same$1 -/
def t115 : DFunc := { ntmps := 24, results := [(.t 4)], mode := .full, body :=
 (.seq (.region [⟨(some 2), .box 70 4 (.t 0), none, .write, 0⟩, ⟨(some 3), .box 70 4 (.t 1), none, .write, 0⟩, ⟨(some 4), .move (.c (.bool false)), none, .write, 0⟩])
 (.seq (.region [⟨(some 5), .fieldAddr 0 (.t 2), none, .write, 0⟩, ⟨(some 6), .load (some 2) (.t 5), none, .write, 0⟩, ⟨(some 7), .fieldAddr 0 (.t 3), none, .write, 0⟩, ⟨(some 8), .load (some 2) (.t 7), none, .write, 0⟩, ⟨(some 9), .eqa false [1, 1] (.t 6) (.t 8), none, .write, 0⟩, ⟨(some 10), .move (.t 9), none, .write, 0⟩, ⟨(some 11), .fieldAddr 3 (.t 2), (some (10, true)), .write, 0⟩, ⟨(some 12), .load none (.t 11), (some (10, true)), .write, 0⟩, ⟨(some 13), .fieldAddr 3 (.t 3), (some (10, true)), .write, 0⟩, ⟨(some 14), .load none (.t 13), (some (10, true)), .write, 0⟩, ⟨(some 15), .arith .eql (.t 12) (.t 14), (some (10, true)), .write, 0⟩, ⟨(some 16), .pick (.t 10) (.t 15) (.c (.bool false)), none, .write, 0⟩, ⟨(some 17), .move (.t 16), none, .write, 0⟩, ⟨(some 18), .fieldAddr 2 (.t 2), (some (17, true)), .write, 0⟩, ⟨(some 19), .load none (.t 18), (some (17, true)), .write, 0⟩, ⟨(some 20), .fieldAddr 2 (.t 3), (some (17, true)), .write, 0⟩, ⟨(some 21), .load none (.t 20), (some (17, true)), .write, 0⟩, ⟨(some 22), .call (.c (.func 116 [])) [(.t 19), (.t 21)], (some (17, true)), .write, 0⟩, ⟨(some 23), .pick (.t 17) (.t 22) (.c (.bool false)), none, .write, 0⟩, ⟨(some 4), .move (.t 23), none, .write, 0⟩])
 .ret)) }

theorem c115 : compFunc Tryz.prog Tryz.f115 .full = some t115 := by kernel_rfl

end Go.Dm.TabB
