/-
The table of functions, brought into the machine's form (TabW, part 2). Written by program (wip/tools/table.lean.txt).
-/
import Derived.Test.YtkhmbjajaibinaaGreatDoorDm32
import Derived.Test.YtkhmbjajaibinaaGreatDoorRows
import Derived.KernelRfl
namespace Go.Dm.TabW
open Go.Proofs

/-- broadside/subs.Covered -/
def t138 : DFunc := { ntmps := 12, results := [(.t 6)], mode := .full, body :=
 (.seq (.region [⟨(some 3), .box 79 6 (.t 0), none, .write, 0⟩, ⟨(some 4), .box 32 2 (.t 1), none, .write, 0⟩, ⟨(some 5), .box 37 1 (.t 2), none, .write, 0⟩, ⟨(some 6), .move (.c (.bool false)), none, .write, 0⟩])
 (.seq (.region [⟨(some 7), .load (some 6) (.t 3), none, .write, 0⟩, ⟨(some 8), .load (some 2) (.t 4), none, .write, 0⟩, ⟨(some 9), .call (.c (.func 172 [])) [(.t 7), (.t 8)], none, .write, 0⟩, ⟨(some 10), .makeFunc 194 [(.t 5)], none, .write, 0⟩, ⟨(some 11), .call (.c (.func 133 [])) [(.t 9), (.t 10)], none, .write, 0⟩, ⟨(some 6), .move (.t 11), none, .write, 0⟩])
 .ret)) }

theorem c138 : compFunc Tryz.prog Tryz.f138 .full = some t138 := by kernel_rfl

/-- broadside/graph.Linked -/
def t145 : DFunc := { ntmps := 12, results := [(.t 6)], mode := .full, body :=
 (.seq (.region [⟨(some 3), .box 29 2 (.t 0), none, .write, 0⟩, ⟨(some 6), .move (.c (.bool false)), none, .write, 0⟩])
 (.seq (.region [⟨(some 7), .load (some 2) (.t 3), none, .write, 0⟩, ⟨(some 8), .move (.t 1), none, .write, 0⟩, ⟨(some 9), .call (.c (.func 42 [])) [(.t 7), (.t 8)], none, .write, 0⟩, ⟨(some 10), .move (.t 2), none, .write, 0⟩, ⟨(some 11), .call (.c (.func 190 [])) [(.t 9), (.t 10)], none, .write, 0⟩, ⟨(some 6), .move (.t 11), none, .write, 0⟩])
 .ret)) }

theorem c145 : compFunc Tryz.prog Tryz.f145 .full = some t145 := by kernel_rfl

/-- broadside/wire.Decode -/
def t146 : DFunc := { ntmps := 31, results := [(.cell 2 (some 7)), (.t 3)], mode := .full, body :=
 (.seq (.region [⟨(some 2), .alloc 102 7 (.agg [(.int .i64 0), (.int .i64 0), (.int .i64 0), (.int .i64 0), (.int .i64 0), .nsl, .nsl]), none, .write, 0⟩, ⟨(some 3), .move (.c .nili), none, .write, 0⟩])
 (.seq (.region [⟨(some 6), .move (.t 0), none, .write, 0⟩, ⟨(some 7), .call (.c (.func 204 [])) [(.t 6)], none, .write, 0⟩, ⟨(some 4), .move (.t 7), none, .write, 0⟩])
 (.seq (.region [⟨(some 8), .move (.t 4), none, .write, 0⟩, ⟨(some 9), .call (.c (.func 205 [])) [(.t 8)], none, .write, 0⟩, ⟨(some 5), .alloc 102 7 (.agg [(.int .i64 0), (.int .i64 0), (.int .i64 0), (.int .i64 0), (.int .i64 0), .nsl, .nsl]), none, .write, 0⟩, ⟨none, .store 7 (.t 5) (.t 9), none, .write, 0⟩])
 (.seq (.seq (.region [⟨(some 10), .move (.t 4), none, .write, 0⟩, ⟨(some 11), .call (.c (.func 206 [])) [(.t 10)], none, .write, 0⟩, ⟨(some 12), .un .not (.t 11), none, .write, 0⟩, ⟨(some 13), .move (.t 12), none, .write, 0⟩, ⟨(some 14), .load (some 7) (.t 5), (some (13, false)), .write, 0⟩, ⟨(some 15), .call (.c (.func 207 [])) [(.t 14)], (some (13, false)), .write, 0⟩, ⟨(some 16), .un .not (.t 15), (some (13, false)), .write, 0⟩, ⟨(some 17), .pick (.t 13) (.c (.bool true)) (.t 16), none, .write, 0⟩, ⟨(some 18), .move (.t 17), none, .write, 0⟩, ⟨(some 19), .load (some 7) (.t 5), (some (18, false)), .write, 0⟩, ⟨(some 20), .call (.c (.func 209 [])) [(.t 19)], (some (18, false)), .write, 0⟩, ⟨(some 21), .move (.t 0), (some (18, false)), .write, 0⟩, ⟨(some 22), .call (.c (.func 208 [])) [(.t 20), (.t 21)], (some (18, false)), .write, 0⟩, ⟨(some 23), .un .not (.t 22), (some (18, false)), .write, 0⟩, ⟨(some 24), .pick (.t 18) (.c (.bool true)) (.t 23), none, .write, 0⟩])
 (.cond (.t 24) (.seq (.region [⟨(some 25), .build [(.int .i64 0), (.int .i64 0), (.int .i64 0), (.int .i64 0), (.int .i64 0), .nsl, .nsl] [], none, .write, 0⟩, ⟨(some 26), .move (.t 0), none, .write, 0⟩, ⟨(some 27), .len 1 (.t 26), none, .write, 0⟩, ⟨(some 28), .makeIface 30 (.c (.int .i64 1)), none, .write, 0⟩, ⟨(some 29), .call (.c (.func 33 [])) [(.c (.str [119, 105, 114, 101])), (.t 27), (.t 28)], none, .write, 0⟩, ⟨none, .store 7 (.t 2) (.t 25), none, .write, 0⟩, ⟨(some 3), .move (.t 29), none, .write, 0⟩])
 .ret) .skip))
 (.seq (.region [⟨(some 30), .load (some 7) (.t 5), none, .write, 0⟩, ⟨none, .store 7 (.t 2) (.t 30), none, .write, 0⟩, ⟨(some 3), .move (.c .nili), none, .write, 0⟩])
 .ret))))) }

theorem c146 : compFunc Tryz.prog Tryz.f146 .full = some t146 := by kernel_rfl

/-- (*broadside/inbox.Boxes).Put -/
def t147 : DFunc := { ntmps := 39, results := [], mode := .full, body :=
 (.seq (.region [⟨(some 6), .move (.t 1), none, .write, 0⟩, ⟨(some 7), .len 1 (.t 6), none, .write, 0⟩, ⟨(some 8), .move (.c (.int .i64 0)), none, .write, 0⟩])
 (.block 0 (.loop (.seq (.region [⟨(some 9), .arith .lss (.t 8) (.t 7), none, .write, 0⟩])
 (.seq (.cond (.t 9) .skip (.exit 0))
 (.seq (.block 1 (.seq (.region [⟨(some 10), .indexAddr 4 (.t 6) (.t 8), none, .write, 0⟩, ⟨(some 11), .load (some 4) (.t 10), none, .write, 0⟩, ⟨(some 5), .alloc 156 4 (.agg [(.int .i64 0), (.int .i64 0), (.int .i64 0), .nsl]), none, .write, 0⟩, ⟨none, .store 4 (.t 5) (.t 11), none, .write, 0⟩])
 (.seq (.draw [⟨(some 12), .move (.t 0), none, .read, 0⟩, ⟨(some 13), .nilCheck (.t 12), none, .read, 0⟩, ⟨(some 14), .fieldAddr 0 (.t 13), none, .read, 0⟩, ⟨(some 15), .load none (.t 14), none, .read, 0⟩, ⟨(some 16), .fieldAddr 0 (.t 5), none, .read, 0⟩, ⟨(some 17), .load none (.t 16), none, .read, 0⟩, ⟨(some 18), .move (.t 0), none, .read, 0⟩, ⟨(some 19), .nilCheck (.t 18), none, .read, 0⟩, ⟨(some 20), .fieldAddr 0 (.t 19), none, .read, 0⟩, ⟨(some 21), .load none (.t 20), none, .read, 0⟩, ⟨(some 22), .fieldAddr 0 (.t 5), none, .read, 0⟩, ⟨(some 23), .load none (.t 22), none, .read, 0⟩, ⟨(some 24), .lookup (.prim 1) .nsl false (.t 21) (.t 23), none, .read, 0⟩, ⟨(some 25), .load (some 4) (.t 5), none, .read, 0⟩, ⟨(some 26), .buildSlice 156 4 (.agg [(.int .i64 0), (.int .i64 0), (.int .i64 0), .nsl]) 1 [(0, (.t 25))], none, .create, 0⟩, ⟨(some 27), .append 156 4 48 (.t 24) (.t 26), none, .create, 0⟩, ⟨none, .mapUpdate (.prim 1) (.t 15) (.t 17) (.t 27), none, .write, 2⟩])
 (.draw [⟨(some 29), .move (.t 0), none, .read, 0⟩, ⟨(some 30), .nilCheck (.t 29), none, .read, 0⟩, ⟨(some 31), .fieldAddr 1 (.t 30), none, .read, 0⟩, ⟨(some 32), .load none (.t 31), none, .read, 0⟩, ⟨(some 33), .load (some 4) (.t 5), none, .read, 0⟩, ⟨(some 34), .buildSlice 156 4 (.agg [(.int .i64 0), (.int .i64 0), (.int .i64 0), .nsl]) 1 [(0, (.t 33))], none, .create, 0⟩, ⟨(some 35), .append 156 4 48 (.t 32) (.t 34), none, .write, 1⟩, ⟨(some 28), .move (.t 0), none, .read, 0⟩, ⟨(some 36), .nilCheck (.t 28), none, .read, 2⟩, ⟨(some 37), .fieldAddr 1 (.t 36), none, .read, 2⟩, ⟨none, .store 1 (.t 37) (.t 35), none, .write, 2⟩]))))
 (.region [⟨(some 38), .arith .add (.t 8) (.c (.int .i64 1)), none, .write, 0⟩, ⟨(some 8), .move (.t 38), none, .write, 0⟩]))))))) }

theorem c147 : compFunc Tryz.prog Tryz.f147 .full = some t147 := by kernel_rfl

/-- (*broadside/world.World).is -/
def t148 : DFunc := { ntmps := 16, results := [(.t 4)], mode := .full, body :=
 (.seq (.region [⟨(some 4), .move (.c (.bool false)), none, .write, 0⟩])
 (.seq (.region [⟨(some 5), .move (.t 1), none, .write, 0⟩, ⟨(some 6), .arith .geq (.t 5) (.c (.int .i64 0)), none, .write, 0⟩, ⟨(some 7), .move (.t 6), none, .write, 0⟩, ⟨(some 8), .move (.t 1), (some (7, true)), .write, 0⟩, ⟨(some 9), .move (.t 0), (some (7, true)), .write, 0⟩, ⟨(some 10), .nilCheck (.t 9), (some (7, true)), .write, 0⟩, ⟨(some 11), .fieldAddr 1 (.t 10), (some (7, true)), .write, 0⟩, ⟨(some 12), .load none (.t 11), (some (7, true)), .write, 0⟩, ⟨(some 13), .len 1 (.t 12), (some (7, true)), .write, 0⟩, ⟨(some 14), .arith .lss (.t 8) (.t 13), (some (7, true)), .write, 0⟩, ⟨(some 15), .pick (.t 7) (.t 14) (.c (.bool false)), none, .write, 0⟩, ⟨(some 4), .move (.t 15), none, .write, 0⟩])
 .ret)) }

theorem c148 : compFunc Tryz.prog Tryz.f148 .full = some t148 := by kernel_rfl

/-- (*broadside/inbox.Boxes).Drain -/
def t149 : DFunc := { ntmps := 15, results := [(.t 4)], mode := .full, body :=
 (.seq (.region [⟨(some 4), .move (.c .nsl), none, .write, 0⟩])
 (.seq (.region [⟨(some 6), .move (.t 0), none, .write, 0⟩, ⟨(some 7), .move (.t 1), none, .write, 0⟩, ⟨(some 8), .call (.c (.func 36 [])) [(.t 6), (.t 7)], none, .write, 0⟩, ⟨(some 5), .move (.t 8), none, .write, 0⟩])
 (.seq (.region [⟨(some 9), .move (.t 0), none, .write, 0⟩, ⟨(some 10), .nilCheck (.t 9), none, .write, 0⟩, ⟨(some 11), .fieldAddr 0 (.t 10), none, .write, 0⟩, ⟨(some 12), .load none (.t 11), none, .write, 0⟩, ⟨(some 13), .move (.t 1), none, .write, 0⟩, ⟨none, .extract (.c .nilp) 0, none, .write, 0⟩])
 (.seq (.region [⟨(some 14), .move (.t 5), none, .write, 0⟩, ⟨(some 4), .move (.t 14), none, .write, 0⟩])
 .ret)))) }

theorem c149 : compFunc Tryz.prog Tryz.f149 .full = some t149 := by kernel_rfl

/-- broadside/world.check -/
def t150 : DFunc := { ntmps := 53, results := [(.t 4), (.t 5)], mode := .full, body :=
 (.seq (.region [⟨(some 2), .box 243 6 (.t 0), none, .write, 0⟩, ⟨(some 3), .box 41 9 (.t 1), none, .write, 0⟩, ⟨(some 4), .move (.c .nsl), none, .write, 0⟩, ⟨(some 5), .move (.c .nili), none, .write, 0⟩])
 (.seq (.region [⟨(some 9), .fieldAddr 1 (.t 2), none, .write, 0⟩, ⟨(some 10), .load none (.t 9), none, .write, 0⟩, ⟨(some 6), .move (.t 10), none, .write, 0⟩])
 (.seq (.seq (.region [⟨(some 11), .fieldAddr 0 (.t 3), none, .write, 0⟩, ⟨(some 12), .load none (.t 11), none, .write, 0⟩])
 (.block 0 (.seq (.block 4 (.seq (.block 3 (.seq (.block 2 (.seq (.block 1 (.seq (.seq (.seq (.seq (.region [⟨(some 14), .arith .eql (.t 12) (.c (.int .i64 2)), none, .write, 0⟩, ⟨(some 13), .move (.t 14), none, .write, 0⟩])
 (.cond (.t 13) .skip (.region [⟨(some 15), .arith .eql (.t 12) (.c (.int .i64 4)), none, .write, 0⟩, ⟨(some 13), .move (.t 15), none, .write, 0⟩])))
 (.cond (.t 13) (.exit 1) .skip))
 (.seq (.seq (.region [⟨(some 17), .arith .eql (.t 12) (.c (.int .i64 5)), none, .write, 0⟩, ⟨(some 16), .move (.t 17), none, .write, 0⟩])
 (.cond (.t 16) (.exit 2) .skip))
 (.seq (.seq (.region [⟨(some 19), .arith .eql (.t 12) (.c (.int .i64 3)), none, .write, 0⟩, ⟨(some 18), .move (.t 19), none, .write, 0⟩])
 (.cond (.t 18) (.exit 3) .skip))
 (.seq (.region [⟨(some 21), .arith .eql (.t 12) (.c (.int .i64 6)), none, .write, 0⟩, ⟨(some 20), .move (.t 21), none, .write, 0⟩])
 (.cond (.t 20) (.exit 4) .skip)))))
 (.exit 0)))
 (.seq (.seq (.region [⟨(some 22), .fieldAddr 6 (.t 3), none, .write, 0⟩, ⟨(some 23), .load none (.t 22), none, .write, 0⟩, ⟨(some 24), .call (.c (.func 210 [])) [(.t 23)], none, .write, 0⟩, ⟨(some 25), .extract (.t 24) 0, none, .write, 0⟩, ⟨(some 26), .extract (.t 24) 1, none, .write, 0⟩, ⟨(some 4), .move (.t 25), none, .write, 0⟩, ⟨(some 5), .move (.t 26), none, .write, 0⟩])
 .ret)
 (.exit 0))))
 (.region [⟨(some 27), .fieldAddr 2 (.t 2), none, .write, 0⟩, ⟨(some 28), .load none (.t 27), none, .write, 0⟩, ⟨(some 6), .move (.t 28), none, .write, 0⟩])))
 (.seq (.seq (.region [⟨(some 30), .move (.t 6), none, .write, 0⟩, ⟨(some 31), .fieldAddr 2 (.t 3), none, .write, 0⟩, ⟨(some 32), .load none (.t 31), none, .write, 0⟩, ⟨(some 33), .call (.c (.func 211 [])) [(.t 30), (.t 32)], none, .write, 0⟩, ⟨(some 29), .move (.t 33), none, .write, 0⟩, ⟨(some 34), .extract (.t 29) 0, none, .write, 0⟩, ⟨(some 35), .extract (.t 29) 1, none, .write, 0⟩, ⟨(some 7), .move (.t 34), none, .write, 0⟩, ⟨(some 8), .move (.t 35), none, .write, 0⟩])
 (.seq (.region [⟨(some 36), .move (.t 8), none, .write, 0⟩, ⟨(some 37), .un .not (.t 36), none, .write, 0⟩])
 (.cond (.t 37) (.seq (.region [⟨(some 38), .makeIface 30 (.c (.int .i64 4)), none, .write, 0⟩, ⟨(some 4), .move (.c .nsl), none, .write, 0⟩, ⟨(some 5), .move (.t 38), none, .write, 0⟩])
 .ret) .skip)))
 (.exit 0))))
 (.seq (.block 5 (.seq (.region [⟨(some 40), .fieldAddr 7 (.t 3), none, .write, 0⟩, ⟨(some 41), .load none (.t 40), none, .write, 0⟩, ⟨(some 42), .call (.c (.func 212 [])) [(.t 41)], none, .write, 0⟩, ⟨(some 43), .un .not (.t 42), none, .write, 0⟩, ⟨(some 39), .move (.t 43), none, .write, 0⟩])
 (.cond (.t 39) (.seq (.region [⟨(some 44), .makeIface 30 (.c (.int .i64 1)), none, .write, 0⟩, ⟨(some 4), .move (.c .nsl), none, .write, 0⟩, ⟨(some 5), .move (.t 44), none, .write, 0⟩])
 .ret) (.seq (.region [⟨(some 46), .load (some 6) (.t 2), none, .write, 0⟩, ⟨(some 47), .fieldAddr 7 (.t 3), none, .write, 0⟩, ⟨(some 48), .load none (.t 47), none, .write, 0⟩, ⟨(some 49), .call (.c (.func 213 [])) [(.t 46), (.t 48)], none, .write, 0⟩, ⟨(some 50), .len 1 (.t 49), none, .write, 0⟩, ⟨(some 51), .arith .eql (.t 50) (.c (.int .i64 0)), none, .write, 0⟩, ⟨(some 45), .move (.t 51), none, .write, 0⟩])
 (.cond (.t 45) (.seq (.region [⟨(some 52), .makeIface 30 (.c (.int .i64 6)), none, .write, 0⟩, ⟨(some 4), .move (.c .nsl), none, .write, 0⟩, ⟨(some 5), .move (.t 52), none, .write, 0⟩])
 .ret) .skip)))))
 (.exit 0)))))
 (.seq (.region [⟨(some 4), .move (.c .nsl), none, .write, 0⟩, ⟨(some 5), .move (.c .nili), none, .write, 0⟩])
 .ret)))) }

theorem c150 : compFunc Tryz.prog Tryz.f150 .full = some t150 := by kernel_rfl

/-- (*broadside/world.World).told -/
def t152 : DFunc := { ntmps := 232, results := [(.cell 6 (some 7)), (.t 7)], mode := .full, body :=
 (.seq (.region [⟨(some 4), .box 41 9 (.t 1), none, .write, 0⟩, ⟨(some 6), .alloc 35 7 (.agg [(.int .i64 0), (.int .i64 0), (.int .i64 0), (.int .i64 0), (.int .i64 0), (.int .i64 0), .nsl]), none, .write, 0⟩, ⟨(some 7), .move (.c .nili), none, .write, 0⟩])
 (.seq (.draw [⟨(some 17), .move (.t 0), none, .read, 0⟩, ⟨(some 18), .nilCheck (.t 17), none, .read, 0⟩, ⟨(some 19), .fieldAddr 1 (.t 18), none, .read, 0⟩, ⟨(some 20), .load none (.t 19), none, .read, 0⟩, ⟨(some 21), .fieldAddr 1 (.t 4), none, .read, 0⟩, ⟨(some 22), .load none (.t 21), none, .read, 0⟩, ⟨(some 23), .indexAddr 6 (.t 20) (.t 22), none, .read, 0⟩, ⟨(some 8), .move (.t 23), none, .read, 0⟩])
 (.seq (.region [⟨(some 24), .makeFunc 214 [(.t 4)], none, .write, 0⟩, ⟨(some 9), .move (.t 24), none, .write, 0⟩])
 (.seq (.region [⟨(some 25), .move (.t 0), none, .write, 0⟩, ⟨(some 26), .nilCheck (.t 25), none, .write, 0⟩, ⟨(some 27), .fieldAddr 3 (.t 26), none, .write, 0⟩, ⟨(some 28), .load none (.t 27), none, .write, 0⟩, ⟨(some 29), .arith .add (.t 28) (.c (.int .i64 1)), none, .write, 0⟩, ⟨(some 30), .nilCheck (.t 25), none, .write, 0⟩, ⟨(some 31), .fieldAddr 3 (.t 30), none, .write, 0⟩, ⟨none, .store 1 (.t 31) (.t 29), none, .write, 0⟩])
 (.seq (.seq (.region [⟨(some 32), .fieldAddr 0 (.t 4), none, .write, 0⟩, ⟨(some 33), .load none (.t 32), none, .write, 0⟩])
 (.block 0 (.seq (.region [⟨(some 35), .arith .eql (.t 33) (.c (.int .i64 2)), none, .write, 0⟩, ⟨(some 34), .move (.t 35), none, .write, 0⟩])
 (.cond (.t 34) (.seq (.region [⟨(some 36), .move (.t 9), none, .write, 0⟩, ⟨(some 37), .move (.t 8), none, .write, 0⟩, ⟨(some 38), .nilCheck (.t 37), none, .write, 0⟩, ⟨(some 39), .fieldAddr 3 (.t 38), none, .write, 0⟩, ⟨(some 40), .load none (.t 39), none, .write, 0⟩, ⟨(some 41), .call (.t 36) [(.t 40)], none, .write, 0⟩, ⟨(some 10), .alloc 32 2 (.agg [(.int .i64 0), (.int .i64 0)]), none, .write, 0⟩, ⟨none, .store 2 (.t 10) (.t 41), none, .write, 0⟩])
 (.seq (.draw [⟨(some 44), .move (.t 8), none, .read, 0⟩, ⟨(some 45), .nilCheck (.t 44), none, .read, 0⟩, ⟨(some 46), .fieldAddr 1 (.t 45), none, .read, 0⟩, ⟨(some 47), .load none (.t 46), none, .read, 0⟩, ⟨(some 48), .fieldAddr 1 (.t 10), none, .read, 0⟩, ⟨(some 49), .load none (.t 48), none, .read, 0⟩, ⟨(some 50), .move (.t 2), none, .read, 0⟩, ⟨(some 51), .build [(.int .i64 0), .nsl] [(0, 1, (.t 49)), (1, 1, (.t 50))], none, .read, 0⟩, ⟨(some 52), .buildSlice 325 2 (.agg [(.int .i64 0), .nsl]) 1 [(0, (.t 51))], none, .create, 0⟩, ⟨(some 53), .append 325 2 32 (.t 47) (.t 52), none, .create, 0⟩, ⟨(some 54), .move (.t 8), none, .read, 0⟩, ⟨(some 55), .nilCheck (.t 54), none, .read, 0⟩, ⟨(some 56), .fieldAddr 3 (.t 55), none, .read, 0⟩, ⟨(some 57), .load none (.t 56), none, .read, 0⟩, ⟨(some 42), .move (.t 8), none, .read, 0⟩, ⟨(some 59), .nilCheck (.t 42), none, .read, 2⟩, ⟨(some 60), .fieldAddr 1 (.t 59), none, .read, 2⟩, ⟨none, .store 1 (.t 60) (.t 53), none, .write, 2⟩, ⟨(some 43), .move (.t 8), none, .read, 0⟩, ⟨(some 58), .arith .add (.t 57) (.c (.int .i64 1)), none, .read, 0⟩, ⟨(some 61), .nilCheck (.t 43), none, .read, 3⟩, ⟨(some 62), .fieldAddr 3 (.t 61), none, .read, 3⟩, ⟨none, .store 1 (.t 62) (.t 58), none, .write, 3⟩])
 (.seq (.draw [⟨(some 63), .load (some 2) (.t 10), none, .read, 0⟩, ⟨(some 65), .move (.t 0), none, .read, 0⟩, ⟨(some 66), .nilCheck (.t 65), none, .read, 0⟩, ⟨(some 67), .fieldAddr 0 (.t 66), none, .read, 0⟩, ⟨(some 68), .load none (.t 67), none, .read, 0⟩, ⟨(some 69), .move (.t 8), none, .read, 0⟩, ⟨(some 70), .nilCheck (.t 69), none, .read, 0⟩, ⟨(some 71), .fieldAddr 0 (.t 70), none, .read, 0⟩, ⟨(some 72), .load none (.t 71), none, .read, 0⟩, ⟨(some 73), .load (some 2) (.t 10), none, .read, 0⟩, ⟨(some 74), .move (.t 2), none, .read, 0⟩, ⟨(some 75), .call (.c (.func 19 [])) [(.t 68), (.t 72), (.t 73), (.t 74)], none, .create, 0⟩, ⟨(some 64), .build [(.int .i64 0), (.int .i64 0), (.int .i64 0), (.int .i64 0), (.int .i64 0), (.int .i64 0), .nsl] [(2, 2, (.t 63))], none, .read, 0⟩, ⟨none, .store 7 (.t 6) (.t 64), none, .write, 1⟩, ⟨(some 7), .move (.t 75), none, .read, 2⟩])
 .ret))) (.seq (.region [⟨(some 77), .arith .eql (.t 33) (.c (.int .i64 4)), none, .write, 0⟩, ⟨(some 76), .move (.t 77), none, .write, 0⟩])
 (.cond (.t 76) (.seq (.region [⟨(some 78), .move (.t 9), none, .write, 0⟩, ⟨(some 79), .move (.t 8), none, .write, 0⟩, ⟨(some 80), .nilCheck (.t 79), none, .write, 0⟩, ⟨(some 81), .fieldAddr 4 (.t 80), none, .write, 0⟩, ⟨(some 82), .load none (.t 81), none, .write, 0⟩, ⟨(some 83), .call (.t 78) [(.t 82)], none, .write, 0⟩, ⟨(some 11), .alloc 32 2 (.agg [(.int .i64 0), (.int .i64 0)]), none, .write, 0⟩, ⟨none, .store 2 (.t 11) (.t 83), none, .write, 0⟩])
 (.seq (.draw [⟨(some 86), .move (.t 8), none, .read, 0⟩, ⟨(some 87), .nilCheck (.t 86), none, .read, 0⟩, ⟨(some 88), .fieldAddr 2 (.t 87), none, .read, 0⟩, ⟨(some 89), .load none (.t 88), none, .read, 0⟩, ⟨(some 90), .fieldAddr 1 (.t 11), none, .read, 0⟩, ⟨(some 91), .load none (.t 90), none, .read, 0⟩, ⟨(some 92), .move (.t 2), none, .read, 0⟩, ⟨(some 93), .build [(.int .i64 0), .nsl] [(0, 1, (.t 91)), (1, 1, (.t 92))], none, .read, 0⟩, ⟨(some 94), .buildSlice 325 2 (.agg [(.int .i64 0), .nsl]) 1 [(0, (.t 93))], none, .create, 0⟩, ⟨(some 95), .append 325 2 32 (.t 89) (.t 94), none, .create, 0⟩, ⟨(some 96), .move (.t 8), none, .read, 0⟩, ⟨(some 97), .nilCheck (.t 96), none, .read, 0⟩, ⟨(some 98), .fieldAddr 4 (.t 97), none, .read, 0⟩, ⟨(some 99), .load none (.t 98), none, .read, 0⟩, ⟨(some 84), .move (.t 8), none, .read, 0⟩, ⟨(some 101), .nilCheck (.t 84), none, .read, 2⟩, ⟨(some 102), .fieldAddr 2 (.t 101), none, .read, 2⟩, ⟨none, .store 1 (.t 102) (.t 95), none, .write, 2⟩, ⟨(some 85), .move (.t 8), none, .read, 0⟩, ⟨(some 100), .arith .add (.t 99) (.c (.int .i64 1)), none, .read, 0⟩, ⟨(some 103), .nilCheck (.t 85), none, .read, 3⟩, ⟨(some 104), .fieldAddr 4 (.t 103), none, .read, 3⟩, ⟨none, .store 1 (.t 104) (.t 100), none, .write, 3⟩])
 (.seq (.draw [⟨(some 105), .load (some 2) (.t 11), none, .read, 0⟩, ⟨(some 107), .move (.t 0), none, .read, 0⟩, ⟨(some 108), .nilCheck (.t 107), none, .read, 0⟩, ⟨(some 109), .fieldAddr 0 (.t 108), none, .read, 0⟩, ⟨(some 110), .load none (.t 109), none, .read, 0⟩, ⟨(some 111), .move (.t 8), none, .read, 0⟩, ⟨(some 112), .nilCheck (.t 111), none, .read, 0⟩, ⟨(some 113), .fieldAddr 0 (.t 112), none, .read, 0⟩, ⟨(some 114), .load none (.t 113), none, .read, 0⟩, ⟨(some 115), .load (some 2) (.t 11), none, .read, 0⟩, ⟨(some 116), .move (.t 2), none, .read, 0⟩, ⟨(some 117), .call (.c (.func 20 [])) [(.t 110), (.t 114), (.t 115), (.t 116)], none, .create, 0⟩, ⟨(some 106), .build [(.int .i64 0), (.int .i64 0), (.int .i64 0), (.int .i64 0), (.int .i64 0), (.int .i64 0), .nsl] [(2, 2, (.t 105))], none, .read, 0⟩, ⟨none, .store 7 (.t 6) (.t 106), none, .write, 1⟩, ⟨(some 7), .move (.t 117), none, .read, 2⟩])
 .ret))) (.seq (.region [⟨(some 119), .arith .eql (.t 33) (.c (.int .i64 3)), none, .write, 0⟩, ⟨(some 118), .move (.t 119), none, .write, 0⟩])
 (.cond (.t 118) (.seq (.draw [⟨(some 121), .move (.t 8), none, .read, 0⟩, ⟨(some 122), .nilCheck (.t 121), none, .read, 0⟩, ⟨(some 123), .fieldAddr 1 (.t 122), none, .read, 0⟩, ⟨(some 124), .load none (.t 123), none, .read, 0⟩, ⟨(some 125), .fieldAddr 2 (.t 4), none, .read, 0⟩, ⟨(some 126), .load none (.t 125), none, .read, 0⟩, ⟨(some 127), .call (.c (.func 215 [])) [(.t 124), (.t 126)], none, .write, 0⟩, ⟨(some 120), .move (.t 8), none, .read, 0⟩, ⟨(some 128), .nilCheck (.t 120), none, .read, 1⟩, ⟨(some 129), .fieldAddr 1 (.t 128), none, .read, 1⟩, ⟨none, .store 1 (.t 129) (.t 127), none, .write, 1⟩])
 (.seq (.draw [⟨(some 131), .move (.t 0), none, .read, 0⟩, ⟨(some 132), .nilCheck (.t 131), none, .read, 0⟩, ⟨(some 133), .fieldAddr 0 (.t 132), none, .read, 0⟩, ⟨(some 134), .load none (.t 133), none, .read, 0⟩, ⟨(some 135), .move (.t 8), none, .read, 0⟩, ⟨(some 136), .nilCheck (.t 135), none, .read, 0⟩, ⟨(some 137), .fieldAddr 0 (.t 136), none, .read, 0⟩, ⟨(some 138), .load none (.t 137), none, .read, 0⟩, ⟨(some 140), .fieldAddr 2 (.t 4), none, .read, 0⟩, ⟨(some 141), .load none (.t 140), none, .read, 0⟩, ⟨(some 139), .move (.t 9), none, .read, 0⟩, ⟨(some 142), .call (.t 139) [(.t 141)], none, .create, 0⟩, ⟨(some 143), .call (.c (.func 216 [])) [(.t 134), (.t 138), (.t 142)], none, .write, 1⟩, ⟨(some 130), .build [(.int .i64 0), (.int .i64 0), (.int .i64 0), (.int .i64 0), (.int .i64 0), (.int .i64 0), .nsl] [], none, .read, 0⟩, ⟨none, .store 7 (.t 6) (.t 130), none, .write, 2⟩, ⟨(some 7), .move (.t 143), none, .read, 3⟩])
 .ret)) (.seq (.region [⟨(some 145), .arith .eql (.t 33) (.c (.int .i64 5)), none, .write, 0⟩, ⟨(some 144), .move (.t 145), none, .write, 0⟩])
 (.cond (.t 144) (.seq (.draw [⟨(some 147), .move (.t 8), none, .read, 0⟩, ⟨(some 148), .nilCheck (.t 147), none, .read, 0⟩, ⟨(some 149), .fieldAddr 2 (.t 148), none, .read, 0⟩, ⟨(some 150), .load none (.t 149), none, .read, 0⟩, ⟨(some 151), .fieldAddr 2 (.t 4), none, .read, 0⟩, ⟨(some 152), .load none (.t 151), none, .read, 0⟩, ⟨(some 153), .call (.c (.func 215 [])) [(.t 150), (.t 152)], none, .write, 0⟩, ⟨(some 146), .move (.t 8), none, .read, 0⟩, ⟨(some 154), .nilCheck (.t 146), none, .read, 1⟩, ⟨(some 155), .fieldAddr 2 (.t 154), none, .read, 1⟩, ⟨none, .store 1 (.t 155) (.t 153), none, .write, 1⟩])
 (.seq (.draw [⟨(some 157), .move (.t 0), none, .read, 0⟩, ⟨(some 158), .nilCheck (.t 157), none, .read, 0⟩, ⟨(some 159), .fieldAddr 0 (.t 158), none, .read, 0⟩, ⟨(some 160), .load none (.t 159), none, .read, 0⟩, ⟨(some 161), .move (.t 8), none, .read, 0⟩, ⟨(some 162), .nilCheck (.t 161), none, .read, 0⟩, ⟨(some 163), .fieldAddr 0 (.t 162), none, .read, 0⟩, ⟨(some 164), .load none (.t 163), none, .read, 0⟩, ⟨(some 166), .fieldAddr 2 (.t 4), none, .read, 0⟩, ⟨(some 167), .load none (.t 166), none, .read, 0⟩, ⟨(some 165), .move (.t 9), none, .read, 0⟩, ⟨(some 168), .call (.t 165) [(.t 167)], none, .create, 0⟩, ⟨(some 169), .call (.c (.func 217 [])) [(.t 160), (.t 164), (.t 168)], none, .write, 1⟩, ⟨(some 156), .build [(.int .i64 0), (.int .i64 0), (.int .i64 0), (.int .i64 0), (.int .i64 0), (.int .i64 0), .nsl] [], none, .read, 0⟩, ⟨none, .store 7 (.t 6) (.t 156), none, .write, 2⟩, ⟨(some 7), .move (.t 169), none, .read, 3⟩])
 .ret)) .skip))))))))))
 (.seq (.draw [⟨(some 170), .move (.t 8), none, .read, 0⟩, ⟨(some 171), .nilCheck (.t 170), none, .read, 0⟩, ⟨(some 172), .load (some 6) (.t 171), none, .read, 0⟩, ⟨(some 173), .fieldAddr 7 (.t 4), none, .read, 0⟩, ⟨(some 174), .load none (.t 173), none, .read, 0⟩, ⟨(some 175), .call (.c (.func 213 [])) [(.t 172), (.t 174)], none, .write, 0⟩, ⟨(some 12), .move (.t 175), none, .read, 1⟩])
 (.seq (.draw [⟨(some 178), .fieldAddr 3 (.t 4), none, .read, 0⟩, ⟨(some 179), .load none (.t 178), none, .read, 0⟩, ⟨(some 177), .move (.t 12), none, .read, 0⟩, ⟨(some 180), .move (.t 12), none, .read, 0⟩, ⟨(some 181), .len 1 (.t 180), none, .read, 0⟩, ⟨(some 182), .arith .rem (.t 179) (.t 181), none, .read, 0⟩, ⟨(some 183), .move (.t 12), none, .read, 0⟩, ⟨(some 184), .len 1 (.t 183), none, .read, 0⟩, ⟨(some 185), .arith .add (.t 182) (.t 184), none, .read, 0⟩, ⟨(some 186), .move (.t 12), none, .read, 0⟩, ⟨(some 187), .len 1 (.t 186), none, .read, 0⟩, ⟨(some 188), .arith .rem (.t 185) (.t 187), none, .read, 0⟩, ⟨(some 189), .indexAddr 2 (.t 177) (.t 188), none, .read, 0⟩, ⟨(some 190), .fieldAddr 0 (.t 189), none, .read, 0⟩, ⟨(some 191), .load none (.t 190), none, .read, 0⟩, ⟨(some 176), .move (.t 9), none, .read, 0⟩, ⟨(some 192), .call (.t 176) [(.t 191)], none, .create, 0⟩, ⟨(some 194), .move (.t 8), none, .read, 0⟩, ⟨(some 195), .nilCheck (.t 194), none, .read, 0⟩, ⟨(some 196), .fieldAddr 5 (.t 195), none, .read, 0⟩, ⟨(some 197), .load none (.t 196), none, .read, 0⟩, ⟨(some 193), .move (.t 9), none, .read, 0⟩, ⟨(some 198), .call (.t 193) [(.t 197)], none, .write, 1⟩, ⟨(some 13), .alloc 32 2 (.agg [(.int .i64 0), (.int .i64 0)]), none, .create, 0⟩, ⟨(some 14), .alloc 32 2 (.agg [(.int .i64 0), (.int .i64 0)]), none, .create, 0⟩, ⟨none, .store 2 (.t 13) (.t 192), none, .write, 4⟩, ⟨none, .store 2 (.t 14) (.t 198), none, .write, 5⟩])
 (.seq (.region [⟨(some 199), .move (.t 8), none, .write, 0⟩, ⟨(some 200), .nilCheck (.t 199), none, .write, 0⟩, ⟨(some 201), .fieldAddr 5 (.t 200), none, .write, 0⟩, ⟨(some 202), .load none (.t 201), none, .write, 0⟩, ⟨(some 203), .arith .add (.t 202) (.c (.int .i64 1)), none, .write, 0⟩, ⟨(some 204), .nilCheck (.t 199), none, .write, 0⟩, ⟨(some 205), .fieldAddr 5 (.t 204), none, .write, 0⟩, ⟨none, .store 1 (.t 205) (.t 203), none, .write, 0⟩])
 (.seq (.draw [⟨(some 207), .move (.t 0), none, .read, 0⟩, ⟨(some 208), .nilCheck (.t 207), none, .read, 0⟩, ⟨(some 209), .fieldAddr 0 (.t 208), none, .read, 0⟩, ⟨(some 210), .load none (.t 209), none, .read, 0⟩, ⟨(some 211), .move (.t 8), none, .read, 0⟩, ⟨(some 212), .nilCheck (.t 211), none, .read, 0⟩, ⟨(some 213), .fieldAddr 0 (.t 212), none, .read, 0⟩, ⟨(some 214), .load none (.t 213), none, .read, 0⟩, ⟨(some 215), .load (some 2) (.t 13), none, .read, 0⟩, ⟨(some 216), .load (some 2) (.t 14), none, .read, 0⟩, ⟨(some 217), .fieldAddr 7 (.t 4), none, .read, 0⟩, ⟨(some 218), .load none (.t 217), none, .read, 0⟩, ⟨(some 219), .call (.c (.func 21 [])) [(.t 210), (.t 214), (.t 215), (.t 216), (.t 218)], none, .write, 0⟩, ⟨(some 206), .move (.t 219), none, .read, 1⟩, ⟨(some 220), .extract (.t 206) 0, none, .read, 1⟩, ⟨(some 221), .extract (.t 206) 1, none, .read, 1⟩, ⟨(some 15), .move (.t 220), none, .read, 1⟩, ⟨(some 16), .move (.t 221), none, .read, 1⟩])
 (.seq (.region [⟨(some 222), .move (.t 0), none, .write, 0⟩, ⟨(some 223), .nilCheck (.t 222), none, .write, 0⟩, ⟨(some 224), .fieldAddr 2 (.t 223), none, .write, 0⟩, ⟨(some 225), .load none (.t 224), none, .write, 0⟩, ⟨(some 226), .move (.t 15), none, .write, 0⟩, ⟨(some 227), .call (.c (.func 147 [])) [(.t 225), (.t 226)], none, .write, 0⟩])
 (.seq (.region [⟨(some 228), .load (some 2) (.t 14), none, .write, 0⟩, ⟨(some 229), .load (some 2) (.t 13), none, .write, 0⟩, ⟨(some 230), .build [(.int .i64 0), (.int .i64 0), (.int .i64 0), (.int .i64 0), (.int .i64 0), (.int .i64 0), .nsl] [(2, 2, (.t 228)), (4, 2, (.t 229))], none, .write, 0⟩, ⟨(some 231), .move (.t 16), none, .write, 0⟩, ⟨none, .store 7 (.t 6) (.t 230), none, .write, 0⟩, ⟨(some 7), .move (.t 231), none, .write, 0⟩])
 .ret))))))))))) }

theorem c152 : compFunc Tryz.prog Tryz.f152 .full = some t152 := by kernel_rfl

/-- slices.pdqsortOrdered[int] -/
def t156 : DFunc := { ntmps := 134, results := [], mode := .full, body :=
 (.seq (.region [⟨(some 8), .move (.c (.bool true)), none, .write, 0⟩])
 (.seq (.region [⟨(some 9), .move (.c (.bool true)), none, .write, 0⟩])
 (.block 0 (.loop (.block 1 (.seq (.region [⟨(some 19), .move (.t 2), none, .write, 0⟩, ⟨(some 20), .move (.t 1), none, .write, 0⟩, ⟨(some 21), .arith .sub (.t 19) (.t 20), none, .write, 0⟩, ⟨(some 10), .move (.t 21), none, .write, 0⟩])
 (.seq (.seq (.region [⟨(some 22), .move (.t 10), none, .write, 0⟩, ⟨(some 23), .arith .leq (.t 22) (.c (.int .i64 12)), none, .write, 0⟩])
 (.cond (.t 23) (.seq (.region [⟨(some 24), .move (.t 0), none, .write, 0⟩, ⟨(some 25), .move (.t 1), none, .write, 0⟩, ⟨(some 26), .move (.t 2), none, .write, 0⟩, ⟨(some 27), .call (.c (.func 218 [])) [(.t 24), (.t 25), (.t 26)], none, .write, 0⟩])
 .ret) .skip))
 (.seq (.seq (.region [⟨(some 28), .move (.t 3), none, .write, 0⟩, ⟨(some 29), .arith .eql (.t 28) (.c (.int .i64 0)), none, .write, 0⟩])
 (.cond (.t 29) (.seq (.region [⟨(some 30), .move (.t 0), none, .write, 0⟩, ⟨(some 31), .move (.t 1), none, .write, 0⟩, ⟨(some 32), .move (.t 2), none, .write, 0⟩, ⟨(some 33), .call (.c (.func 219 [])) [(.t 30), (.t 31), (.t 32)], none, .write, 0⟩])
 .ret) .skip))
 (.seq (.seq (.region [⟨(some 34), .move (.t 8), none, .write, 0⟩, ⟨(some 35), .un .not (.t 34), none, .write, 0⟩])
 (.cond (.t 35) (.seq (.region [⟨(some 36), .move (.t 0), none, .write, 0⟩, ⟨(some 37), .move (.t 1), none, .write, 0⟩, ⟨(some 38), .move (.t 2), none, .write, 0⟩, ⟨(some 39), .call (.c (.func 220 [])) [(.t 36), (.t 37), (.t 38)], none, .write, 0⟩])
 (.region [⟨(some 40), .move (.t 3), none, .write, 0⟩, ⟨(some 41), .arith .sub (.t 40) (.c (.int .i64 1)), none, .write, 0⟩, ⟨(some 3), .move (.t 41), none, .write, 0⟩])) .skip))
 (.seq (.region [⟨(some 43), .move (.t 0), none, .write, 0⟩, ⟨(some 44), .move (.t 1), none, .write, 0⟩, ⟨(some 45), .move (.t 2), none, .write, 0⟩, ⟨(some 46), .call (.c (.func 221 [])) [(.t 43), (.t 44), (.t 45)], none, .write, 0⟩, ⟨(some 42), .move (.t 46), none, .write, 0⟩, ⟨(some 47), .extract (.t 42) 0, none, .write, 0⟩, ⟨(some 48), .extract (.t 42) 1, none, .write, 0⟩, ⟨(some 11), .move (.t 47), none, .write, 0⟩, ⟨(some 12), .move (.t 48), none, .write, 0⟩])
 (.seq (.seq (.region [⟨(some 49), .move (.t 12), none, .write, 0⟩, ⟨(some 50), .arith .eql (.t 49) (.c (.int .i64 2)), none, .write, 0⟩])
 (.cond (.t 50) (.seq (.region [⟨(some 51), .move (.t 0), none, .write, 0⟩, ⟨(some 52), .move (.t 1), none, .write, 0⟩, ⟨(some 53), .move (.t 2), none, .write, 0⟩, ⟨(some 54), .call (.c (.func 222 [])) [(.t 51), (.t 52), (.t 53)], none, .write, 0⟩])
 (.seq (.region [⟨(some 55), .move (.t 2), none, .write, 0⟩, ⟨(some 56), .arith .sub (.t 55) (.c (.int .i64 1)), none, .write, 0⟩, ⟨(some 57), .move (.t 11), none, .write, 0⟩, ⟨(some 58), .move (.t 1), none, .write, 0⟩, ⟨(some 59), .arith .sub (.t 57) (.t 58), none, .write, 0⟩, ⟨(some 60), .arith .sub (.t 56) (.t 59), none, .write, 0⟩, ⟨(some 11), .move (.t 60), none, .write, 0⟩])
 (.region [⟨(some 12), .move (.c (.int .i64 1)), none, .write, 0⟩]))) .skip))
 (.seq (.seq (.region [⟨(some 61), .move (.t 8), none, .write, 0⟩, ⟨(some 62), .move (.t 61), none, .write, 0⟩, ⟨(some 63), .move (.t 9), (some (62, true)), .write, 0⟩, ⟨(some 64), .pick (.t 62) (.t 63) (.c (.bool false)), none, .write, 0⟩, ⟨(some 65), .move (.t 64), none, .write, 0⟩, ⟨(some 66), .move (.t 12), (some (65, true)), .write, 0⟩, ⟨(some 67), .arith .eql (.t 66) (.c (.int .i64 1)), (some (65, true)), .write, 0⟩, ⟨(some 68), .pick (.t 65) (.t 67) (.c (.bool false)), none, .write, 0⟩])
 (.cond (.t 68) (.seq (.region [⟨(some 69), .move (.t 0), none, .write, 0⟩, ⟨(some 70), .move (.t 1), none, .write, 0⟩, ⟨(some 71), .move (.t 2), none, .write, 0⟩, ⟨(some 72), .call (.c (.func 223 [])) [(.t 69), (.t 70), (.t 71)], none, .write, 0⟩])
 (.cond (.t 72) .ret .skip)) .skip))
 (.seq (.seq (.draw [⟨(some 73), .move (.t 1), none, .read, 0⟩, ⟨(some 74), .arith .gtr (.t 73) (.c (.int .i64 0)), none, .read, 0⟩, ⟨(some 75), .move (.t 74), none, .read, 0⟩, ⟨(some 76), .move (.t 0), (some (75, true)), .read, 0⟩, ⟨(some 77), .move (.t 1), (some (75, true)), .read, 0⟩, ⟨(some 78), .arith .sub (.t 77) (.c (.int .i64 1)), (some (75, true)), .read, 0⟩, ⟨(some 79), .indexAddr 1 (.t 76) (.t 78), (some (75, true)), .read, 0⟩, ⟨(some 80), .load none (.t 79), (some (75, true)), .read, 0⟩, ⟨(some 81), .move (.t 0), (some (75, true)), .read, 0⟩, ⟨(some 82), .move (.t 11), (some (75, true)), .read, 0⟩, ⟨(some 83), .indexAddr 1 (.t 81) (.t 82), (some (75, true)), .read, 0⟩, ⟨(some 84), .load none (.t 83), (some (75, true)), .read, 0⟩, ⟨(some 85), .call (.c (.func 224 [])) [(.t 80), (.t 84)], (some (75, true)), .write, 0⟩, ⟨(some 86), .un .not (.t 85), (some (75, true)), .read, 1⟩, ⟨(some 87), .pick (.t 75) (.t 86) (.c (.bool false)), none, .read, 1⟩])
 (.cond (.t 87) (.seq (.region [⟨(some 88), .move (.t 0), none, .write, 0⟩, ⟨(some 89), .move (.t 1), none, .write, 0⟩, ⟨(some 90), .move (.t 2), none, .write, 0⟩, ⟨(some 91), .move (.t 11), none, .write, 0⟩, ⟨(some 92), .call (.c (.func 225 [])) [(.t 88), (.t 89), (.t 90), (.t 91)], none, .write, 0⟩, ⟨(some 13), .move (.t 92), none, .write, 0⟩])
 (.seq (.region [⟨(some 93), .move (.t 13), none, .write, 0⟩, ⟨(some 1), .move (.t 93), none, .write, 0⟩])
 (.exit 1))) .skip))
 (.seq (.region [⟨(some 95), .move (.t 0), none, .write, 0⟩, ⟨(some 96), .move (.t 1), none, .write, 0⟩, ⟨(some 97), .move (.t 2), none, .write, 0⟩, ⟨(some 98), .move (.t 11), none, .write, 0⟩, ⟨(some 99), .call (.c (.func 226 [])) [(.t 95), (.t 96), (.t 97), (.t 98)], none, .write, 0⟩, ⟨(some 94), .move (.t 99), none, .write, 0⟩, ⟨(some 100), .extract (.t 94) 0, none, .write, 0⟩, ⟨(some 101), .extract (.t 94) 1, none, .write, 0⟩, ⟨(some 14), .move (.t 100), none, .write, 0⟩, ⟨(some 15), .move (.t 101), none, .write, 0⟩])
 (.seq (.region [⟨(some 102), .move (.t 15), none, .write, 0⟩, ⟨(some 9), .move (.t 102), none, .write, 0⟩])
 (.seq (.region [⟨(some 103), .move (.t 14), none, .write, 0⟩, ⟨(some 104), .move (.t 1), none, .write, 0⟩, ⟨(some 105), .arith .sub (.t 103) (.t 104), none, .write, 0⟩, ⟨(some 106), .move (.t 2), none, .write, 0⟩, ⟨(some 107), .move (.t 14), none, .write, 0⟩, ⟨(some 108), .arith .sub (.t 106) (.t 107), none, .write, 0⟩, ⟨(some 16), .move (.t 105), none, .write, 0⟩, ⟨(some 17), .move (.t 108), none, .write, 0⟩])
 (.seq (.region [⟨(some 109), .move (.t 10), none, .write, 0⟩, ⟨(some 110), .arith .quo (.t 109) (.c (.int .i64 8)), none, .write, 0⟩, ⟨(some 18), .move (.t 110), none, .write, 0⟩])
 (.seq (.region [⟨(some 111), .move (.t 16), none, .write, 0⟩, ⟨(some 112), .move (.t 17), none, .write, 0⟩, ⟨(some 113), .arith .lss (.t 111) (.t 112), none, .write, 0⟩])
 (.cond (.t 113) (.seq (.region [⟨(some 114), .move (.t 16), none, .write, 0⟩, ⟨(some 115), .move (.t 18), none, .write, 0⟩, ⟨(some 116), .arith .geq (.t 114) (.t 115), none, .write, 0⟩, ⟨(some 8), .move (.t 116), none, .write, 0⟩])
 (.seq (.region [⟨(some 117), .move (.t 0), none, .write, 0⟩, ⟨(some 118), .move (.t 1), none, .write, 0⟩, ⟨(some 119), .move (.t 14), none, .write, 0⟩, ⟨(some 120), .move (.t 3), none, .write, 0⟩, ⟨(some 121), .call (.c (.func 156 [])) [(.t 117), (.t 118), (.t 119), (.t 120)], none, .write, 0⟩])
 (.region [⟨(some 122), .move (.t 14), none, .write, 0⟩, ⟨(some 123), .arith .add (.t 122) (.c (.int .i64 1)), none, .write, 0⟩, ⟨(some 1), .move (.t 123), none, .write, 0⟩]))) (.seq (.region [⟨(some 124), .move (.t 17), none, .write, 0⟩, ⟨(some 125), .move (.t 18), none, .write, 0⟩, ⟨(some 126), .arith .geq (.t 124) (.t 125), none, .write, 0⟩, ⟨(some 8), .move (.t 126), none, .write, 0⟩])
 (.seq (.region [⟨(some 127), .move (.t 0), none, .write, 0⟩, ⟨(some 128), .move (.t 14), none, .write, 0⟩, ⟨(some 129), .arith .add (.t 128) (.c (.int .i64 1)), none, .write, 0⟩, ⟨(some 130), .move (.t 2), none, .write, 0⟩, ⟨(some 131), .move (.t 3), none, .write, 0⟩, ⟨(some 132), .call (.c (.func 156 [])) [(.t 127), (.t 129), (.t 130), (.t 131)], none, .write, 0⟩])
 (.region [⟨(some 133), .move (.t 14), none, .write, 0⟩, ⟨(some 2), .move (.t 133), none, .write, 0⟩])))))))))))))))))))))) }

theorem c156 : compFunc Tryz.prog Tryz.f156 .full = some t156 := by kernel_rfl

/-- broadside/adverts.Forget -/
def t157 : DFunc := { ntmps := 44, results := [(.cell 6 (some 6)), (.t 7)], mode := .full, body :=
 (.seq (.region [⟨(some 3), .box 79 6 (.t 0), none, .write, 0⟩, ⟨(some 4), .box 32 2 (.t 1), none, .write, 0⟩, ⟨(some 6), .alloc 79 6 (.agg [(.int .i64 0), .nsl, .nsl, .nsl, .nsl, .nsl]), none, .write, 0⟩, ⟨(some 7), .move (.c (.bool false)), none, .write, 0⟩])
 (.seq (.region [⟨(some 10), .load (some 6) (.t 3), none, .write, 0⟩, ⟨(some 11), .call (.c (.func 161 [])) [(.t 10)], none, .write, 0⟩, ⟨none, .store 6 (.t 3) (.t 11), none, .write, 0⟩])
 (.seq (.region [⟨(some 13), .load (some 6) (.t 3), none, .write, 0⟩, ⟨(some 14), .load (some 2) (.t 4), none, .write, 0⟩, ⟨(some 15), .call (.c (.func 106 [])) [(.t 13), (.t 14)], none, .write, 0⟩, ⟨(some 12), .move (.t 15), none, .write, 0⟩, ⟨(some 16), .extract (.t 12) 0, none, .write, 0⟩, ⟨(some 17), .extract (.t 12) 1, none, .write, 0⟩, ⟨(some 8), .move (.t 16), none, .write, 0⟩, ⟨(some 9), .move (.t 17), none, .write, 0⟩])
 (.seq (.seq (.region [⟨(some 18), .move (.t 9), none, .write, 0⟩, ⟨(some 19), .un .not (.t 18), none, .write, 0⟩, ⟨(some 20), .move (.t 19), none, .write, 0⟩, ⟨(some 21), .fieldAddr 2 (.t 3), (some (20, false)), .write, 0⟩, ⟨(some 22), .load none (.t 21), (some (20, false)), .write, 0⟩, ⟨(some 23), .move (.t 8), (some (20, false)), .write, 0⟩, ⟨(some 24), .indexAddr 4 (.t 22) (.t 23), (some (20, false)), .write, 0⟩, ⟨(some 25), .fieldAddr 3 (.t 24), (some (20, false)), .write, 0⟩, ⟨(some 26), .load none (.t 25), (some (20, false)), .write, 0⟩, ⟨(some 27), .move (.t 2), (some (20, false)), .write, 0⟩, ⟨(some 28), .arith .neq (.t 26) (.t 27), (some (20, false)), .write, 0⟩, ⟨(some 29), .pick (.t 20) (.c (.bool true)) (.t 28), none, .write, 0⟩])
 (.cond (.t 29) (.seq (.region [⟨(some 30), .load (some 6) (.t 3), none, .write, 0⟩, ⟨none, .store 6 (.t 6) (.t 30), none, .write, 0⟩, ⟨(some 7), .move (.c (.bool false)), none, .write, 0⟩])
 .ret) .skip))
 (.seq (.region [⟨(some 31), .fieldAddr 2 (.t 3), none, .write, 0⟩, ⟨(some 32), .load none (.t 31), none, .write, 0⟩, ⟨(some 33), .move (.t 8), none, .write, 0⟩, ⟨(some 34), .move (.t 8), none, .write, 0⟩, ⟨(some 35), .arith .add (.t 34) (.c (.int .i64 1)), none, .write, 0⟩, ⟨(some 36), .call (.c (.func 227 [])) [(.t 32), (.t 33), (.t 35)], none, .write, 0⟩, ⟨(some 37), .fieldAddr 2 (.t 3), none, .write, 0⟩, ⟨none, .store 1 (.t 37) (.t 36), none, .write, 0⟩])
 (.seq (.region [⟨(some 38), .fieldAddr 4 (.t 3), none, .write, 0⟩, ⟨(some 39), .load none (.t 38), none, .write, 0⟩, ⟨(some 40), .makeFunc 229 [(.t 4)], none, .write, 0⟩, ⟨(some 41), .call (.c (.func 228 [])) [(.t 39), (.t 40)], none, .write, 0⟩, ⟨(some 42), .fieldAddr 4 (.t 3), none, .write, 0⟩, ⟨none, .store 1 (.t 42) (.t 41), none, .write, 0⟩])
 (.seq (.region [⟨(some 43), .load (some 6) (.t 3), none, .write, 0⟩, ⟨none, .store 6 (.t 6) (.t 43), none, .write, 0⟩, ⟨(some 7), .move (.c (.bool true)), none, .write, 0⟩])
 .ret))))))) }

theorem c157 : compFunc Tryz.prog Tryz.f157 .full = some t157 := by kernel_rfl

/-- broadside/route.take -/
def t158 : DFunc := { ntmps := 60, results := [(.cell 8 (some 6)), (.t 9)], mode := .full, body :=
 (.seq (.region [⟨(some 4), .box 79 6 (.t 0), none, .write, 0⟩, ⟨(some 5), .box 32 2 (.t 1), none, .write, 0⟩, ⟨(some 6), .box 32 2 (.t 2), none, .write, 0⟩, ⟨(some 8), .alloc 79 6 (.agg [(.int .i64 0), .nsl, .nsl, .nsl, .nsl, .nsl]), none, .write, 0⟩, ⟨(some 9), .move (.c .nsl), none, .write, 0⟩])
 (.seq (.region [⟨(some 18), .load (some 6) (.t 4), none, .write, 0⟩, ⟨(some 19), .load (some 2) (.t 5), none, .write, 0⟩, ⟨(some 20), .call (.c (.func 55 [])) [(.t 18), (.t 19)], none, .write, 0⟩, ⟨(some 17), .move (.t 20), none, .write, 0⟩, ⟨(some 21), .extract (.t 17) 0, none, .write, 0⟩, ⟨(some 22), .extract (.t 17) 1, none, .write, 0⟩, ⟨(some 10), .alloc 120 4 (.agg [(.int .i64 0), (.int .i64 0), .nsl, (.int .i64 0)]), none, .write, 0⟩, ⟨none, .store 4 (.t 10) (.t 21), none, .write, 0⟩, ⟨(some 11), .move (.t 22), none, .write, 0⟩])
 (.seq (.region [⟨(some 24), .load (some 6) (.t 4), none, .write, 0⟩, ⟨(some 25), .load (some 2) (.t 5), none, .write, 0⟩, ⟨(some 26), .load (some 2) (.t 6), none, .write, 0⟩, ⟨(some 27), .move (.t 3), none, .write, 0⟩, ⟨(some 28), .call (.c (.func 230 [])) [(.t 24), (.t 25), (.t 26), (.t 27)], none, .write, 0⟩, ⟨(some 23), .move (.t 28), none, .write, 0⟩, ⟨(some 29), .extract (.t 23) 0, none, .write, 0⟩, ⟨(some 30), .extract (.t 23) 1, none, .write, 0⟩, ⟨(some 31), .extract (.t 23) 2, none, .write, 0⟩, ⟨none, .store 6 (.t 4) (.t 29), none, .write, 0⟩, ⟨(some 12), .move (.t 30), none, .write, 0⟩, ⟨(some 13), .move (.t 31), none, .write, 0⟩])
 (.seq (.seq (.region [⟨(some 32), .move (.t 13), none, .write, 0⟩, ⟨(some 33), .un .not (.t 32), none, .write, 0⟩])
 (.cond (.t 33) (.seq (.region [⟨(some 34), .load (some 6) (.t 4), none, .write, 0⟩, ⟨none, .store 6 (.t 8) (.t 34), none, .write, 0⟩, ⟨(some 9), .move (.c .nsl), none, .write, 0⟩])
 .ret) .skip))
 (.seq (.region [⟨(some 14), .move (.c .nsl), none, .write, 0⟩])
 (.seq (.seq (.region [⟨(some 35), .move (.t 12), none, .write, 0⟩, ⟨(some 36), .len 1 (.t 35), none, .write, 0⟩, ⟨(some 37), .move (.c (.int .i64 0)), none, .write, 0⟩])
 (.block 0 (.loop (.seq (.region [⟨(some 38), .arith .lss (.t 37) (.t 36), none, .write, 0⟩])
 (.seq (.cond (.t 38) .skip (.exit 0))
 (.seq (.block 1 (.seq (.region [⟨(some 39), .indexAddr 7 (.t 35) (.t 37), none, .write, 0⟩, ⟨(some 40), .load (some 7) (.t 39), none, .write, 0⟩, ⟨(some 16), .alloc 192 7 (.agg [(.int .i64 0), (.int .i64 0), (.int .i64 0), (.int .i64 0), .nsl, (.int .i64 0), (.bool false)]), none, .write, 0⟩, ⟨none, .store 7 (.t 16) (.t 40), none, .write, 0⟩])
 (.draw [⟨(some 42), .fieldAddr 3 (.t 10), none, .read, 0⟩, ⟨(some 43), .load none (.t 42), none, .read, 0⟩, ⟨(some 44), .load (some 7) (.t 16), none, .read, 0⟩, ⟨(some 45), .call (.c (.func 99 [])) [(.t 44)], none, .create, 0⟩, ⟨(some 41), .move (.t 14), none, .read, 0⟩, ⟨(some 46), .build [(.int .i64 0), (.int .i64 0), (.int .i64 0), (.int .i64 0), (.int .i64 0), (.int .i64 0), .nsl, .nsl] [(0, 1, (.t 43)), (1, 7, (.t 45))], none, .read, 1⟩, ⟨(some 47), .buildSlice 182 8 (.agg [(.int .i64 0), (.int .i64 0), (.int .i64 0), (.int .i64 0), (.int .i64 0), (.int .i64 0), .nsl, .nsl]) 1 [(0, (.t 46))], none, .create, 0⟩, ⟨(some 48), .append 182 8 96 (.t 41) (.t 47), none, .write, 2⟩, ⟨(some 14), .move (.t 48), none, .read, 3⟩])))
 (.region [⟨(some 49), .arith .add (.t 37) (.c (.int .i64 1)), none, .write, 0⟩, ⟨(some 37), .move (.t 49), none, .write, 0⟩])))))))
 (.seq (.draw [⟨(some 50), .load (some 6) (.t 4), none, .read, 0⟩, ⟨(some 52), .fieldAddr 3 (.t 10), none, .read, 0⟩, ⟨(some 53), .load none (.t 52), none, .read, 0⟩, ⟨(some 54), .load (some 2) (.t 5), none, .read, 0⟩, ⟨(some 55), .load (some 2) (.t 6), none, .read, 0⟩, ⟨(some 51), .move (.t 14), none, .read, 0⟩, ⟨(some 56), .build [(.int .i64 0), (.int .i64 0), (.int .i64 0), (.int .i64 0), (.int .i64 0), .nsl, .nsl] [(0, 1, (.c (.int .i64 4))), (1, 2, (.t 54)), (3, 2, (.t 55))], none, .read, 0⟩, ⟨(some 57), .build [(.int .i64 0), (.int .i64 0), (.int .i64 0), (.int .i64 0), (.int .i64 0), (.int .i64 0), .nsl, .nsl] [(0, 1, (.t 53)), (1, 7, (.t 56))], none, .read, 0⟩, ⟨(some 58), .buildSlice 182 8 (.agg [(.int .i64 0), (.int .i64 0), (.int .i64 0), (.int .i64 0), (.int .i64 0), (.int .i64 0), .nsl, .nsl]) 1 [(0, (.t 57))], none, .create, 0⟩, ⟨(some 59), .append 182 8 96 (.t 51) (.t 58), none, .create, 0⟩, ⟨none, .store 6 (.t 8) (.t 50), none, .write, 2⟩, ⟨(some 9), .move (.t 59), none, .read, 3⟩])
 .ret))))))) }

theorem c158 : compFunc Tryz.prog Tryz.f158 .full = some t158 := by kernel_rfl

/-- (*broadside/queue.Queues).way -/
def t159 : DFunc := { ntmps := 15, results := [(.t 6)], mode := .full, body :=
 (.seq (.region [⟨(some 6), .move (.c (.bool false)), none, .write, 0⟩])
 (.seq (.region [⟨(some 7), .move (.t 0), none, .write, 0⟩, ⟨(some 8), .nilCheck (.t 7), none, .write, 0⟩, ⟨(some 9), .fieldAddr 0 (.t 8), none, .write, 0⟩, ⟨(some 10), .load none (.t 9), none, .write, 0⟩, ⟨(some 11), .move (.t 1), none, .write, 0⟩, ⟨(some 12), .move (.t 2), none, .write, 0⟩, ⟨(some 13), .build [(.int .i64 0), (.int .i64 0)] [(0, 1, (.t 11)), (1, 1, (.t 12))], none, .write, 0⟩, ⟨(some 14), .call (.c (.func 231 [])) [(.t 10), (.t 13)], none, .write, 0⟩, ⟨(some 6), .move (.t 14), none, .write, 0⟩])
 .ret)) }

theorem c159 : compFunc Tryz.prog Tryz.f159 .full = some t159 := by kernel_rfl

/-- slices.Concat[[]broadside/api.Message,broadside/api.Message] -/
def t160 : DFunc := { ntmps := 36, results := [(.t 2)], mode := .full, body :=
 (.seq (.region [⟨(some 2), .move (.c .nsl), none, .write, 0⟩])
 (.seq (.region [⟨(some 3), .move (.c (.int .i64 0)), none, .write, 0⟩])
 (.seq (.seq (.region [⟨(some 9), .move (.t 0), none, .write, 0⟩, ⟨(some 10), .len 1 (.t 9), none, .write, 0⟩, ⟨(some 11), .move (.c (.int .i64 0)), none, .write, 0⟩])
 (.block 0 (.loop (.seq (.region [⟨(some 12), .arith .lss (.t 11) (.t 10), none, .write, 0⟩])
 (.seq (.cond (.t 12) .skip (.exit 0))
 (.seq (.block 1 (.seq (.region [⟨(some 13), .indexAddr 1 (.t 9) (.t 11), none, .write, 0⟩, ⟨(some 14), .load none (.t 13), none, .write, 0⟩, ⟨(some 5), .move (.t 14), none, .write, 0⟩])
 (.seq (.region [⟨(some 15), .move (.t 3), none, .write, 0⟩, ⟨(some 16), .move (.t 5), none, .write, 0⟩, ⟨(some 17), .len 1 (.t 16), none, .write, 0⟩, ⟨(some 18), .arith .add (.t 15) (.t 17), none, .write, 0⟩, ⟨(some 3), .move (.t 18), none, .write, 0⟩])
 (.seq (.region [⟨(some 19), .move (.t 3), none, .write, 0⟩, ⟨(some 20), .arith .lss (.t 19) (.c (.int .i64 0)), none, .write, 0⟩])
 (.cond (.t 20) (.region [⟨(some 21), .makeIface 9 (.c (.str [108, 101, 110, 32, 111, 117, 116, 32, 111, 102, 32, 114, 97, 110, 103, 101])), none, .write, 0⟩, ⟨none, .extract (.c .nilp) 0, none, .write, 0⟩]) .skip)))))
 (.region [⟨(some 22), .arith .add (.t 11) (.c (.int .i64 1)), none, .write, 0⟩, ⟨(some 11), .move (.t 22), none, .write, 0⟩])))))))
 (.seq (.region [⟨(some 23), .move (.t 3), none, .write, 0⟩, ⟨(some 24), .call (.c (.func 232 [])) [(.c .nsl), (.t 23)], none, .write, 0⟩, ⟨(some 6), .move (.t 24), none, .write, 0⟩])
 (.seq (.seq (.region [⟨(some 25), .move (.t 0), none, .write, 0⟩, ⟨(some 26), .len 1 (.t 25), none, .write, 0⟩, ⟨(some 27), .move (.c (.int .i64 0)), none, .write, 0⟩])
 (.block 2 (.loop (.seq (.region [⟨(some 28), .arith .lss (.t 27) (.t 26), none, .write, 0⟩])
 (.seq (.cond (.t 28) .skip (.exit 2))
 (.seq (.block 3 (.seq (.region [⟨(some 29), .indexAddr 1 (.t 25) (.t 27), none, .write, 0⟩, ⟨(some 30), .load none (.t 29), none, .write, 0⟩, ⟨(some 8), .move (.t 30), none, .write, 0⟩])
 (.region [⟨(some 31), .move (.t 6), none, .write, 0⟩, ⟨(some 32), .move (.t 8), none, .write, 0⟩, ⟨(some 33), .append 102 7 88 (.t 31) (.t 32), none, .write, 0⟩, ⟨(some 6), .move (.t 33), none, .write, 0⟩])))
 (.region [⟨(some 34), .arith .add (.t 27) (.c (.int .i64 1)), none, .write, 0⟩, ⟨(some 27), .move (.t 34), none, .write, 0⟩])))))))
 (.seq (.region [⟨(some 35), .move (.t 6), none, .write, 0⟩, ⟨(some 2), .move (.t 35), none, .write, 0⟩])
 .ret)))))) }

theorem c160 : compFunc Tryz.prog Tryz.f160 .full = some t160 := by kernel_rfl

/-- broadside/adverts.copied -/
def t161 : DFunc := { ntmps := 24, results := [(.cell 2 (some 6))], mode := .full, body :=
 (.seq (.region [⟨(some 1), .box 79 6 (.t 0), none, .write, 0⟩, ⟨(some 2), .alloc 79 6 (.agg [(.int .i64 0), .nsl, .nsl, .nsl, .nsl, .nsl]), none, .write, 0⟩])
 (.seq (.draw [⟨(some 3), .fieldAddr 1 (.t 1), none, .read, 0⟩, ⟨(some 4), .load none (.t 3), none, .read, 0⟩, ⟨(some 5), .call (.c (.func 86 [])) [(.t 4)], none, .create, 0⟩, ⟨(some 6), .fieldAddr 2 (.t 1), none, .read, 0⟩, ⟨(some 7), .load none (.t 6), none, .read, 0⟩, ⟨(some 8), .call (.c (.func 107 [])) [(.t 7)], none, .create, 0⟩, ⟨(some 9), .fieldAddr 3 (.t 1), none, .read, 0⟩, ⟨(some 10), .load none (.t 9), none, .read, 0⟩, ⟨(some 11), .call (.c (.func 108 [])) [(.t 10)], none, .create, 0⟩, ⟨(some 12), .fieldAddr 4 (.t 1), none, .read, 0⟩, ⟨(some 13), .load none (.t 12), none, .read, 0⟩, ⟨(some 14), .call (.c (.func 109 [])) [(.t 13)], none, .create, 0⟩, ⟨(some 15), .fieldAddr 5 (.t 1), none, .read, 0⟩, ⟨(some 16), .load none (.t 15), none, .read, 0⟩, ⟨(some 17), .call (.c (.func 102 [])) [(.t 16)], none, .write, 4⟩, ⟨(some 18), .fieldAddr 1 (.t 1), none, .read, 1⟩, ⟨none, .store 1 (.t 18) (.t 5), none, .write, 5⟩, ⟨(some 19), .fieldAddr 2 (.t 1), none, .read, 6⟩, ⟨none, .store 1 (.t 19) (.t 8), none, .write, 6⟩, ⟨(some 20), .fieldAddr 3 (.t 1), none, .read, 7⟩, ⟨none, .store 1 (.t 20) (.t 11), none, .write, 7⟩, ⟨(some 21), .fieldAddr 4 (.t 1), none, .read, 8⟩, ⟨none, .store 1 (.t 21) (.t 14), none, .write, 8⟩, ⟨(some 22), .fieldAddr 5 (.t 1), none, .read, 9⟩, ⟨none, .store 1 (.t 22) (.t 17), none, .write, 9⟩])
 (.seq (.region [⟨(some 23), .load (some 6) (.t 1), none, .write, 0⟩, ⟨none, .store 6 (.t 2) (.t 23), none, .write, 0⟩])
 .ret))) }

theorem c161 : compFunc Tryz.prog Tryz.f161 .full = some t161 := by kernel_rfl

/-- broadside/adverts.seen -/
def t162 : DFunc := { ntmps := 12, results := [(.t 4), (.t 5)], mode := .full, body :=
 (.seq (.region [⟨(some 2), .box 79 6 (.t 0), none, .write, 0⟩, ⟨(some 3), .box 32 2 (.t 1), none, .write, 0⟩, ⟨(some 4), .move (.c (.int .i64 0)), none, .write, 0⟩, ⟨(some 5), .move (.c (.bool false)), none, .write, 0⟩])
 (.seq (.region [⟨(some 6), .fieldAddr 3 (.t 2), none, .write, 0⟩, ⟨(some 7), .load none (.t 6), none, .write, 0⟩, ⟨(some 8), .load (some 2) (.t 3), none, .write, 0⟩, ⟨(some 9), .call (.c (.func 233 [])) [(.t 7), (.t 8), (.c (.func 127 []))], none, .write, 0⟩, ⟨(some 10), .extract (.t 9) 0, none, .write, 0⟩, ⟨(some 11), .extract (.t 9) 1, none, .write, 0⟩, ⟨(some 4), .move (.t 10), none, .write, 0⟩, ⟨(some 5), .move (.t 11), none, .write, 0⟩])
 .ret)) }

theorem c162 : compFunc Tryz.prog Tryz.f162 .full = some t162 := by kernel_rfl

/-- slices.Insert[[]broadside/api.Advert,broadside/api.Advert] -/
def t163 : DFunc := { ntmps := 95, results := [(.t 6)], mode := .split, body :=
 (.seq (.region [⟨(some 6), .move (.c .nsl), none, .write, 0⟩])
 (.seq (.region [⟨(some 10), .move (.t 0), none, .write, 0⟩, ⟨(some 11), .move (.t 1), none, .write, 0⟩, ⟨(some 12), .sliceSl 4 (.t 10) (some (.t 11)) none, none, .write, 0⟩])
 (.seq (.region [⟨(some 13), .move (.t 2), none, .write, 0⟩, ⟨(some 14), .len 1 (.t 13), none, .write, 0⟩, ⟨(some 7), .move (.t 14), none, .write, 0⟩])
 (.seq (.seq (.region [⟨(some 15), .move (.t 7), none, .write, 0⟩, ⟨(some 16), .arith .eql (.t 15) (.c (.int .i64 0)), none, .write, 0⟩])
 (.cond (.t 16) (.seq (.region [⟨(some 17), .move (.t 0), none, .write, 0⟩, ⟨(some 6), .move (.t 17), none, .write, 0⟩])
 .ret) .skip))
 (.seq (.region [⟨(some 18), .move (.t 0), none, .write, 0⟩, ⟨(some 19), .len 1 (.t 18), none, .write, 0⟩, ⟨(some 8), .move (.t 19), none, .write, 0⟩])
 (.seq (.seq (.region [⟨(some 20), .move (.t 1), none, .write, 0⟩, ⟨(some 21), .move (.t 8), none, .write, 0⟩, ⟨(some 22), .arith .eql (.t 20) (.t 21), none, .write, 0⟩])
 (.cond (.t 22) (.seq (.region [⟨(some 23), .move (.t 0), none, .write, 0⟩, ⟨(some 24), .move (.t 2), none, .write, 0⟩, ⟨(some 25), .append 120 4 48 (.t 23) (.t 24), none, .write, 0⟩, ⟨(some 6), .move (.t 25), none, .write, 0⟩])
 .ret) .skip))
 (.seq (.seq (.region [⟨(some 26), .move (.t 8), none, .write, 0⟩, ⟨(some 27), .move (.t 7), none, .write, 0⟩, ⟨(some 28), .arith .add (.t 26) (.t 27), none, .write, 0⟩, ⟨(some 29), .move (.t 0), none, .write, 0⟩, ⟨(some 30), .cap (.t 29), none, .write, 0⟩, ⟨(some 31), .arith .gtr (.t 28) (.t 30), none, .write, 0⟩])
 (.cond (.t 31) (.seq (.region [⟨(some 32), .move (.t 0), none, .write, 0⟩, ⟨(some 33), .move (.t 1), none, .write, 0⟩, ⟨(some 34), .sliceSl 4 (.t 32) none (some (.t 33)), none, .write, 0⟩, ⟨(some 35), .move (.t 8), none, .write, 0⟩, ⟨(some 36), .move (.t 7), none, .write, 0⟩, ⟨(some 37), .arith .add (.t 35) (.t 36), none, .write, 0⟩, ⟨(some 38), .move (.t 1), none, .write, 0⟩, ⟨(some 39), .arith .sub (.t 37) (.t 38), none, .write, 0⟩, ⟨(some 40), .appendZ 120 4 48 (.agg [(.int .i64 0), (.int .i64 0), .nsl, (.int .i64 0)]) (.t 34) (.t 39), none, .write, 0⟩, ⟨(some 9), .move (.t 40), none, .write, 0⟩])
 (.seq (.region [⟨(some 41), .move (.t 9), none, .write, 0⟩, ⟨(some 42), .move (.t 1), none, .write, 0⟩, ⟨(some 43), .sliceSl 4 (.t 41) (some (.t 42)) none, none, .write, 0⟩, ⟨(some 44), .move (.t 2), none, .write, 0⟩, ⟨(some 45), .copy 4 (.t 43) (.t 44), none, .write, 0⟩])
 (.seq (.draw [⟨(some 46), .move (.t 9), none, .read, 0⟩, ⟨(some 47), .move (.t 1), none, .read, 0⟩, ⟨(some 48), .move (.t 7), none, .read, 0⟩, ⟨(some 49), .arith .add (.t 47) (.t 48), none, .read, 0⟩, ⟨(some 50), .sliceSl 4 (.t 46) (some (.t 49)) none, none, .read, 0⟩, ⟨(some 51), .move (.t 0), none, .read, 0⟩, ⟨(some 52), .move (.t 1), none, .read, 0⟩, ⟨(some 53), .sliceSl 4 (.t 51) (some (.t 52)) none, none, .read, 0⟩, ⟨(some 54), .copy 4 (.t 50) (.t 53), none, .write, 0⟩])
 (.seq (.region [⟨(some 55), .move (.t 9), none, .write, 0⟩, ⟨(some 6), .move (.t 55), none, .write, 0⟩])
 .ret)))) .skip))
 (.seq (.region [⟨(some 56), .move (.t 0), none, .write, 0⟩, ⟨(some 57), .move (.t 8), none, .write, 0⟩, ⟨(some 58), .move (.t 7), none, .write, 0⟩, ⟨(some 59), .arith .add (.t 57) (.t 58), none, .write, 0⟩, ⟨(some 60), .sliceSl 4 (.t 56) none (some (.t 59)), none, .write, 0⟩, ⟨(some 0), .move (.t 60), none, .write, 0⟩])
 (.seq (.seq (.region [⟨(some 61), .move (.t 2), none, .write, 0⟩, ⟨(some 62), .move (.t 0), none, .write, 0⟩, ⟨(some 63), .move (.t 1), none, .write, 0⟩, ⟨(some 64), .move (.t 7), none, .write, 0⟩, ⟨(some 65), .arith .add (.t 63) (.t 64), none, .write, 0⟩, ⟨(some 66), .sliceSl 4 (.t 62) (some (.t 65)) none, none, .write, 0⟩, ⟨(some 67), .call (.c (.func 234 [])) [(.t 61), (.t 66)], none, .write, 0⟩, ⟨(some 68), .un .not (.t 67), none, .write, 0⟩])
 (.cond (.t 68) (.seq (.draw [⟨(some 69), .move (.t 0), none, .read, 0⟩, ⟨(some 70), .move (.t 1), none, .read, 0⟩, ⟨(some 71), .move (.t 7), none, .read, 0⟩, ⟨(some 72), .arith .add (.t 70) (.t 71), none, .read, 0⟩, ⟨(some 73), .sliceSl 4 (.t 69) (some (.t 72)) none, none, .read, 0⟩, ⟨(some 74), .move (.t 0), none, .read, 0⟩, ⟨(some 75), .move (.t 1), none, .read, 0⟩, ⟨(some 76), .sliceSl 4 (.t 74) (some (.t 75)) none, none, .read, 0⟩, ⟨(some 77), .copy 4 (.t 73) (.t 76), none, .write, 0⟩])
 (.seq (.region [⟨(some 78), .move (.t 0), none, .write, 0⟩, ⟨(some 79), .move (.t 1), none, .write, 0⟩, ⟨(some 80), .sliceSl 4 (.t 78) (some (.t 79)) none, none, .write, 0⟩, ⟨(some 81), .move (.t 2), none, .write, 0⟩, ⟨(some 82), .copy 4 (.t 80) (.t 81), none, .write, 0⟩])
 (.seq (.region [⟨(some 83), .move (.t 0), none, .write, 0⟩, ⟨(some 6), .move (.t 83), none, .write, 0⟩])
 .ret))) .skip))
 (.seq (.region [⟨(some 84), .move (.t 0), none, .write, 0⟩, ⟨(some 85), .move (.t 8), none, .write, 0⟩, ⟨(some 86), .sliceSl 4 (.t 84) (some (.t 85)) none, none, .write, 0⟩, ⟨(some 87), .move (.t 2), none, .write, 0⟩, ⟨(some 88), .copy 4 (.t 86) (.t 87), none, .write, 0⟩])
 (.seq (.region [⟨(some 89), .move (.t 0), none, .write, 0⟩, ⟨(some 90), .move (.t 1), none, .write, 0⟩, ⟨(some 91), .sliceSl 4 (.t 89) (some (.t 90)) none, none, .write, 0⟩, ⟨(some 92), .move (.t 7), none, .write, 0⟩, ⟨(some 93), .call (.c (.func 235 [])) [(.t 91), (.t 92)], none, .write, 0⟩])
 (.seq (.region [⟨(some 94), .move (.t 0), none, .write, 0⟩, ⟨(some 6), .move (.t 94), none, .write, 0⟩])
 .ret)))))))))))) }

theorem c163 : compFunc Tryz.prog Tryz.f163 .split = some t163 := by kernel_rfl

/-- slices.Insert[[]broadside/api.ID,broadside/api.ID] -/
def t164 : DFunc := { ntmps := 95, results := [(.t 6)], mode := .split, body :=
 (.seq (.region [⟨(some 6), .move (.c .nsl), none, .write, 0⟩])
 (.seq (.region [⟨(some 10), .move (.t 0), none, .write, 0⟩, ⟨(some 11), .move (.t 1), none, .write, 0⟩, ⟨(some 12), .sliceSl 2 (.t 10) (some (.t 11)) none, none, .write, 0⟩])
 (.seq (.region [⟨(some 13), .move (.t 2), none, .write, 0⟩, ⟨(some 14), .len 1 (.t 13), none, .write, 0⟩, ⟨(some 7), .move (.t 14), none, .write, 0⟩])
 (.seq (.seq (.region [⟨(some 15), .move (.t 7), none, .write, 0⟩, ⟨(some 16), .arith .eql (.t 15) (.c (.int .i64 0)), none, .write, 0⟩])
 (.cond (.t 16) (.seq (.region [⟨(some 17), .move (.t 0), none, .write, 0⟩, ⟨(some 6), .move (.t 17), none, .write, 0⟩])
 .ret) .skip))
 (.seq (.region [⟨(some 18), .move (.t 0), none, .write, 0⟩, ⟨(some 19), .len 1 (.t 18), none, .write, 0⟩, ⟨(some 8), .move (.t 19), none, .write, 0⟩])
 (.seq (.seq (.region [⟨(some 20), .move (.t 1), none, .write, 0⟩, ⟨(some 21), .move (.t 8), none, .write, 0⟩, ⟨(some 22), .arith .eql (.t 20) (.t 21), none, .write, 0⟩])
 (.cond (.t 22) (.seq (.region [⟨(some 23), .move (.t 0), none, .write, 0⟩, ⟨(some 24), .move (.t 2), none, .write, 0⟩, ⟨(some 25), .append 32 2 16 (.t 23) (.t 24), none, .write, 0⟩, ⟨(some 6), .move (.t 25), none, .write, 0⟩])
 .ret) .skip))
 (.seq (.seq (.region [⟨(some 26), .move (.t 8), none, .write, 0⟩, ⟨(some 27), .move (.t 7), none, .write, 0⟩, ⟨(some 28), .arith .add (.t 26) (.t 27), none, .write, 0⟩, ⟨(some 29), .move (.t 0), none, .write, 0⟩, ⟨(some 30), .cap (.t 29), none, .write, 0⟩, ⟨(some 31), .arith .gtr (.t 28) (.t 30), none, .write, 0⟩])
 (.cond (.t 31) (.seq (.region [⟨(some 32), .move (.t 0), none, .write, 0⟩, ⟨(some 33), .move (.t 1), none, .write, 0⟩, ⟨(some 34), .sliceSl 2 (.t 32) none (some (.t 33)), none, .write, 0⟩, ⟨(some 35), .move (.t 8), none, .write, 0⟩, ⟨(some 36), .move (.t 7), none, .write, 0⟩, ⟨(some 37), .arith .add (.t 35) (.t 36), none, .write, 0⟩, ⟨(some 38), .move (.t 1), none, .write, 0⟩, ⟨(some 39), .arith .sub (.t 37) (.t 38), none, .write, 0⟩, ⟨(some 40), .appendZ 32 2 16 (.agg [(.int .i64 0), (.int .i64 0)]) (.t 34) (.t 39), none, .write, 0⟩, ⟨(some 9), .move (.t 40), none, .write, 0⟩])
 (.seq (.region [⟨(some 41), .move (.t 9), none, .write, 0⟩, ⟨(some 42), .move (.t 1), none, .write, 0⟩, ⟨(some 43), .sliceSl 2 (.t 41) (some (.t 42)) none, none, .write, 0⟩, ⟨(some 44), .move (.t 2), none, .write, 0⟩, ⟨(some 45), .copy 2 (.t 43) (.t 44), none, .write, 0⟩])
 (.seq (.draw [⟨(some 46), .move (.t 9), none, .read, 0⟩, ⟨(some 47), .move (.t 1), none, .read, 0⟩, ⟨(some 48), .move (.t 7), none, .read, 0⟩, ⟨(some 49), .arith .add (.t 47) (.t 48), none, .read, 0⟩, ⟨(some 50), .sliceSl 2 (.t 46) (some (.t 49)) none, none, .read, 0⟩, ⟨(some 51), .move (.t 0), none, .read, 0⟩, ⟨(some 52), .move (.t 1), none, .read, 0⟩, ⟨(some 53), .sliceSl 2 (.t 51) (some (.t 52)) none, none, .read, 0⟩, ⟨(some 54), .copy 2 (.t 50) (.t 53), none, .write, 0⟩])
 (.seq (.region [⟨(some 55), .move (.t 9), none, .write, 0⟩, ⟨(some 6), .move (.t 55), none, .write, 0⟩])
 .ret)))) .skip))
 (.seq (.region [⟨(some 56), .move (.t 0), none, .write, 0⟩, ⟨(some 57), .move (.t 8), none, .write, 0⟩, ⟨(some 58), .move (.t 7), none, .write, 0⟩, ⟨(some 59), .arith .add (.t 57) (.t 58), none, .write, 0⟩, ⟨(some 60), .sliceSl 2 (.t 56) none (some (.t 59)), none, .write, 0⟩, ⟨(some 0), .move (.t 60), none, .write, 0⟩])
 (.seq (.seq (.region [⟨(some 61), .move (.t 2), none, .write, 0⟩, ⟨(some 62), .move (.t 0), none, .write, 0⟩, ⟨(some 63), .move (.t 1), none, .write, 0⟩, ⟨(some 64), .move (.t 7), none, .write, 0⟩, ⟨(some 65), .arith .add (.t 63) (.t 64), none, .write, 0⟩, ⟨(some 66), .sliceSl 2 (.t 62) (some (.t 65)) none, none, .write, 0⟩, ⟨(some 67), .call (.c (.func 236 [])) [(.t 61), (.t 66)], none, .write, 0⟩, ⟨(some 68), .un .not (.t 67), none, .write, 0⟩])
 (.cond (.t 68) (.seq (.draw [⟨(some 69), .move (.t 0), none, .read, 0⟩, ⟨(some 70), .move (.t 1), none, .read, 0⟩, ⟨(some 71), .move (.t 7), none, .read, 0⟩, ⟨(some 72), .arith .add (.t 70) (.t 71), none, .read, 0⟩, ⟨(some 73), .sliceSl 2 (.t 69) (some (.t 72)) none, none, .read, 0⟩, ⟨(some 74), .move (.t 0), none, .read, 0⟩, ⟨(some 75), .move (.t 1), none, .read, 0⟩, ⟨(some 76), .sliceSl 2 (.t 74) (some (.t 75)) none, none, .read, 0⟩, ⟨(some 77), .copy 2 (.t 73) (.t 76), none, .write, 0⟩])
 (.seq (.region [⟨(some 78), .move (.t 0), none, .write, 0⟩, ⟨(some 79), .move (.t 1), none, .write, 0⟩, ⟨(some 80), .sliceSl 2 (.t 78) (some (.t 79)) none, none, .write, 0⟩, ⟨(some 81), .move (.t 2), none, .write, 0⟩, ⟨(some 82), .copy 2 (.t 80) (.t 81), none, .write, 0⟩])
 (.seq (.region [⟨(some 83), .move (.t 0), none, .write, 0⟩, ⟨(some 6), .move (.t 83), none, .write, 0⟩])
 .ret))) .skip))
 (.seq (.region [⟨(some 84), .move (.t 0), none, .write, 0⟩, ⟨(some 85), .move (.t 8), none, .write, 0⟩, ⟨(some 86), .sliceSl 2 (.t 84) (some (.t 85)) none, none, .write, 0⟩, ⟨(some 87), .move (.t 2), none, .write, 0⟩, ⟨(some 88), .copy 2 (.t 86) (.t 87), none, .write, 0⟩])
 (.seq (.region [⟨(some 89), .move (.t 0), none, .write, 0⟩, ⟨(some 90), .move (.t 1), none, .write, 0⟩, ⟨(some 91), .sliceSl 2 (.t 89) (some (.t 90)) none, none, .write, 0⟩, ⟨(some 92), .move (.t 7), none, .write, 0⟩, ⟨(some 93), .call (.c (.func 237 [])) [(.t 91), (.t 92)], none, .write, 0⟩])
 (.seq (.region [⟨(some 94), .move (.t 0), none, .write, 0⟩, ⟨(some 6), .move (.t 94), none, .write, 0⟩])
 .ret)))))))))))) }

theorem c164 : compFunc Tryz.prog Tryz.f164 .split = some t164 := by kernel_rfl

/-- broadside/rel.Joint -/
def t165 : DFunc := { ntmps := 21, results := [(.t 4), (.t 5)], mode := .full, body :=
 (.seq (.region [⟨(some 4), .move (.c .nsl), none, .write, 0⟩, ⟨(some 5), .move (.c (.bool false)), none, .write, 0⟩])
 (.seq (.region [⟨(some 9), .buildSlice 303 5 (.agg [(.str []), (.int .i64 0), (.int .i64 0), (.int .i64 0), (.str [])]) 0 [], none, .write, 0⟩, ⟨(some 10), .move (.t 0), none, .write, 0⟩, ⟨(some 11), .append 303 5 56 (.t 9) (.t 10), none, .write, 0⟩, ⟨(some 12), .move (.t 1), none, .write, 0⟩, ⟨(some 13), .append 303 5 56 (.t 11) (.t 12), none, .write, 0⟩, ⟨(some 14), .call (.c (.func 210 [])) [(.t 13)], none, .write, 0⟩, ⟨(some 8), .move (.t 14), none, .write, 0⟩, ⟨(some 15), .extract (.t 8) 0, none, .write, 0⟩, ⟨(some 16), .extract (.t 8) 1, none, .write, 0⟩, ⟨(some 6), .move (.t 15), none, .write, 0⟩, ⟨(some 7), .move (.t 16), none, .write, 0⟩])
 (.seq (.seq (.region [⟨(some 17), .move (.t 7), none, .write, 0⟩, ⟨(some 18), .eqn 4 true (.t 17) (.c .nili), none, .write, 0⟩])
 (.cond (.t 18) (.seq (.region [⟨(some 4), .move (.c .nsl), none, .write, 0⟩, ⟨(some 5), .move (.c (.bool false)), none, .write, 0⟩])
 .ret) .skip))
 (.seq (.region [⟨(some 19), .move (.t 6), none, .write, 0⟩, ⟨(some 20), .call (.c (.func 238 [])) [(.t 19)], none, .write, 0⟩, ⟨(some 4), .move (.t 20), none, .write, 0⟩, ⟨(some 5), .move (.c (.bool true)), none, .write, 0⟩])
 .ret)))) }

theorem c165 : compFunc Tryz.prog Tryz.f165 .full = some t165 := by kernel_rfl

/-- broadside/subs.place -/
def t166 : DFunc := { ntmps := 15, results := [(.t 6), (.t 7)], mode := .full, body :=
 (.seq (.region [⟨(some 3), .box 79 6 (.t 0), none, .write, 0⟩, ⟨(some 4), .box 32 2 (.t 1), none, .write, 0⟩, ⟨(some 5), .box 32 2 (.t 2), none, .write, 0⟩, ⟨(some 6), .move (.c (.int .i64 0)), none, .write, 0⟩, ⟨(some 7), .move (.c (.bool false)), none, .write, 0⟩])
 (.seq (.region [⟨(some 8), .fieldAddr 4 (.t 3), none, .write, 0⟩, ⟨(some 9), .load none (.t 8), none, .write, 0⟩, ⟨(some 10), .load (some 2) (.t 5), none, .write, 0⟩, ⟨(some 11), .makeFunc 240 [(.t 4)], none, .write, 0⟩, ⟨(some 12), .call (.c (.func 239 [])) [(.t 9), (.t 10), (.t 11)], none, .write, 0⟩, ⟨(some 13), .extract (.t 12) 0, none, .write, 0⟩, ⟨(some 14), .extract (.t 12) 1, none, .write, 0⟩, ⟨(some 6), .move (.t 13), none, .write, 0⟩, ⟨(some 7), .move (.t 14), none, .write, 0⟩])
 .ret)) }

theorem c166 : compFunc Tryz.prog Tryz.f166 .full = some t166 := by kernel_rfl

/-- slices.Insert[[]broadside/api.Entry,broadside/api.Entry] -/
def t167 : DFunc := { ntmps := 95, results := [(.t 6)], mode := .split, body :=
 (.seq (.region [⟨(some 6), .move (.c .nsl), none, .write, 0⟩])
 (.seq (.region [⟨(some 10), .move (.t 0), none, .write, 0⟩, ⟨(some 11), .move (.t 1), none, .write, 0⟩, ⟨(some 12), .sliceSl 7 (.t 10) (some (.t 11)) none, none, .write, 0⟩])
 (.seq (.region [⟨(some 13), .move (.t 2), none, .write, 0⟩, ⟨(some 14), .len 1 (.t 13), none, .write, 0⟩, ⟨(some 7), .move (.t 14), none, .write, 0⟩])
 (.seq (.seq (.region [⟨(some 15), .move (.t 7), none, .write, 0⟩, ⟨(some 16), .arith .eql (.t 15) (.c (.int .i64 0)), none, .write, 0⟩])
 (.cond (.t 16) (.seq (.region [⟨(some 17), .move (.t 0), none, .write, 0⟩, ⟨(some 6), .move (.t 17), none, .write, 0⟩])
 .ret) .skip))
 (.seq (.region [⟨(some 18), .move (.t 0), none, .write, 0⟩, ⟨(some 19), .len 1 (.t 18), none, .write, 0⟩, ⟨(some 8), .move (.t 19), none, .write, 0⟩])
 (.seq (.seq (.region [⟨(some 20), .move (.t 1), none, .write, 0⟩, ⟨(some 21), .move (.t 8), none, .write, 0⟩, ⟨(some 22), .arith .eql (.t 20) (.t 21), none, .write, 0⟩])
 (.cond (.t 22) (.seq (.region [⟨(some 23), .move (.t 0), none, .write, 0⟩, ⟨(some 24), .move (.t 2), none, .write, 0⟩, ⟨(some 25), .append 192 7 72 (.t 23) (.t 24), none, .write, 0⟩, ⟨(some 6), .move (.t 25), none, .write, 0⟩])
 .ret) .skip))
 (.seq (.seq (.region [⟨(some 26), .move (.t 8), none, .write, 0⟩, ⟨(some 27), .move (.t 7), none, .write, 0⟩, ⟨(some 28), .arith .add (.t 26) (.t 27), none, .write, 0⟩, ⟨(some 29), .move (.t 0), none, .write, 0⟩, ⟨(some 30), .cap (.t 29), none, .write, 0⟩, ⟨(some 31), .arith .gtr (.t 28) (.t 30), none, .write, 0⟩])
 (.cond (.t 31) (.seq (.region [⟨(some 32), .move (.t 0), none, .write, 0⟩, ⟨(some 33), .move (.t 1), none, .write, 0⟩, ⟨(some 34), .sliceSl 7 (.t 32) none (some (.t 33)), none, .write, 0⟩, ⟨(some 35), .move (.t 8), none, .write, 0⟩, ⟨(some 36), .move (.t 7), none, .write, 0⟩, ⟨(some 37), .arith .add (.t 35) (.t 36), none, .write, 0⟩, ⟨(some 38), .move (.t 1), none, .write, 0⟩, ⟨(some 39), .arith .sub (.t 37) (.t 38), none, .write, 0⟩, ⟨(some 40), .appendZ 192 7 72 (.agg [(.int .i64 0), (.int .i64 0), (.int .i64 0), (.int .i64 0), .nsl, (.int .i64 0), (.bool false)]) (.t 34) (.t 39), none, .write, 0⟩, ⟨(some 9), .move (.t 40), none, .write, 0⟩])
 (.seq (.region [⟨(some 41), .move (.t 9), none, .write, 0⟩, ⟨(some 42), .move (.t 1), none, .write, 0⟩, ⟨(some 43), .sliceSl 7 (.t 41) (some (.t 42)) none, none, .write, 0⟩, ⟨(some 44), .move (.t 2), none, .write, 0⟩, ⟨(some 45), .copy 7 (.t 43) (.t 44), none, .write, 0⟩])
 (.seq (.draw [⟨(some 46), .move (.t 9), none, .read, 0⟩, ⟨(some 47), .move (.t 1), none, .read, 0⟩, ⟨(some 48), .move (.t 7), none, .read, 0⟩, ⟨(some 49), .arith .add (.t 47) (.t 48), none, .read, 0⟩, ⟨(some 50), .sliceSl 7 (.t 46) (some (.t 49)) none, none, .read, 0⟩, ⟨(some 51), .move (.t 0), none, .read, 0⟩, ⟨(some 52), .move (.t 1), none, .read, 0⟩, ⟨(some 53), .sliceSl 7 (.t 51) (some (.t 52)) none, none, .read, 0⟩, ⟨(some 54), .copy 7 (.t 50) (.t 53), none, .write, 0⟩])
 (.seq (.region [⟨(some 55), .move (.t 9), none, .write, 0⟩, ⟨(some 6), .move (.t 55), none, .write, 0⟩])
 .ret)))) .skip))
 (.seq (.region [⟨(some 56), .move (.t 0), none, .write, 0⟩, ⟨(some 57), .move (.t 8), none, .write, 0⟩, ⟨(some 58), .move (.t 7), none, .write, 0⟩, ⟨(some 59), .arith .add (.t 57) (.t 58), none, .write, 0⟩, ⟨(some 60), .sliceSl 7 (.t 56) none (some (.t 59)), none, .write, 0⟩, ⟨(some 0), .move (.t 60), none, .write, 0⟩])
 (.seq (.seq (.region [⟨(some 61), .move (.t 2), none, .write, 0⟩, ⟨(some 62), .move (.t 0), none, .write, 0⟩, ⟨(some 63), .move (.t 1), none, .write, 0⟩, ⟨(some 64), .move (.t 7), none, .write, 0⟩, ⟨(some 65), .arith .add (.t 63) (.t 64), none, .write, 0⟩, ⟨(some 66), .sliceSl 7 (.t 62) (some (.t 65)) none, none, .write, 0⟩, ⟨(some 67), .call (.c (.func 241 [])) [(.t 61), (.t 66)], none, .write, 0⟩, ⟨(some 68), .un .not (.t 67), none, .write, 0⟩])
 (.cond (.t 68) (.seq (.draw [⟨(some 69), .move (.t 0), none, .read, 0⟩, ⟨(some 70), .move (.t 1), none, .read, 0⟩, ⟨(some 71), .move (.t 7), none, .read, 0⟩, ⟨(some 72), .arith .add (.t 70) (.t 71), none, .read, 0⟩, ⟨(some 73), .sliceSl 7 (.t 69) (some (.t 72)) none, none, .read, 0⟩, ⟨(some 74), .move (.t 0), none, .read, 0⟩, ⟨(some 75), .move (.t 1), none, .read, 0⟩, ⟨(some 76), .sliceSl 7 (.t 74) (some (.t 75)) none, none, .read, 0⟩, ⟨(some 77), .copy 7 (.t 73) (.t 76), none, .write, 0⟩])
 (.seq (.region [⟨(some 78), .move (.t 0), none, .write, 0⟩, ⟨(some 79), .move (.t 1), none, .write, 0⟩, ⟨(some 80), .sliceSl 7 (.t 78) (some (.t 79)) none, none, .write, 0⟩, ⟨(some 81), .move (.t 2), none, .write, 0⟩, ⟨(some 82), .copy 7 (.t 80) (.t 81), none, .write, 0⟩])
 (.seq (.region [⟨(some 83), .move (.t 0), none, .write, 0⟩, ⟨(some 6), .move (.t 83), none, .write, 0⟩])
 .ret))) .skip))
 (.seq (.region [⟨(some 84), .move (.t 0), none, .write, 0⟩, ⟨(some 85), .move (.t 8), none, .write, 0⟩, ⟨(some 86), .sliceSl 7 (.t 84) (some (.t 85)) none, none, .write, 0⟩, ⟨(some 87), .move (.t 2), none, .write, 0⟩, ⟨(some 88), .copy 7 (.t 86) (.t 87), none, .write, 0⟩])
 (.seq (.region [⟨(some 89), .move (.t 0), none, .write, 0⟩, ⟨(some 90), .move (.t 1), none, .write, 0⟩, ⟨(some 91), .sliceSl 7 (.t 89) (some (.t 90)) none, none, .write, 0⟩, ⟨(some 92), .move (.t 7), none, .write, 0⟩, ⟨(some 93), .call (.c (.func 242 [])) [(.t 91), (.t 92)], none, .write, 0⟩])
 (.seq (.region [⟨(some 94), .move (.t 0), none, .write, 0⟩, ⟨(some 6), .move (.t 94), none, .write, 0⟩])
 .ret)))))))))))) }

theorem c167 : compFunc Tryz.prog Tryz.f167 .split = some t167 := by kernel_rfl

/-- slices.BinarySearchFunc[[]broadside/api.Own,broadside/api.Own,broadside/api.ID] -/
def t168 : DFunc := { ntmps := 49, results := [(.t 6), (.t 7)], mode := .full, body :=
 (.seq (.region [⟨(some 4), .box 32 2 (.t 1), none, .write, 0⟩, ⟨(some 6), .move (.c (.int .i64 0)), none, .write, 0⟩, ⟨(some 7), .move (.c (.bool false)), none, .write, 0⟩])
 (.seq (.region [⟨(some 12), .move (.t 0), none, .write, 0⟩, ⟨(some 13), .len 1 (.t 12), none, .write, 0⟩, ⟨(some 8), .move (.t 13), none, .write, 0⟩])
 (.seq (.region [⟨(some 14), .move (.t 8), none, .write, 0⟩, ⟨(some 9), .move (.c (.int .i64 0)), none, .write, 0⟩, ⟨(some 10), .move (.t 14), none, .write, 0⟩])
 (.seq (.block 0 (.loop (.seq (.seq (.region [⟨(some 15), .move (.t 9), none, .write, 0⟩, ⟨(some 16), .move (.t 10), none, .write, 0⟩, ⟨(some 17), .arith .lss (.t 15) (.t 16), none, .write, 0⟩])
 (.cond (.t 17) .skip (.exit 0)))
 (.block 1 (.seq (.region [⟨(some 18), .move (.t 9), none, .write, 0⟩, ⟨(some 19), .move (.t 10), none, .write, 0⟩, ⟨(some 20), .arith .add (.t 18) (.t 19), none, .write, 0⟩, ⟨(some 21), .conv .u64 (.t 20), none, .write, 0⟩, ⟨(some 22), .arith .shr (.t 21) (.c (.int .u64 1)), none, .write, 0⟩, ⟨(some 23), .conv .i64 (.t 22), none, .write, 0⟩, ⟨(some 11), .move (.t 23), none, .write, 0⟩])
 (.seq (.draw [⟨(some 25), .move (.t 0), none, .read, 0⟩, ⟨(some 26), .move (.t 11), none, .read, 0⟩, ⟨(some 27), .indexAddr 3 (.t 25) (.t 26), none, .read, 0⟩, ⟨(some 28), .load (some 3) (.t 27), none, .read, 0⟩, ⟨(some 29), .load (some 2) (.t 4), none, .read, 0⟩, ⟨(some 24), .move (.t 2), none, .read, 0⟩, ⟨(some 30), .call (.t 24) [(.t 28), (.t 29)], none, .write, 0⟩, ⟨(some 31), .arith .lss (.t 30) (.c (.int .i64 0)), none, .read, 1⟩])
 (.cond (.t 31) (.region [⟨(some 32), .move (.t 11), none, .write, 0⟩, ⟨(some 33), .arith .add (.t 32) (.c (.int .i64 1)), none, .write, 0⟩, ⟨(some 9), .move (.t 33), none, .write, 0⟩]) (.region [⟨(some 34), .move (.t 11), none, .write, 0⟩, ⟨(some 10), .move (.t 34), none, .write, 0⟩]))))))))
 (.seq (.draw [⟨(some 36), .move (.t 9), none, .read, 0⟩, ⟨(some 37), .move (.t 8), none, .read, 0⟩, ⟨(some 38), .arith .lss (.t 36) (.t 37), none, .read, 0⟩, ⟨(some 39), .move (.t 38), none, .read, 0⟩, ⟨(some 41), .move (.t 0), (some (39, true)), .read, 0⟩, ⟨(some 42), .move (.t 9), (some (39, true)), .read, 0⟩, ⟨(some 43), .indexAddr 3 (.t 41) (.t 42), (some (39, true)), .read, 0⟩, ⟨(some 44), .load (some 3) (.t 43), (some (39, true)), .read, 0⟩, ⟨(some 45), .load (some 2) (.t 4), (some (39, true)), .read, 0⟩, ⟨(some 40), .move (.t 2), (some (39, true)), .read, 0⟩, ⟨(some 46), .call (.t 40) [(.t 44), (.t 45)], (some (39, true)), .write, 0⟩, ⟨(some 35), .move (.t 9), none, .read, 0⟩, ⟨(some 47), .arith .eql (.t 46) (.c (.int .i64 0)), (some (39, true)), .read, 1⟩, ⟨(some 48), .pick (.t 39) (.t 47) (.c (.bool false)), none, .read, 1⟩, ⟨(some 6), .move (.t 35), none, .read, 1⟩, ⟨(some 7), .move (.t 48), none, .read, 1⟩])
 .ret))))) }

theorem c168 : compFunc Tryz.prog Tryz.f168 .full = some t168 := by kernel_rfl

/-- broadside/route.own$1 -/
def t169 : DFunc := { ntmps := 15, results := [(.t 4)], mode := .full, body :=
 (.seq (.region [⟨(some 2), .box 189 3 (.t 0), none, .write, 0⟩, ⟨(some 3), .box 32 2 (.t 1), none, .write, 0⟩, ⟨(some 4), .move (.c (.int .i64 0)), none, .write, 0⟩])
 (.seq (.block 0 (.seq (.region [⟨(some 6), .fieldAddr 0 (.t 2), none, .write, 0⟩, ⟨(some 7), .load (some 2) (.t 6), none, .write, 0⟩, ⟨(some 8), .load (some 2) (.t 3), none, .write, 0⟩, ⟨(some 9), .eqa false [1, 1] (.t 7) (.t 8), none, .write, 0⟩, ⟨(some 5), .move (.t 9), none, .write, 0⟩])
 (.cond (.t 5) (.seq (.region [⟨(some 4), .move (.c (.int .i64 0)), none, .write, 0⟩])
 .ret) (.seq (.region [⟨(some 11), .fieldAddr 0 (.t 2), none, .write, 0⟩, ⟨(some 12), .load (some 2) (.t 11), none, .write, 0⟩, ⟨(some 13), .load (some 2) (.t 3), none, .write, 0⟩, ⟨(some 14), .call (.c (.func 120 [])) [(.t 12), (.t 13)], none, .write, 0⟩, ⟨(some 10), .move (.t 14), none, .write, 0⟩])
 (.cond (.t 10) (.seq (.region [⟨(some 4), .move (.c (.int .i64 (-1))), none, .write, 0⟩])
 .ret) .skip)))))
 (.seq (.region [⟨(some 4), .move (.c (.int .i64 1)), none, .write, 0⟩])
 .ret))) }

theorem c169 : compFunc Tryz.prog Tryz.f169 .full = some t169 := by kernel_rfl

/-- slices.rotateRight[broadside/api.Own] -/
def t171 : DFunc := { ntmps := 10, results := [], mode := .full, body :=
 (.region [⟨(some 4), .move (.t 0), none, .write, 0⟩, ⟨(some 5), .move (.t 0), none, .write, 0⟩, ⟨(some 6), .len 1 (.t 5), none, .write, 0⟩, ⟨(some 7), .move (.t 1), none, .write, 0⟩, ⟨(some 8), .arith .sub (.t 6) (.t 7), none, .write, 0⟩, ⟨(some 9), .call (.c (.func 243 [])) [(.t 4), (.t 8)], none, .write, 0⟩]) }

theorem c171 : compFunc Tryz.prog Tryz.f171 .full = some t171 := by kernel_rfl

/-- broadside/subs.Of -/
def t172 : DFunc := { ntmps := 25, results := [(.t 4)], mode := .full, body :=
 (.seq (.region [⟨(some 2), .box 79 6 (.t 0), none, .write, 0⟩, ⟨(some 3), .box 32 2 (.t 1), none, .write, 0⟩, ⟨(some 4), .move (.c .nsl), none, .write, 0⟩])
 (.seq (.region [⟨(some 5), .move (.c .nsl), none, .write, 0⟩])
 (.seq (.seq (.region [⟨(some 8), .fieldAddr 4 (.t 2), none, .write, 0⟩, ⟨(some 9), .load none (.t 8), none, .write, 0⟩, ⟨(some 10), .len 1 (.t 9), none, .write, 0⟩, ⟨(some 11), .move (.c (.int .i64 0)), none, .write, 0⟩])
 (.block 0 (.loop (.seq (.region [⟨(some 12), .arith .lss (.t 11) (.t 10), none, .write, 0⟩])
 (.seq (.cond (.t 12) .skip (.exit 0))
 (.seq (.block 1 (.seq (.region [⟨(some 13), .indexAddr 7 (.t 9) (.t 11), none, .write, 0⟩, ⟨(some 14), .load (some 7) (.t 13), none, .write, 0⟩, ⟨(some 7), .alloc 192 7 (.agg [(.int .i64 0), (.int .i64 0), (.int .i64 0), (.int .i64 0), .nsl, (.int .i64 0), (.bool false)]), none, .write, 0⟩, ⟨none, .store 7 (.t 7) (.t 14), none, .write, 0⟩])
 (.seq (.region [⟨(some 15), .fieldAddr 0 (.t 7), none, .write, 0⟩, ⟨(some 16), .load (some 2) (.t 15), none, .write, 0⟩, ⟨(some 17), .load (some 2) (.t 3), none, .write, 0⟩, ⟨(some 18), .eqa false [1, 1] (.t 16) (.t 17), none, .write, 0⟩])
 (.cond (.t 18) (.region [⟨(some 19), .move (.t 5), none, .write, 0⟩, ⟨(some 20), .load (some 7) (.t 7), none, .write, 0⟩, ⟨(some 21), .buildSlice 192 7 (.agg [(.int .i64 0), (.int .i64 0), (.int .i64 0), (.int .i64 0), .nsl, (.int .i64 0), (.bool false)]) 1 [(0, (.t 20))], none, .write, 0⟩, ⟨(some 22), .append 192 7 72 (.t 19) (.t 21), none, .write, 0⟩, ⟨(some 5), .move (.t 22), none, .write, 0⟩]) .skip))))
 (.region [⟨(some 23), .arith .add (.t 11) (.c (.int .i64 1)), none, .write, 0⟩, ⟨(some 11), .move (.t 23), none, .write, 0⟩])))))))
 (.seq (.region [⟨(some 24), .move (.t 5), none, .write, 0⟩, ⟨(some 4), .move (.t 24), none, .write, 0⟩])
 .ret)))) }

theorem c172 : compFunc Tryz.prog Tryz.f172 .full = some t172 := by kernel_rfl

/-- broadside/rel.Match -/
def t173 : DFunc := { ntmps := 31, results := [(.t 4)], mode := .full, body :=
 (.seq (.region [⟨(some 4), .move (.c (.bool false)), none, .write, 0⟩])
 (.seq (.seq (.region [⟨(some 9), .move (.t 0), none, .write, 0⟩, ⟨(some 10), .len 1 (.t 9), none, .write, 0⟩, ⟨(some 11), .move (.c (.int .i64 0)), none, .write, 0⟩])
 (.block 0 (.loop (.seq (.region [⟨(some 12), .arith .lss (.t 11) (.t 10), none, .write, 0⟩])
 (.seq (.cond (.t 12) .skip (.exit 0))
 (.seq (.block 1 (.seq (.region [⟨(some 13), .indexAddr 5 (.t 9) (.t 11), none, .write, 0⟩, ⟨(some 14), .load (some 5) (.t 13), none, .write, 0⟩, ⟨(some 6), .alloc 303 5 (.agg [(.str []), (.int .i64 0), (.int .i64 0), (.int .i64 0), (.str [])]), none, .write, 0⟩, ⟨none, .store 5 (.t 6) (.t 14), none, .write, 0⟩])
 (.seq (.region [⟨(some 16), .move (.t 1), none, .write, 0⟩, ⟨(some 17), .fieldAddr 0 (.t 6), none, .write, 0⟩, ⟨(some 18), .load none (.t 17), none, .write, 0⟩, ⟨(some 19), .call (.c (.func 244 [])) [(.t 16), (.t 18)], none, .write, 0⟩, ⟨(some 15), .move (.t 19), none, .write, 0⟩, ⟨(some 20), .extract (.t 15) 0, none, .write, 0⟩, ⟨(some 21), .extract (.t 15) 1, none, .write, 0⟩, ⟨(some 7), .alloc 251 3 (.agg [(.bool false), (.int .i64 0), (.str [])]), none, .write, 0⟩, ⟨none, .store 3 (.t 7) (.t 20), none, .write, 0⟩, ⟨(some 8), .move (.t 21), none, .write, 0⟩])
 (.seq (.region [⟨(some 22), .move (.t 8), none, .write, 0⟩, ⟨(some 23), .un .not (.t 22), none, .write, 0⟩, ⟨(some 24), .move (.t 23), none, .write, 0⟩, ⟨(some 25), .load (some 5) (.t 6), (some (24, false)), .write, 0⟩, ⟨(some 26), .load (some 3) (.t 7), (some (24, false)), .write, 0⟩, ⟨(some 27), .call (.c (.func 245 [])) [(.t 25), (.t 26)], (some (24, false)), .write, 0⟩, ⟨(some 28), .un .not (.t 27), (some (24, false)), .write, 0⟩, ⟨(some 29), .pick (.t 24) (.c (.bool true)) (.t 28), none, .write, 0⟩])
 (.cond (.t 29) (.seq (.region [⟨(some 4), .move (.c (.bool false)), none, .write, 0⟩])
 .ret) .skip)))))
 (.region [⟨(some 30), .arith .add (.t 11) (.c (.int .i64 1)), none, .write, 0⟩, ⟨(some 11), .move (.t 30), none, .write, 0⟩])))))))
 (.seq (.region [⟨(some 4), .move (.c (.bool true)), none, .write, 0⟩])
 .ret))) }

theorem c173 : compFunc Tryz.prog Tryz.f173 .full = some t173 := by kernel_rfl

/-- broadside/carry.rising -/
def t174 : DFunc := { ntmps := 7, results := [(.t 2)], mode := .full, body :=
 (.seq (.region [⟨(some 2), .move (.c .nsl), none, .write, 0⟩])
 (.seq (.region [⟨(some 3), .move (.t 0), none, .write, 0⟩, ⟨(some 4), .call (.c (.func 87 [])) [(.t 3)], none, .write, 0⟩])
 (.seq (.region [⟨(some 5), .move (.t 0), none, .write, 0⟩, ⟨(some 6), .call (.c (.func 88 [])) [(.t 5)], none, .write, 0⟩, ⟨(some 2), .move (.t 6), none, .write, 0⟩])
 .ret))) }

theorem c174 : compFunc Tryz.prog Tryz.f174 .full = some t174 := by kernel_rfl

/-- slices.BinarySearchFunc[[]broadside/api.Advert,broadside/api.Advert,broadside/api.ID] -/
def t175 : DFunc := { ntmps := 49, results := [(.t 6), (.t 7)], mode := .full, body :=
 (.seq (.region [⟨(some 4), .box 32 2 (.t 1), none, .write, 0⟩, ⟨(some 6), .move (.c (.int .i64 0)), none, .write, 0⟩, ⟨(some 7), .move (.c (.bool false)), none, .write, 0⟩])
 (.seq (.region [⟨(some 12), .move (.t 0), none, .write, 0⟩, ⟨(some 13), .len 1 (.t 12), none, .write, 0⟩, ⟨(some 8), .move (.t 13), none, .write, 0⟩])
 (.seq (.region [⟨(some 14), .move (.t 8), none, .write, 0⟩, ⟨(some 9), .move (.c (.int .i64 0)), none, .write, 0⟩, ⟨(some 10), .move (.t 14), none, .write, 0⟩])
 (.seq (.block 0 (.loop (.seq (.seq (.region [⟨(some 15), .move (.t 9), none, .write, 0⟩, ⟨(some 16), .move (.t 10), none, .write, 0⟩, ⟨(some 17), .arith .lss (.t 15) (.t 16), none, .write, 0⟩])
 (.cond (.t 17) .skip (.exit 0)))
 (.block 1 (.seq (.region [⟨(some 18), .move (.t 9), none, .write, 0⟩, ⟨(some 19), .move (.t 10), none, .write, 0⟩, ⟨(some 20), .arith .add (.t 18) (.t 19), none, .write, 0⟩, ⟨(some 21), .conv .u64 (.t 20), none, .write, 0⟩, ⟨(some 22), .arith .shr (.t 21) (.c (.int .u64 1)), none, .write, 0⟩, ⟨(some 23), .conv .i64 (.t 22), none, .write, 0⟩, ⟨(some 11), .move (.t 23), none, .write, 0⟩])
 (.seq (.draw [⟨(some 25), .move (.t 0), none, .read, 0⟩, ⟨(some 26), .move (.t 11), none, .read, 0⟩, ⟨(some 27), .indexAddr 4 (.t 25) (.t 26), none, .read, 0⟩, ⟨(some 28), .load (some 4) (.t 27), none, .read, 0⟩, ⟨(some 29), .load (some 2) (.t 4), none, .read, 0⟩, ⟨(some 24), .move (.t 2), none, .read, 0⟩, ⟨(some 30), .call (.t 24) [(.t 28), (.t 29)], none, .write, 0⟩, ⟨(some 31), .arith .lss (.t 30) (.c (.int .i64 0)), none, .read, 1⟩])
 (.cond (.t 31) (.region [⟨(some 32), .move (.t 11), none, .write, 0⟩, ⟨(some 33), .arith .add (.t 32) (.c (.int .i64 1)), none, .write, 0⟩, ⟨(some 9), .move (.t 33), none, .write, 0⟩]) (.region [⟨(some 34), .move (.t 11), none, .write, 0⟩, ⟨(some 10), .move (.t 34), none, .write, 0⟩]))))))))
 (.seq (.draw [⟨(some 36), .move (.t 9), none, .read, 0⟩, ⟨(some 37), .move (.t 8), none, .read, 0⟩, ⟨(some 38), .arith .lss (.t 36) (.t 37), none, .read, 0⟩, ⟨(some 39), .move (.t 38), none, .read, 0⟩, ⟨(some 41), .move (.t 0), (some (39, true)), .read, 0⟩, ⟨(some 42), .move (.t 9), (some (39, true)), .read, 0⟩, ⟨(some 43), .indexAddr 4 (.t 41) (.t 42), (some (39, true)), .read, 0⟩, ⟨(some 44), .load (some 4) (.t 43), (some (39, true)), .read, 0⟩, ⟨(some 45), .load (some 2) (.t 4), (some (39, true)), .read, 0⟩, ⟨(some 40), .move (.t 2), (some (39, true)), .read, 0⟩, ⟨(some 46), .call (.t 40) [(.t 44), (.t 45)], (some (39, true)), .write, 0⟩, ⟨(some 35), .move (.t 9), none, .read, 0⟩, ⟨(some 47), .arith .eql (.t 46) (.c (.int .i64 0)), (some (39, true)), .read, 1⟩, ⟨(some 48), .pick (.t 39) (.t 47) (.c (.bool false)), none, .read, 1⟩, ⟨(some 6), .move (.t 35), none, .read, 1⟩, ⟨(some 7), .move (.t 48), none, .read, 1⟩])
 .ret))))) }

theorem c175 : compFunc Tryz.prog Tryz.f175 .full = some t175 := by kernel_rfl

/-- broadside/adverts.place$1 -/
def t176 : DFunc := { ntmps := 9, results := [(.t 4)], mode := .full, body :=
 (.seq (.region [⟨(some 2), .box 120 4 (.t 0), none, .write, 0⟩, ⟨(some 3), .box 32 2 (.t 1), none, .write, 0⟩, ⟨(some 4), .move (.c (.int .i64 0)), none, .write, 0⟩])
 (.seq (.region [⟨(some 5), .fieldAddr 0 (.t 2), none, .write, 0⟩, ⟨(some 6), .load (some 2) (.t 5), none, .write, 0⟩, ⟨(some 7), .load (some 2) (.t 3), none, .write, 0⟩, ⟨(some 8), .call (.c (.func 127 [])) [(.t 6), (.t 7)], none, .write, 0⟩, ⟨(some 4), .move (.t 8), none, .write, 0⟩])
 .ret)) }

theorem c176 : compFunc Tryz.prog Tryz.f176 .full = some t176 := by kernel_rfl

/-- slices.insertionSortCmpFunc[[2]int] -/
def t179 : DFunc := { ntmps := 53, results := [], mode := .full, body :=
 (.seq (.region [⟨(some 10), .move (.t 1), none, .write, 0⟩, ⟨(some 11), .arith .add (.t 10) (.c (.int .i64 1)), none, .write, 0⟩, ⟨(some 8), .move (.t 11), none, .write, 0⟩])
 (.block 0 (.loop (.seq (.seq (.region [⟨(some 12), .move (.t 8), none, .write, 0⟩, ⟨(some 13), .move (.t 2), none, .write, 0⟩, ⟨(some 14), .arith .lss (.t 12) (.t 13), none, .write, 0⟩])
 (.cond (.t 14) .skip (.exit 0)))
 (.seq (.block 1 (.seq (.region [⟨(some 17), .move (.t 8), none, .write, 0⟩, ⟨(some 9), .move (.t 17), none, .write, 0⟩])
 (.block 2 (.loop (.seq (.seq (.draw [⟨(some 18), .move (.t 9), none, .read, 0⟩, ⟨(some 19), .move (.t 1), none, .read, 0⟩, ⟨(some 20), .arith .gtr (.t 18) (.t 19), none, .read, 0⟩, ⟨(some 21), .move (.t 20), none, .read, 0⟩, ⟨(some 23), .move (.t 0), (some (21, true)), .read, 0⟩, ⟨(some 24), .move (.t 9), (some (21, true)), .read, 0⟩, ⟨(some 25), .indexAddr 2 (.t 23) (.t 24), (some (21, true)), .read, 0⟩, ⟨(some 26), .load (some 2) (.t 25), (some (21, true)), .read, 0⟩, ⟨(some 27), .move (.t 0), (some (21, true)), .read, 0⟩, ⟨(some 28), .move (.t 9), (some (21, true)), .read, 0⟩, ⟨(some 29), .arith .sub (.t 28) (.c (.int .i64 1)), (some (21, true)), .read, 0⟩, ⟨(some 30), .indexAddr 2 (.t 27) (.t 29), (some (21, true)), .read, 0⟩, ⟨(some 31), .load (some 2) (.t 30), (some (21, true)), .read, 0⟩, ⟨(some 22), .move (.t 3), (some (21, true)), .read, 0⟩, ⟨(some 32), .call (.t 22) [(.t 26), (.t 31)], (some (21, true)), .write, 0⟩, ⟨(some 33), .arith .lss (.t 32) (.c (.int .i64 0)), (some (21, true)), .read, 1⟩, ⟨(some 34), .pick (.t 21) (.t 33) (.c (.bool false)), none, .read, 1⟩])
 (.cond (.t 34) .skip (.exit 2)))
 (.seq (.block 3 (.draw [⟨(some 42), .move (.t 0), none, .read, 0⟩, ⟨(some 43), .move (.t 9), none, .read, 0⟩, ⟨(some 44), .arith .sub (.t 43) (.c (.int .i64 1)), none, .read, 0⟩, ⟨(some 45), .indexAddr 2 (.t 42) (.t 44), none, .read, 0⟩, ⟨(some 46), .load (some 2) (.t 45), none, .read, 0⟩, ⟨(some 47), .move (.t 0), none, .read, 0⟩, ⟨(some 48), .move (.t 9), none, .read, 0⟩, ⟨(some 49), .indexAddr 2 (.t 47) (.t 48), none, .read, 0⟩, ⟨(some 50), .load (some 2) (.t 49), none, .read, 0⟩, ⟨(some 37), .move (.t 0), none, .read, 0⟩, ⟨(some 38), .move (.t 9), none, .read, 0⟩, ⟨(some 51), .indexAddr 2 (.t 37) (.t 38), none, .read, 0⟩, ⟨none, .store 2 (.t 51) (.t 46), none, .write, 0⟩, ⟨(some 39), .move (.t 0), none, .read, 0⟩, ⟨(some 40), .move (.t 9), none, .read, 0⟩, ⟨(some 41), .arith .sub (.t 40) (.c (.int .i64 1)), none, .read, 0⟩, ⟨(some 52), .indexAddr 2 (.t 39) (.t 41), none, .read, 1⟩, ⟨none, .store 2 (.t 52) (.t 50), none, .write, 1⟩]))
 (.region [⟨(some 35), .move (.t 9), none, .write, 0⟩, ⟨(some 36), .arith .sub (.t 35) (.c (.int .i64 1)), none, .write, 0⟩, ⟨(some 9), .move (.t 36), none, .write, 0⟩])))))))
 (.region [⟨(some 15), .move (.t 8), none, .write, 0⟩, ⟨(some 16), .arith .add (.t 15) (.c (.int .i64 1)), none, .write, 0⟩, ⟨(some 8), .move (.t 16), none, .write, 0⟩])))))) }

theorem c179 : compFunc Tryz.prog Tryz.f179 .full = some t179 := by kernel_rfl

/-- slices.heapSortCmpFunc[[2]int] -/
def t180 : DFunc := { ntmps := 60, results := [], mode := .full, body :=
 (.seq (.region [⟨(some 13), .move (.t 1), none, .write, 0⟩, ⟨(some 8), .move (.t 13), none, .write, 0⟩])
 (.seq (.region [⟨(some 9), .move (.c (.int .i64 0)), none, .write, 0⟩])
 (.seq (.region [⟨(some 14), .move (.t 2), none, .write, 0⟩, ⟨(some 15), .move (.t 1), none, .write, 0⟩, ⟨(some 16), .arith .sub (.t 14) (.t 15), none, .write, 0⟩, ⟨(some 10), .move (.t 16), none, .write, 0⟩])
 (.seq (.seq (.region [⟨(some 17), .move (.t 10), none, .write, 0⟩, ⟨(some 18), .arith .sub (.t 17) (.c (.int .i64 1)), none, .write, 0⟩, ⟨(some 19), .arith .quo (.t 18) (.c (.int .i64 2)), none, .write, 0⟩, ⟨(some 11), .move (.t 19), none, .write, 0⟩])
 (.block 0 (.loop (.seq (.seq (.region [⟨(some 20), .move (.t 11), none, .write, 0⟩, ⟨(some 21), .arith .geq (.t 20) (.c (.int .i64 0)), none, .write, 0⟩])
 (.cond (.t 21) .skip (.exit 0)))
 (.seq (.block 1 (.region [⟨(some 24), .move (.t 0), none, .write, 0⟩, ⟨(some 25), .move (.t 11), none, .write, 0⟩, ⟨(some 26), .move (.t 10), none, .write, 0⟩, ⟨(some 27), .move (.t 8), none, .write, 0⟩, ⟨(some 28), .move (.t 3), none, .write, 0⟩, ⟨(some 29), .call (.c (.func 247 [])) [(.t 24), (.t 25), (.t 26), (.t 27), (.t 28)], none, .write, 0⟩]))
 (.region [⟨(some 22), .move (.t 11), none, .write, 0⟩, ⟨(some 23), .arith .sub (.t 22) (.c (.int .i64 1)), none, .write, 0⟩, ⟨(some 11), .move (.t 23), none, .write, 0⟩]))))))
 (.seq (.region [⟨(some 30), .move (.t 10), none, .write, 0⟩, ⟨(some 31), .arith .sub (.t 30) (.c (.int .i64 1)), none, .write, 0⟩, ⟨(some 12), .move (.t 31), none, .write, 0⟩])
 (.block 2 (.loop (.seq (.seq (.region [⟨(some 32), .move (.t 12), none, .write, 0⟩, ⟨(some 33), .arith .geq (.t 32) (.c (.int .i64 0)), none, .write, 0⟩])
 (.cond (.t 33) .skip (.exit 2)))
 (.seq (.block 3 (.seq (.draw [⟨(some 42), .move (.t 0), none, .read, 0⟩, ⟨(some 43), .move (.t 8), none, .read, 0⟩, ⟨(some 44), .move (.t 12), none, .read, 0⟩, ⟨(some 45), .arith .add (.t 43) (.t 44), none, .read, 0⟩, ⟨(some 46), .indexAddr 2 (.t 42) (.t 45), none, .read, 0⟩, ⟨(some 47), .load (some 2) (.t 46), none, .read, 0⟩, ⟨(some 48), .move (.t 0), none, .read, 0⟩, ⟨(some 49), .move (.t 8), none, .read, 0⟩, ⟨(some 50), .indexAddr 2 (.t 48) (.t 49), none, .read, 0⟩, ⟨(some 51), .load (some 2) (.t 50), none, .read, 0⟩, ⟨(some 36), .move (.t 0), none, .read, 0⟩, ⟨(some 37), .move (.t 8), none, .read, 0⟩, ⟨(some 52), .indexAddr 2 (.t 36) (.t 37), none, .read, 0⟩, ⟨none, .store 2 (.t 52) (.t 47), none, .write, 0⟩, ⟨(some 38), .move (.t 0), none, .read, 0⟩, ⟨(some 39), .move (.t 8), none, .read, 0⟩, ⟨(some 40), .move (.t 12), none, .read, 0⟩, ⟨(some 41), .arith .add (.t 39) (.t 40), none, .read, 0⟩, ⟨(some 53), .indexAddr 2 (.t 38) (.t 41), none, .read, 1⟩, ⟨none, .store 2 (.t 53) (.t 51), none, .write, 1⟩])
 (.region [⟨(some 54), .move (.t 0), none, .write, 0⟩, ⟨(some 55), .move (.t 9), none, .write, 0⟩, ⟨(some 56), .move (.t 12), none, .write, 0⟩, ⟨(some 57), .move (.t 8), none, .write, 0⟩, ⟨(some 58), .move (.t 3), none, .write, 0⟩, ⟨(some 59), .call (.c (.func 247 [])) [(.t 54), (.t 55), (.t 56), (.t 57), (.t 58)], none, .write, 0⟩])))
 (.region [⟨(some 34), .move (.t 12), none, .write, 0⟩, ⟨(some 35), .arith .sub (.t 34) (.c (.int .i64 1)), none, .write, 0⟩, ⟨(some 12), .move (.t 35), none, .write, 0⟩])))))))))) }

theorem c180 : compFunc Tryz.prog Tryz.f180 .full = some t180 := by kernel_rfl

/-- slices.breakPatternsCmpFunc[[2]int] -/
def t181 : DFunc := { ntmps := 67, results := [], mode := .full, body :=
 (.seq (.region [⟨(some 13), .move (.t 2), none, .write, 0⟩, ⟨(some 14), .move (.t 1), none, .write, 0⟩, ⟨(some 15), .arith .sub (.t 13) (.t 14), none, .write, 0⟩, ⟨(some 8), .move (.t 15), none, .write, 0⟩])
 (.seq (.region [⟨(some 16), .move (.t 8), none, .write, 0⟩, ⟨(some 17), .arith .geq (.t 16) (.c (.int .i64 8)), none, .write, 0⟩])
 (.cond (.t 17) (.seq (.region [⟨(some 18), .move (.t 8), none, .write, 0⟩, ⟨(some 19), .conv .u64 (.t 18), none, .write, 0⟩, ⟨(some 9), .alloc 354 1 (.int .u64 0), none, .write, 0⟩, ⟨none, .store 1 (.t 9) (.t 19), none, .write, 0⟩])
 (.seq (.region [⟨(some 20), .move (.t 8), none, .write, 0⟩, ⟨(some 21), .call (.c (.func 248 [])) [(.t 20)], none, .write, 0⟩, ⟨(some 10), .move (.t 21), none, .write, 0⟩])
 (.seq (.region [⟨(some 22), .move (.t 1), none, .write, 0⟩, ⟨(some 23), .move (.t 8), none, .write, 0⟩, ⟨(some 24), .arith .quo (.t 23) (.c (.int .i64 4)), none, .write, 0⟩, ⟨(some 25), .arith .mul (.t 24) (.c (.int .i64 2)), none, .write, 0⟩, ⟨(some 26), .arith .add (.t 22) (.t 25), none, .write, 0⟩, ⟨(some 27), .arith .sub (.t 26) (.c (.int .i64 1)), none, .write, 0⟩, ⟨(some 11), .move (.t 27), none, .write, 0⟩])
 (.block 0 (.loop (.seq (.seq (.region [⟨(some 28), .move (.t 11), none, .write, 0⟩, ⟨(some 29), .move (.t 1), none, .write, 0⟩, ⟨(some 30), .move (.t 8), none, .write, 0⟩, ⟨(some 31), .arith .quo (.t 30) (.c (.int .i64 4)), none, .write, 0⟩, ⟨(some 32), .arith .mul (.t 31) (.c (.int .i64 2)), none, .write, 0⟩, ⟨(some 33), .arith .add (.t 29) (.t 32), none, .write, 0⟩, ⟨(some 34), .arith .add (.t 33) (.c (.int .i64 1)), none, .write, 0⟩, ⟨(some 35), .arith .leq (.t 28) (.t 34), none, .write, 0⟩])
 (.cond (.t 35) .skip (.exit 0)))
 (.seq (.block 1 (.seq (.region [⟨(some 38), .call (.c (.func 249 [])) [(.t 9)], none, .write, 0⟩, ⟨(some 39), .move (.t 10), none, .write, 0⟩, ⟨(some 40), .arith .sub (.t 39) (.c (.int .u64 1)), none, .write, 0⟩, ⟨(some 41), .arith .and (.t 38) (.t 40), none, .write, 0⟩, ⟨(some 42), .conv .i64 (.t 41), none, .write, 0⟩, ⟨(some 12), .move (.t 42), none, .write, 0⟩])
 (.seq (.seq (.region [⟨(some 43), .move (.t 12), none, .write, 0⟩, ⟨(some 44), .move (.t 8), none, .write, 0⟩, ⟨(some 45), .arith .geq (.t 43) (.t 44), none, .write, 0⟩])
 (.cond (.t 45) (.region [⟨(some 46), .move (.t 12), none, .write, 0⟩, ⟨(some 47), .move (.t 8), none, .write, 0⟩, ⟨(some 48), .arith .sub (.t 46) (.t 47), none, .write, 0⟩, ⟨(some 12), .move (.t 48), none, .write, 0⟩]) .skip))
 (.draw [⟨(some 55), .move (.t 0), none, .read, 0⟩, ⟨(some 56), .move (.t 1), none, .read, 0⟩, ⟨(some 57), .move (.t 12), none, .read, 0⟩, ⟨(some 58), .arith .add (.t 56) (.t 57), none, .read, 0⟩, ⟨(some 59), .indexAddr 2 (.t 55) (.t 58), none, .read, 0⟩, ⟨(some 60), .load (some 2) (.t 59), none, .read, 0⟩, ⟨(some 61), .move (.t 0), none, .read, 0⟩, ⟨(some 62), .move (.t 11), none, .read, 0⟩, ⟨(some 63), .indexAddr 2 (.t 61) (.t 62), none, .read, 0⟩, ⟨(some 64), .load (some 2) (.t 63), none, .read, 0⟩, ⟨(some 49), .move (.t 0), none, .read, 0⟩, ⟨(some 50), .move (.t 11), none, .read, 0⟩, ⟨(some 65), .indexAddr 2 (.t 49) (.t 50), none, .read, 0⟩, ⟨none, .store 2 (.t 65) (.t 60), none, .write, 0⟩, ⟨(some 51), .move (.t 0), none, .read, 0⟩, ⟨(some 52), .move (.t 1), none, .read, 0⟩, ⟨(some 53), .move (.t 12), none, .read, 0⟩, ⟨(some 54), .arith .add (.t 52) (.t 53), none, .read, 0⟩, ⟨(some 66), .indexAddr 2 (.t 51) (.t 54), none, .read, 1⟩, ⟨none, .store 2 (.t 66) (.t 64), none, .write, 1⟩]))))
 (.region [⟨(some 36), .move (.t 11), none, .write, 0⟩, ⟨(some 37), .arith .add (.t 36) (.c (.int .i64 1)), none, .write, 0⟩, ⟨(some 11), .move (.t 37), none, .write, 0⟩])))))))) .skip))) }

theorem c181 : compFunc Tryz.prog Tryz.f181 .full = some t181 := by kernel_rfl

/-- slices.choosePivotCmpFunc[[2]int] -/
def t182 : DFunc := { ntmps := 63, results := [(.t 8), (.t 9)], mode := .full, body :=
 (.seq (.region [⟨(some 8), .move (.c (.int .i64 0)), none, .write, 0⟩, ⟨(some 9), .move (.c (.int .i64 0)), none, .write, 0⟩])
 (.seq (.region [⟨(some 15), .move (.t 2), none, .write, 0⟩, ⟨(some 16), .move (.t 1), none, .write, 0⟩, ⟨(some 17), .arith .sub (.t 15) (.t 16), none, .write, 0⟩, ⟨(some 10), .move (.t 17), none, .write, 0⟩])
 (.seq (.region [⟨(some 11), .alloc 3 1 (.int .i64 0), none, .write, 0⟩])
 (.seq (.region [⟨(some 18), .move (.t 1), none, .write, 0⟩, ⟨(some 19), .move (.t 10), none, .write, 0⟩, ⟨(some 20), .arith .quo (.t 19) (.c (.int .i64 4)), none, .write, 0⟩, ⟨(some 21), .arith .mul (.t 20) (.c (.int .i64 1)), none, .write, 0⟩, ⟨(some 22), .arith .add (.t 18) (.t 21), none, .write, 0⟩, ⟨(some 12), .move (.t 22), none, .write, 0⟩])
 (.seq (.region [⟨(some 23), .move (.t 1), none, .write, 0⟩, ⟨(some 24), .move (.t 10), none, .write, 0⟩, ⟨(some 25), .arith .quo (.t 24) (.c (.int .i64 4)), none, .write, 0⟩, ⟨(some 26), .arith .mul (.t 25) (.c (.int .i64 2)), none, .write, 0⟩, ⟨(some 27), .arith .add (.t 23) (.t 26), none, .write, 0⟩, ⟨(some 13), .move (.t 27), none, .write, 0⟩])
 (.seq (.region [⟨(some 28), .move (.t 1), none, .write, 0⟩, ⟨(some 29), .move (.t 10), none, .write, 0⟩, ⟨(some 30), .arith .quo (.t 29) (.c (.int .i64 4)), none, .write, 0⟩, ⟨(some 31), .arith .mul (.t 30) (.c (.int .i64 3)), none, .write, 0⟩, ⟨(some 32), .arith .add (.t 28) (.t 31), none, .write, 0⟩, ⟨(some 14), .move (.t 32), none, .write, 0⟩])
 (.seq (.seq (.region [⟨(some 33), .move (.t 10), none, .write, 0⟩, ⟨(some 34), .arith .geq (.t 33) (.c (.int .i64 8)), none, .write, 0⟩])
 (.cond (.t 34) (.seq (.seq (.region [⟨(some 35), .move (.t 10), none, .write, 0⟩, ⟨(some 36), .arith .geq (.t 35) (.c (.int .i64 50)), none, .write, 0⟩])
 (.cond (.t 36) (.seq (.region [⟨(some 37), .move (.t 0), none, .write, 0⟩, ⟨(some 38), .move (.t 12), none, .write, 0⟩, ⟨(some 39), .move (.t 3), none, .write, 0⟩, ⟨(some 40), .call (.c (.func 250 [])) [(.t 37), (.t 38), (.t 11), (.t 39)], none, .write, 0⟩, ⟨(some 12), .move (.t 40), none, .write, 0⟩])
 (.seq (.region [⟨(some 41), .move (.t 0), none, .write, 0⟩, ⟨(some 42), .move (.t 13), none, .write, 0⟩, ⟨(some 43), .move (.t 3), none, .write, 0⟩, ⟨(some 44), .call (.c (.func 250 [])) [(.t 41), (.t 42), (.t 11), (.t 43)], none, .write, 0⟩, ⟨(some 13), .move (.t 44), none, .write, 0⟩])
 (.region [⟨(some 45), .move (.t 0), none, .write, 0⟩, ⟨(some 46), .move (.t 14), none, .write, 0⟩, ⟨(some 47), .move (.t 3), none, .write, 0⟩, ⟨(some 48), .call (.c (.func 250 [])) [(.t 45), (.t 46), (.t 11), (.t 47)], none, .write, 0⟩, ⟨(some 14), .move (.t 48), none, .write, 0⟩]))) .skip))
 (.region [⟨(some 49), .move (.t 0), none, .write, 0⟩, ⟨(some 50), .move (.t 12), none, .write, 0⟩, ⟨(some 51), .move (.t 13), none, .write, 0⟩, ⟨(some 52), .move (.t 14), none, .write, 0⟩, ⟨(some 53), .move (.t 3), none, .write, 0⟩, ⟨(some 54), .call (.c (.func 251 [])) [(.t 49), (.t 50), (.t 51), (.t 52), (.t 11), (.t 53)], none, .write, 0⟩, ⟨(some 13), .move (.t 54), none, .write, 0⟩])) .skip))
 (.seq (.region [⟨(some 55), .load none (.t 11), none, .write, 0⟩])
 (.block 0 (.seq (.region [⟨(some 58), .arith .eql (.t 55) (.c (.int .i64 0)), none, .write, 0⟩, ⟨(some 57), .move (.t 58), none, .write, 0⟩])
 (.cond (.t 57) (.seq (.region [⟨(some 59), .move (.t 13), none, .write, 0⟩, ⟨(some 8), .move (.t 59), none, .write, 0⟩, ⟨(some 9), .move (.c (.int .i64 1)), none, .write, 0⟩])
 .ret) (.seq (.region [⟨(some 61), .arith .eql (.t 55) (.c (.int .i64 12)), none, .write, 0⟩, ⟨(some 60), .move (.t 61), none, .write, 0⟩])
 (.cond (.t 60) (.seq (.region [⟨(some 62), .move (.t 13), none, .write, 0⟩, ⟨(some 8), .move (.t 62), none, .write, 0⟩, ⟨(some 9), .move (.c (.int .i64 2)), none, .write, 0⟩])
 .ret) (.seq (.region [⟨(some 56), .move (.t 13), none, .write, 0⟩, ⟨(some 8), .move (.t 56), none, .write, 0⟩, ⟨(some 9), .move (.c (.int .i64 0)), none, .write, 0⟩])
 .ret)))))))))))))) }

theorem c182 : compFunc Tryz.prog Tryz.f182 .full = some t182 := by kernel_rfl

/-- slices.reverseRangeCmpFunc[[2]int] -/
def t183 : DFunc := { ntmps := 34, results := [], mode := .full, body :=
 (.seq (.region [⟨(some 10), .move (.t 1), none, .write, 0⟩, ⟨(some 8), .move (.t 10), none, .write, 0⟩])
 (.seq (.region [⟨(some 11), .move (.t 2), none, .write, 0⟩, ⟨(some 12), .arith .sub (.t 11) (.c (.int .i64 1)), none, .write, 0⟩, ⟨(some 9), .move (.t 12), none, .write, 0⟩])
 (.block 0 (.loop (.seq (.seq (.region [⟨(some 13), .move (.t 8), none, .write, 0⟩, ⟨(some 14), .move (.t 9), none, .write, 0⟩, ⟨(some 15), .arith .lss (.t 13) (.t 14), none, .write, 0⟩])
 (.cond (.t 15) .skip (.exit 0)))
 (.block 1 (.seq (.draw [⟨(some 20), .move (.t 0), none, .read, 0⟩, ⟨(some 21), .move (.t 9), none, .read, 0⟩, ⟨(some 22), .indexAddr 2 (.t 20) (.t 21), none, .read, 0⟩, ⟨(some 23), .load (some 2) (.t 22), none, .read, 0⟩, ⟨(some 24), .move (.t 0), none, .read, 0⟩, ⟨(some 25), .move (.t 8), none, .read, 0⟩, ⟨(some 26), .indexAddr 2 (.t 24) (.t 25), none, .read, 0⟩, ⟨(some 27), .load (some 2) (.t 26), none, .read, 0⟩, ⟨(some 16), .move (.t 0), none, .read, 0⟩, ⟨(some 17), .move (.t 8), none, .read, 0⟩, ⟨(some 28), .indexAddr 2 (.t 16) (.t 17), none, .read, 0⟩, ⟨none, .store 2 (.t 28) (.t 23), none, .write, 0⟩, ⟨(some 18), .move (.t 0), none, .read, 0⟩, ⟨(some 19), .move (.t 9), none, .read, 0⟩, ⟨(some 29), .indexAddr 2 (.t 18) (.t 19), none, .read, 1⟩, ⟨none, .store 2 (.t 29) (.t 27), none, .write, 1⟩])
 (.seq (.region [⟨(some 30), .move (.t 8), none, .write, 0⟩, ⟨(some 31), .arith .add (.t 30) (.c (.int .i64 1)), none, .write, 0⟩, ⟨(some 8), .move (.t 31), none, .write, 0⟩])
 (.region [⟨(some 32), .move (.t 9), none, .write, 0⟩, ⟨(some 33), .arith .sub (.t 32) (.c (.int .i64 1)), none, .write, 0⟩, ⟨(some 9), .move (.t 33), none, .write, 0⟩]))))))))) }

theorem c183 : compFunc Tryz.prog Tryz.f183 .full = some t183 := by kernel_rfl

/-- slices.partialInsertionSortCmpFunc[[2]int] -/
def t184 : DFunc := { ntmps := 141, results := [(.t 8)], mode := .full, body :=
 (.seq (.region [⟨(some 8), .move (.c (.bool false)), none, .write, 0⟩])
 (.seq (.region [⟨(some 13), .move (.t 1), none, .write, 0⟩, ⟨(some 14), .arith .add (.t 13) (.c (.int .i64 1)), none, .write, 0⟩, ⟨(some 9), .move (.t 14), none, .write, 0⟩])
 (.seq (.seq (.region [⟨(some 10), .move (.c (.int .i64 0)), none, .write, 0⟩])
 (.block 0 (.loop (.seq (.seq (.region [⟨(some 15), .move (.t 10), none, .write, 0⟩, ⟨(some 16), .arith .lss (.t 15) (.c (.int .i64 5)), none, .write, 0⟩])
 (.cond (.t 16) .skip (.exit 0)))
 (.seq (.block 1 (.seq (.block 2 (.loop (.seq (.seq (.draw [⟨(some 19), .move (.t 9), none, .read, 0⟩, ⟨(some 20), .move (.t 2), none, .read, 0⟩, ⟨(some 21), .arith .lss (.t 19) (.t 20), none, .read, 0⟩, ⟨(some 22), .move (.t 21), none, .read, 0⟩, ⟨(some 24), .move (.t 0), (some (22, true)), .read, 0⟩, ⟨(some 25), .move (.t 9), (some (22, true)), .read, 0⟩, ⟨(some 26), .indexAddr 2 (.t 24) (.t 25), (some (22, true)), .read, 0⟩, ⟨(some 27), .load (some 2) (.t 26), (some (22, true)), .read, 0⟩, ⟨(some 28), .move (.t 0), (some (22, true)), .read, 0⟩, ⟨(some 29), .move (.t 9), (some (22, true)), .read, 0⟩, ⟨(some 30), .arith .sub (.t 29) (.c (.int .i64 1)), (some (22, true)), .read, 0⟩, ⟨(some 31), .indexAddr 2 (.t 28) (.t 30), (some (22, true)), .read, 0⟩, ⟨(some 32), .load (some 2) (.t 31), (some (22, true)), .read, 0⟩, ⟨(some 23), .move (.t 3), (some (22, true)), .read, 0⟩, ⟨(some 33), .call (.t 23) [(.t 27), (.t 32)], (some (22, true)), .write, 0⟩, ⟨(some 34), .arith .lss (.t 33) (.c (.int .i64 0)), (some (22, true)), .read, 1⟩, ⟨(some 35), .un .not (.t 34), (some (22, true)), .read, 1⟩, ⟨(some 36), .pick (.t 22) (.t 35) (.c (.bool false)), none, .read, 1⟩])
 (.cond (.t 36) .skip (.exit 2)))
 (.block 3 (.region [⟨(some 37), .move (.t 9), none, .write, 0⟩, ⟨(some 38), .arith .add (.t 37) (.c (.int .i64 1)), none, .write, 0⟩, ⟨(some 9), .move (.t 38), none, .write, 0⟩])))))
 (.seq (.seq (.region [⟨(some 39), .move (.t 9), none, .write, 0⟩, ⟨(some 40), .move (.t 2), none, .write, 0⟩, ⟨(some 41), .arith .eql (.t 39) (.t 40), none, .write, 0⟩])
 (.cond (.t 41) (.seq (.region [⟨(some 8), .move (.c (.bool true)), none, .write, 0⟩])
 .ret) .skip))
 (.seq (.seq (.region [⟨(some 42), .move (.t 2), none, .write, 0⟩, ⟨(some 43), .move (.t 1), none, .write, 0⟩, ⟨(some 44), .arith .sub (.t 42) (.t 43), none, .write, 0⟩, ⟨(some 45), .arith .lss (.t 44) (.c (.int .i64 50)), none, .write, 0⟩])
 (.cond (.t 45) (.seq (.region [⟨(some 8), .move (.c (.bool false)), none, .write, 0⟩])
 .ret) .skip))
 (.seq (.draw [⟨(some 51), .move (.t 0), none, .read, 0⟩, ⟨(some 52), .move (.t 9), none, .read, 0⟩, ⟨(some 53), .arith .sub (.t 52) (.c (.int .i64 1)), none, .read, 0⟩, ⟨(some 54), .indexAddr 2 (.t 51) (.t 53), none, .read, 0⟩, ⟨(some 55), .load (some 2) (.t 54), none, .read, 0⟩, ⟨(some 56), .move (.t 0), none, .read, 0⟩, ⟨(some 57), .move (.t 9), none, .read, 0⟩, ⟨(some 58), .indexAddr 2 (.t 56) (.t 57), none, .read, 0⟩, ⟨(some 59), .load (some 2) (.t 58), none, .read, 0⟩, ⟨(some 46), .move (.t 0), none, .read, 0⟩, ⟨(some 47), .move (.t 9), none, .read, 0⟩, ⟨(some 60), .indexAddr 2 (.t 46) (.t 47), none, .read, 0⟩, ⟨none, .store 2 (.t 60) (.t 55), none, .write, 0⟩, ⟨(some 48), .move (.t 0), none, .read, 0⟩, ⟨(some 49), .move (.t 9), none, .read, 0⟩, ⟨(some 50), .arith .sub (.t 49) (.c (.int .i64 1)), none, .read, 0⟩, ⟨(some 61), .indexAddr 2 (.t 48) (.t 50), none, .read, 1⟩, ⟨none, .store 2 (.t 61) (.t 59), none, .write, 1⟩])
 (.seq (.seq (.region [⟨(some 62), .move (.t 9), none, .write, 0⟩, ⟨(some 63), .move (.t 1), none, .write, 0⟩, ⟨(some 64), .arith .sub (.t 62) (.t 63), none, .write, 0⟩, ⟨(some 65), .arith .geq (.t 64) (.c (.int .i64 2)), none, .write, 0⟩])
 (.cond (.t 65) (.seq (.region [⟨(some 66), .move (.t 9), none, .write, 0⟩, ⟨(some 67), .arith .sub (.t 66) (.c (.int .i64 1)), none, .write, 0⟩, ⟨(some 11), .move (.t 67), none, .write, 0⟩])
 (.block 4 (.loop (.seq (.seq (.region [⟨(some 68), .move (.t 11), none, .write, 0⟩, ⟨(some 69), .arith .geq (.t 68) (.c (.int .i64 1)), none, .write, 0⟩])
 (.cond (.t 69) .skip (.exit 4)))
 (.seq (.block 5 (.seq (.seq (.draw [⟨(some 73), .move (.t 0), none, .read, 0⟩, ⟨(some 74), .move (.t 11), none, .read, 0⟩, ⟨(some 75), .indexAddr 2 (.t 73) (.t 74), none, .read, 0⟩, ⟨(some 76), .load (some 2) (.t 75), none, .read, 0⟩, ⟨(some 77), .move (.t 0), none, .read, 0⟩, ⟨(some 78), .move (.t 11), none, .read, 0⟩, ⟨(some 79), .arith .sub (.t 78) (.c (.int .i64 1)), none, .read, 0⟩, ⟨(some 80), .indexAddr 2 (.t 77) (.t 79), none, .read, 0⟩, ⟨(some 81), .load (some 2) (.t 80), none, .read, 0⟩, ⟨(some 72), .move (.t 3), none, .read, 0⟩, ⟨(some 82), .call (.t 72) [(.t 76), (.t 81)], none, .write, 0⟩, ⟨(some 83), .arith .lss (.t 82) (.c (.int .i64 0)), none, .read, 1⟩, ⟨(some 84), .un .not (.t 83), none, .read, 1⟩])
 (.cond (.t 84) (.exit 4) .skip))
 (.draw [⟨(some 90), .move (.t 0), none, .read, 0⟩, ⟨(some 91), .move (.t 11), none, .read, 0⟩, ⟨(some 92), .arith .sub (.t 91) (.c (.int .i64 1)), none, .read, 0⟩, ⟨(some 93), .indexAddr 2 (.t 90) (.t 92), none, .read, 0⟩, ⟨(some 94), .load (some 2) (.t 93), none, .read, 0⟩, ⟨(some 95), .move (.t 0), none, .read, 0⟩, ⟨(some 96), .move (.t 11), none, .read, 0⟩, ⟨(some 97), .indexAddr 2 (.t 95) (.t 96), none, .read, 0⟩, ⟨(some 98), .load (some 2) (.t 97), none, .read, 0⟩, ⟨(some 85), .move (.t 0), none, .read, 0⟩, ⟨(some 86), .move (.t 11), none, .read, 0⟩, ⟨(some 99), .indexAddr 2 (.t 85) (.t 86), none, .read, 0⟩, ⟨none, .store 2 (.t 99) (.t 94), none, .write, 0⟩, ⟨(some 87), .move (.t 0), none, .read, 0⟩, ⟨(some 88), .move (.t 11), none, .read, 0⟩, ⟨(some 89), .arith .sub (.t 88) (.c (.int .i64 1)), none, .read, 0⟩, ⟨(some 100), .indexAddr 2 (.t 87) (.t 89), none, .read, 1⟩, ⟨none, .store 2 (.t 100) (.t 98), none, .write, 1⟩])))
 (.region [⟨(some 70), .move (.t 11), none, .write, 0⟩, ⟨(some 71), .arith .sub (.t 70) (.c (.int .i64 1)), none, .write, 0⟩, ⟨(some 11), .move (.t 71), none, .write, 0⟩])))))) .skip))
 (.seq (.region [⟨(some 101), .move (.t 2), none, .write, 0⟩, ⟨(some 102), .move (.t 9), none, .write, 0⟩, ⟨(some 103), .arith .sub (.t 101) (.t 102), none, .write, 0⟩, ⟨(some 104), .arith .geq (.t 103) (.c (.int .i64 2)), none, .write, 0⟩])
 (.cond (.t 104) (.seq (.region [⟨(some 105), .move (.t 9), none, .write, 0⟩, ⟨(some 106), .arith .add (.t 105) (.c (.int .i64 1)), none, .write, 0⟩, ⟨(some 12), .move (.t 106), none, .write, 0⟩])
 (.block 6 (.loop (.seq (.seq (.region [⟨(some 107), .move (.t 12), none, .write, 0⟩, ⟨(some 108), .move (.t 2), none, .write, 0⟩, ⟨(some 109), .arith .lss (.t 107) (.t 108), none, .write, 0⟩])
 (.cond (.t 109) .skip (.exit 6)))
 (.seq (.block 7 (.seq (.seq (.draw [⟨(some 113), .move (.t 0), none, .read, 0⟩, ⟨(some 114), .move (.t 12), none, .read, 0⟩, ⟨(some 115), .indexAddr 2 (.t 113) (.t 114), none, .read, 0⟩, ⟨(some 116), .load (some 2) (.t 115), none, .read, 0⟩, ⟨(some 117), .move (.t 0), none, .read, 0⟩, ⟨(some 118), .move (.t 12), none, .read, 0⟩, ⟨(some 119), .arith .sub (.t 118) (.c (.int .i64 1)), none, .read, 0⟩, ⟨(some 120), .indexAddr 2 (.t 117) (.t 119), none, .read, 0⟩, ⟨(some 121), .load (some 2) (.t 120), none, .read, 0⟩, ⟨(some 112), .move (.t 3), none, .read, 0⟩, ⟨(some 122), .call (.t 112) [(.t 116), (.t 121)], none, .write, 0⟩, ⟨(some 123), .arith .lss (.t 122) (.c (.int .i64 0)), none, .read, 1⟩, ⟨(some 124), .un .not (.t 123), none, .read, 1⟩])
 (.cond (.t 124) (.exit 6) .skip))
 (.draw [⟨(some 130), .move (.t 0), none, .read, 0⟩, ⟨(some 131), .move (.t 12), none, .read, 0⟩, ⟨(some 132), .arith .sub (.t 131) (.c (.int .i64 1)), none, .read, 0⟩, ⟨(some 133), .indexAddr 2 (.t 130) (.t 132), none, .read, 0⟩, ⟨(some 134), .load (some 2) (.t 133), none, .read, 0⟩, ⟨(some 135), .move (.t 0), none, .read, 0⟩, ⟨(some 136), .move (.t 12), none, .read, 0⟩, ⟨(some 137), .indexAddr 2 (.t 135) (.t 136), none, .read, 0⟩, ⟨(some 138), .load (some 2) (.t 137), none, .read, 0⟩, ⟨(some 125), .move (.t 0), none, .read, 0⟩, ⟨(some 126), .move (.t 12), none, .read, 0⟩, ⟨(some 139), .indexAddr 2 (.t 125) (.t 126), none, .read, 0⟩, ⟨none, .store 2 (.t 139) (.t 134), none, .write, 0⟩, ⟨(some 127), .move (.t 0), none, .read, 0⟩, ⟨(some 128), .move (.t 12), none, .read, 0⟩, ⟨(some 129), .arith .sub (.t 128) (.c (.int .i64 1)), none, .read, 0⟩, ⟨(some 140), .indexAddr 2 (.t 127) (.t 129), none, .read, 1⟩, ⟨none, .store 2 (.t 140) (.t 138), none, .write, 1⟩])))
 (.region [⟨(some 110), .move (.t 12), none, .write, 0⟩, ⟨(some 111), .arith .add (.t 110) (.c (.int .i64 1)), none, .write, 0⟩, ⟨(some 12), .move (.t 111), none, .write, 0⟩])))))) .skip))))))))
 (.region [⟨(some 17), .move (.t 10), none, .write, 0⟩, ⟨(some 18), .arith .add (.t 17) (.c (.int .i64 1)), none, .write, 0⟩, ⟨(some 10), .move (.t 18), none, .write, 0⟩]))))))
 (.seq (.region [⟨(some 8), .move (.c (.bool false)), none, .write, 0⟩])
 .ret)))) }

theorem c184 : compFunc Tryz.prog Tryz.f184 .full = some t184 := by kernel_rfl

/-- slices.partitionEqualCmpFunc[[2]int] -/
def t185 : DFunc := { ntmps := 90, results := [(.t 10)], mode := .full, body :=
 (.seq (.region [⟨(some 10), .move (.c (.int .i64 0)), none, .write, 0⟩])
 (.seq (.draw [⟨(some 17), .move (.t 0), none, .read, 0⟩, ⟨(some 18), .move (.t 3), none, .read, 0⟩, ⟨(some 19), .indexAddr 2 (.t 17) (.t 18), none, .read, 0⟩, ⟨(some 20), .load (some 2) (.t 19), none, .read, 0⟩, ⟨(some 21), .move (.t 0), none, .read, 0⟩, ⟨(some 22), .move (.t 1), none, .read, 0⟩, ⟨(some 23), .indexAddr 2 (.t 21) (.t 22), none, .read, 0⟩, ⟨(some 24), .load (some 2) (.t 23), none, .read, 0⟩, ⟨(some 13), .move (.t 0), none, .read, 0⟩, ⟨(some 14), .move (.t 1), none, .read, 0⟩, ⟨(some 25), .indexAddr 2 (.t 13) (.t 14), none, .read, 0⟩, ⟨none, .store 2 (.t 25) (.t 20), none, .write, 0⟩, ⟨(some 15), .move (.t 0), none, .read, 0⟩, ⟨(some 16), .move (.t 3), none, .read, 0⟩, ⟨(some 26), .indexAddr 2 (.t 15) (.t 16), none, .read, 1⟩, ⟨none, .store 2 (.t 26) (.t 24), none, .write, 1⟩])
 (.seq (.region [⟨(some 27), .move (.t 1), none, .write, 0⟩, ⟨(some 28), .arith .add (.t 27) (.c (.int .i64 1)), none, .write, 0⟩, ⟨(some 29), .move (.t 2), none, .write, 0⟩, ⟨(some 30), .arith .sub (.t 29) (.c (.int .i64 1)), none, .write, 0⟩, ⟨(some 11), .move (.t 28), none, .write, 0⟩, ⟨(some 12), .move (.t 30), none, .write, 0⟩])
 (.seq (.block 0 (.loop (.block 1 (.seq (.block 2 (.loop (.seq (.seq (.draw [⟨(some 31), .move (.t 11), none, .read, 0⟩, ⟨(some 32), .move (.t 12), none, .read, 0⟩, ⟨(some 33), .arith .leq (.t 31) (.t 32), none, .read, 0⟩, ⟨(some 34), .move (.t 33), none, .read, 0⟩, ⟨(some 36), .move (.t 0), (some (34, true)), .read, 0⟩, ⟨(some 37), .move (.t 1), (some (34, true)), .read, 0⟩, ⟨(some 38), .indexAddr 2 (.t 36) (.t 37), (some (34, true)), .read, 0⟩, ⟨(some 39), .load (some 2) (.t 38), (some (34, true)), .read, 0⟩, ⟨(some 40), .move (.t 0), (some (34, true)), .read, 0⟩, ⟨(some 41), .move (.t 11), (some (34, true)), .read, 0⟩, ⟨(some 42), .indexAddr 2 (.t 40) (.t 41), (some (34, true)), .read, 0⟩, ⟨(some 43), .load (some 2) (.t 42), (some (34, true)), .read, 0⟩, ⟨(some 35), .move (.t 4), (some (34, true)), .read, 0⟩, ⟨(some 44), .call (.t 35) [(.t 39), (.t 43)], (some (34, true)), .write, 0⟩, ⟨(some 45), .arith .lss (.t 44) (.c (.int .i64 0)), (some (34, true)), .read, 1⟩, ⟨(some 46), .un .not (.t 45), (some (34, true)), .read, 1⟩, ⟨(some 47), .pick (.t 34) (.t 46) (.c (.bool false)), none, .read, 1⟩])
 (.cond (.t 47) .skip (.exit 2)))
 (.block 3 (.region [⟨(some 48), .move (.t 11), none, .write, 0⟩, ⟨(some 49), .arith .add (.t 48) (.c (.int .i64 1)), none, .write, 0⟩, ⟨(some 11), .move (.t 49), none, .write, 0⟩])))))
 (.seq (.block 4 (.loop (.seq (.seq (.draw [⟨(some 50), .move (.t 11), none, .read, 0⟩, ⟨(some 51), .move (.t 12), none, .read, 0⟩, ⟨(some 52), .arith .leq (.t 50) (.t 51), none, .read, 0⟩, ⟨(some 53), .move (.t 52), none, .read, 0⟩, ⟨(some 55), .move (.t 0), (some (53, true)), .read, 0⟩, ⟨(some 56), .move (.t 1), (some (53, true)), .read, 0⟩, ⟨(some 57), .indexAddr 2 (.t 55) (.t 56), (some (53, true)), .read, 0⟩, ⟨(some 58), .load (some 2) (.t 57), (some (53, true)), .read, 0⟩, ⟨(some 59), .move (.t 0), (some (53, true)), .read, 0⟩, ⟨(some 60), .move (.t 12), (some (53, true)), .read, 0⟩, ⟨(some 61), .indexAddr 2 (.t 59) (.t 60), (some (53, true)), .read, 0⟩, ⟨(some 62), .load (some 2) (.t 61), (some (53, true)), .read, 0⟩, ⟨(some 54), .move (.t 4), (some (53, true)), .read, 0⟩, ⟨(some 63), .call (.t 54) [(.t 58), (.t 62)], (some (53, true)), .write, 0⟩, ⟨(some 64), .arith .lss (.t 63) (.c (.int .i64 0)), (some (53, true)), .read, 1⟩, ⟨(some 65), .pick (.t 53) (.t 64) (.c (.bool false)), none, .read, 1⟩])
 (.cond (.t 65) .skip (.exit 4)))
 (.block 5 (.region [⟨(some 66), .move (.t 12), none, .write, 0⟩, ⟨(some 67), .arith .sub (.t 66) (.c (.int .i64 1)), none, .write, 0⟩, ⟨(some 12), .move (.t 67), none, .write, 0⟩])))))
 (.seq (.seq (.region [⟨(some 68), .move (.t 11), none, .write, 0⟩, ⟨(some 69), .move (.t 12), none, .write, 0⟩, ⟨(some 70), .arith .gtr (.t 68) (.t 69), none, .write, 0⟩])
 (.cond (.t 70) (.exit 0) .skip))
 (.seq (.draw [⟨(some 75), .move (.t 0), none, .read, 0⟩, ⟨(some 76), .move (.t 12), none, .read, 0⟩, ⟨(some 77), .indexAddr 2 (.t 75) (.t 76), none, .read, 0⟩, ⟨(some 78), .load (some 2) (.t 77), none, .read, 0⟩, ⟨(some 79), .move (.t 0), none, .read, 0⟩, ⟨(some 80), .move (.t 11), none, .read, 0⟩, ⟨(some 81), .indexAddr 2 (.t 79) (.t 80), none, .read, 0⟩, ⟨(some 82), .load (some 2) (.t 81), none, .read, 0⟩, ⟨(some 71), .move (.t 0), none, .read, 0⟩, ⟨(some 72), .move (.t 11), none, .read, 0⟩, ⟨(some 83), .indexAddr 2 (.t 71) (.t 72), none, .read, 0⟩, ⟨none, .store 2 (.t 83) (.t 78), none, .write, 0⟩, ⟨(some 73), .move (.t 0), none, .read, 0⟩, ⟨(some 74), .move (.t 12), none, .read, 0⟩, ⟨(some 84), .indexAddr 2 (.t 73) (.t 74), none, .read, 1⟩, ⟨none, .store 2 (.t 84) (.t 82), none, .write, 1⟩])
 (.seq (.region [⟨(some 85), .move (.t 11), none, .write, 0⟩, ⟨(some 86), .arith .add (.t 85) (.c (.int .i64 1)), none, .write, 0⟩, ⟨(some 11), .move (.t 86), none, .write, 0⟩])
 (.region [⟨(some 87), .move (.t 12), none, .write, 0⟩, ⟨(some 88), .arith .sub (.t 87) (.c (.int .i64 1)), none, .write, 0⟩, ⟨(some 12), .move (.t 88), none, .write, 0⟩])))))))))
 (.seq (.region [⟨(some 89), .move (.t 11), none, .write, 0⟩, ⟨(some 10), .move (.t 89), none, .write, 0⟩])
 .ret))))) }

theorem c185 : compFunc Tryz.prog Tryz.f185 .full = some t185 := by kernel_rfl

/-- slices.partitionCmpFunc[[2]int] -/
def t186 : DFunc := { ntmps := 178, results := [(.t 10), (.t 11)], mode := .full, body :=
 (.seq (.region [⟨(some 10), .move (.c (.int .i64 0)), none, .write, 0⟩, ⟨(some 11), .move (.c (.bool false)), none, .write, 0⟩])
 (.seq (.draw [⟨(some 18), .move (.t 0), none, .read, 0⟩, ⟨(some 19), .move (.t 3), none, .read, 0⟩, ⟨(some 20), .indexAddr 2 (.t 18) (.t 19), none, .read, 0⟩, ⟨(some 21), .load (some 2) (.t 20), none, .read, 0⟩, ⟨(some 22), .move (.t 0), none, .read, 0⟩, ⟨(some 23), .move (.t 1), none, .read, 0⟩, ⟨(some 24), .indexAddr 2 (.t 22) (.t 23), none, .read, 0⟩, ⟨(some 25), .load (some 2) (.t 24), none, .read, 0⟩, ⟨(some 14), .move (.t 0), none, .read, 0⟩, ⟨(some 15), .move (.t 1), none, .read, 0⟩, ⟨(some 26), .indexAddr 2 (.t 14) (.t 15), none, .read, 0⟩, ⟨none, .store 2 (.t 26) (.t 21), none, .write, 0⟩, ⟨(some 16), .move (.t 0), none, .read, 0⟩, ⟨(some 17), .move (.t 3), none, .read, 0⟩, ⟨(some 27), .indexAddr 2 (.t 16) (.t 17), none, .read, 1⟩, ⟨none, .store 2 (.t 27) (.t 25), none, .write, 1⟩])
 (.seq (.region [⟨(some 28), .move (.t 1), none, .write, 0⟩, ⟨(some 29), .arith .add (.t 28) (.c (.int .i64 1)), none, .write, 0⟩, ⟨(some 30), .move (.t 2), none, .write, 0⟩, ⟨(some 31), .arith .sub (.t 30) (.c (.int .i64 1)), none, .write, 0⟩, ⟨(some 12), .move (.t 29), none, .write, 0⟩, ⟨(some 13), .move (.t 31), none, .write, 0⟩])
 (.seq (.block 0 (.loop (.seq (.seq (.draw [⟨(some 32), .move (.t 12), none, .read, 0⟩, ⟨(some 33), .move (.t 13), none, .read, 0⟩, ⟨(some 34), .arith .leq (.t 32) (.t 33), none, .read, 0⟩, ⟨(some 35), .move (.t 34), none, .read, 0⟩, ⟨(some 37), .move (.t 0), (some (35, true)), .read, 0⟩, ⟨(some 38), .move (.t 12), (some (35, true)), .read, 0⟩, ⟨(some 39), .indexAddr 2 (.t 37) (.t 38), (some (35, true)), .read, 0⟩, ⟨(some 40), .load (some 2) (.t 39), (some (35, true)), .read, 0⟩, ⟨(some 41), .move (.t 0), (some (35, true)), .read, 0⟩, ⟨(some 42), .move (.t 1), (some (35, true)), .read, 0⟩, ⟨(some 43), .indexAddr 2 (.t 41) (.t 42), (some (35, true)), .read, 0⟩, ⟨(some 44), .load (some 2) (.t 43), (some (35, true)), .read, 0⟩, ⟨(some 36), .move (.t 4), (some (35, true)), .read, 0⟩, ⟨(some 45), .call (.t 36) [(.t 40), (.t 44)], (some (35, true)), .write, 0⟩, ⟨(some 46), .arith .lss (.t 45) (.c (.int .i64 0)), (some (35, true)), .read, 1⟩, ⟨(some 47), .pick (.t 35) (.t 46) (.c (.bool false)), none, .read, 1⟩])
 (.cond (.t 47) .skip (.exit 0)))
 (.block 1 (.region [⟨(some 48), .move (.t 12), none, .write, 0⟩, ⟨(some 49), .arith .add (.t 48) (.c (.int .i64 1)), none, .write, 0⟩, ⟨(some 12), .move (.t 49), none, .write, 0⟩])))))
 (.seq (.block 2 (.loop (.seq (.seq (.draw [⟨(some 50), .move (.t 12), none, .read, 0⟩, ⟨(some 51), .move (.t 13), none, .read, 0⟩, ⟨(some 52), .arith .leq (.t 50) (.t 51), none, .read, 0⟩, ⟨(some 53), .move (.t 52), none, .read, 0⟩, ⟨(some 55), .move (.t 0), (some (53, true)), .read, 0⟩, ⟨(some 56), .move (.t 13), (some (53, true)), .read, 0⟩, ⟨(some 57), .indexAddr 2 (.t 55) (.t 56), (some (53, true)), .read, 0⟩, ⟨(some 58), .load (some 2) (.t 57), (some (53, true)), .read, 0⟩, ⟨(some 59), .move (.t 0), (some (53, true)), .read, 0⟩, ⟨(some 60), .move (.t 1), (some (53, true)), .read, 0⟩, ⟨(some 61), .indexAddr 2 (.t 59) (.t 60), (some (53, true)), .read, 0⟩, ⟨(some 62), .load (some 2) (.t 61), (some (53, true)), .read, 0⟩, ⟨(some 54), .move (.t 4), (some (53, true)), .read, 0⟩, ⟨(some 63), .call (.t 54) [(.t 58), (.t 62)], (some (53, true)), .write, 0⟩, ⟨(some 64), .arith .lss (.t 63) (.c (.int .i64 0)), (some (53, true)), .read, 1⟩, ⟨(some 65), .un .not (.t 64), (some (53, true)), .read, 1⟩, ⟨(some 66), .pick (.t 53) (.t 65) (.c (.bool false)), none, .read, 1⟩])
 (.cond (.t 66) .skip (.exit 2)))
 (.block 3 (.region [⟨(some 67), .move (.t 13), none, .write, 0⟩, ⟨(some 68), .arith .sub (.t 67) (.c (.int .i64 1)), none, .write, 0⟩, ⟨(some 13), .move (.t 68), none, .write, 0⟩])))))
 (.seq (.seq (.region [⟨(some 69), .move (.t 12), none, .write, 0⟩, ⟨(some 70), .move (.t 13), none, .write, 0⟩, ⟨(some 71), .arith .gtr (.t 69) (.t 70), none, .write, 0⟩])
 (.cond (.t 71) (.seq (.draw [⟨(some 76), .move (.t 0), none, .read, 0⟩, ⟨(some 77), .move (.t 1), none, .read, 0⟩, ⟨(some 78), .indexAddr 2 (.t 76) (.t 77), none, .read, 0⟩, ⟨(some 79), .load (some 2) (.t 78), none, .read, 0⟩, ⟨(some 80), .move (.t 0), none, .read, 0⟩, ⟨(some 81), .move (.t 13), none, .read, 0⟩, ⟨(some 82), .indexAddr 2 (.t 80) (.t 81), none, .read, 0⟩, ⟨(some 83), .load (some 2) (.t 82), none, .read, 0⟩, ⟨(some 72), .move (.t 0), none, .read, 0⟩, ⟨(some 73), .move (.t 13), none, .read, 0⟩, ⟨(some 84), .indexAddr 2 (.t 72) (.t 73), none, .read, 0⟩, ⟨none, .store 2 (.t 84) (.t 79), none, .write, 0⟩, ⟨(some 74), .move (.t 0), none, .read, 0⟩, ⟨(some 75), .move (.t 1), none, .read, 0⟩, ⟨(some 85), .indexAddr 2 (.t 74) (.t 75), none, .read, 1⟩, ⟨none, .store 2 (.t 85) (.t 83), none, .write, 1⟩])
 (.seq (.region [⟨(some 86), .move (.t 13), none, .write, 0⟩, ⟨(some 10), .move (.t 86), none, .write, 0⟩, ⟨(some 11), .move (.c (.bool true)), none, .write, 0⟩])
 .ret)) .skip))
 (.seq (.draw [⟨(some 91), .move (.t 0), none, .read, 0⟩, ⟨(some 92), .move (.t 13), none, .read, 0⟩, ⟨(some 93), .indexAddr 2 (.t 91) (.t 92), none, .read, 0⟩, ⟨(some 94), .load (some 2) (.t 93), none, .read, 0⟩, ⟨(some 95), .move (.t 0), none, .read, 0⟩, ⟨(some 96), .move (.t 12), none, .read, 0⟩, ⟨(some 97), .indexAddr 2 (.t 95) (.t 96), none, .read, 0⟩, ⟨(some 98), .load (some 2) (.t 97), none, .read, 0⟩, ⟨(some 87), .move (.t 0), none, .read, 0⟩, ⟨(some 88), .move (.t 12), none, .read, 0⟩, ⟨(some 99), .indexAddr 2 (.t 87) (.t 88), none, .read, 0⟩, ⟨none, .store 2 (.t 99) (.t 94), none, .write, 0⟩, ⟨(some 89), .move (.t 0), none, .read, 0⟩, ⟨(some 90), .move (.t 13), none, .read, 0⟩, ⟨(some 100), .indexAddr 2 (.t 89) (.t 90), none, .read, 1⟩, ⟨none, .store 2 (.t 100) (.t 98), none, .write, 1⟩])
 (.seq (.region [⟨(some 101), .move (.t 12), none, .write, 0⟩, ⟨(some 102), .arith .add (.t 101) (.c (.int .i64 1)), none, .write, 0⟩, ⟨(some 12), .move (.t 102), none, .write, 0⟩])
 (.seq (.region [⟨(some 103), .move (.t 13), none, .write, 0⟩, ⟨(some 104), .arith .sub (.t 103) (.c (.int .i64 1)), none, .write, 0⟩, ⟨(some 13), .move (.t 104), none, .write, 0⟩])
 (.seq (.block 4 (.loop (.block 5 (.seq (.block 6 (.loop (.seq (.seq (.draw [⟨(some 105), .move (.t 12), none, .read, 0⟩, ⟨(some 106), .move (.t 13), none, .read, 0⟩, ⟨(some 107), .arith .leq (.t 105) (.t 106), none, .read, 0⟩, ⟨(some 108), .move (.t 107), none, .read, 0⟩, ⟨(some 110), .move (.t 0), (some (108, true)), .read, 0⟩, ⟨(some 111), .move (.t 12), (some (108, true)), .read, 0⟩, ⟨(some 112), .indexAddr 2 (.t 110) (.t 111), (some (108, true)), .read, 0⟩, ⟨(some 113), .load (some 2) (.t 112), (some (108, true)), .read, 0⟩, ⟨(some 114), .move (.t 0), (some (108, true)), .read, 0⟩, ⟨(some 115), .move (.t 1), (some (108, true)), .read, 0⟩, ⟨(some 116), .indexAddr 2 (.t 114) (.t 115), (some (108, true)), .read, 0⟩, ⟨(some 117), .load (some 2) (.t 116), (some (108, true)), .read, 0⟩, ⟨(some 109), .move (.t 4), (some (108, true)), .read, 0⟩, ⟨(some 118), .call (.t 109) [(.t 113), (.t 117)], (some (108, true)), .write, 0⟩, ⟨(some 119), .arith .lss (.t 118) (.c (.int .i64 0)), (some (108, true)), .read, 1⟩, ⟨(some 120), .pick (.t 108) (.t 119) (.c (.bool false)), none, .read, 1⟩])
 (.cond (.t 120) .skip (.exit 6)))
 (.block 7 (.region [⟨(some 121), .move (.t 12), none, .write, 0⟩, ⟨(some 122), .arith .add (.t 121) (.c (.int .i64 1)), none, .write, 0⟩, ⟨(some 12), .move (.t 122), none, .write, 0⟩])))))
 (.seq (.block 8 (.loop (.seq (.seq (.draw [⟨(some 123), .move (.t 12), none, .read, 0⟩, ⟨(some 124), .move (.t 13), none, .read, 0⟩, ⟨(some 125), .arith .leq (.t 123) (.t 124), none, .read, 0⟩, ⟨(some 126), .move (.t 125), none, .read, 0⟩, ⟨(some 128), .move (.t 0), (some (126, true)), .read, 0⟩, ⟨(some 129), .move (.t 13), (some (126, true)), .read, 0⟩, ⟨(some 130), .indexAddr 2 (.t 128) (.t 129), (some (126, true)), .read, 0⟩, ⟨(some 131), .load (some 2) (.t 130), (some (126, true)), .read, 0⟩, ⟨(some 132), .move (.t 0), (some (126, true)), .read, 0⟩, ⟨(some 133), .move (.t 1), (some (126, true)), .read, 0⟩, ⟨(some 134), .indexAddr 2 (.t 132) (.t 133), (some (126, true)), .read, 0⟩, ⟨(some 135), .load (some 2) (.t 134), (some (126, true)), .read, 0⟩, ⟨(some 127), .move (.t 4), (some (126, true)), .read, 0⟩, ⟨(some 136), .call (.t 127) [(.t 131), (.t 135)], (some (126, true)), .write, 0⟩, ⟨(some 137), .arith .lss (.t 136) (.c (.int .i64 0)), (some (126, true)), .read, 1⟩, ⟨(some 138), .un .not (.t 137), (some (126, true)), .read, 1⟩, ⟨(some 139), .pick (.t 126) (.t 138) (.c (.bool false)), none, .read, 1⟩])
 (.cond (.t 139) .skip (.exit 8)))
 (.block 9 (.region [⟨(some 140), .move (.t 13), none, .write, 0⟩, ⟨(some 141), .arith .sub (.t 140) (.c (.int .i64 1)), none, .write, 0⟩, ⟨(some 13), .move (.t 141), none, .write, 0⟩])))))
 (.seq (.seq (.region [⟨(some 142), .move (.t 12), none, .write, 0⟩, ⟨(some 143), .move (.t 13), none, .write, 0⟩, ⟨(some 144), .arith .gtr (.t 142) (.t 143), none, .write, 0⟩])
 (.cond (.t 144) (.exit 4) .skip))
 (.seq (.draw [⟨(some 149), .move (.t 0), none, .read, 0⟩, ⟨(some 150), .move (.t 13), none, .read, 0⟩, ⟨(some 151), .indexAddr 2 (.t 149) (.t 150), none, .read, 0⟩, ⟨(some 152), .load (some 2) (.t 151), none, .read, 0⟩, ⟨(some 153), .move (.t 0), none, .read, 0⟩, ⟨(some 154), .move (.t 12), none, .read, 0⟩, ⟨(some 155), .indexAddr 2 (.t 153) (.t 154), none, .read, 0⟩, ⟨(some 156), .load (some 2) (.t 155), none, .read, 0⟩, ⟨(some 145), .move (.t 0), none, .read, 0⟩, ⟨(some 146), .move (.t 12), none, .read, 0⟩, ⟨(some 157), .indexAddr 2 (.t 145) (.t 146), none, .read, 0⟩, ⟨none, .store 2 (.t 157) (.t 152), none, .write, 0⟩, ⟨(some 147), .move (.t 0), none, .read, 0⟩, ⟨(some 148), .move (.t 13), none, .read, 0⟩, ⟨(some 158), .indexAddr 2 (.t 147) (.t 148), none, .read, 1⟩, ⟨none, .store 2 (.t 158) (.t 156), none, .write, 1⟩])
 (.seq (.region [⟨(some 159), .move (.t 12), none, .write, 0⟩, ⟨(some 160), .arith .add (.t 159) (.c (.int .i64 1)), none, .write, 0⟩, ⟨(some 12), .move (.t 160), none, .write, 0⟩])
 (.region [⟨(some 161), .move (.t 13), none, .write, 0⟩, ⟨(some 162), .arith .sub (.t 161) (.c (.int .i64 1)), none, .write, 0⟩, ⟨(some 13), .move (.t 162), none, .write, 0⟩])))))))))
 (.seq (.draw [⟨(some 167), .move (.t 0), none, .read, 0⟩, ⟨(some 168), .move (.t 1), none, .read, 0⟩, ⟨(some 169), .indexAddr 2 (.t 167) (.t 168), none, .read, 0⟩, ⟨(some 170), .load (some 2) (.t 169), none, .read, 0⟩, ⟨(some 171), .move (.t 0), none, .read, 0⟩, ⟨(some 172), .move (.t 13), none, .read, 0⟩, ⟨(some 173), .indexAddr 2 (.t 171) (.t 172), none, .read, 0⟩, ⟨(some 174), .load (some 2) (.t 173), none, .read, 0⟩, ⟨(some 163), .move (.t 0), none, .read, 0⟩, ⟨(some 164), .move (.t 13), none, .read, 0⟩, ⟨(some 175), .indexAddr 2 (.t 163) (.t 164), none, .read, 0⟩, ⟨none, .store 2 (.t 175) (.t 170), none, .write, 0⟩, ⟨(some 165), .move (.t 0), none, .read, 0⟩, ⟨(some 166), .move (.t 1), none, .read, 0⟩, ⟨(some 176), .indexAddr 2 (.t 165) (.t 166), none, .read, 1⟩, ⟨none, .store 2 (.t 176) (.t 174), none, .write, 1⟩])
 (.seq (.region [⟨(some 177), .move (.t 13), none, .write, 0⟩, ⟨(some 10), .move (.t 177), none, .write, 0⟩, ⟨(some 11), .move (.c (.bool false)), none, .write, 0⟩])
 .ret)))))))))))) }

theorem c186 : compFunc Tryz.prog Tryz.f186 .full = some t186 := by kernel_rfl

end Go.Dm.TabW
