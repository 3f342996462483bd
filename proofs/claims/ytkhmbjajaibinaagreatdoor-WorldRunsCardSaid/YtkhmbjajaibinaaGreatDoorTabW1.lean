/-
The table of functions, brought into the machine's form (TabW, part 1). Written by program (wip/tools/table.lean.txt).
-/
import Derived.Test.YtkhmbjajaibinaaGreatDoorDm32
import Derived.Test.YtkhmbjajaibinaaGreatDoorRows
import Derived.KernelRfl
namespace Go.Dm.TabW
open Go.Proofs

/-- cmp.Or[int] -/
def t66 : DFunc := { ntmps := 18, results := [(.t 2)], mode := .full, body :=
 (.seq (.region [⟨(some 2), .move (.c (.int .i64 0)), none, .write, 0⟩])
 (.seq (.region [⟨(some 3), .move (.c (.int .i64 0)), none, .write, 0⟩])
 (.seq (.seq (.region [⟨(some 6), .move (.t 0), none, .write, 0⟩, ⟨(some 7), .len 1 (.t 6), none, .write, 0⟩, ⟨(some 8), .move (.c (.int .i64 0)), none, .write, 0⟩])
 (.block 0 (.loop (.seq (.region [⟨(some 9), .arith .lss (.t 8) (.t 7), none, .write, 0⟩])
 (.seq (.cond (.t 9) .skip (.exit 0))
 (.seq (.block 1 (.seq (.region [⟨(some 10), .indexAddr 1 (.t 6) (.t 8), none, .write, 0⟩, ⟨(some 11), .load none (.t 10), none, .write, 0⟩, ⟨(some 5), .move (.t 11), none, .write, 0⟩])
 (.seq (.region [⟨(some 12), .move (.t 5), none, .write, 0⟩, ⟨(some 13), .move (.t 3), none, .write, 0⟩, ⟨(some 14), .arith .neq (.t 12) (.t 13), none, .write, 0⟩])
 (.cond (.t 14) (.seq (.region [⟨(some 15), .move (.t 5), none, .write, 0⟩, ⟨(some 2), .move (.t 15), none, .write, 0⟩])
 .ret) .skip))))
 (.region [⟨(some 16), .arith .add (.t 8) (.c (.int .i64 1)), none, .write, 0⟩, ⟨(some 8), .move (.t 16), none, .write, 0⟩])))))))
 (.seq (.region [⟨(some 17), .move (.t 3), none, .write, 0⟩, ⟨(some 2), .move (.t 17), none, .write, 0⟩])
 .ret)))) }

theorem c66 : compFunc Tryz.prog Tryz.f66 .full = some t66 := by kernel_rfl

/-- cmp.Compare[int] -/
def t67 : DFunc := { ntmps := 20, results := [(.t 4)], mode := .full, body :=
 (.seq (.region [⟨(some 4), .move (.c (.int .i64 0)), none, .write, 0⟩])
 (.seq (.region [⟨(some 7), .move (.t 0), none, .write, 0⟩, ⟨(some 8), .call (.c (.func 116 [])) [(.t 7)], none, .write, 0⟩, ⟨(some 5), .move (.t 8), none, .write, 0⟩])
 (.seq (.region [⟨(some 9), .move (.t 1), none, .write, 0⟩, ⟨(some 10), .call (.c (.func 116 [])) [(.t 9)], none, .write, 0⟩, ⟨(some 6), .move (.t 10), none, .write, 0⟩])
 (.seq (.seq (.region [⟨(some 11), .move (.t 5), none, .write, 0⟩])
 (.cond (.t 11) (.seq (.seq (.region [⟨(some 12), .move (.t 6), none, .write, 0⟩])
 (.cond (.t 12) (.seq (.region [⟨(some 4), .move (.c (.int .i64 0)), none, .write, 0⟩])
 .ret) .skip))
 (.seq (.region [⟨(some 4), .move (.c (.int .i64 (-1))), none, .write, 0⟩])
 .ret)) .skip))
 (.seq (.seq (.region [⟨(some 13), .move (.t 6), none, .write, 0⟩])
 (.cond (.t 13) (.seq (.region [⟨(some 4), .move (.c (.int .i64 1)), none, .write, 0⟩])
 .ret) .skip))
 (.seq (.seq (.region [⟨(some 14), .move (.t 0), none, .write, 0⟩, ⟨(some 15), .move (.t 1), none, .write, 0⟩, ⟨(some 16), .arith .lss (.t 14) (.t 15), none, .write, 0⟩])
 (.cond (.t 16) (.seq (.region [⟨(some 4), .move (.c (.int .i64 (-1))), none, .write, 0⟩])
 .ret) .skip))
 (.seq (.seq (.region [⟨(some 17), .move (.t 0), none, .write, 0⟩, ⟨(some 18), .move (.t 1), none, .write, 0⟩, ⟨(some 19), .arith .gtr (.t 17) (.t 18), none, .write, 0⟩])
 (.cond (.t 19) (.seq (.region [⟨(some 4), .move (.c (.int .i64 1)), none, .write, 0⟩])
 .ret) .skip))
 (.seq (.region [⟨(some 4), .move (.c (.int .i64 0)), none, .write, 0⟩])
 .ret)))))))) }

theorem c67 : compFunc Tryz.prog Tryz.f67 .full = some t67 := by kernel_rfl

/-- slices.Compact[[][2]int,[2]int] -/
def t68 : DFunc := { ntmps := 61, results := [(.t 2)], mode := .full, body :=
 (.seq (.region [⟨(some 2), .move (.c .nsl), none, .write, 0⟩])
 (.seq (.seq (.region [⟨(some 6), .move (.t 0), none, .write, 0⟩, ⟨(some 7), .len 1 (.t 6), none, .write, 0⟩, ⟨(some 8), .arith .lss (.t 7) (.c (.int .i64 2)), none, .write, 0⟩])
 (.cond (.t 8) (.seq (.region [⟨(some 9), .move (.t 0), none, .write, 0⟩, ⟨(some 2), .move (.t 9), none, .write, 0⟩])
 .ret) .skip))
 (.seq (.seq (.region [⟨(some 3), .move (.c (.int .i64 1)), none, .write, 0⟩])
 (.block 0 (.loop (.seq (.seq (.region [⟨(some 10), .move (.t 3), none, .write, 0⟩, ⟨(some 11), .move (.t 0), none, .write, 0⟩, ⟨(some 12), .len 1 (.t 11), none, .write, 0⟩, ⟨(some 13), .arith .lss (.t 10) (.t 12), none, .write, 0⟩])
 (.cond (.t 13) .skip (.exit 0)))
 (.seq (.block 1 (.seq (.draw [⟨(some 16), .move (.t 0), none, .read, 0⟩, ⟨(some 17), .move (.t 3), none, .read, 0⟩, ⟨(some 18), .indexAddr 2 (.t 16) (.t 17), none, .read, 0⟩, ⟨(some 19), .load (some 2) (.t 18), none, .read, 0⟩, ⟨(some 20), .move (.t 0), none, .read, 0⟩, ⟨(some 21), .move (.t 3), none, .read, 0⟩, ⟨(some 22), .arith .sub (.t 21) (.c (.int .i64 1)), none, .read, 0⟩, ⟨(some 23), .indexAddr 2 (.t 20) (.t 22), none, .read, 0⟩, ⟨(some 24), .load (some 2) (.t 23), none, .read, 0⟩, ⟨(some 25), .eqa false [1, 1] (.t 19) (.t 24), none, .read, 0⟩])
 (.cond (.t 25) (.seq (.region [⟨(some 26), .move (.t 0), none, .write, 0⟩, ⟨(some 27), .move (.t 3), none, .write, 0⟩, ⟨(some 28), .sliceSl 2 (.t 26) (some (.t 27)) none, none, .write, 0⟩, ⟨(some 4), .move (.t 28), none, .write, 0⟩])
 (.seq (.seq (.region [⟨(some 5), .move (.c (.int .i64 1)), none, .write, 0⟩])
 (.block 2 (.loop (.seq (.seq (.region [⟨(some 29), .move (.t 5), none, .write, 0⟩, ⟨(some 30), .move (.t 4), none, .write, 0⟩, ⟨(some 31), .len 1 (.t 30), none, .write, 0⟩, ⟨(some 32), .arith .lss (.t 29) (.t 31), none, .write, 0⟩])
 (.cond (.t 32) .skip (.exit 2)))
 (.seq (.block 3 (.seq (.draw [⟨(some 35), .move (.t 4), none, .read, 0⟩, ⟨(some 36), .move (.t 5), none, .read, 0⟩, ⟨(some 37), .indexAddr 2 (.t 35) (.t 36), none, .read, 0⟩, ⟨(some 38), .load (some 2) (.t 37), none, .read, 0⟩, ⟨(some 39), .move (.t 4), none, .read, 0⟩, ⟨(some 40), .move (.t 5), none, .read, 0⟩, ⟨(some 41), .arith .sub (.t 40) (.c (.int .i64 1)), none, .read, 0⟩, ⟨(some 42), .indexAddr 2 (.t 39) (.t 41), none, .read, 0⟩, ⟨(some 43), .load (some 2) (.t 42), none, .read, 0⟩, ⟨(some 44), .eqa true [1, 1] (.t 38) (.t 43), none, .read, 0⟩])
 (.cond (.t 44) (.seq (.region [⟨(some 45), .move (.t 0), none, .write, 0⟩, ⟨(some 46), .move (.t 3), none, .write, 0⟩, ⟨(some 47), .move (.t 4), none, .write, 0⟩, ⟨(some 48), .move (.t 5), none, .write, 0⟩, ⟨(some 49), .indexAddr 2 (.t 47) (.t 48), none, .write, 0⟩, ⟨(some 50), .load (some 2) (.t 49), none, .write, 0⟩, ⟨(some 51), .indexAddr 2 (.t 45) (.t 46), none, .write, 0⟩, ⟨none, .store 2 (.t 51) (.t 50), none, .write, 0⟩])
 (.region [⟨(some 52), .move (.t 3), none, .write, 0⟩, ⟨(some 53), .arith .add (.t 52) (.c (.int .i64 1)), none, .write, 0⟩, ⟨(some 3), .move (.t 53), none, .write, 0⟩])) .skip)))
 (.region [⟨(some 33), .move (.t 5), none, .write, 0⟩, ⟨(some 34), .arith .add (.t 33) (.c (.int .i64 1)), none, .write, 0⟩, ⟨(some 5), .move (.t 34), none, .write, 0⟩]))))))
 (.seq (.region [⟨(some 54), .move (.t 0), none, .write, 0⟩, ⟨(some 55), .move (.t 3), none, .write, 0⟩, ⟨(some 56), .sliceSl 2 (.t 54) (some (.t 55)) none, none, .write, 0⟩, ⟨none, .clear 2 (.agg [(.int .i64 0), (.int .i64 0)]) (.t 56), none, .write, 0⟩])
 (.seq (.region [⟨(some 57), .move (.t 0), none, .write, 0⟩, ⟨(some 58), .move (.t 3), none, .write, 0⟩, ⟨(some 59), .sliceSl 2 (.t 57) none (some (.t 58)), none, .write, 0⟩, ⟨(some 2), .move (.t 59), none, .write, 0⟩])
 .ret)))) .skip)))
 (.region [⟨(some 14), .move (.t 3), none, .write, 0⟩, ⟨(some 15), .arith .add (.t 14) (.c (.int .i64 1)), none, .write, 0⟩, ⟨(some 3), .move (.t 15), none, .write, 0⟩]))))))
 (.seq (.region [⟨(some 60), .move (.t 0), none, .write, 0⟩, ⟨(some 2), .move (.t 60), none, .write, 0⟩])
 .ret)))) }

theorem c68 : compFunc Tryz.prog Tryz.f68 .full = some t68 := by kernel_rfl

/-- (*broadside/net.Net).Graph -/
def t71 : DFunc := { ntmps := 8, results := [(.cell 2 (some 2))], mode := .full, body :=
 (.seq (.region [⟨(some 2), .alloc 29 2 (.agg [(.int .i64 0), .nsl]), none, .write, 0⟩])
 (.seq (.region [⟨(some 3), .move (.t 0), none, .write, 0⟩, ⟨(some 4), .nilCheck (.t 3), none, .write, 0⟩, ⟨(some 5), .fieldAddr 0 (.t 4), none, .write, 0⟩, ⟨(some 6), .load (some 2) (.t 5), none, .write, 0⟩, ⟨(some 7), .call (.c (.func 39 [])) [(.t 6)], none, .write, 0⟩, ⟨none, .store 2 (.t 2) (.t 7), none, .write, 0⟩])
 .ret)) }

theorem c71 : compFunc Tryz.prog Tryz.f71 .full = some t71 := by kernel_rfl

/-- (*broadside/world.World).attach -/
def t75 : DFunc := { ntmps := 48, results := [(.cell 4 (some 7)), (.t 5)], mode := .full, body :=
 (.seq (.region [⟨(some 4), .alloc 35 7 (.agg [(.int .i64 0), (.int .i64 0), (.int .i64 0), (.int .i64 0), (.int .i64 0), (.int .i64 0), .nsl]), none, .write, 0⟩, ⟨(some 5), .move (.c .nili), none, .write, 0⟩])
 (.seq (.block 0 (.seq (.region [⟨(some 7), .move (.t 1), none, .write, 0⟩, ⟨(some 8), .arith .lss (.t 7) (.c (.int .i64 0)), none, .write, 0⟩, ⟨(some 9), .move (.t 8), none, .write, 0⟩, ⟨(some 10), .move (.t 1), (some (9, false)), .write, 0⟩, ⟨(some 11), .move (.t 0), (some (9, false)), .write, 0⟩, ⟨(some 12), .nilCheck (.t 11), (some (9, false)), .write, 0⟩, ⟨(some 13), .fieldAddr 0 (.t 12), (some (9, false)), .write, 0⟩, ⟨(some 14), .load none (.t 13), (some (9, false)), .write, 0⟩, ⟨(some 15), .call (.c (.func 71 [])) [(.t 14)], (some (9, false)), .write, 0⟩, ⟨(some 16), .field 0 none (.t 15), (some (9, false)), .write, 0⟩, ⟨(some 17), .arith .geq (.t 10) (.t 16), (some (9, false)), .write, 0⟩, ⟨(some 18), .pick (.t 9) (.c (.bool true)) (.t 17), none, .write, 0⟩, ⟨(some 6), .move (.t 18), none, .write, 0⟩])
 (.cond (.t 6) (.seq (.region [⟨(some 19), .build [(.int .i64 0), (.int .i64 0), (.int .i64 0), (.int .i64 0), (.int .i64 0), (.int .i64 0), .nsl] [], none, .write, 0⟩, ⟨(some 20), .makeIface 30 (.c (.int .i64 3)), none, .write, 0⟩, ⟨none, .store 7 (.t 4) (.t 19), none, .write, 0⟩, ⟨(some 5), .move (.t 20), none, .write, 0⟩])
 .ret) (.seq (.region [⟨(some 22), .move (.t 0), none, .write, 0⟩, ⟨(some 23), .nilCheck (.t 22), none, .write, 0⟩, ⟨(some 24), .fieldAddr 1 (.t 23), none, .write, 0⟩, ⟨(some 25), .load none (.t 24), none, .write, 0⟩, ⟨(some 26), .len 1 (.t 25), none, .write, 0⟩, ⟨(some 27), .arith .eql (.t 26) (.c (.int .i64 32)), none, .write, 0⟩, ⟨(some 21), .move (.t 27), none, .write, 0⟩])
 (.cond (.t 21) (.seq (.region [⟨(some 28), .build [(.int .i64 0), (.int .i64 0), (.int .i64 0), (.int .i64 0), (.int .i64 0), (.int .i64 0), .nsl] [], none, .write, 0⟩, ⟨(some 29), .makeIface 30 (.c (.int .i64 7)), none, .write, 0⟩, ⟨none, .store 7 (.t 4) (.t 28), none, .write, 0⟩, ⟨(some 5), .move (.t 29), none, .write, 0⟩])
 .ret) .skip)))))
 (.seq (.region [⟨(some 30), .move (.t 0), none, .write, 0⟩, ⟨(some 31), .move (.t 0), none, .write, 0⟩, ⟨(some 32), .nilCheck (.t 31), none, .write, 0⟩, ⟨(some 33), .fieldAddr 1 (.t 32), none, .write, 0⟩, ⟨(some 34), .load none (.t 33), none, .write, 0⟩, ⟨(some 35), .move (.t 1), none, .write, 0⟩, ⟨(some 36), .build [(.int .i64 0), .nsl, .nsl, (.int .i64 0), (.int .i64 0), (.int .i64 0)] [(0, 1, (.t 35))], none, .write, 0⟩, ⟨(some 37), .buildSlice 243 6 (.agg [(.int .i64 0), .nsl, .nsl, (.int .i64 0), (.int .i64 0), (.int .i64 0)]) 1 [(0, (.t 36))], none, .write, 0⟩, ⟨(some 38), .append 243 6 80 (.t 34) (.t 37), none, .write, 0⟩, ⟨(some 39), .nilCheck (.t 30), none, .write, 0⟩, ⟨(some 40), .fieldAddr 1 (.t 39), none, .write, 0⟩, ⟨none, .store 1 (.t 40) (.t 38), none, .write, 0⟩])
 (.seq (.region [⟨(some 41), .move (.t 0), none, .write, 0⟩, ⟨(some 42), .nilCheck (.t 41), none, .write, 0⟩, ⟨(some 43), .fieldAddr 1 (.t 42), none, .write, 0⟩, ⟨(some 44), .load none (.t 43), none, .write, 0⟩, ⟨(some 45), .len 1 (.t 44), none, .write, 0⟩, ⟨(some 46), .arith .sub (.t 45) (.c (.int .i64 1)), none, .write, 0⟩, ⟨(some 47), .build [(.int .i64 0), (.int .i64 0), (.int .i64 0), (.int .i64 0), (.int .i64 0), (.int .i64 0), .nsl] [(1, 1, (.t 46))], none, .write, 0⟩, ⟨none, .store 7 (.t 4) (.t 47), none, .write, 0⟩, ⟨(some 5), .move (.c .nili), none, .write, 0⟩])
 .ret)))) }

theorem c75 : compFunc Tryz.prog Tryz.f75 .full = some t75 := by kernel_rfl

/-- (*broadside/world.World).link -/
def t76 : DFunc := { ntmps := 60, results := [(.cell 4 (some 7)), (.t 5)], mode := .full, body :=
 (.seq (.region [⟨(some 3), .box 41 9 (.t 1), none, .write, 0⟩, ⟨(some 4), .alloc 35 7 (.agg [(.int .i64 0), (.int .i64 0), (.int .i64 0), (.int .i64 0), (.int .i64 0), (.int .i64 0), .nsl]), none, .write, 0⟩, ⟨(some 5), .move (.c .nili), none, .write, 0⟩])
 (.seq (.seq (.draw [⟨(some 10), .move (.t 0), none, .read, 0⟩, ⟨(some 11), .nilCheck (.t 10), none, .read, 0⟩, ⟨(some 12), .fieldAddr 0 (.t 11), none, .read, 0⟩, ⟨(some 13), .load none (.t 12), none, .read, 0⟩, ⟨(some 14), .call (.c (.func 71 [])) [(.t 13)], none, .create, 0⟩, ⟨(some 15), .fieldAddr 4 (.t 3), none, .read, 0⟩, ⟨(some 16), .load none (.t 15), none, .read, 0⟩, ⟨(some 17), .fieldAddr 5 (.t 3), none, .read, 0⟩, ⟨(some 18), .load none (.t 17), none, .read, 0⟩, ⟨(some 19), .call (.c (.func 145 [])) [(.t 14), (.t 16), (.t 18)], none, .write, 1⟩, ⟨(some 20), .un .not (.t 19), none, .read, 2⟩])
 (.cond (.t 20) (.seq (.region [⟨(some 21), .build [(.int .i64 0), (.int .i64 0), (.int .i64 0), (.int .i64 0), (.int .i64 0), (.int .i64 0), .nsl] [], none, .write, 0⟩, ⟨(some 22), .makeIface 30 (.c (.int .i64 8)), none, .write, 0⟩, ⟨none, .store 7 (.t 4) (.t 21), none, .write, 0⟩, ⟨(some 5), .move (.t 22), none, .write, 0⟩])
 .ret) .skip))
 (.seq (.seq (.region [⟨(some 23), .fieldAddr 0 (.t 3), none, .write, 0⟩, ⟨(some 24), .load none (.t 23), none, .write, 0⟩, ⟨(some 25), .arith .eql (.t 24) (.c (.int .i64 9)), none, .write, 0⟩])
 (.cond (.t 25) (.seq (.seq (.region [⟨(some 27), .fieldAddr 8 (.t 3), none, .write, 0⟩, ⟨(some 28), .load none (.t 27), none, .write, 0⟩, ⟨(some 29), .call (.c (.func 146 [])) [(.t 28)], none, .write, 0⟩, ⟨(some 26), .move (.t 29), none, .write, 0⟩, ⟨(some 30), .extract (.t 26) 0, none, .write, 0⟩, ⟨(some 31), .extract (.t 26) 1, none, .write, 0⟩, ⟨(some 6), .alloc 102 7 (.agg [(.int .i64 0), (.int .i64 0), (.int .i64 0), (.int .i64 0), (.int .i64 0), .nsl, .nsl]), none, .write, 0⟩, ⟨none, .store 7 (.t 6) (.t 30), none, .write, 0⟩, ⟨(some 7), .move (.t 31), none, .write, 0⟩])
 (.seq (.region [⟨(some 32), .move (.t 7), none, .write, 0⟩, ⟨(some 33), .eqn 4 true (.t 32) (.c .nili), none, .write, 0⟩])
 (.cond (.t 33) (.seq (.region [⟨(some 34), .build [(.int .i64 0), (.int .i64 0), (.int .i64 0), (.int .i64 0), (.int .i64 0), (.int .i64 0), .nsl] [], none, .write, 0⟩, ⟨(some 35), .move (.t 7), none, .write, 0⟩, ⟨none, .store 7 (.t 4) (.t 34), none, .write, 0⟩, ⟨(some 5), .move (.t 35), none, .write, 0⟩])
 .ret) .skip)))
 (.seq (.region [⟨(some 36), .build [(.int .i64 0), (.int .i64 0), (.int .i64 0), (.int .i64 0), (.int .i64 0), (.int .i64 0), .nsl] [], none, .write, 0⟩, ⟨(some 37), .makeIface 30 (.c (.int .i64 6)), none, .write, 0⟩, ⟨none, .store 7 (.t 4) (.t 36), none, .write, 0⟩, ⟨(some 5), .move (.t 37), none, .write, 0⟩])
 .ret)) .skip))
 (.seq (.draw [⟨(some 39), .move (.t 0), none, .read, 0⟩, ⟨(some 40), .nilCheck (.t 39), none, .read, 0⟩, ⟨(some 41), .fieldAddr 0 (.t 40), none, .read, 0⟩, ⟨(some 42), .load none (.t 41), none, .read, 0⟩, ⟨(some 43), .fieldAddr 4 (.t 3), none, .read, 0⟩, ⟨(some 44), .load none (.t 43), none, .read, 0⟩, ⟨(some 45), .fieldAddr 5 (.t 3), none, .read, 0⟩, ⟨(some 46), .load none (.t 45), none, .read, 0⟩, ⟨(some 47), .call (.c (.func 18 [])) [(.t 42), (.t 44), (.t 46)], none, .write, 0⟩, ⟨(some 38), .move (.t 47), none, .read, 1⟩, ⟨(some 48), .extract (.t 38) 0, none, .read, 1⟩, ⟨(some 49), .extract (.t 38) 1, none, .read, 1⟩, ⟨(some 8), .move (.t 48), none, .read, 1⟩, ⟨(some 9), .move (.t 49), none, .read, 1⟩])
 (.seq (.seq (.region [⟨(some 50), .move (.t 9), none, .write, 0⟩, ⟨(some 51), .eqn 4 false (.t 50) (.c .nili), none, .write, 0⟩])
 (.cond (.t 51) (.region [⟨(some 52), .move (.t 0), none, .write, 0⟩, ⟨(some 53), .nilCheck (.t 52), none, .write, 0⟩, ⟨(some 54), .fieldAddr 2 (.t 53), none, .write, 0⟩, ⟨(some 55), .load none (.t 54), none, .write, 0⟩, ⟨(some 56), .move (.t 8), none, .write, 0⟩, ⟨(some 57), .call (.c (.func 147 [])) [(.t 55), (.t 56)], none, .write, 0⟩]) .skip))
 (.seq (.region [⟨(some 58), .build [(.int .i64 0), (.int .i64 0), (.int .i64 0), (.int .i64 0), (.int .i64 0), (.int .i64 0), .nsl] [], none, .write, 0⟩, ⟨(some 59), .move (.t 9), none, .write, 0⟩, ⟨none, .store 7 (.t 4) (.t 58), none, .write, 0⟩, ⟨(some 5), .move (.t 59), none, .write, 0⟩])
 .ret)))))) }

theorem c76 : compFunc Tryz.prog Tryz.f76 .full = some t76 := by kernel_rfl

/-- (*broadside/world.World).asked -/
def t77 : DFunc := { ntmps := 64, results := [(.cell 4 (some 7)), (.t 5)], mode := .full, body :=
 (.seq (.region [⟨(some 3), .box 41 9 (.t 1), none, .write, 0⟩, ⟨(some 4), .alloc 35 7 (.agg [(.int .i64 0), (.int .i64 0), (.int .i64 0), (.int .i64 0), (.int .i64 0), (.int .i64 0), .nsl]), none, .write, 0⟩, ⟨(some 5), .move (.c .nili), none, .write, 0⟩])
 (.seq (.block 0 (.seq (.region [⟨(some 9), .move (.t 0), none, .write, 0⟩, ⟨(some 10), .fieldAddr 1 (.t 3), none, .write, 0⟩, ⟨(some 11), .load none (.t 10), none, .write, 0⟩, ⟨(some 12), .call (.c (.func 148 [])) [(.t 9), (.t 11)], none, .write, 0⟩, ⟨(some 13), .un .not (.t 12), none, .write, 0⟩, ⟨(some 8), .move (.t 13), none, .write, 0⟩])
 (.cond (.t 8) (.seq (.region [⟨(some 14), .build [(.int .i64 0), (.int .i64 0), (.int .i64 0), (.int .i64 0), (.int .i64 0), (.int .i64 0), .nsl] [], none, .write, 0⟩, ⟨(some 15), .makeIface 30 (.c (.int .i64 3)), none, .write, 0⟩, ⟨none, .store 7 (.t 4) (.t 14), none, .write, 0⟩, ⟨(some 5), .move (.t 15), none, .write, 0⟩])
 .ret) (.seq (.region [⟨(some 17), .fieldAddr 0 (.t 3), none, .write, 0⟩, ⟨(some 18), .load none (.t 17), none, .write, 0⟩, ⟨(some 19), .arith .eql (.t 18) (.c (.int .i64 7)), none, .write, 0⟩, ⟨(some 16), .move (.t 19), none, .write, 0⟩])
 (.cond (.t 16) (.seq (.draw [⟨(some 20), .move (.t 0), none, .read, 0⟩, ⟨(some 21), .nilCheck (.t 20), none, .read, 0⟩, ⟨(some 22), .fieldAddr 2 (.t 21), none, .read, 0⟩, ⟨(some 23), .load none (.t 22), none, .read, 0⟩, ⟨(some 24), .fieldAddr 1 (.t 3), none, .read, 0⟩, ⟨(some 25), .load none (.t 24), none, .read, 0⟩, ⟨(some 26), .call (.c (.func 149 [])) [(.t 23), (.t 25)], none, .write, 0⟩, ⟨(some 27), .build [(.int .i64 0), (.int .i64 0), (.int .i64 0), (.int .i64 0), (.int .i64 0), (.int .i64 0), .nsl] [(6, 1, (.t 26))], none, .read, 1⟩, ⟨none, .store 7 (.t 4) (.t 27), none, .write, 1⟩, ⟨(some 5), .move (.c .nili), none, .read, 2⟩])
 .ret) .skip)))))
 (.seq (.draw [⟨(some 29), .move (.t 0), none, .read, 0⟩, ⟨(some 30), .nilCheck (.t 29), none, .read, 0⟩, ⟨(some 31), .fieldAddr 1 (.t 30), none, .read, 0⟩, ⟨(some 32), .load none (.t 31), none, .read, 0⟩, ⟨(some 33), .fieldAddr 1 (.t 3), none, .read, 0⟩, ⟨(some 34), .load none (.t 33), none, .read, 0⟩, ⟨(some 35), .indexAddr 6 (.t 32) (.t 34), none, .read, 0⟩, ⟨(some 36), .load (some 6) (.t 35), none, .read, 0⟩, ⟨(some 37), .load (some 9) (.t 3), none, .read, 0⟩, ⟨(some 38), .call (.c (.func 150 [])) [(.t 36), (.t 37)], none, .write, 0⟩, ⟨(some 28), .move (.t 38), none, .read, 1⟩, ⟨(some 39), .extract (.t 28) 0, none, .read, 1⟩, ⟨(some 40), .extract (.t 28) 1, none, .read, 1⟩, ⟨(some 6), .move (.t 39), none, .read, 1⟩, ⟨(some 7), .move (.t 40), none, .read, 1⟩])
 (.seq (.block 1 (.seq (.region [⟨(some 42), .move (.t 7), none, .write, 0⟩, ⟨(some 43), .eqn 4 true (.t 42) (.c .nili), none, .write, 0⟩, ⟨(some 41), .move (.t 43), none, .write, 0⟩])
 (.cond (.t 41) (.seq (.region [⟨(some 44), .build [(.int .i64 0), (.int .i64 0), (.int .i64 0), (.int .i64 0), (.int .i64 0), (.int .i64 0), .nsl] [], none, .write, 0⟩, ⟨(some 45), .move (.t 7), none, .write, 0⟩, ⟨none, .store 7 (.t 4) (.t 44), none, .write, 0⟩, ⟨(some 5), .move (.t 45), none, .write, 0⟩])
 .ret) (.seq (.region [⟨(some 47), .move (.t 0), none, .write, 0⟩, ⟨(some 48), .nilCheck (.t 47), none, .write, 0⟩, ⟨(some 49), .fieldAddr 3 (.t 48), none, .write, 0⟩, ⟨(some 50), .load none (.t 49), none, .write, 0⟩, ⟨(some 51), .arith .eql (.t 50) (.c (.int .i64 400)), none, .write, 0⟩, ⟨(some 46), .move (.t 51), none, .write, 0⟩])
 (.cond (.t 46) (.seq (.region [⟨(some 52), .build [(.int .i64 0), (.int .i64 0), (.int .i64 0), (.int .i64 0), (.int .i64 0), (.int .i64 0), .nsl] [], none, .write, 0⟩, ⟨(some 53), .makeIface 30 (.c (.int .i64 7)), none, .write, 0⟩, ⟨none, .store 7 (.t 4) (.t 52), none, .write, 0⟩, ⟨(some 5), .move (.t 53), none, .write, 0⟩])
 .ret) .skip)))))
 (.seq (.region [⟨(some 54), .fieldAddr 7 (.t 3), none, .write, 0⟩, ⟨(some 55), .load none (.t 54), none, .write, 0⟩, ⟨(some 56), .call (.c (.func 151 [])) [(.t 55)], none, .write, 0⟩, ⟨(some 57), .fieldAddr 7 (.t 3), none, .write, 0⟩, ⟨none, .store 1 (.t 57) (.t 56), none, .write, 0⟩])
 (.seq (.region [⟨(some 58), .move (.t 0), none, .write, 0⟩, ⟨(some 59), .load (some 9) (.t 3), none, .write, 0⟩, ⟨(some 60), .move (.t 6), none, .write, 0⟩, ⟨(some 61), .call (.c (.func 152 [])) [(.t 58), (.t 59), (.t 60)], none, .write, 0⟩, ⟨(some 62), .extract (.t 61) 0, none, .write, 0⟩, ⟨(some 63), .extract (.t 61) 1, none, .write, 0⟩, ⟨none, .store 7 (.t 4) (.t 62), none, .write, 0⟩, ⟨(some 5), .move (.t 63), none, .write, 0⟩])
 .ret)))))) }

theorem c77 : compFunc Tryz.prog Tryz.f77 .full = some t77 := by kernel_rfl

/-- broadside/graph.joined -/
def t83 : DFunc := { ntmps := 14, results := [(.cell 2 (some 2))], mode := .full, body :=
 (.seq (.region [⟨(some 1), .box 48 2 (.t 0), none, .write, 0⟩, ⟨(some 2), .alloc 48 2 (.agg [(.int .i64 0), (.int .i64 0)]), none, .write, 0⟩])
 (.seq (.region [⟨(some 3), .indexArr 2 1 (.t 1) (.c (.int .i64 0)), none, .write, 0⟩, ⟨(some 4), .load none (.t 3), none, .write, 0⟩, ⟨(some 5), .indexArr 2 1 (.t 1) (.c (.int .i64 1)), none, .write, 0⟩, ⟨(some 6), .load none (.t 5), none, .write, 0⟩, ⟨(some 7), .minmax false (.t 4) (.t 6), none, .write, 0⟩, ⟨(some 8), .indexArr 2 1 (.t 1) (.c (.int .i64 0)), none, .write, 0⟩, ⟨(some 9), .load none (.t 8), none, .write, 0⟩, ⟨(some 10), .indexArr 2 1 (.t 1) (.c (.int .i64 1)), none, .write, 0⟩, ⟨(some 11), .load none (.t 10), none, .write, 0⟩, ⟨(some 12), .minmax true (.t 9) (.t 11), none, .write, 0⟩, ⟨(some 13), .build [(.int .i64 0), (.int .i64 0)] [(0, 1, (.t 7)), (1, 1, (.t 12))], none, .write, 0⟩, ⟨none, .store 2 (.t 2) (.t 13), none, .write, 0⟩])
 .ret)) }

theorem c83 : compFunc Tryz.prog Tryz.f83 .full = some t83 := by kernel_rfl

/-- broadside/graph.reach -/
def t84 : DFunc := { ntmps := 53, results := [(.t 4)], mode := .full, body :=
 (.seq (.region [⟨(some 2), .box 29 2 (.t 0), none, .write, 0⟩, ⟨(some 4), .move (.c .nmap), none, .write, 0⟩])
 (.seq (.region [⟨(some 11), .makeMap, none, .write, 0⟩, ⟨(some 12), .move (.t 1), none, .write, 0⟩, ⟨none, .mapUpdate (.prim 1) (.t 11) (.t 12) (.c (.int .i64 0)), none, .write, 0⟩, ⟨(some 13), .move (.t 11), none, .write, 0⟩, ⟨(some 5), .move (.t 13), none, .write, 0⟩])
 (.seq (.seq (.region [⟨(some 14), .move (.t 1), none, .write, 0⟩, ⟨(some 15), .buildSlice 3 1 (.int .i64 0) 1 [(0, (.t 14))], none, .write, 0⟩, ⟨(some 6), .move (.t 15), none, .write, 0⟩])
 (.block 0 (.loop (.seq (.seq (.region [⟨(some 16), .move (.t 6), none, .write, 0⟩, ⟨(some 17), .len 1 (.t 16), none, .write, 0⟩, ⟨(some 18), .arith .gtr (.t 17) (.c (.int .i64 0)), none, .write, 0⟩])
 (.cond (.t 18) .skip (.exit 0)))
 (.seq (.block 1 (.seq (.draw [⟨(some 21), .load (some 2) (.t 2), none, .read, 0⟩, ⟨(some 22), .move (.t 6), none, .read, 0⟩, ⟨(some 23), .indexAddr 1 (.t 22) (.c (.int .i64 0)), none, .read, 0⟩, ⟨(some 24), .load none (.t 23), none, .read, 0⟩, ⟨(some 25), .call (.c (.func 42 [])) [(.t 21), (.t 24)], none, .write, 0⟩, ⟨(some 26), .len 1 (.t 25), none, .read, 1⟩, ⟨(some 27), .move (.c (.int .i64 0)), none, .read, 0⟩])
 (.block 2 (.loop (.seq (.region [⟨(some 28), .arith .lss (.t 27) (.t 26), none, .write, 0⟩])
 (.seq (.cond (.t 28) .skip (.exit 2))
 (.seq (.block 3 (.seq (.region [⟨(some 29), .indexAddr 1 (.t 25) (.t 27), none, .write, 0⟩, ⟨(some 30), .load none (.t 29), none, .write, 0⟩, ⟨(some 8), .move (.t 30), none, .write, 0⟩])
 (.seq (.region [⟨(some 32), .move (.t 5), none, .write, 0⟩, ⟨(some 33), .move (.t 8), none, .write, 0⟩, ⟨(some 34), .lookup (.prim 1) (.int .i64 0) true (.t 32) (.t 33), none, .write, 0⟩, ⟨(some 31), .move (.t 34), none, .write, 0⟩, ⟨(some 35), .extract (.t 31) 0, none, .write, 0⟩, ⟨(some 36), .extract (.t 31) 1, none, .write, 0⟩, ⟨(some 9), .move (.t 35), none, .write, 0⟩, ⟨(some 10), .move (.t 36), none, .write, 0⟩])
 (.seq (.region [⟨(some 37), .move (.t 10), none, .write, 0⟩, ⟨(some 38), .un .not (.t 37), none, .write, 0⟩])
 (.cond (.t 38) (.seq (.region [⟨(some 39), .move (.t 5), none, .write, 0⟩, ⟨(some 40), .move (.t 8), none, .write, 0⟩, ⟨(some 41), .move (.t 5), none, .write, 0⟩, ⟨(some 42), .move (.t 6), none, .write, 0⟩, ⟨(some 43), .indexAddr 1 (.t 42) (.c (.int .i64 0)), none, .write, 0⟩, ⟨(some 44), .load none (.t 43), none, .write, 0⟩, ⟨(some 45), .lookup (.prim 1) (.int .i64 0) false (.t 41) (.t 44), none, .write, 0⟩, ⟨(some 46), .arith .add (.t 45) (.c (.int .i64 1)), none, .write, 0⟩, ⟨none, .mapUpdate (.prim 1) (.t 39) (.t 40) (.t 46), none, .write, 0⟩])
 (.region [⟨(some 47), .move (.t 6), none, .write, 0⟩, ⟨(some 48), .move (.t 8), none, .write, 0⟩, ⟨(some 49), .buildSlice 3 1 (.int .i64 0) 1 [(0, (.t 48))], none, .write, 0⟩, ⟨(some 50), .append 3 1 8 (.t 47) (.t 49), none, .write, 0⟩, ⟨(some 6), .move (.t 50), none, .write, 0⟩])) .skip)))))
 (.region [⟨(some 51), .arith .add (.t 27) (.c (.int .i64 1)), none, .write, 0⟩, ⟨(some 27), .move (.t 51), none, .write, 0⟩]))))))))
 (.region [⟨(some 19), .move (.t 6), none, .write, 0⟩, ⟨(some 20), .sliceSl 1 (.t 19) (some (.c (.int .i64 1))) none, none, .write, 0⟩, ⟨(some 6), .move (.t 20), none, .write, 0⟩]))))))
 (.seq (.region [⟨(some 52), .move (.t 5), none, .write, 0⟩, ⟨(some 4), .move (.t 52), none, .write, 0⟩])
 .ret)))) }

theorem c84 : compFunc Tryz.prog Tryz.f84 .full = some t84 := by kernel_rfl

/-- slices.Sort[[]int,int] -/
def t87 : DFunc := { ntmps := 11, results := [], mode := .full, body :=
 (.seq (.region [⟨(some 3), .move (.t 0), none, .write, 0⟩, ⟨(some 4), .len 1 (.t 3), none, .write, 0⟩, ⟨(some 2), .move (.t 4), none, .write, 0⟩])
 (.region [⟨(some 5), .move (.t 0), none, .write, 0⟩, ⟨(some 6), .move (.t 2), none, .write, 0⟩, ⟨(some 7), .move (.t 2), none, .write, 0⟩, ⟨(some 8), .conv .u64 (.t 7), none, .write, 0⟩, ⟨(some 9), .call (.c (.func 115 [])) [(.t 8)], none, .write, 0⟩, ⟨(some 10), .call (.c (.func 156 [])) [(.t 5), (.c (.int .i64 0)), (.t 6), (.t 9)], none, .write, 0⟩])) }

theorem c87 : compFunc Tryz.prog Tryz.f87 .full = some t87 := by kernel_rfl

/-- slices.Compact[[]int,int] -/
def t88 : DFunc := { ntmps := 61, results := [(.t 2)], mode := .full, body :=
 (.seq (.region [⟨(some 2), .move (.c .nsl), none, .write, 0⟩])
 (.seq (.seq (.region [⟨(some 6), .move (.t 0), none, .write, 0⟩, ⟨(some 7), .len 1 (.t 6), none, .write, 0⟩, ⟨(some 8), .arith .lss (.t 7) (.c (.int .i64 2)), none, .write, 0⟩])
 (.cond (.t 8) (.seq (.region [⟨(some 9), .move (.t 0), none, .write, 0⟩, ⟨(some 2), .move (.t 9), none, .write, 0⟩])
 .ret) .skip))
 (.seq (.seq (.region [⟨(some 3), .move (.c (.int .i64 1)), none, .write, 0⟩])
 (.block 0 (.loop (.seq (.seq (.region [⟨(some 10), .move (.t 3), none, .write, 0⟩, ⟨(some 11), .move (.t 0), none, .write, 0⟩, ⟨(some 12), .len 1 (.t 11), none, .write, 0⟩, ⟨(some 13), .arith .lss (.t 10) (.t 12), none, .write, 0⟩])
 (.cond (.t 13) .skip (.exit 0)))
 (.seq (.block 1 (.seq (.draw [⟨(some 16), .move (.t 0), none, .read, 0⟩, ⟨(some 17), .move (.t 3), none, .read, 0⟩, ⟨(some 18), .indexAddr 1 (.t 16) (.t 17), none, .read, 0⟩, ⟨(some 19), .load none (.t 18), none, .read, 0⟩, ⟨(some 20), .move (.t 0), none, .read, 0⟩, ⟨(some 21), .move (.t 3), none, .read, 0⟩, ⟨(some 22), .arith .sub (.t 21) (.c (.int .i64 1)), none, .read, 0⟩, ⟨(some 23), .indexAddr 1 (.t 20) (.t 22), none, .read, 0⟩, ⟨(some 24), .load none (.t 23), none, .read, 0⟩, ⟨(some 25), .arith .eql (.t 19) (.t 24), none, .read, 0⟩])
 (.cond (.t 25) (.seq (.region [⟨(some 26), .move (.t 0), none, .write, 0⟩, ⟨(some 27), .move (.t 3), none, .write, 0⟩, ⟨(some 28), .sliceSl 1 (.t 26) (some (.t 27)) none, none, .write, 0⟩, ⟨(some 4), .move (.t 28), none, .write, 0⟩])
 (.seq (.seq (.region [⟨(some 5), .move (.c (.int .i64 1)), none, .write, 0⟩])
 (.block 2 (.loop (.seq (.seq (.region [⟨(some 29), .move (.t 5), none, .write, 0⟩, ⟨(some 30), .move (.t 4), none, .write, 0⟩, ⟨(some 31), .len 1 (.t 30), none, .write, 0⟩, ⟨(some 32), .arith .lss (.t 29) (.t 31), none, .write, 0⟩])
 (.cond (.t 32) .skip (.exit 2)))
 (.seq (.block 3 (.seq (.draw [⟨(some 35), .move (.t 4), none, .read, 0⟩, ⟨(some 36), .move (.t 5), none, .read, 0⟩, ⟨(some 37), .indexAddr 1 (.t 35) (.t 36), none, .read, 0⟩, ⟨(some 38), .load none (.t 37), none, .read, 0⟩, ⟨(some 39), .move (.t 4), none, .read, 0⟩, ⟨(some 40), .move (.t 5), none, .read, 0⟩, ⟨(some 41), .arith .sub (.t 40) (.c (.int .i64 1)), none, .read, 0⟩, ⟨(some 42), .indexAddr 1 (.t 39) (.t 41), none, .read, 0⟩, ⟨(some 43), .load none (.t 42), none, .read, 0⟩, ⟨(some 44), .arith .neq (.t 38) (.t 43), none, .read, 0⟩])
 (.cond (.t 44) (.seq (.region [⟨(some 45), .move (.t 0), none, .write, 0⟩, ⟨(some 46), .move (.t 3), none, .write, 0⟩, ⟨(some 47), .move (.t 4), none, .write, 0⟩, ⟨(some 48), .move (.t 5), none, .write, 0⟩, ⟨(some 49), .indexAddr 1 (.t 47) (.t 48), none, .write, 0⟩, ⟨(some 50), .load none (.t 49), none, .write, 0⟩, ⟨(some 51), .indexAddr 1 (.t 45) (.t 46), none, .write, 0⟩, ⟨none, .store 1 (.t 51) (.t 50), none, .write, 0⟩])
 (.region [⟨(some 52), .move (.t 3), none, .write, 0⟩, ⟨(some 53), .arith .add (.t 52) (.c (.int .i64 1)), none, .write, 0⟩, ⟨(some 3), .move (.t 53), none, .write, 0⟩])) .skip)))
 (.region [⟨(some 33), .move (.t 5), none, .write, 0⟩, ⟨(some 34), .arith .add (.t 33) (.c (.int .i64 1)), none, .write, 0⟩, ⟨(some 5), .move (.t 34), none, .write, 0⟩]))))))
 (.seq (.region [⟨(some 54), .move (.t 0), none, .write, 0⟩, ⟨(some 55), .move (.t 3), none, .write, 0⟩, ⟨(some 56), .sliceSl 1 (.t 54) (some (.t 55)) none, none, .write, 0⟩, ⟨none, .clear 1 (.int .i64 0) (.t 56), none, .write, 0⟩])
 (.seq (.region [⟨(some 57), .move (.t 0), none, .write, 0⟩, ⟨(some 58), .move (.t 3), none, .write, 0⟩, ⟨(some 59), .sliceSl 1 (.t 57) none (some (.t 58)), none, .write, 0⟩, ⟨(some 2), .move (.t 59), none, .write, 0⟩])
 .ret)))) .skip)))
 (.region [⟨(some 14), .move (.t 3), none, .write, 0⟩, ⟨(some 15), .arith .add (.t 14) (.c (.int .i64 1)), none, .write, 0⟩, ⟨(some 3), .move (.t 15), none, .write, 0⟩]))))))
 (.seq (.region [⟨(some 60), .move (.t 0), none, .write, 0⟩, ⟨(some 2), .move (.t 60), none, .write, 0⟩])
 .ret)))) }

theorem c88 : compFunc Tryz.prog Tryz.f88 .full = some t88 := by kernel_rfl

/-- broadside/queue.none -/
def t89 : DFunc := { ntmps := 6, results := [(.t 2)], mode := .full, body :=
 (.seq (.region [⟨(some 2), .move (.c .nili), none, .write, 0⟩])
 (.seq (.region [⟨(some 3), .move (.t 0), none, .write, 0⟩, ⟨(some 4), .makeIface 30 (.c (.int .i64 8)), none, .write, 0⟩, ⟨(some 5), .call (.c (.func 33 [])) [(.c (.str [113, 117, 101, 117, 101])), (.t 3), (.t 4)], none, .write, 0⟩, ⟨(some 2), .move (.t 5), none, .write, 0⟩])
 .ret)) }

theorem c89 : compFunc Tryz.prog Tryz.f89 .full = some t89 := by kernel_rfl

/-- broadside/flood.Unadvertise -/
def t90 : DFunc := { ntmps := 26, results := [(.cell 6 (some 6)), (.t 7)], mode := .full, body :=
 (.seq (.region [⟨(some 3), .box 79 6 (.t 0), none, .write, 0⟩, ⟨(some 5), .box 32 2 (.t 2), none, .write, 0⟩, ⟨(some 6), .alloc 79 6 (.agg [(.int .i64 0), .nsl, .nsl, .nsl, .nsl, .nsl]), none, .write, 0⟩, ⟨(some 7), .move (.c .nsl), none, .write, 0⟩])
 (.seq (.region [⟨(some 11), .load (some 6) (.t 3), none, .write, 0⟩, ⟨(some 12), .load (some 2) (.t 5), none, .write, 0⟩, ⟨(some 13), .move (.t 1), none, .write, 0⟩, ⟨(some 14), .call (.c (.func 157 [])) [(.t 11), (.t 12), (.t 13)], none, .write, 0⟩, ⟨(some 10), .move (.t 14), none, .write, 0⟩, ⟨(some 15), .extract (.t 10) 0, none, .write, 0⟩, ⟨(some 16), .extract (.t 10) 1, none, .write, 0⟩, ⟨(some 8), .alloc 79 6 (.agg [(.int .i64 0), .nsl, .nsl, .nsl, .nsl, .nsl]), none, .write, 0⟩, ⟨none, .store 6 (.t 8) (.t 15), none, .write, 0⟩, ⟨(some 9), .move (.t 16), none, .write, 0⟩])
 (.seq (.seq (.region [⟨(some 17), .move (.t 9), none, .write, 0⟩, ⟨(some 18), .un .not (.t 17), none, .write, 0⟩])
 (.cond (.t 18) (.seq (.region [⟨(some 19), .load (some 6) (.t 3), none, .write, 0⟩, ⟨none, .store 6 (.t 6) (.t 19), none, .write, 0⟩, ⟨(some 7), .move (.c .nsl), none, .write, 0⟩])
 .ret) .skip))
 (.seq (.draw [⟨(some 20), .load (some 6) (.t 8), none, .read, 0⟩, ⟨(some 21), .load (some 6) (.t 3), none, .read, 0⟩, ⟨(some 23), .load (some 2) (.t 5), none, .read, 0⟩, ⟨(some 22), .move (.t 1), none, .read, 0⟩, ⟨(some 24), .build [(.int .i64 0), (.int .i64 0), (.int .i64 0), (.int .i64 0), (.int .i64 0), .nsl, .nsl] [(0, 1, (.c (.int .i64 2))), (1, 2, (.t 23))], none, .read, 0⟩, ⟨(some 25), .call (.c (.func 96 [])) [(.t 21), (.t 22), (.t 24)], none, .create, 0⟩, ⟨none, .store 6 (.t 6) (.t 20), none, .write, 1⟩, ⟨(some 7), .move (.t 25), none, .read, 2⟩])
 .ret)))) }

theorem c90 : compFunc Tryz.prog Tryz.f90 .full = some t90 := by kernel_rfl

/-- broadside/route.OnSub -/
def t91 : DFunc := { ntmps := 20, results := [(.cell 6 (some 6)), (.t 7)], mode := .full, body :=
 (.seq (.region [⟨(some 3), .box 79 6 (.t 0), none, .write, 0⟩, ⟨(some 5), .box 102 7 (.t 2), none, .write, 0⟩, ⟨(some 6), .alloc 79 6 (.agg [(.int .i64 0), .nsl, .nsl, .nsl, .nsl, .nsl]), none, .write, 0⟩, ⟨(some 7), .move (.c .nsl), none, .write, 0⟩])
 (.seq (.region [⟨(some 8), .load (some 6) (.t 3), none, .write, 0⟩, ⟨(some 9), .fieldAddr 1 (.t 5), none, .write, 0⟩, ⟨(some 10), .load (some 2) (.t 9), none, .write, 0⟩, ⟨(some 11), .fieldAddr 3 (.t 5), none, .write, 0⟩, ⟨(some 12), .load (some 2) (.t 11), none, .write, 0⟩, ⟨(some 13), .fieldAddr 5 (.t 5), none, .write, 0⟩, ⟨(some 14), .load none (.t 13), none, .write, 0⟩, ⟨(some 15), .move (.t 1), none, .write, 0⟩, ⟨(some 16), .build [(.int .i64 0), (.int .i64 0), (.int .i64 0), (.int .i64 0), .nsl, (.int .i64 0), (.bool false)] [(0, 2, (.t 10)), (2, 2, (.t 12)), (4, 1, (.t 14)), (5, 1, (.t 15))], none, .write, 0⟩, ⟨(some 17), .call (.c (.func 103 [])) [(.t 8), (.t 16)], none, .write, 0⟩, ⟨(some 18), .extract (.t 17) 0, none, .write, 0⟩, ⟨(some 19), .extract (.t 17) 1, none, .write, 0⟩, ⟨none, .store 6 (.t 6) (.t 18), none, .write, 0⟩, ⟨(some 7), .move (.t 19), none, .write, 0⟩])
 .ret)) }

theorem c91 : compFunc Tryz.prog Tryz.f91 .full = some t91 := by kernel_rfl

/-- broadside/route.OnUnsub -/
def t92 : DFunc := { ntmps := 17, results := [(.cell 6 (some 6)), (.t 7)], mode := .full, body :=
 (.seq (.region [⟨(some 3), .box 79 6 (.t 0), none, .write, 0⟩, ⟨(some 5), .box 102 7 (.t 2), none, .write, 0⟩, ⟨(some 6), .alloc 79 6 (.agg [(.int .i64 0), .nsl, .nsl, .nsl, .nsl, .nsl]), none, .write, 0⟩, ⟨(some 7), .move (.c .nsl), none, .write, 0⟩])
 (.seq (.region [⟨(some 8), .load (some 6) (.t 3), none, .write, 0⟩, ⟨(some 9), .fieldAddr 1 (.t 5), none, .write, 0⟩, ⟨(some 10), .load (some 2) (.t 9), none, .write, 0⟩, ⟨(some 11), .fieldAddr 3 (.t 5), none, .write, 0⟩, ⟨(some 12), .load (some 2) (.t 11), none, .write, 0⟩, ⟨(some 13), .move (.t 1), none, .write, 0⟩, ⟨(some 14), .call (.c (.func 158 [])) [(.t 8), (.t 10), (.t 12), (.t 13)], none, .write, 0⟩, ⟨(some 15), .extract (.t 14) 0, none, .write, 0⟩, ⟨(some 16), .extract (.t 14) 1, none, .write, 0⟩, ⟨none, .store 6 (.t 6) (.t 15), none, .write, 0⟩, ⟨(some 7), .move (.t 16), none, .write, 0⟩])
 .ret)) }

theorem c92 : compFunc Tryz.prog Tryz.f92 .full = some t92 := by kernel_rfl

/-- (*broadside/queue.Queues).Push -/
def t93 : DFunc := { ntmps := 34, results := [(.t 8)], mode := .full, body :=
 (.seq (.region [⟨(some 8), .move (.c .nili), none, .write, 0⟩])
 (.seq (.seq (.region [⟨(some 10), .move (.t 0), none, .write, 0⟩, ⟨(some 11), .move (.t 1), none, .write, 0⟩, ⟨(some 12), .move (.t 2), none, .write, 0⟩, ⟨(some 13), .call (.c (.func 159 [])) [(.t 10), (.t 11), (.t 12)], none, .write, 0⟩, ⟨(some 14), .un .not (.t 13), none, .write, 0⟩])
 (.cond (.t 14) (.seq (.region [⟨(some 15), .move (.t 1), none, .write, 0⟩, ⟨(some 16), .call (.c (.func 89 [])) [(.t 15)], none, .write, 0⟩, ⟨(some 8), .move (.t 16), none, .write, 0⟩])
 .ret) .skip))
 (.seq (.region [⟨(some 17), .move (.t 1), none, .write, 0⟩, ⟨(some 18), .move (.t 2), none, .write, 0⟩, ⟨(some 19), .build [(.int .i64 0), (.int .i64 0)] [(0, 1, (.t 17)), (1, 1, (.t 18))], none, .write, 0⟩, ⟨(some 9), .alloc 48 2 (.agg [(.int .i64 0), (.int .i64 0)]), none, .write, 0⟩, ⟨none, .store 2 (.t 9) (.t 19), none, .write, 0⟩])
 (.seq (.draw [⟨(some 20), .move (.t 0), none, .read, 0⟩, ⟨(some 21), .nilCheck (.t 20), none, .read, 0⟩, ⟨(some 22), .fieldAddr 1 (.t 21), none, .read, 0⟩, ⟨(some 23), .load none (.t 22), none, .read, 0⟩, ⟨(some 24), .load (some 2) (.t 9), none, .read, 0⟩, ⟨(some 25), .move (.t 0), none, .read, 0⟩, ⟨(some 26), .nilCheck (.t 25), none, .read, 0⟩, ⟨(some 27), .fieldAddr 1 (.t 26), none, .read, 0⟩, ⟨(some 28), .load none (.t 27), none, .read, 0⟩, ⟨(some 29), .load (some 2) (.t 9), none, .read, 0⟩, ⟨(some 30), .lookup (.agg [1, 1]) .nsl false (.t 28) (.t 29), none, .read, 0⟩, ⟨(some 31), .move (.t 3), none, .read, 0⟩, ⟨(some 32), .buildSlice 177 1 .nsl 2 [(0, (.t 30)), (1, (.t 31))], none, .create, 0⟩, ⟨(some 33), .call (.c (.func 160 [])) [(.t 32)], none, .create, 0⟩, ⟨none, .mapUpdate (.agg [1, 1]) (.t 23) (.t 24) (.t 33), none, .write, 2⟩])
 (.seq (.region [⟨(some 8), .move (.c .nili), none, .write, 0⟩])
 .ret))))) }

theorem c93 : compFunc Tryz.prog Tryz.f93 .full = some t93 := by kernel_rfl

/-- (*broadside/net.Net).there -/
def t94 : DFunc := { ntmps := 16, results := [(.t 4)], mode := .full, body :=
 (.seq (.region [⟨(some 4), .move (.c (.bool false)), none, .write, 0⟩])
 (.seq (.region [⟨(some 5), .move (.t 1), none, .write, 0⟩, ⟨(some 6), .arith .geq (.t 5) (.c (.int .i64 0)), none, .write, 0⟩, ⟨(some 7), .move (.t 6), none, .write, 0⟩, ⟨(some 8), .move (.t 1), (some (7, true)), .write, 0⟩, ⟨(some 9), .move (.t 0), (some (7, true)), .write, 0⟩, ⟨(some 10), .nilCheck (.t 9), (some (7, true)), .write, 0⟩, ⟨(some 11), .fieldAddr 2 (.t 10), (some (7, true)), .write, 0⟩, ⟨(some 12), .load none (.t 11), (some (7, true)), .write, 0⟩, ⟨(some 13), .len 1 (.t 12), (some (7, true)), .write, 0⟩, ⟨(some 14), .arith .lss (.t 8) (.t 13), (some (7, true)), .write, 0⟩, ⟨(some 15), .pick (.t 7) (.t 14) (.c (.bool false)), none, .write, 0⟩, ⟨(some 4), .move (.t 15), none, .write, 0⟩])
 .ret)) }

theorem c94 : compFunc Tryz.prog Tryz.f94 .full = some t94 := by kernel_rfl

/-- broadside/adverts.Learn -/
def t95 : DFunc := { ntmps := 44, results := [(.cell 4 (some 6)), (.t 5)], mode := .full, body :=
 (.seq (.region [⟨(some 2), .box 79 6 (.t 0), none, .write, 0⟩, ⟨(some 3), .box 120 4 (.t 1), none, .write, 0⟩, ⟨(some 4), .alloc 79 6 (.agg [(.int .i64 0), .nsl, .nsl, .nsl, .nsl, .nsl]), none, .write, 0⟩, ⟨(some 5), .move (.c (.bool false)), none, .write, 0⟩])
 (.seq (.region [⟨(some 10), .load (some 6) (.t 2), none, .write, 0⟩, ⟨(some 11), .call (.c (.func 161 [])) [(.t 10)], none, .write, 0⟩, ⟨none, .store 6 (.t 2) (.t 11), none, .write, 0⟩])
 (.seq (.region [⟨(some 13), .load (some 6) (.t 2), none, .write, 0⟩, ⟨(some 14), .fieldAddr 0 (.t 3), none, .write, 0⟩, ⟨(some 15), .load (some 2) (.t 14), none, .write, 0⟩, ⟨(some 16), .call (.c (.func 162 [])) [(.t 13), (.t 15)], none, .write, 0⟩, ⟨(some 12), .move (.t 16), none, .write, 0⟩, ⟨(some 17), .extract (.t 12) 0, none, .write, 0⟩, ⟨(some 18), .extract (.t 12) 1, none, .write, 0⟩, ⟨(some 6), .move (.t 17), none, .write, 0⟩, ⟨(some 7), .move (.t 18), none, .write, 0⟩])
 (.seq (.seq (.region [⟨(some 19), .move (.t 7), none, .write, 0⟩])
 (.cond (.t 19) (.seq (.region [⟨(some 20), .load (some 6) (.t 2), none, .write, 0⟩, ⟨none, .store 6 (.t 4) (.t 20), none, .write, 0⟩, ⟨(some 5), .move (.c (.bool false)), none, .write, 0⟩])
 .ret) .skip))
 (.seq (.region [⟨(some 22), .load (some 6) (.t 2), none, .write, 0⟩, ⟨(some 23), .fieldAddr 0 (.t 3), none, .write, 0⟩, ⟨(some 24), .load (some 2) (.t 23), none, .write, 0⟩, ⟨(some 25), .call (.c (.func 106 [])) [(.t 22), (.t 24)], none, .write, 0⟩, ⟨(some 21), .move (.t 25), none, .write, 0⟩, ⟨(some 26), .extract (.t 21) 0, none, .write, 0⟩, ⟨(some 27), .extract (.t 21) 1, none, .write, 0⟩, ⟨(some 8), .move (.t 26), none, .write, 0⟩, ⟨(some 9), .move (.t 27), none, .write, 0⟩])
 (.seq (.region [⟨(some 28), .fieldAddr 2 (.t 2), none, .write, 0⟩, ⟨(some 29), .load none (.t 28), none, .write, 0⟩, ⟨(some 30), .move (.t 8), none, .write, 0⟩, ⟨(some 31), .load (some 4) (.t 3), none, .write, 0⟩, ⟨(some 32), .buildSlice 120 4 (.agg [(.int .i64 0), (.int .i64 0), .nsl, (.int .i64 0)]) 1 [(0, (.t 31))], none, .write, 0⟩, ⟨(some 33), .call (.c (.func 163 [])) [(.t 29), (.t 30), (.t 32)], none, .write, 0⟩, ⟨(some 34), .fieldAddr 2 (.t 2), none, .write, 0⟩, ⟨none, .store 1 (.t 34) (.t 33), none, .write, 0⟩])
 (.seq (.region [⟨(some 35), .fieldAddr 3 (.t 2), none, .write, 0⟩, ⟨(some 36), .load none (.t 35), none, .write, 0⟩, ⟨(some 37), .move (.t 6), none, .write, 0⟩, ⟨(some 38), .fieldAddr 0 (.t 3), none, .write, 0⟩, ⟨(some 39), .load (some 2) (.t 38), none, .write, 0⟩, ⟨(some 40), .buildSlice 32 2 (.agg [(.int .i64 0), (.int .i64 0)]) 1 [(0, (.t 39))], none, .write, 0⟩, ⟨(some 41), .call (.c (.func 164 [])) [(.t 36), (.t 37), (.t 40)], none, .write, 0⟩, ⟨(some 42), .fieldAddr 3 (.t 2), none, .write, 0⟩, ⟨none, .store 1 (.t 42) (.t 41), none, .write, 0⟩])
 (.seq (.region [⟨(some 43), .load (some 6) (.t 2), none, .write, 0⟩, ⟨none, .store 6 (.t 4) (.t 43), none, .write, 0⟩, ⟨(some 5), .move (.c (.bool true)), none, .write, 0⟩])
 .ret)))))))) }

theorem c95 : compFunc Tryz.prog Tryz.f95 .full = some t95 := by kernel_rfl

/-- broadside/flood.Others -/
def t96 : DFunc := { ntmps := 28, results := [(.t 6)], mode := .full, body :=
 (.seq (.region [⟨(some 3), .box 79 6 (.t 0), none, .write, 0⟩, ⟨(some 5), .box 102 7 (.t 2), none, .write, 0⟩, ⟨(some 6), .move (.c .nsl), none, .write, 0⟩])
 (.seq (.region [⟨(some 7), .move (.c .nsl), none, .write, 0⟩])
 (.seq (.seq (.region [⟨(some 10), .fieldAddr 1 (.t 3), none, .write, 0⟩, ⟨(some 11), .load none (.t 10), none, .write, 0⟩, ⟨(some 12), .len 1 (.t 11), none, .write, 0⟩, ⟨(some 13), .move (.c (.int .i64 0)), none, .write, 0⟩])
 (.block 0 (.loop (.seq (.region [⟨(some 14), .arith .lss (.t 13) (.t 12), none, .write, 0⟩])
 (.seq (.cond (.t 14) .skip (.exit 0))
 (.seq (.block 1 (.seq (.region [⟨(some 15), .indexAddr 1 (.t 11) (.t 13), none, .write, 0⟩, ⟨(some 16), .load none (.t 15), none, .write, 0⟩, ⟨(some 9), .move (.t 16), none, .write, 0⟩])
 (.seq (.region [⟨(some 17), .move (.t 9), none, .write, 0⟩, ⟨(some 18), .move (.t 1), none, .write, 0⟩, ⟨(some 19), .arith .neq (.t 17) (.t 18), none, .write, 0⟩])
 (.cond (.t 19) (.region [⟨(some 20), .move (.t 7), none, .write, 0⟩, ⟨(some 21), .move (.t 9), none, .write, 0⟩, ⟨(some 22), .load (some 7) (.t 5), none, .write, 0⟩, ⟨(some 23), .build [(.int .i64 0), (.int .i64 0), (.int .i64 0), (.int .i64 0), (.int .i64 0), (.int .i64 0), .nsl, .nsl] [(0, 1, (.t 21)), (1, 7, (.t 22))], none, .write, 0⟩, ⟨(some 24), .buildSlice 182 8 (.agg [(.int .i64 0), (.int .i64 0), (.int .i64 0), (.int .i64 0), (.int .i64 0), (.int .i64 0), .nsl, .nsl]) 1 [(0, (.t 23))], none, .write, 0⟩, ⟨(some 25), .append 182 8 96 (.t 20) (.t 24), none, .write, 0⟩, ⟨(some 7), .move (.t 25), none, .write, 0⟩]) .skip))))
 (.region [⟨(some 26), .arith .add (.t 13) (.c (.int .i64 1)), none, .write, 0⟩, ⟨(some 13), .move (.t 26), none, .write, 0⟩])))))))
 (.seq (.region [⟨(some 27), .move (.t 7), none, .write, 0⟩, ⟨(some 6), .move (.t 27), none, .write, 0⟩])
 .ret)))) }

theorem c96 : compFunc Tryz.prog Tryz.f96 .full = some t96 := by kernel_rfl

/-- broadside/rel.Meets -/
def t97 : DFunc := { ntmps := 14, results := [(.t 4)], mode := .full, body :=
 (.seq (.region [⟨(some 4), .move (.c (.bool false)), none, .write, 0⟩])
 (.seq (.region [⟨(some 8), .move (.t 0), none, .write, 0⟩, ⟨(some 9), .move (.t 1), none, .write, 0⟩, ⟨(some 10), .call (.c (.func 165 [])) [(.t 8), (.t 9)], none, .write, 0⟩, ⟨(some 7), .move (.t 10), none, .write, 0⟩, ⟨(some 11), .extract (.t 7) 0, none, .write, 0⟩, ⟨(some 12), .extract (.t 7) 1, none, .write, 0⟩, ⟨(some 5), .move (.t 11), none, .write, 0⟩, ⟨(some 6), .move (.t 12), none, .write, 0⟩])
 (.seq (.region [⟨(some 13), .move (.t 6), none, .write, 0⟩, ⟨(some 4), .move (.t 13), none, .write, 0⟩])
 .ret))) }

theorem c97 : compFunc Tryz.prog Tryz.f97 .full = some t97 := by kernel_rfl

/-- broadside/subs.Add -/
def t98 : DFunc := { ntmps := 73, results := [(.cell 4 (some 6)), (.t 5)], mode := .full, body :=
 (.seq (.region [⟨(some 2), .box 79 6 (.t 0), none, .write, 0⟩, ⟨(some 3), .box 192 7 (.t 1), none, .write, 0⟩, ⟨(some 4), .alloc 79 6 (.agg [(.int .i64 0), .nsl, .nsl, .nsl, .nsl, .nsl]), none, .write, 0⟩, ⟨(some 5), .move (.c (.bool false)), none, .write, 0⟩])
 (.seq (.region [⟨(some 11), .fieldAddr 4 (.t 2), none, .write, 0⟩, ⟨(some 12), .load none (.t 11), none, .write, 0⟩, ⟨(some 13), .call (.c (.func 109 [])) [(.t 12)], none, .write, 0⟩, ⟨(some 14), .fieldAddr 4 (.t 2), none, .write, 0⟩, ⟨none, .store 1 (.t 14) (.t 13), none, .write, 0⟩])
 (.seq (.region [⟨(some 16), .load (some 6) (.t 2), none, .write, 0⟩, ⟨(some 17), .fieldAddr 0 (.t 3), none, .write, 0⟩, ⟨(some 18), .load (some 2) (.t 17), none, .write, 0⟩, ⟨(some 19), .call (.c (.func 55 [])) [(.t 16), (.t 18)], none, .write, 0⟩, ⟨(some 15), .move (.t 19), none, .write, 0⟩, ⟨(some 20), .extract (.t 15) 0, none, .write, 0⟩, ⟨(some 21), .extract (.t 15) 1, none, .write, 0⟩, ⟨(some 6), .alloc 120 4 (.agg [(.int .i64 0), (.int .i64 0), .nsl, (.int .i64 0)]), none, .write, 0⟩, ⟨none, .store 4 (.t 6) (.t 20), none, .write, 0⟩, ⟨(some 7), .move (.t 21), none, .write, 0⟩])
 (.seq (.region [⟨(some 23), .load (some 6) (.t 2), none, .write, 0⟩, ⟨(some 24), .fieldAddr 0 (.t 3), none, .write, 0⟩, ⟨(some 25), .load (some 2) (.t 24), none, .write, 0⟩, ⟨(some 26), .fieldAddr 2 (.t 3), none, .write, 0⟩, ⟨(some 27), .load (some 2) (.t 26), none, .write, 0⟩, ⟨(some 28), .call (.c (.func 166 [])) [(.t 23), (.t 25), (.t 27)], none, .write, 0⟩, ⟨(some 22), .move (.t 28), none, .write, 0⟩, ⟨(some 29), .extract (.t 22) 0, none, .write, 0⟩, ⟨(some 30), .extract (.t 22) 1, none, .write, 0⟩, ⟨(some 8), .move (.t 29), none, .write, 0⟩, ⟨(some 9), .move (.t 30), none, .write, 0⟩])
 (.seq (.region [⟨(some 31), .fieldAddr 3 (.t 6), none, .write, 0⟩, ⟨(some 32), .load none (.t 31), none, .write, 0⟩, ⟨(some 33), .arith .eql (.t 32) (.c (.int .i64 (-1))), none, .write, 0⟩, ⟨(some 10), .move (.t 33), none, .write, 0⟩])
 (.seq (.seq (.region [⟨(some 34), .move (.t 7), none, .write, 0⟩, ⟨(some 35), .un .not (.t 34), none, .write, 0⟩, ⟨(some 36), .move (.t 35), none, .write, 0⟩, ⟨(some 37), .move (.t 9), (some (36, false)), .write, 0⟩, ⟨(some 38), .pick (.t 36) (.c (.bool true)) (.t 37), none, .write, 0⟩, ⟨(some 39), .move (.t 38), none, .write, 0⟩, ⟨(some 40), .fieldAddr 5 (.t 3), (some (39, false)), .write, 0⟩, ⟨(some 41), .load none (.t 40), (some (39, false)), .write, 0⟩, ⟨(some 42), .fieldAddr 3 (.t 6), (some (39, false)), .write, 0⟩, ⟨(some 43), .load none (.t 42), (some (39, false)), .write, 0⟩, ⟨(some 44), .arith .eql (.t 41) (.t 43), (some (39, false)), .write, 0⟩, ⟨(some 45), .move (.t 44), (some (39, false)), .write, 0⟩, ⟨(some 46), .move (.t 10), (some (45, true)), .write, 0⟩, ⟨(some 47), .un .not (.t 46), (some (45, true)), .write, 0⟩, ⟨(some 48), .pick (.t 45) (.t 47) (.c (.bool false)), (some (39, false)), .write, 0⟩, ⟨(some 49), .pick (.t 39) (.c (.bool true)) (.t 48), none, .write, 0⟩])
 (.cond (.t 49) (.seq (.region [⟨(some 50), .load (some 6) (.t 2), none, .write, 0⟩, ⟨none, .store 6 (.t 4) (.t 50), none, .write, 0⟩, ⟨(some 5), .move (.c (.bool false)), none, .write, 0⟩])
 .ret) .skip))
 (.seq (.region [⟨(some 51), .move (.t 10), none, .write, 0⟩, ⟨(some 52), .un .not (.t 51), none, .write, 0⟩, ⟨(some 53), .move (.t 52), none, .write, 0⟩, ⟨(some 54), .load (some 6) (.t 2), (some (53, true)), .write, 0⟩, ⟨(some 55), .fieldAddr 0 (.t 3), (some (53, true)), .write, 0⟩, ⟨(some 56), .load (some 2) (.t 55), (some (53, true)), .write, 0⟩, ⟨(some 57), .fieldAddr 4 (.t 3), (some (53, true)), .write, 0⟩, ⟨(some 58), .load none (.t 57), (some (53, true)), .write, 0⟩, ⟨(some 59), .call (.c (.func 138 [])) [(.t 54), (.t 56), (.t 58)], (some (53, true)), .write, 0⟩, ⟨(some 60), .un .not (.t 59), (some (53, true)), .write, 0⟩, ⟨(some 61), .pick (.t 53) (.t 60) (.c (.bool false)), none, .write, 0⟩, ⟨(some 62), .fieldAddr 6 (.t 3), none, .write, 0⟩, ⟨none, .store 1 (.t 62) (.t 61), none, .write, 0⟩])
 (.seq (.region [⟨(some 63), .fieldAddr 4 (.t 2), none, .write, 0⟩, ⟨(some 64), .load none (.t 63), none, .write, 0⟩, ⟨(some 65), .move (.t 8), none, .write, 0⟩, ⟨(some 66), .load (some 7) (.t 3), none, .write, 0⟩, ⟨(some 67), .buildSlice 192 7 (.agg [(.int .i64 0), (.int .i64 0), (.int .i64 0), (.int .i64 0), .nsl, (.int .i64 0), (.bool false)]) 1 [(0, (.t 66))], none, .write, 0⟩, ⟨(some 68), .call (.c (.func 167 [])) [(.t 64), (.t 65), (.t 67)], none, .write, 0⟩, ⟨(some 69), .fieldAddr 4 (.t 2), none, .write, 0⟩, ⟨none, .store 1 (.t 69) (.t 68), none, .write, 0⟩])
 (.seq (.draw [⟨(some 70), .load (some 6) (.t 2), none, .read, 0⟩, ⟨(some 71), .fieldAddr 6 (.t 3), none, .read, 0⟩, ⟨(some 72), .load none (.t 71), none, .read, 0⟩, ⟨none, .store 6 (.t 4) (.t 70), none, .create, 0⟩, ⟨(some 5), .move (.t 72), none, .read, 1⟩])
 .ret))))))))) }

theorem c98 : compFunc Tryz.prog Tryz.f98 .full = some t98 := by kernel_rfl

/-- broadside/flood.Sub -/
def t99 : DFunc := { ntmps := 10, results := [(.cell 2 (some 7))], mode := .full, body :=
 (.seq (.region [⟨(some 1), .box 192 7 (.t 0), none, .write, 0⟩, ⟨(some 2), .alloc 102 7 (.agg [(.int .i64 0), (.int .i64 0), (.int .i64 0), (.int .i64 0), (.int .i64 0), .nsl, .nsl]), none, .write, 0⟩])
 (.seq (.region [⟨(some 3), .fieldAddr 0 (.t 1), none, .write, 0⟩, ⟨(some 4), .load (some 2) (.t 3), none, .write, 0⟩, ⟨(some 5), .fieldAddr 2 (.t 1), none, .write, 0⟩, ⟨(some 6), .load (some 2) (.t 5), none, .write, 0⟩, ⟨(some 7), .fieldAddr 4 (.t 1), none, .write, 0⟩, ⟨(some 8), .load none (.t 7), none, .write, 0⟩, ⟨(some 9), .build [(.int .i64 0), (.int .i64 0), (.int .i64 0), (.int .i64 0), (.int .i64 0), .nsl, .nsl] [(0, 1, (.c (.int .i64 3))), (1, 2, (.t 4)), (3, 2, (.t 6)), (5, 1, (.t 8))], none, .write, 0⟩, ⟨none, .store 7 (.t 2) (.t 9), none, .write, 0⟩])
 .ret)) }

theorem c99 : compFunc Tryz.prog Tryz.f99 .full = some t99 := by kernel_rfl

/-- broadside/route.own -/
def t100 : DFunc := { ntmps := 12, results := [(.t 4), (.t 5)], mode := .full, body :=
 (.seq (.region [⟨(some 2), .box 79 6 (.t 0), none, .write, 0⟩, ⟨(some 3), .box 32 2 (.t 1), none, .write, 0⟩, ⟨(some 4), .move (.c (.int .i64 0)), none, .write, 0⟩, ⟨(some 5), .move (.c (.bool false)), none, .write, 0⟩])
 (.seq (.region [⟨(some 6), .fieldAddr 5 (.t 2), none, .write, 0⟩, ⟨(some 7), .load none (.t 6), none, .write, 0⟩, ⟨(some 8), .load (some 2) (.t 3), none, .write, 0⟩, ⟨(some 9), .call (.c (.func 168 [])) [(.t 7), (.t 8), (.c (.func 169 []))], none, .write, 0⟩, ⟨(some 10), .extract (.t 9) 0, none, .write, 0⟩, ⟨(some 11), .extract (.t 9) 1, none, .write, 0⟩, ⟨(some 4), .move (.t 10), none, .write, 0⟩, ⟨(some 5), .move (.t 11), none, .write, 0⟩])
 .ret)) }

theorem c100 : compFunc Tryz.prog Tryz.f100 .full = some t100 := by kernel_rfl

/-- slices.Insert[[]broadside/api.Own,broadside/api.Own] -/
def t101 : DFunc := { ntmps := 95, results := [(.t 6)], mode := .split, body :=
 (.seq (.region [⟨(some 6), .move (.c .nsl), none, .write, 0⟩])
 (.seq (.region [⟨(some 10), .move (.t 0), none, .write, 0⟩, ⟨(some 11), .move (.t 1), none, .write, 0⟩, ⟨(some 12), .sliceSl 3 (.t 10) (some (.t 11)) none, none, .write, 0⟩])
 (.seq (.region [⟨(some 13), .move (.t 2), none, .write, 0⟩, ⟨(some 14), .len 1 (.t 13), none, .write, 0⟩, ⟨(some 7), .move (.t 14), none, .write, 0⟩])
 (.seq (.seq (.region [⟨(some 15), .move (.t 7), none, .write, 0⟩, ⟨(some 16), .arith .eql (.t 15) (.c (.int .i64 0)), none, .write, 0⟩])
 (.cond (.t 16) (.seq (.region [⟨(some 17), .move (.t 0), none, .write, 0⟩, ⟨(some 6), .move (.t 17), none, .write, 0⟩])
 .ret) .skip))
 (.seq (.region [⟨(some 18), .move (.t 0), none, .write, 0⟩, ⟨(some 19), .len 1 (.t 18), none, .write, 0⟩, ⟨(some 8), .move (.t 19), none, .write, 0⟩])
 (.seq (.seq (.region [⟨(some 20), .move (.t 1), none, .write, 0⟩, ⟨(some 21), .move (.t 8), none, .write, 0⟩, ⟨(some 22), .arith .eql (.t 20) (.t 21), none, .write, 0⟩])
 (.cond (.t 22) (.seq (.region [⟨(some 23), .move (.t 0), none, .write, 0⟩, ⟨(some 24), .move (.t 2), none, .write, 0⟩, ⟨(some 25), .append 189 3 40 (.t 23) (.t 24), none, .write, 0⟩, ⟨(some 6), .move (.t 25), none, .write, 0⟩])
 .ret) .skip))
 (.seq (.seq (.region [⟨(some 26), .move (.t 8), none, .write, 0⟩, ⟨(some 27), .move (.t 7), none, .write, 0⟩, ⟨(some 28), .arith .add (.t 26) (.t 27), none, .write, 0⟩, ⟨(some 29), .move (.t 0), none, .write, 0⟩, ⟨(some 30), .cap (.t 29), none, .write, 0⟩, ⟨(some 31), .arith .gtr (.t 28) (.t 30), none, .write, 0⟩])
 (.cond (.t 31) (.seq (.region [⟨(some 32), .move (.t 0), none, .write, 0⟩, ⟨(some 33), .move (.t 1), none, .write, 0⟩, ⟨(some 34), .sliceSl 3 (.t 32) none (some (.t 33)), none, .write, 0⟩, ⟨(some 35), .move (.t 8), none, .write, 0⟩, ⟨(some 36), .move (.t 7), none, .write, 0⟩, ⟨(some 37), .arith .add (.t 35) (.t 36), none, .write, 0⟩, ⟨(some 38), .move (.t 1), none, .write, 0⟩, ⟨(some 39), .arith .sub (.t 37) (.t 38), none, .write, 0⟩, ⟨(some 40), .appendZ 189 3 40 (.agg [(.int .i64 0), (.int .i64 0), .nsl]) (.t 34) (.t 39), none, .write, 0⟩, ⟨(some 9), .move (.t 40), none, .write, 0⟩])
 (.seq (.region [⟨(some 41), .move (.t 9), none, .write, 0⟩, ⟨(some 42), .move (.t 1), none, .write, 0⟩, ⟨(some 43), .sliceSl 3 (.t 41) (some (.t 42)) none, none, .write, 0⟩, ⟨(some 44), .move (.t 2), none, .write, 0⟩, ⟨(some 45), .copy 3 (.t 43) (.t 44), none, .write, 0⟩])
 (.seq (.draw [⟨(some 46), .move (.t 9), none, .read, 0⟩, ⟨(some 47), .move (.t 1), none, .read, 0⟩, ⟨(some 48), .move (.t 7), none, .read, 0⟩, ⟨(some 49), .arith .add (.t 47) (.t 48), none, .read, 0⟩, ⟨(some 50), .sliceSl 3 (.t 46) (some (.t 49)) none, none, .read, 0⟩, ⟨(some 51), .move (.t 0), none, .read, 0⟩, ⟨(some 52), .move (.t 1), none, .read, 0⟩, ⟨(some 53), .sliceSl 3 (.t 51) (some (.t 52)) none, none, .read, 0⟩, ⟨(some 54), .copy 3 (.t 50) (.t 53), none, .write, 0⟩])
 (.seq (.region [⟨(some 55), .move (.t 9), none, .write, 0⟩, ⟨(some 6), .move (.t 55), none, .write, 0⟩])
 .ret)))) .skip))
 (.seq (.region [⟨(some 56), .move (.t 0), none, .write, 0⟩, ⟨(some 57), .move (.t 8), none, .write, 0⟩, ⟨(some 58), .move (.t 7), none, .write, 0⟩, ⟨(some 59), .arith .add (.t 57) (.t 58), none, .write, 0⟩, ⟨(some 60), .sliceSl 3 (.t 56) none (some (.t 59)), none, .write, 0⟩, ⟨(some 0), .move (.t 60), none, .write, 0⟩])
 (.seq (.seq (.region [⟨(some 61), .move (.t 2), none, .write, 0⟩, ⟨(some 62), .move (.t 0), none, .write, 0⟩, ⟨(some 63), .move (.t 1), none, .write, 0⟩, ⟨(some 64), .move (.t 7), none, .write, 0⟩, ⟨(some 65), .arith .add (.t 63) (.t 64), none, .write, 0⟩, ⟨(some 66), .sliceSl 3 (.t 62) (some (.t 65)) none, none, .write, 0⟩, ⟨(some 67), .call (.c (.func 170 [])) [(.t 61), (.t 66)], none, .write, 0⟩, ⟨(some 68), .un .not (.t 67), none, .write, 0⟩])
 (.cond (.t 68) (.seq (.draw [⟨(some 69), .move (.t 0), none, .read, 0⟩, ⟨(some 70), .move (.t 1), none, .read, 0⟩, ⟨(some 71), .move (.t 7), none, .read, 0⟩, ⟨(some 72), .arith .add (.t 70) (.t 71), none, .read, 0⟩, ⟨(some 73), .sliceSl 3 (.t 69) (some (.t 72)) none, none, .read, 0⟩, ⟨(some 74), .move (.t 0), none, .read, 0⟩, ⟨(some 75), .move (.t 1), none, .read, 0⟩, ⟨(some 76), .sliceSl 3 (.t 74) (some (.t 75)) none, none, .read, 0⟩, ⟨(some 77), .copy 3 (.t 73) (.t 76), none, .write, 0⟩])
 (.seq (.region [⟨(some 78), .move (.t 0), none, .write, 0⟩, ⟨(some 79), .move (.t 1), none, .write, 0⟩, ⟨(some 80), .sliceSl 3 (.t 78) (some (.t 79)) none, none, .write, 0⟩, ⟨(some 81), .move (.t 2), none, .write, 0⟩, ⟨(some 82), .copy 3 (.t 80) (.t 81), none, .write, 0⟩])
 (.seq (.region [⟨(some 83), .move (.t 0), none, .write, 0⟩, ⟨(some 6), .move (.t 83), none, .write, 0⟩])
 .ret))) .skip))
 (.seq (.region [⟨(some 84), .move (.t 0), none, .write, 0⟩, ⟨(some 85), .move (.t 8), none, .write, 0⟩, ⟨(some 86), .sliceSl 3 (.t 84) (some (.t 85)) none, none, .write, 0⟩, ⟨(some 87), .move (.t 2), none, .write, 0⟩, ⟨(some 88), .copy 3 (.t 86) (.t 87), none, .write, 0⟩])
 (.seq (.region [⟨(some 89), .move (.t 0), none, .write, 0⟩, ⟨(some 90), .move (.t 1), none, .write, 0⟩, ⟨(some 91), .sliceSl 3 (.t 89) (some (.t 90)) none, none, .write, 0⟩, ⟨(some 92), .move (.t 7), none, .write, 0⟩, ⟨(some 93), .call (.c (.func 171 [])) [(.t 91), (.t 92)], none, .write, 0⟩])
 (.seq (.region [⟨(some 94), .move (.t 0), none, .write, 0⟩, ⟨(some 6), .move (.t 94), none, .write, 0⟩])
 .ret)))))))))))) }

theorem c101 : compFunc Tryz.prog Tryz.f101 .split = some t101 := by kernel_rfl

/-- broadside/route.add -/
def t103 : DFunc := { ntmps := 32, results := [(.cell 4 (some 6)), (.t 5)], mode := .full, body :=
 (.seq (.region [⟨(some 2), .box 79 6 (.t 0), none, .write, 0⟩, ⟨(some 3), .box 192 7 (.t 1), none, .write, 0⟩, ⟨(some 4), .alloc 79 6 (.agg [(.int .i64 0), .nsl, .nsl, .nsl, .nsl, .nsl]), none, .write, 0⟩, ⟨(some 5), .move (.c .nsl), none, .write, 0⟩])
 (.seq (.region [⟨(some 10), .load (some 6) (.t 2), none, .write, 0⟩, ⟨(some 11), .fieldAddr 0 (.t 3), none, .write, 0⟩, ⟨(some 12), .load (some 2) (.t 11), none, .write, 0⟩, ⟨(some 13), .call (.c (.func 55 [])) [(.t 10), (.t 12)], none, .write, 0⟩, ⟨(some 9), .move (.t 13), none, .write, 0⟩, ⟨(some 14), .extract (.t 9) 0, none, .write, 0⟩, ⟨(some 15), .extract (.t 9) 1, none, .write, 0⟩, ⟨(some 6), .alloc 120 4 (.agg [(.int .i64 0), (.int .i64 0), .nsl, (.int .i64 0)]), none, .write, 0⟩, ⟨none, .store 4 (.t 6) (.t 14), none, .write, 0⟩, ⟨(some 7), .move (.t 15), none, .write, 0⟩])
 (.seq (.region [⟨(some 17), .load (some 6) (.t 2), none, .write, 0⟩, ⟨(some 18), .load (some 7) (.t 3), none, .write, 0⟩, ⟨(some 19), .call (.c (.func 98 [])) [(.t 17), (.t 18)], none, .write, 0⟩, ⟨(some 16), .move (.t 19), none, .write, 0⟩, ⟨(some 20), .extract (.t 16) 0, none, .write, 0⟩, ⟨(some 21), .extract (.t 16) 1, none, .write, 0⟩, ⟨none, .store 6 (.t 2) (.t 20), none, .write, 0⟩, ⟨(some 8), .move (.t 21), none, .write, 0⟩])
 (.seq (.seq (.region [⟨(some 22), .move (.t 8), none, .write, 0⟩, ⟨(some 23), .un .not (.t 22), none, .write, 0⟩])
 (.cond (.t 23) (.seq (.region [⟨(some 24), .load (some 6) (.t 2), none, .write, 0⟩, ⟨none, .store 6 (.t 4) (.t 24), none, .write, 0⟩, ⟨(some 5), .move (.c .nsl), none, .write, 0⟩])
 .ret) .skip))
 (.seq (.draw [⟨(some 25), .load (some 6) (.t 2), none, .read, 0⟩, ⟨(some 26), .fieldAddr 3 (.t 6), none, .read, 0⟩, ⟨(some 27), .load none (.t 26), none, .read, 0⟩, ⟨(some 28), .load (some 7) (.t 3), none, .read, 0⟩, ⟨(some 29), .call (.c (.func 99 [])) [(.t 28)], none, .create, 0⟩, ⟨none, .store 6 (.t 4) (.t 25), none, .create, 0⟩, ⟨(some 30), .build [(.int .i64 0), (.int .i64 0), (.int .i64 0), (.int .i64 0), (.int .i64 0), (.int .i64 0), .nsl, .nsl] [(0, 1, (.t 27)), (1, 7, (.t 29))], none, .read, 1⟩, ⟨(some 31), .buildSlice 182 8 (.agg [(.int .i64 0), (.int .i64 0), (.int .i64 0), (.int .i64 0), (.int .i64 0), (.int .i64 0), .nsl, .nsl]) 1 [(0, (.t 30))], none, .create, 0⟩, ⟨(some 5), .move (.t 31), none, .read, 3⟩])
 .ret))))) }

theorem c103 : compFunc Tryz.prog Tryz.f103 .full = some t103 := by kernel_rfl

/-- broadside/carry.To -/
def t104 : DFunc := { ntmps := 35, results := [(.t 6)], mode := .full, body :=
 (.seq (.region [⟨(some 3), .box 79 6 (.t 0), none, .write, 0⟩, ⟨(some 4), .box 32 2 (.t 1), none, .write, 0⟩, ⟨(some 6), .move (.c .nsl), none, .write, 0⟩])
 (.seq (.region [⟨(some 7), .move (.c .nsl), none, .write, 0⟩])
 (.seq (.seq (.region [⟨(some 10), .load (some 6) (.t 3), none, .write, 0⟩, ⟨(some 11), .load (some 2) (.t 4), none, .write, 0⟩, ⟨(some 12), .call (.c (.func 172 [])) [(.t 10), (.t 11)], none, .write, 0⟩, ⟨(some 13), .len 1 (.t 12), none, .write, 0⟩, ⟨(some 14), .move (.c (.int .i64 0)), none, .write, 0⟩])
 (.block 0 (.loop (.seq (.region [⟨(some 15), .arith .lss (.t 14) (.t 13), none, .write, 0⟩])
 (.seq (.cond (.t 15) .skip (.exit 0))
 (.seq (.block 1 (.seq (.region [⟨(some 16), .indexAddr 7 (.t 12) (.t 14), none, .write, 0⟩, ⟨(some 17), .load (some 7) (.t 16), none, .write, 0⟩, ⟨(some 9), .alloc 192 7 (.agg [(.int .i64 0), (.int .i64 0), (.int .i64 0), (.int .i64 0), .nsl, (.int .i64 0), (.bool false)]), none, .write, 0⟩, ⟨none, .store 7 (.t 9) (.t 17), none, .write, 0⟩])
 (.seq (.region [⟨(some 18), .fieldAddr 5 (.t 9), none, .write, 0⟩, ⟨(some 19), .load none (.t 18), none, .write, 0⟩, ⟨(some 20), .arith .neq (.t 19) (.c (.int .i64 (-1))), none, .write, 0⟩, ⟨(some 21), .move (.t 20), none, .write, 0⟩, ⟨(some 22), .fieldAddr 4 (.t 9), (some (21, true)), .write, 0⟩, ⟨(some 23), .load none (.t 22), (some (21, true)), .write, 0⟩, ⟨(some 24), .move (.t 2), (some (21, true)), .write, 0⟩, ⟨(some 25), .call (.c (.func 173 [])) [(.t 23), (.t 24)], (some (21, true)), .write, 0⟩, ⟨(some 26), .pick (.t 21) (.t 25) (.c (.bool false)), none, .write, 0⟩])
 (.cond (.t 26) (.region [⟨(some 27), .move (.t 7), none, .write, 0⟩, ⟨(some 28), .fieldAddr 5 (.t 9), none, .write, 0⟩, ⟨(some 29), .load none (.t 28), none, .write, 0⟩, ⟨(some 30), .buildSlice 3 1 (.int .i64 0) 1 [(0, (.t 29))], none, .write, 0⟩, ⟨(some 31), .append 3 1 8 (.t 27) (.t 30), none, .write, 0⟩, ⟨(some 7), .move (.t 31), none, .write, 0⟩]) .skip))))
 (.region [⟨(some 32), .arith .add (.t 14) (.c (.int .i64 1)), none, .write, 0⟩, ⟨(some 14), .move (.t 32), none, .write, 0⟩])))))))
 (.seq (.region [⟨(some 33), .move (.t 7), none, .write, 0⟩, ⟨(some 34), .call (.c (.func 174 [])) [(.t 33)], none, .write, 0⟩, ⟨(some 6), .move (.t 34), none, .write, 0⟩])
 .ret)))) }

theorem c104 : compFunc Tryz.prog Tryz.f104 .full = some t104 := by kernel_rfl

/-- broadside/carry.Clients -/
def t105 : DFunc := { ntmps := 28, results := [(.t 4)], mode := .full, body :=
 (.seq (.region [⟨(some 2), .box 79 6 (.t 0), none, .write, 0⟩, ⟨(some 4), .move (.c .nsl), none, .write, 0⟩])
 (.seq (.region [⟨(some 5), .move (.c .nsl), none, .write, 0⟩])
 (.seq (.seq (.region [⟨(some 8), .fieldAddr 5 (.t 2), none, .write, 0⟩, ⟨(some 9), .load none (.t 8), none, .write, 0⟩, ⟨(some 10), .len 1 (.t 9), none, .write, 0⟩, ⟨(some 11), .move (.c (.int .i64 0)), none, .write, 0⟩])
 (.block 0 (.loop (.seq (.region [⟨(some 12), .arith .lss (.t 11) (.t 10), none, .write, 0⟩])
 (.seq (.cond (.t 12) .skip (.exit 0))
 (.seq (.block 1 (.seq (.region [⟨(some 13), .indexAddr 3 (.t 9) (.t 11), none, .write, 0⟩, ⟨(some 14), .load (some 3) (.t 13), none, .write, 0⟩, ⟨(some 7), .alloc 189 3 (.agg [(.int .i64 0), (.int .i64 0), .nsl]), none, .write, 0⟩, ⟨none, .store 3 (.t 7) (.t 14), none, .write, 0⟩])
 (.seq (.region [⟨(some 15), .fieldAddr 2 (.t 7), none, .write, 0⟩, ⟨(some 16), .load none (.t 15), none, .write, 0⟩, ⟨(some 17), .move (.t 1), none, .write, 0⟩, ⟨(some 18), .call (.c (.func 173 [])) [(.t 16), (.t 17)], none, .write, 0⟩])
 (.cond (.t 18) (.region [⟨(some 19), .move (.t 5), none, .write, 0⟩, ⟨(some 20), .fieldAddr 0 (.t 7), none, .write, 0⟩, ⟨(some 21), .fieldAddr 0 (.t 20), none, .write, 0⟩, ⟨(some 22), .load none (.t 21), none, .write, 0⟩, ⟨(some 23), .buildSlice 3 1 (.int .i64 0) 1 [(0, (.t 22))], none, .write, 0⟩, ⟨(some 24), .append 3 1 8 (.t 19) (.t 23), none, .write, 0⟩, ⟨(some 5), .move (.t 24), none, .write, 0⟩]) .skip))))
 (.region [⟨(some 25), .arith .add (.t 11) (.c (.int .i64 1)), none, .write, 0⟩, ⟨(some 11), .move (.t 25), none, .write, 0⟩])))))))
 (.seq (.region [⟨(some 26), .move (.t 5), none, .write, 0⟩, ⟨(some 27), .call (.c (.func 174 [])) [(.t 26)], none, .write, 0⟩, ⟨(some 4), .move (.t 27), none, .write, 0⟩])
 .ret)))) }

theorem c105 : compFunc Tryz.prog Tryz.f105 .full = some t105 := by kernel_rfl

/-- broadside/adverts.place -/
def t106 : DFunc := { ntmps := 12, results := [(.t 4), (.t 5)], mode := .full, body :=
 (.seq (.region [⟨(some 2), .box 79 6 (.t 0), none, .write, 0⟩, ⟨(some 3), .box 32 2 (.t 1), none, .write, 0⟩, ⟨(some 4), .move (.c (.int .i64 0)), none, .write, 0⟩, ⟨(some 5), .move (.c (.bool false)), none, .write, 0⟩])
 (.seq (.region [⟨(some 6), .fieldAddr 2 (.t 2), none, .write, 0⟩, ⟨(some 7), .load none (.t 6), none, .write, 0⟩, ⟨(some 8), .load (some 2) (.t 3), none, .write, 0⟩, ⟨(some 9), .call (.c (.func 175 [])) [(.t 7), (.t 8), (.c (.func 176 []))], none, .write, 0⟩, ⟨(some 10), .extract (.t 9) 0, none, .write, 0⟩, ⟨(some 11), .extract (.t 9) 1, none, .write, 0⟩, ⟨(some 4), .move (.t 10), none, .write, 0⟩, ⟨(some 5), .move (.t 11), none, .write, 0⟩])
 .ret)) }

theorem c106 : compFunc Tryz.prog Tryz.f106 .full = some t106 := by kernel_rfl

/-- broadside/graph.broker -/
def t113 : DFunc := { ntmps := 13, results := [(.t 4)], mode := .full, body :=
 (.seq (.region [⟨(some 2), .box 29 2 (.t 0), none, .write, 0⟩, ⟨(some 4), .move (.c (.bool false)), none, .write, 0⟩])
 (.seq (.region [⟨(some 5), .move (.t 1), none, .write, 0⟩, ⟨(some 6), .arith .geq (.t 5) (.c (.int .i64 0)), none, .write, 0⟩, ⟨(some 7), .move (.t 6), none, .write, 0⟩, ⟨(some 8), .move (.t 1), (some (7, true)), .write, 0⟩, ⟨(some 9), .fieldAddr 0 (.t 2), (some (7, true)), .write, 0⟩, ⟨(some 10), .load none (.t 9), (some (7, true)), .write, 0⟩, ⟨(some 11), .arith .lss (.t 8) (.t 10), (some (7, true)), .write, 0⟩, ⟨(some 12), .pick (.t 7) (.t 11) (.c (.bool false)), none, .write, 0⟩, ⟨(some 4), .move (.t 12), none, .write, 0⟩])
 .ret)) }

theorem c113 : compFunc Tryz.prog Tryz.f113 .full = some t113 := by kernel_rfl

/-- slices.pdqsortCmpFunc[[2]int] -/
def t114 : DFunc := { ntmps := 148, results := [], mode := .full, body :=
 (.seq (.region [⟨(some 10), .move (.c (.bool true)), none, .write, 0⟩])
 (.seq (.region [⟨(some 11), .move (.c (.bool true)), none, .write, 0⟩])
 (.block 0 (.loop (.block 1 (.seq (.region [⟨(some 21), .move (.t 2), none, .write, 0⟩, ⟨(some 22), .move (.t 1), none, .write, 0⟩, ⟨(some 23), .arith .sub (.t 21) (.t 22), none, .write, 0⟩, ⟨(some 12), .move (.t 23), none, .write, 0⟩])
 (.seq (.seq (.region [⟨(some 24), .move (.t 12), none, .write, 0⟩, ⟨(some 25), .arith .leq (.t 24) (.c (.int .i64 12)), none, .write, 0⟩])
 (.cond (.t 25) (.seq (.region [⟨(some 26), .move (.t 0), none, .write, 0⟩, ⟨(some 27), .move (.t 1), none, .write, 0⟩, ⟨(some 28), .move (.t 2), none, .write, 0⟩, ⟨(some 29), .move (.t 4), none, .write, 0⟩, ⟨(some 30), .call (.c (.func 179 [])) [(.t 26), (.t 27), (.t 28), (.t 29)], none, .write, 0⟩])
 .ret) .skip))
 (.seq (.seq (.region [⟨(some 31), .move (.t 3), none, .write, 0⟩, ⟨(some 32), .arith .eql (.t 31) (.c (.int .i64 0)), none, .write, 0⟩])
 (.cond (.t 32) (.seq (.region [⟨(some 33), .move (.t 0), none, .write, 0⟩, ⟨(some 34), .move (.t 1), none, .write, 0⟩, ⟨(some 35), .move (.t 2), none, .write, 0⟩, ⟨(some 36), .move (.t 4), none, .write, 0⟩, ⟨(some 37), .call (.c (.func 180 [])) [(.t 33), (.t 34), (.t 35), (.t 36)], none, .write, 0⟩])
 .ret) .skip))
 (.seq (.seq (.region [⟨(some 38), .move (.t 10), none, .write, 0⟩, ⟨(some 39), .un .not (.t 38), none, .write, 0⟩])
 (.cond (.t 39) (.seq (.region [⟨(some 40), .move (.t 0), none, .write, 0⟩, ⟨(some 41), .move (.t 1), none, .write, 0⟩, ⟨(some 42), .move (.t 2), none, .write, 0⟩, ⟨(some 43), .move (.t 4), none, .write, 0⟩, ⟨(some 44), .call (.c (.func 181 [])) [(.t 40), (.t 41), (.t 42), (.t 43)], none, .write, 0⟩])
 (.region [⟨(some 45), .move (.t 3), none, .write, 0⟩, ⟨(some 46), .arith .sub (.t 45) (.c (.int .i64 1)), none, .write, 0⟩, ⟨(some 3), .move (.t 46), none, .write, 0⟩])) .skip))
 (.seq (.region [⟨(some 48), .move (.t 0), none, .write, 0⟩, ⟨(some 49), .move (.t 1), none, .write, 0⟩, ⟨(some 50), .move (.t 2), none, .write, 0⟩, ⟨(some 51), .move (.t 4), none, .write, 0⟩, ⟨(some 52), .call (.c (.func 182 [])) [(.t 48), (.t 49), (.t 50), (.t 51)], none, .write, 0⟩, ⟨(some 47), .move (.t 52), none, .write, 0⟩, ⟨(some 53), .extract (.t 47) 0, none, .write, 0⟩, ⟨(some 54), .extract (.t 47) 1, none, .write, 0⟩, ⟨(some 13), .move (.t 53), none, .write, 0⟩, ⟨(some 14), .move (.t 54), none, .write, 0⟩])
 (.seq (.seq (.region [⟨(some 55), .move (.t 14), none, .write, 0⟩, ⟨(some 56), .arith .eql (.t 55) (.c (.int .i64 2)), none, .write, 0⟩])
 (.cond (.t 56) (.seq (.region [⟨(some 57), .move (.t 0), none, .write, 0⟩, ⟨(some 58), .move (.t 1), none, .write, 0⟩, ⟨(some 59), .move (.t 2), none, .write, 0⟩, ⟨(some 60), .move (.t 4), none, .write, 0⟩, ⟨(some 61), .call (.c (.func 183 [])) [(.t 57), (.t 58), (.t 59), (.t 60)], none, .write, 0⟩])
 (.seq (.region [⟨(some 62), .move (.t 2), none, .write, 0⟩, ⟨(some 63), .arith .sub (.t 62) (.c (.int .i64 1)), none, .write, 0⟩, ⟨(some 64), .move (.t 13), none, .write, 0⟩, ⟨(some 65), .move (.t 1), none, .write, 0⟩, ⟨(some 66), .arith .sub (.t 64) (.t 65), none, .write, 0⟩, ⟨(some 67), .arith .sub (.t 63) (.t 66), none, .write, 0⟩, ⟨(some 13), .move (.t 67), none, .write, 0⟩])
 (.region [⟨(some 14), .move (.c (.int .i64 1)), none, .write, 0⟩]))) .skip))
 (.seq (.seq (.region [⟨(some 68), .move (.t 10), none, .write, 0⟩, ⟨(some 69), .move (.t 68), none, .write, 0⟩, ⟨(some 70), .move (.t 11), (some (69, true)), .write, 0⟩, ⟨(some 71), .pick (.t 69) (.t 70) (.c (.bool false)), none, .write, 0⟩, ⟨(some 72), .move (.t 71), none, .write, 0⟩, ⟨(some 73), .move (.t 14), (some (72, true)), .write, 0⟩, ⟨(some 74), .arith .eql (.t 73) (.c (.int .i64 1)), (some (72, true)), .write, 0⟩, ⟨(some 75), .pick (.t 72) (.t 74) (.c (.bool false)), none, .write, 0⟩])
 (.cond (.t 75) (.seq (.region [⟨(some 76), .move (.t 0), none, .write, 0⟩, ⟨(some 77), .move (.t 1), none, .write, 0⟩, ⟨(some 78), .move (.t 2), none, .write, 0⟩, ⟨(some 79), .move (.t 4), none, .write, 0⟩, ⟨(some 80), .call (.c (.func 184 [])) [(.t 76), (.t 77), (.t 78), (.t 79)], none, .write, 0⟩])
 (.cond (.t 80) .ret .skip)) .skip))
 (.seq (.seq (.draw [⟨(some 81), .move (.t 1), none, .read, 0⟩, ⟨(some 82), .arith .gtr (.t 81) (.c (.int .i64 0)), none, .read, 0⟩, ⟨(some 83), .move (.t 82), none, .read, 0⟩, ⟨(some 85), .move (.t 0), (some (83, true)), .read, 0⟩, ⟨(some 86), .move (.t 1), (some (83, true)), .read, 0⟩, ⟨(some 87), .arith .sub (.t 86) (.c (.int .i64 1)), (some (83, true)), .read, 0⟩, ⟨(some 88), .indexAddr 2 (.t 85) (.t 87), (some (83, true)), .read, 0⟩, ⟨(some 89), .load (some 2) (.t 88), (some (83, true)), .read, 0⟩, ⟨(some 90), .move (.t 0), (some (83, true)), .read, 0⟩, ⟨(some 91), .move (.t 13), (some (83, true)), .read, 0⟩, ⟨(some 92), .indexAddr 2 (.t 90) (.t 91), (some (83, true)), .read, 0⟩, ⟨(some 93), .load (some 2) (.t 92), (some (83, true)), .read, 0⟩, ⟨(some 84), .move (.t 4), (some (83, true)), .read, 0⟩, ⟨(some 94), .call (.t 84) [(.t 89), (.t 93)], (some (83, true)), .write, 0⟩, ⟨(some 95), .arith .lss (.t 94) (.c (.int .i64 0)), (some (83, true)), .read, 1⟩, ⟨(some 96), .un .not (.t 95), (some (83, true)), .read, 1⟩, ⟨(some 97), .pick (.t 83) (.t 96) (.c (.bool false)), none, .read, 1⟩])
 (.cond (.t 97) (.seq (.region [⟨(some 98), .move (.t 0), none, .write, 0⟩, ⟨(some 99), .move (.t 1), none, .write, 0⟩, ⟨(some 100), .move (.t 2), none, .write, 0⟩, ⟨(some 101), .move (.t 13), none, .write, 0⟩, ⟨(some 102), .move (.t 4), none, .write, 0⟩, ⟨(some 103), .call (.c (.func 185 [])) [(.t 98), (.t 99), (.t 100), (.t 101), (.t 102)], none, .write, 0⟩, ⟨(some 15), .move (.t 103), none, .write, 0⟩])
 (.seq (.region [⟨(some 104), .move (.t 15), none, .write, 0⟩, ⟨(some 1), .move (.t 104), none, .write, 0⟩])
 (.exit 1))) .skip))
 (.seq (.region [⟨(some 106), .move (.t 0), none, .write, 0⟩, ⟨(some 107), .move (.t 1), none, .write, 0⟩, ⟨(some 108), .move (.t 2), none, .write, 0⟩, ⟨(some 109), .move (.t 13), none, .write, 0⟩, ⟨(some 110), .move (.t 4), none, .write, 0⟩, ⟨(some 111), .call (.c (.func 186 [])) [(.t 106), (.t 107), (.t 108), (.t 109), (.t 110)], none, .write, 0⟩, ⟨(some 105), .move (.t 111), none, .write, 0⟩, ⟨(some 112), .extract (.t 105) 0, none, .write, 0⟩, ⟨(some 113), .extract (.t 105) 1, none, .write, 0⟩, ⟨(some 16), .move (.t 112), none, .write, 0⟩, ⟨(some 17), .move (.t 113), none, .write, 0⟩])
 (.seq (.region [⟨(some 114), .move (.t 17), none, .write, 0⟩, ⟨(some 11), .move (.t 114), none, .write, 0⟩])
 (.seq (.region [⟨(some 115), .move (.t 16), none, .write, 0⟩, ⟨(some 116), .move (.t 1), none, .write, 0⟩, ⟨(some 117), .arith .sub (.t 115) (.t 116), none, .write, 0⟩, ⟨(some 118), .move (.t 2), none, .write, 0⟩, ⟨(some 119), .move (.t 16), none, .write, 0⟩, ⟨(some 120), .arith .sub (.t 118) (.t 119), none, .write, 0⟩, ⟨(some 18), .move (.t 117), none, .write, 0⟩, ⟨(some 19), .move (.t 120), none, .write, 0⟩])
 (.seq (.region [⟨(some 121), .move (.t 12), none, .write, 0⟩, ⟨(some 122), .arith .quo (.t 121) (.c (.int .i64 8)), none, .write, 0⟩, ⟨(some 20), .move (.t 122), none, .write, 0⟩])
 (.seq (.region [⟨(some 123), .move (.t 18), none, .write, 0⟩, ⟨(some 124), .move (.t 19), none, .write, 0⟩, ⟨(some 125), .arith .lss (.t 123) (.t 124), none, .write, 0⟩])
 (.cond (.t 125) (.seq (.region [⟨(some 126), .move (.t 18), none, .write, 0⟩, ⟨(some 127), .move (.t 20), none, .write, 0⟩, ⟨(some 128), .arith .geq (.t 126) (.t 127), none, .write, 0⟩, ⟨(some 10), .move (.t 128), none, .write, 0⟩])
 (.seq (.region [⟨(some 129), .move (.t 0), none, .write, 0⟩, ⟨(some 130), .move (.t 1), none, .write, 0⟩, ⟨(some 131), .move (.t 16), none, .write, 0⟩, ⟨(some 132), .move (.t 3), none, .write, 0⟩, ⟨(some 133), .move (.t 4), none, .write, 0⟩, ⟨(some 134), .call (.c (.func 114 [])) [(.t 129), (.t 130), (.t 131), (.t 132), (.t 133)], none, .write, 0⟩])
 (.region [⟨(some 135), .move (.t 16), none, .write, 0⟩, ⟨(some 136), .arith .add (.t 135) (.c (.int .i64 1)), none, .write, 0⟩, ⟨(some 1), .move (.t 136), none, .write, 0⟩]))) (.seq (.region [⟨(some 137), .move (.t 19), none, .write, 0⟩, ⟨(some 138), .move (.t 20), none, .write, 0⟩, ⟨(some 139), .arith .geq (.t 137) (.t 138), none, .write, 0⟩, ⟨(some 10), .move (.t 139), none, .write, 0⟩])
 (.seq (.region [⟨(some 140), .move (.t 0), none, .write, 0⟩, ⟨(some 141), .move (.t 16), none, .write, 0⟩, ⟨(some 142), .arith .add (.t 141) (.c (.int .i64 1)), none, .write, 0⟩, ⟨(some 143), .move (.t 2), none, .write, 0⟩, ⟨(some 144), .move (.t 3), none, .write, 0⟩, ⟨(some 145), .move (.t 4), none, .write, 0⟩, ⟨(some 146), .call (.c (.func 114 [])) [(.t 140), (.t 142), (.t 143), (.t 144), (.t 145)], none, .write, 0⟩])
 (.region [⟨(some 147), .move (.t 16), none, .write, 0⟩, ⟨(some 2), .move (.t 147), none, .write, 0⟩])))))))))))))))))))))) }

theorem c114 : compFunc Tryz.prog Tryz.f114 .full = some t114 := by kernel_rfl

/-- math/bits.Len -/
def t115 : DFunc := { ntmps := 8, results := [(.t 2)], mode := .full, body :=
 (.seq (.region [⟨(some 2), .move (.c (.int .i64 0)), none, .write, 0⟩])
 (.seq (.cond (.c (.bool false)) (.seq (.region [⟨(some 3), .move (.t 0), none, .write, 0⟩, ⟨(some 4), .conv .u32 (.t 3), none, .write, 0⟩, ⟨(some 5), .call (.c (.func 187 [])) [(.t 4)], none, .write, 0⟩, ⟨(some 2), .move (.t 5), none, .write, 0⟩])
 .ret) .skip)
 (.seq (.region [⟨(some 6), .move (.t 0), none, .write, 0⟩, ⟨(some 7), .call (.c (.func 188 [])) [(.t 6)], none, .write, 0⟩, ⟨(some 2), .move (.t 7), none, .write, 0⟩])
 .ret))) }

theorem c115 : compFunc Tryz.prog Tryz.f115 .full = some t115 := by kernel_rfl

/-- cmp.isNaN[int] -/
def t116 : DFunc := { ntmps := 6, results := [(.t 2)], mode := .full, body :=
 (.seq (.region [⟨(some 2), .move (.c (.bool false)), none, .write, 0⟩])
 (.seq (.region [⟨(some 3), .move (.t 0), none, .write, 0⟩, ⟨(some 4), .move (.t 0), none, .write, 0⟩, ⟨(some 5), .arith .neq (.t 3) (.t 4), none, .write, 0⟩, ⟨(some 2), .move (.t 5), none, .write, 0⟩])
 .ret)) }

theorem c116 : compFunc Tryz.prog Tryz.f116 .full = some t116 := by kernel_rfl

/-- broadside/adverts.Less -/
def t120 : DFunc := { ntmps := 9, results := [(.t 4)], mode := .full, body :=
 (.seq (.region [⟨(some 2), .box 32 2 (.t 0), none, .write, 0⟩, ⟨(some 3), .box 32 2 (.t 1), none, .write, 0⟩, ⟨(some 4), .move (.c (.bool false)), none, .write, 0⟩])
 (.seq (.region [⟨(some 5), .load (some 2) (.t 2), none, .write, 0⟩, ⟨(some 6), .load (some 2) (.t 3), none, .write, 0⟩, ⟨(some 7), .call (.c (.func 127 [])) [(.t 5), (.t 6)], none, .write, 0⟩, ⟨(some 8), .arith .lss (.t 7) (.c (.int .i64 0)), none, .write, 0⟩, ⟨(some 4), .move (.t 8), none, .write, 0⟩])
 .ret)) }

theorem c120 : compFunc Tryz.prog Tryz.f120 .full = some t120 := by kernel_rfl

/-- broadside/adverts.compare -/
def t127 : DFunc := { ntmps := 17, results := [(.t 4)], mode := .full, body :=
 (.seq (.region [⟨(some 2), .box 32 2 (.t 0), none, .write, 0⟩, ⟨(some 3), .box 32 2 (.t 1), none, .write, 0⟩, ⟨(some 4), .move (.c (.int .i64 0)), none, .write, 0⟩])
 (.seq (.draw [⟨(some 5), .fieldAddr 0 (.t 2), none, .read, 0⟩, ⟨(some 6), .load none (.t 5), none, .read, 0⟩, ⟨(some 7), .fieldAddr 0 (.t 3), none, .read, 0⟩, ⟨(some 8), .load none (.t 7), none, .read, 0⟩, ⟨(some 9), .call (.c (.func 67 [])) [(.t 6), (.t 8)], none, .create, 0⟩, ⟨(some 10), .fieldAddr 1 (.t 2), none, .read, 0⟩, ⟨(some 11), .load none (.t 10), none, .read, 0⟩, ⟨(some 12), .fieldAddr 1 (.t 3), none, .read, 0⟩, ⟨(some 13), .load none (.t 12), none, .read, 0⟩, ⟨(some 14), .call (.c (.func 67 [])) [(.t 11), (.t 13)], none, .write, 1⟩, ⟨(some 15), .buildSlice 3 1 (.int .i64 0) 2 [(0, (.t 9)), (1, (.t 14))], none, .create, 0⟩, ⟨(some 16), .call (.c (.func 66 [])) [(.t 15)], none, .write, 3⟩, ⟨(some 4), .move (.t 16), none, .read, 4⟩])
 .ret)) }

theorem c127 : compFunc Tryz.prog Tryz.f127 .full = some t127 := by kernel_rfl

/-- broadside/pred.Right -/
def t132 : DFunc := { ntmps := 34, results := [(.t 2)], mode := .full, body :=
 (.seq (.region [⟨(some 2), .move (.c (.bool false)), none, .write, 0⟩])
 (.seq (.seq (.region [⟨(some 5), .move (.t 0), none, .write, 0⟩, ⟨(some 6), .len 1 (.t 5), none, .write, 0⟩, ⟨(some 7), .move (.c (.int .i64 0)), none, .write, 0⟩])
 (.block 0 (.loop (.seq (.region [⟨(some 8), .arith .lss (.t 7) (.t 6), none, .write, 0⟩])
 (.seq (.cond (.t 8) .skip (.exit 0))
 (.seq (.block 1 (.seq (.region [⟨(some 9), .move (.t 7), none, .write, 0⟩, ⟨(some 10), .indexAddr 5 (.t 5) (.t 7), none, .write, 0⟩, ⟨(some 11), .load (some 5) (.t 10), none, .write, 0⟩, ⟨(some 4), .alloc 303 5 (.agg [(.str []), (.int .i64 0), (.int .i64 0), (.int .i64 0), (.str [])]), none, .write, 0⟩, ⟨(some 3), .move (.t 9), none, .write, 0⟩, ⟨none, .store 5 (.t 4) (.t 11), none, .write, 0⟩])
 (.seq (.draw [⟨(some 12), .load (some 5) (.t 4), none, .read, 0⟩, ⟨(some 13), .call (.c (.func 191 [])) [(.t 12)], none, .write, 0⟩, ⟨(some 14), .un .not (.t 13), none, .read, 1⟩, ⟨(some 15), .move (.t 14), none, .read, 1⟩, ⟨(some 16), .move (.t 3), (some (15, false)), .read, 1⟩, ⟨(some 17), .arith .gtr (.t 16) (.c (.int .i64 0)), (some (15, false)), .read, 1⟩, ⟨(some 18), .move (.t 17), (some (15, false)), .read, 1⟩, ⟨(some 19), .move (.t 0), (some (18, true)), .read, 1⟩, ⟨(some 20), .move (.t 3), (some (18, true)), .read, 1⟩, ⟨(some 21), .arith .sub (.t 20) (.c (.int .i64 1)), (some (18, true)), .read, 1⟩, ⟨(some 22), .indexAddr 5 (.t 19) (.t 21), (some (18, true)), .read, 1⟩, ⟨(some 23), .fieldAddr 0 (.t 22), (some (18, true)), .read, 1⟩, ⟨(some 24), .load none (.t 23), (some (18, true)), .read, 1⟩, ⟨(some 25), .fieldAddr 0 (.t 4), (some (18, true)), .read, 1⟩, ⟨(some 26), .load none (.t 25), (some (18, true)), .read, 1⟩, ⟨(some 27), .arith .geq (.t 24) (.t 26), (some (18, true)), .read, 1⟩, ⟨(some 28), .pick (.t 18) (.t 27) (.c (.bool false)), (some (15, false)), .read, 1⟩, ⟨(some 29), .pick (.t 15) (.c (.bool true)) (.t 28), none, .read, 1⟩])
 (.cond (.t 29) (.seq (.region [⟨(some 2), .move (.c (.bool false)), none, .write, 0⟩])
 .ret) .skip))))
 (.region [⟨(some 30), .arith .add (.t 7) (.c (.int .i64 1)), none, .write, 0⟩, ⟨(some 7), .move (.t 30), none, .write, 0⟩])))))))
 (.seq (.region [⟨(some 31), .move (.t 0), none, .write, 0⟩, ⟨(some 32), .len 1 (.t 31), none, .write, 0⟩, ⟨(some 33), .arith .leq (.t 32) (.c (.int .i64 5)), none, .write, 0⟩, ⟨(some 2), .move (.t 33), none, .write, 0⟩])
 .ret))) }

theorem c132 : compFunc Tryz.prog Tryz.f132 .full = some t132 := by kernel_rfl

/-- slices.ContainsFunc[[]broadside/api.Entry,broadside/api.Entry] -/
def t133 : DFunc := { ntmps := 9, results := [(.t 4)], mode := .full, body :=
 (.seq (.region [⟨(some 4), .move (.c (.bool false)), none, .write, 0⟩])
 (.seq (.region [⟨(some 5), .move (.t 0), none, .write, 0⟩, ⟨(some 6), .move (.t 1), none, .write, 0⟩, ⟨(some 7), .call (.c (.func 192 [])) [(.t 5), (.t 6)], none, .write, 0⟩, ⟨(some 8), .arith .geq (.t 7) (.c (.int .i64 0)), none, .write, 0⟩, ⟨(some 4), .move (.t 8), none, .write, 0⟩])
 .ret)) }

theorem c133 : compFunc Tryz.prog Tryz.f133 .full = some t133 := by kernel_rfl

end Go.Dm.TabW
