/-
The table of functions, brought into the machine's form (TabS, part 1). Written by program (wip/tools/table.lean.txt).
-/
import Derived.Test.YtdacnhfdcejahaaGreatDoorDm32
import Derived.Test.YtdacnhfdcejahaaGreatDoorRows
import Derived.KernelRfl
namespace Go.Dm.TabS
open Go.Proofs

/-- broadside/adverts.place -/
def t73 : DFunc := { ntmps := 12, results := [(.t 4), (.t 5)], mode := .full, body :=
 (.seq (.region [⟨(some 2), .box 28 6 (.t 0), none, .write, 0⟩, ⟨(some 3), .box 45 2 (.t 1), none, .write, 0⟩, ⟨(some 4), .move (.c (.int .i64 0)), none, .write, 0⟩, ⟨(some 5), .move (.c (.bool false)), none, .write, 0⟩])
 (.seq (.region [⟨(some 6), .fieldAddr 2 (.t 2), none, .write, 0⟩, ⟨(some 7), .load none (.t 6), none, .write, 0⟩, ⟨(some 8), .load (some 2) (.t 3), none, .write, 0⟩, ⟨(some 9), .call (.c (.func 160 [])) [(.t 7), (.t 8), (.c (.func 161 []))], none, .write, 0⟩, ⟨(some 10), .extract (.t 9) 0, none, .write, 0⟩, ⟨(some 11), .extract (.t 9) 1, none, .write, 0⟩, ⟨(some 4), .move (.t 10), none, .write, 0⟩, ⟨(some 5), .move (.t 11), none, .write, 0⟩])
 .ret)) }

theorem c73 : compFunc Tryz.prog Tryz.f73 .full = some t73 := by kernel_rfl

/-- (*broadside/net.Net).there -/
def t74 : DFunc := { ntmps := 16, results := [(.t 4)], mode := .full, body :=
 (.seq (.region [⟨(some 4), .move (.c (.bool false)), none, .write, 0⟩])
 (.seq (.region [⟨(some 5), .move (.t 1), none, .write, 0⟩, ⟨(some 6), .arith .geq (.t 5) (.c (.int .i64 0)), none, .write, 0⟩, ⟨(some 7), .move (.t 6), none, .write, 0⟩, ⟨(some 8), .move (.t 1), (some (7, true)), .write, 0⟩, ⟨(some 9), .move (.t 0), (some (7, true)), .write, 0⟩, ⟨(some 10), .nilCheck (.t 9), (some (7, true)), .write, 0⟩, ⟨(some 11), .fieldAddr 2 (.t 10), (some (7, true)), .write, 0⟩, ⟨(some 12), .load none (.t 11), (some (7, true)), .write, 0⟩, ⟨(some 13), .len 1 (.t 12), (some (7, true)), .write, 0⟩, ⟨(some 14), .arith .lss (.t 8) (.t 13), (some (7, true)), .write, 0⟩, ⟨(some 15), .pick (.t 7) (.t 14) (.c (.bool false)), none, .write, 0⟩, ⟨(some 4), .move (.t 15), none, .write, 0⟩])
 .ret)) }

theorem c74 : compFunc Tryz.prog Tryz.f74 .full = some t74 := by kernel_rfl

/-- (*broadside/net.Net).Subscribe$1 -/
def t79 : DFunc := { ntmps := 12, results := [(.cell 4 (some 6)), (.t 5)], mode := .full, body :=
 (.seq (.region [⟨(some 3), .box 28 6 (.t 0), none, .write, 0⟩, ⟨(some 4), .alloc 28 6 (.agg [(.int .i64 0), .nsl, .nsl, .nsl, .nsl, .nsl]), none, .write, 0⟩, ⟨(some 5), .move (.c .nsl), none, .write, 0⟩])
 (.seq (.region [⟨(some 6), .load (some 6) (.t 3), none, .write, 0⟩, ⟨(some 7), .load (some 2) (.t 1), none, .write, 0⟩, ⟨(some 8), .load none (.t 2), none, .write, 0⟩, ⟨(some 9), .call (.c (.func 80 [])) [(.t 6), (.t 7), (.t 8)], none, .write, 0⟩, ⟨(some 10), .extract (.t 9) 0, none, .write, 0⟩, ⟨(some 11), .extract (.t 9) 1, none, .write, 0⟩, ⟨none, .store 6 (.t 4) (.t 10), none, .write, 0⟩, ⟨(some 5), .move (.t 11), none, .write, 0⟩])
 .ret)) }

theorem c79 : compFunc Tryz.prog Tryz.f79 .full = some t79 := by kernel_rfl

/-- broadside/route.Subscribe -/
def t80 : DFunc := { ntmps := 62, results := [(.cell 6 (some 6)), (.t 7)], mode := .full, body :=
 (.seq (.region [⟨(some 3), .box 28 6 (.t 0), none, .write, 0⟩, ⟨(some 4), .box 45 2 (.t 1), none, .write, 0⟩, ⟨(some 6), .alloc 28 6 (.agg [(.int .i64 0), .nsl, .nsl, .nsl, .nsl, .nsl]), none, .write, 0⟩, ⟨(some 7), .move (.c .nsl), none, .write, 0⟩])
 (.seq (.region [⟨(some 16), .load (some 6) (.t 3), none, .write, 0⟩, ⟨(some 17), .load (some 2) (.t 4), none, .write, 0⟩, ⟨(some 18), .call (.c (.func 162 [])) [(.t 16), (.t 17)], none, .write, 0⟩, ⟨(some 15), .move (.t 18), none, .write, 0⟩, ⟨(some 19), .extract (.t 15) 0, none, .write, 0⟩, ⟨(some 20), .extract (.t 15) 1, none, .write, 0⟩, ⟨(some 8), .move (.t 19), none, .write, 0⟩, ⟨(some 9), .move (.t 20), none, .write, 0⟩])
 (.seq (.seq (.region [⟨(some 21), .move (.t 9), none, .write, 0⟩])
 (.cond (.t 21) (.seq (.region [⟨(some 22), .load (some 6) (.t 3), none, .write, 0⟩, ⟨none, .store 6 (.t 6) (.t 22), none, .write, 0⟩, ⟨(some 7), .move (.c .nsl), none, .write, 0⟩])
 .ret) .skip))
 (.seq (.draw [⟨(some 23), .fieldAddr 5 (.t 3), none, .read, 0⟩, ⟨(some 24), .load none (.t 23), none, .read, 0⟩, ⟨(some 25), .call (.c (.func 78 [])) [(.t 24)], none, .create, 0⟩, ⟨(some 27), .load (some 2) (.t 4), none, .read, 0⟩, ⟨(some 26), .move (.t 8), none, .read, 0⟩, ⟨(some 28), .move (.t 2), none, .read, 0⟩, ⟨(some 29), .build [(.int .i64 0), (.int .i64 0), .nsl] [(0, 2, (.t 27)), (2, 1, (.t 28))], none, .read, 0⟩, ⟨(some 30), .buildSlice 159 3 (.agg [(.int .i64 0), (.int .i64 0), .nsl]) 1 [(0, (.t 29))], none, .create, 0⟩, ⟨(some 31), .call (.c (.func 163 [])) [(.t 25), (.t 26), (.t 30)], none, .write, 2⟩, ⟨(some 32), .fieldAddr 5 (.t 3), none, .read, 3⟩, ⟨none, .store 1 (.t 32) (.t 31), none, .write, 3⟩])
 (.seq (.region [⟨(some 10), .move (.c .nsl), none, .write, 0⟩])
 (.seq (.seq (.region [⟨(some 33), .fieldAddr 2 (.t 3), none, .write, 0⟩, ⟨(some 34), .load none (.t 33), none, .write, 0⟩, ⟨(some 35), .len 1 (.t 34), none, .write, 0⟩, ⟨(some 36), .move (.c (.int .i64 0)), none, .write, 0⟩])
 (.block 0 (.loop (.seq (.region [⟨(some 37), .arith .lss (.t 36) (.t 35), none, .write, 0⟩])
 (.seq (.cond (.t 37) .skip (.exit 0))
 (.seq (.block 1 (.seq (.region [⟨(some 38), .indexAddr 4 (.t 34) (.t 36), none, .write, 0⟩, ⟨(some 39), .load (some 4) (.t 38), none, .write, 0⟩, ⟨(some 12), .alloc 70 4 (.agg [(.int .i64 0), (.int .i64 0), .nsl, (.int .i64 0)]), none, .write, 0⟩, ⟨none, .store 4 (.t 12) (.t 39), none, .write, 0⟩])
 (.seq (.seq (.region [⟨(some 40), .move (.t 2), none, .write, 0⟩, ⟨(some 41), .fieldAddr 2 (.t 12), none, .write, 0⟩, ⟨(some 42), .load none (.t 41), none, .write, 0⟩, ⟨(some 43), .call (.c (.func 148 [])) [(.t 40), (.t 42)], none, .write, 0⟩, ⟨(some 44), .un .not (.t 43), none, .write, 0⟩])
 (.cond (.t 44) (.exit 1) .skip))
 (.seq (.region [⟨(some 46), .load (some 6) (.t 3), none, .write, 0⟩, ⟨(some 47), .fieldAddr 0 (.t 12), none, .write, 0⟩, ⟨(some 48), .load (some 2) (.t 47), none, .write, 0⟩, ⟨(some 49), .load (some 2) (.t 4), none, .write, 0⟩, ⟨(some 50), .move (.t 2), none, .write, 0⟩, ⟨(some 51), .build [(.int .i64 0), (.int .i64 0), (.int .i64 0), (.int .i64 0), .nsl, (.int .i64 0), (.bool false)] [(0, 2, (.t 48)), (2, 2, (.t 49)), (4, 1, (.t 50)), (5, 1, (.c (.int .i64 (-1))))], none, .write, 0⟩, ⟨(some 52), .call (.c (.func 164 [])) [(.t 46), (.t 51)], none, .write, 0⟩, ⟨(some 45), .move (.t 52), none, .write, 0⟩, ⟨(some 53), .extract (.t 45) 0, none, .write, 0⟩, ⟨(some 54), .extract (.t 45) 1, none, .write, 0⟩, ⟨(some 13), .alloc 28 6 (.agg [(.int .i64 0), .nsl, .nsl, .nsl, .nsl, .nsl]), none, .write, 0⟩, ⟨none, .store 6 (.t 13) (.t 53), none, .write, 0⟩, ⟨(some 14), .move (.t 54), none, .write, 0⟩])
 (.draw [⟨(some 55), .load (some 6) (.t 13), none, .read, 0⟩, ⟨(some 56), .move (.t 10), none, .read, 0⟩, ⟨(some 57), .move (.t 14), none, .read, 0⟩, ⟨(some 58), .append 254 8 96 (.t 56) (.t 57), none, .create, 0⟩, ⟨none, .store 6 (.t 3) (.t 55), none, .write, 1⟩, ⟨(some 10), .move (.t 58), none, .read, 2⟩])))))
 (.region [⟨(some 59), .arith .add (.t 36) (.c (.int .i64 1)), none, .write, 0⟩, ⟨(some 36), .move (.t 59), none, .write, 0⟩])))))))
 (.seq (.region [⟨(some 60), .load (some 6) (.t 3), none, .write, 0⟩, ⟨(some 61), .move (.t 10), none, .write, 0⟩, ⟨none, .store 6 (.t 6) (.t 60), none, .write, 0⟩, ⟨(some 7), .move (.t 61), none, .write, 0⟩])
 .ret))))))) }

theorem c80 : compFunc Tryz.prog Tryz.f80 .full = some t80 := by kernel_rfl

/-- (*broadside/net.Net).Publish$1 -/
def t81 : DFunc := { ntmps := 22, results := [(.cell 6 (some 6)), (.t 7)], mode := .full, body :=
 (.seq (.region [⟨(some 5), .box 28 6 (.t 0), none, .write, 0⟩, ⟨(some 6), .alloc 28 6 (.agg [(.int .i64 0), .nsl, .nsl, .nsl, .nsl, .nsl]), none, .write, 0⟩, ⟨(some 7), .move (.c .nsl), none, .write, 0⟩])
 (.seq (.region [⟨(some 11), .load (some 6) (.t 5), none, .write, 0⟩, ⟨(some 12), .load (some 2) (.t 1), none, .write, 0⟩, ⟨(some 13), .load (some 2) (.t 2), none, .write, 0⟩, ⟨(some 14), .load none (.t 3), none, .write, 0⟩, ⟨(some 15), .build [(.int .i64 0), (.int .i64 0), (.int .i64 0), (.int .i64 0), (.int .i64 0), .nsl, .nsl] [(0, 1, (.c (.int .i64 5))), (1, 2, (.t 12)), (3, 2, (.t 13)), (6, 1, (.t 14))], none, .write, 0⟩, ⟨(some 16), .call (.c (.func 82 [])) [(.t 11), (.c (.int .i64 (-1))), (.t 15)], none, .write, 0⟩, ⟨(some 10), .move (.t 16), none, .write, 0⟩, ⟨(some 17), .extract (.t 10) 0, none, .write, 0⟩, ⟨(some 18), .extract (.t 10) 1, none, .write, 0⟩, ⟨(some 8), .move (.t 17), none, .write, 0⟩, ⟨(some 9), .move (.t 18), none, .write, 0⟩])
 (.seq (.region [⟨(some 19), .move (.t 9), none, .write, 0⟩, ⟨none, .store 1 (.t 4) (.t 19), none, .write, 0⟩])
 (.seq (.region [⟨(some 20), .load (some 6) (.t 5), none, .write, 0⟩, ⟨(some 21), .move (.t 8), none, .write, 0⟩, ⟨none, .store 6 (.t 6) (.t 20), none, .write, 0⟩, ⟨(some 7), .move (.t 21), none, .write, 0⟩])
 .ret)))) }

theorem c81 : compFunc Tryz.prog Tryz.f81 .full = some t81 := by kernel_rfl

/-- broadside/carry.Pub -/
def t82 : DFunc := { ntmps := 70, results := [(.t 6), (.t 7)], mode := .full, body :=
 (.seq (.region [⟨(some 3), .box 28 6 (.t 0), none, .write, 0⟩, ⟨(some 5), .box 49 7 (.t 2), none, .write, 0⟩, ⟨(some 6), .move (.c .nsl), none, .write, 0⟩, ⟨(some 7), .move (.c .nsl), none, .write, 0⟩])
 (.seq (.region [⟨(some 17), .load (some 6) (.t 3), none, .write, 0⟩, ⟨(some 18), .fieldAddr 1 (.t 5), none, .write, 0⟩, ⟨(some 19), .load (some 2) (.t 18), none, .write, 0⟩, ⟨(some 20), .call (.c (.func 26 [])) [(.t 17), (.t 19)], none, .write, 0⟩, ⟨(some 16), .move (.t 20), none, .write, 0⟩, ⟨(some 21), .extract (.t 16) 0, none, .write, 0⟩, ⟨(some 22), .extract (.t 16) 1, none, .write, 0⟩, ⟨(some 8), .alloc 70 4 (.agg [(.int .i64 0), (.int .i64 0), .nsl, (.int .i64 0)]), none, .write, 0⟩, ⟨none, .store 4 (.t 8) (.t 21), none, .write, 0⟩, ⟨(some 9), .move (.t 22), none, .write, 0⟩])
 (.seq (.seq (.region [⟨(some 23), .move (.t 9), none, .write, 0⟩, ⟨(some 24), .un .not (.t 23), none, .write, 0⟩, ⟨(some 25), .move (.t 24), none, .write, 0⟩, ⟨(some 26), .fieldAddr 3 (.t 8), (some (25, false)), .write, 0⟩, ⟨(some 27), .load none (.t 26), (some (25, false)), .write, 0⟩, ⟨(some 28), .move (.t 1), (some (25, false)), .write, 0⟩, ⟨(some 29), .arith .neq (.t 27) (.t 28), (some (25, false)), .write, 0⟩, ⟨(some 30), .pick (.t 25) (.c (.bool true)) (.t 29), none, .write, 0⟩])
 (.cond (.t 30) (.seq (.region [⟨(some 6), .move (.c .nsl), none, .write, 0⟩, ⟨(some 7), .move (.c .nsl), none, .write, 0⟩])
 .ret) .skip))
 (.seq (.region [⟨(some 10), .move (.c .nsl), none, .write, 0⟩])
 (.seq (.region [⟨(some 11), .move (.c .nsl), none, .write, 0⟩])
 (.seq (.seq (.region [⟨(some 31), .load (some 6) (.t 3), none, .write, 0⟩, ⟨(some 32), .fieldAddr 1 (.t 5), none, .write, 0⟩, ⟨(some 33), .load (some 2) (.t 32), none, .write, 0⟩, ⟨(some 34), .fieldAddr 6 (.t 5), none, .write, 0⟩, ⟨(some 35), .load none (.t 34), none, .write, 0⟩, ⟨(some 36), .call (.c (.func 165 [])) [(.t 31), (.t 33), (.t 35)], none, .write, 0⟩, ⟨(some 37), .len 1 (.t 36), none, .write, 0⟩, ⟨(some 38), .move (.c (.int .i64 0)), none, .write, 0⟩])
 (.block 0 (.loop (.seq (.region [⟨(some 39), .arith .lss (.t 38) (.t 37), none, .write, 0⟩])
 (.seq (.cond (.t 39) .skip (.exit 0))
 (.seq (.block 1 (.seq (.region [⟨(some 40), .indexAddr 1 (.t 36) (.t 38), none, .write, 0⟩, ⟨(some 41), .load none (.t 40), none, .write, 0⟩, ⟨(some 13), .move (.t 41), none, .write, 0⟩])
 (.region [⟨(some 42), .move (.t 10), none, .write, 0⟩, ⟨(some 43), .move (.t 13), none, .write, 0⟩, ⟨(some 44), .load (some 7) (.t 5), none, .write, 0⟩, ⟨(some 45), .build [(.int .i64 0), (.int .i64 0), (.int .i64 0), (.int .i64 0), (.int .i64 0), (.int .i64 0), .nsl, .nsl] [(0, 1, (.t 43)), (1, 7, (.t 44))], none, .write, 0⟩, ⟨(some 46), .buildSlice 254 8 (.agg [(.int .i64 0), (.int .i64 0), (.int .i64 0), (.int .i64 0), (.int .i64 0), (.int .i64 0), .nsl, .nsl]) 1 [(0, (.t 45))], none, .write, 0⟩, ⟨(some 47), .append 254 8 96 (.t 42) (.t 46), none, .write, 0⟩, ⟨(some 10), .move (.t 47), none, .write, 0⟩])))
 (.region [⟨(some 48), .arith .add (.t 38) (.c (.int .i64 1)), none, .write, 0⟩, ⟨(some 38), .move (.t 48), none, .write, 0⟩])))))))
 (.seq (.seq (.region [⟨(some 49), .load (some 6) (.t 3), none, .write, 0⟩, ⟨(some 50), .fieldAddr 6 (.t 5), none, .write, 0⟩, ⟨(some 51), .load none (.t 50), none, .write, 0⟩, ⟨(some 52), .call (.c (.func 166 [])) [(.t 49), (.t 51)], none, .write, 0⟩, ⟨(some 53), .len 1 (.t 52), none, .write, 0⟩, ⟨(some 54), .move (.c (.int .i64 0)), none, .write, 0⟩])
 (.block 2 (.loop (.seq (.region [⟨(some 55), .arith .lss (.t 54) (.t 53), none, .write, 0⟩])
 (.seq (.cond (.t 55) .skip (.exit 2))
 (.seq (.block 3 (.seq (.region [⟨(some 56), .indexAddr 1 (.t 52) (.t 54), none, .write, 0⟩, ⟨(some 57), .load none (.t 56), none, .write, 0⟩, ⟨(some 15), .move (.t 57), none, .write, 0⟩])
 (.region [⟨(some 58), .move (.t 11), none, .write, 0⟩, ⟨(some 59), .move (.t 15), none, .write, 0⟩, ⟨(some 60), .fieldAddr 3 (.t 5), none, .write, 0⟩, ⟨(some 61), .load (some 2) (.t 60), none, .write, 0⟩, ⟨(some 62), .fieldAddr 6 (.t 5), none, .write, 0⟩, ⟨(some 63), .load none (.t 62), none, .write, 0⟩, ⟨(some 64), .build [(.int .i64 0), (.int .i64 0), (.int .i64 0), .nsl] [(0, 1, (.t 59)), (1, 2, (.t 61)), (3, 1, (.t 63))], none, .write, 0⟩, ⟨(some 65), .buildSlice 265 4 (.agg [(.int .i64 0), (.int .i64 0), (.int .i64 0), .nsl]) 1 [(0, (.t 64))], none, .write, 0⟩, ⟨(some 66), .append 265 4 48 (.t 58) (.t 65), none, .write, 0⟩, ⟨(some 11), .move (.t 66), none, .write, 0⟩])))
 (.region [⟨(some 67), .arith .add (.t 54) (.c (.int .i64 1)), none, .write, 0⟩, ⟨(some 54), .move (.t 67), none, .write, 0⟩])))))))
 (.seq (.region [⟨(some 68), .move (.t 10), none, .write, 0⟩, ⟨(some 69), .move (.t 11), none, .write, 0⟩, ⟨(some 6), .move (.t 68), none, .write, 0⟩, ⟨(some 7), .move (.t 69), none, .write, 0⟩])
 .ret)))))))) }

theorem c82 : compFunc Tryz.prog Tryz.f82 .full = some t82 := by kernel_rfl

/-- (*broadside/world.World).do -/
def t84 : DFunc := { ntmps := 38, results := [(.cell 4 (some 7)), (.t 5)], mode := .full, body :=
 (.seq (.region [⟨(some 3), .box 85 9 (.t 1), none, .write, 0⟩, ⟨(some 4), .alloc 82 7 (.agg [(.int .i64 0), (.int .i64 0), (.int .i64 0), (.int .i64 0), (.int .i64 0), (.int .i64 0), .nsl]), none, .write, 0⟩, ⟨(some 5), .move (.c .nili), none, .write, 0⟩])
 (.seq (.seq (.region [⟨(some 6), .fieldAddr 0 (.t 3), none, .write, 0⟩, ⟨(some 7), .load none (.t 6), none, .write, 0⟩])
 (.block 0 (.seq (.region [⟨(some 9), .arith .eql (.t 7) (.c (.int .i64 1)), none, .write, 0⟩, ⟨(some 8), .move (.t 9), none, .write, 0⟩])
 (.cond (.t 8) (.seq (.region [⟨(some 10), .move (.t 0), none, .write, 0⟩, ⟨(some 11), .fieldAddr 4 (.t 3), none, .write, 0⟩, ⟨(some 12), .load none (.t 11), none, .write, 0⟩, ⟨(some 13), .call (.c (.func 167 [])) [(.t 10), (.t 12)], none, .write, 0⟩, ⟨(some 14), .extract (.t 13) 0, none, .write, 0⟩, ⟨(some 15), .extract (.t 13) 1, none, .write, 0⟩, ⟨none, .store 7 (.t 4) (.t 14), none, .write, 0⟩, ⟨(some 5), .move (.t 15), none, .write, 0⟩])
 .ret) (.seq (.seq (.region [⟨(some 17), .arith .eql (.t 7) (.c (.int .i64 8)), none, .write, 0⟩, ⟨(some 16), .move (.t 17), none, .write, 0⟩])
 (.cond (.t 16) .skip (.region [⟨(some 18), .arith .eql (.t 7) (.c (.int .i64 9)), none, .write, 0⟩, ⟨(some 16), .move (.t 18), none, .write, 0⟩])))
 (.cond (.t 16) (.seq (.region [⟨(some 19), .move (.t 0), none, .write, 0⟩, ⟨(some 20), .load (some 9) (.t 3), none, .write, 0⟩, ⟨(some 21), .call (.c (.func 168 [])) [(.t 19), (.t 20)], none, .write, 0⟩, ⟨(some 22), .extract (.t 21) 0, none, .write, 0⟩, ⟨(some 23), .extract (.t 21) 1, none, .write, 0⟩, ⟨none, .store 7 (.t 4) (.t 22), none, .write, 0⟩, ⟨(some 5), .move (.t 23), none, .write, 0⟩])
 .ret) (.seq (.seq (.region [⟨(some 25), .arith .eql (.t 7) (.c (.int .i64 2)), none, .write, 0⟩, ⟨(some 24), .move (.t 25), none, .write, 0⟩])
 (.cond (.t 24) .skip (.seq (.region [⟨(some 26), .arith .eql (.t 7) (.c (.int .i64 3)), none, .write, 0⟩, ⟨(some 24), .move (.t 26), none, .write, 0⟩])
 (.cond (.t 24) .skip (.seq (.region [⟨(some 27), .arith .eql (.t 7) (.c (.int .i64 4)), none, .write, 0⟩, ⟨(some 24), .move (.t 27), none, .write, 0⟩])
 (.cond (.t 24) .skip (.seq (.region [⟨(some 28), .arith .eql (.t 7) (.c (.int .i64 5)), none, .write, 0⟩, ⟨(some 24), .move (.t 28), none, .write, 0⟩])
 (.cond (.t 24) .skip (.seq (.region [⟨(some 29), .arith .eql (.t 7) (.c (.int .i64 6)), none, .write, 0⟩, ⟨(some 24), .move (.t 29), none, .write, 0⟩])
 (.cond (.t 24) .skip (.region [⟨(some 30), .arith .eql (.t 7) (.c (.int .i64 7)), none, .write, 0⟩, ⟨(some 24), .move (.t 30), none, .write, 0⟩])))))))))))
 (.cond (.t 24) (.seq (.region [⟨(some 31), .move (.t 0), none, .write, 0⟩, ⟨(some 32), .load (some 9) (.t 3), none, .write, 0⟩, ⟨(some 33), .call (.c (.func 169 [])) [(.t 31), (.t 32)], none, .write, 0⟩, ⟨(some 34), .extract (.t 33) 0, none, .write, 0⟩, ⟨(some 35), .extract (.t 33) 1, none, .write, 0⟩, ⟨none, .store 7 (.t 4) (.t 34), none, .write, 0⟩, ⟨(some 5), .move (.t 35), none, .write, 0⟩])
 .ret) .skip))))))))
 (.seq (.region [⟨(some 36), .build [(.int .i64 0), (.int .i64 0), (.int .i64 0), (.int .i64 0), (.int .i64 0), (.int .i64 0), .nsl] [], none, .write, 0⟩, ⟨(some 37), .makeIface 37 (.c (.int .i64 1)), none, .write, 0⟩, ⟨none, .store 7 (.t 4) (.t 36), none, .write, 0⟩, ⟨(some 5), .move (.t 37), none, .write, 0⟩])
 .ret))) }

theorem c84 : compFunc Tryz.prog Tryz.f84 .full = some t84 := by kernel_rfl

/-- (*broadside/inbox.Boxes).Look -/
def t85 : DFunc := { ntmps := 12, results := [(.t 4)], mode := .full, body :=
 (.seq (.region [⟨(some 4), .move (.c .nsl), none, .write, 0⟩])
 (.seq (.region [⟨(some 5), .move (.t 0), none, .write, 0⟩, ⟨(some 6), .nilCheck (.t 5), none, .write, 0⟩, ⟨(some 7), .fieldAddr 0 (.t 6), none, .write, 0⟩, ⟨(some 8), .load none (.t 7), none, .write, 0⟩, ⟨(some 9), .move (.t 1), none, .write, 0⟩, ⟨(some 10), .lookup (.prim 1) .nsl false (.t 8) (.t 9), none, .write, 0⟩, ⟨(some 11), .call (.c (.func 170 [])) [(.t 10)], none, .write, 0⟩, ⟨(some 4), .move (.t 11), none, .write, 0⟩])
 .ret)) }

theorem c85 : compFunc Tryz.prog Tryz.f85 .full = some t85 := by kernel_rfl

/-- broadside/graph.may -/
def t89 : DFunc := { ntmps := 22, results := [(.t 4)], mode := .full, body :=
 (.seq (.region [⟨(some 2), .box 56 2 (.t 0), none, .write, 0⟩, ⟨(some 3), .box 64 2 (.t 1), none, .write, 0⟩, ⟨(some 4), .move (.c (.bool false)), none, .write, 0⟩])
 (.seq (.region [⟨(some 5), .load (some 2) (.t 2), none, .write, 0⟩, ⟨(some 6), .indexArr 2 1 (.t 3) (.c (.int .i64 0)), none, .write, 0⟩, ⟨(some 7), .load none (.t 6), none, .write, 0⟩, ⟨(some 8), .call (.c (.func 172 [])) [(.t 5), (.t 7)], none, .write, 0⟩, ⟨(some 9), .move (.t 8), none, .write, 0⟩, ⟨(some 10), .load (some 2) (.t 2), (some (9, true)), .write, 0⟩, ⟨(some 11), .indexArr 2 1 (.t 3) (.c (.int .i64 1)), (some (9, true)), .write, 0⟩, ⟨(some 12), .load none (.t 11), (some (9, true)), .write, 0⟩, ⟨(some 13), .call (.c (.func 172 [])) [(.t 10), (.t 12)], (some (9, true)), .write, 0⟩, ⟨(some 14), .pick (.t 9) (.t 13) (.c (.bool false)), none, .write, 0⟩, ⟨(some 15), .move (.t 14), none, .write, 0⟩, ⟨(some 16), .indexArr 2 1 (.t 3) (.c (.int .i64 0)), (some (15, true)), .write, 0⟩, ⟨(some 17), .load none (.t 16), (some (15, true)), .write, 0⟩, ⟨(some 18), .indexArr 2 1 (.t 3) (.c (.int .i64 1)), (some (15, true)), .write, 0⟩, ⟨(some 19), .load none (.t 18), (some (15, true)), .write, 0⟩, ⟨(some 20), .arith .neq (.t 17) (.t 19), (some (15, true)), .write, 0⟩, ⟨(some 21), .pick (.t 15) (.t 20) (.c (.bool false)), none, .write, 0⟩, ⟨(some 4), .move (.t 21), none, .write, 0⟩])
 .ret)) }

theorem c89 : compFunc Tryz.prog Tryz.f89 .full = some t89 := by kernel_rfl

/-- slices.SortFunc[[][2]int,[2]int] -/
def t90 : DFunc := { ntmps := 14, results := [], mode := .full, body :=
 (.seq (.region [⟨(some 5), .move (.t 0), none, .write, 0⟩, ⟨(some 6), .len 1 (.t 5), none, .write, 0⟩, ⟨(some 4), .move (.t 6), none, .write, 0⟩])
 (.region [⟨(some 7), .move (.t 0), none, .write, 0⟩, ⟨(some 8), .move (.t 4), none, .write, 0⟩, ⟨(some 9), .move (.t 4), none, .write, 0⟩, ⟨(some 10), .conv .u64 (.t 9), none, .write, 0⟩, ⟨(some 11), .call (.c (.func 107 [])) [(.t 10)], none, .write, 0⟩, ⟨(some 12), .move (.t 1), none, .write, 0⟩, ⟨(some 13), .call (.c (.func 173 [])) [(.t 7), (.c (.int .i64 0)), (.t 8), (.t 11), (.t 12)], none, .write, 0⟩])) }

theorem c90 : compFunc Tryz.prog Tryz.f90 .full = some t90 := by kernel_rfl

/-- broadside/graph.Ways$1 -/
def t91 : DFunc := { ntmps := 17, results := [(.t 4)], mode := .full, body :=
 (.seq (.region [⟨(some 2), .box 64 2 (.t 0), none, .write, 0⟩, ⟨(some 3), .box 64 2 (.t 1), none, .write, 0⟩, ⟨(some 4), .move (.c (.int .i64 0)), none, .write, 0⟩])
 (.seq (.draw [⟨(some 5), .indexArr 2 1 (.t 2) (.c (.int .i64 0)), none, .read, 0⟩, ⟨(some 6), .load none (.t 5), none, .read, 0⟩, ⟨(some 7), .indexArr 2 1 (.t 3) (.c (.int .i64 0)), none, .read, 0⟩, ⟨(some 8), .load none (.t 7), none, .read, 0⟩, ⟨(some 9), .call (.c (.func 93 [])) [(.t 6), (.t 8)], none, .create, 0⟩, ⟨(some 10), .indexArr 2 1 (.t 2) (.c (.int .i64 1)), none, .read, 0⟩, ⟨(some 11), .load none (.t 10), none, .read, 0⟩, ⟨(some 12), .indexArr 2 1 (.t 3) (.c (.int .i64 1)), none, .read, 0⟩, ⟨(some 13), .load none (.t 12), none, .read, 0⟩, ⟨(some 14), .call (.c (.func 93 [])) [(.t 11), (.t 13)], none, .write, 1⟩, ⟨(some 15), .buildSlice 3 1 (.int .i64 0) 2 [(0, (.t 9)), (1, (.t 14))], none, .create, 0⟩, ⟨(some 16), .call (.c (.func 92 [])) [(.t 15)], none, .write, 3⟩, ⟨(some 4), .move (.t 16), none, .read, 4⟩])
 .ret)) }

theorem c91 : compFunc Tryz.prog Tryz.f91 .full = some t91 := by kernel_rfl

/-- cmp.Or[int] -/
def t92 : DFunc := { ntmps := 18, results := [(.t 2)], mode := .full, body :=
 (.seq (.region [⟨(some 2), .move (.c (.int .i64 0)), none, .write, 0⟩])
 (.seq (.region [⟨(some 3), .move (.c (.int .i64 0)), none, .write, 0⟩])
 (.seq (.seq (.region [⟨(some 6), .move (.t 0), none, .write, 0⟩, ⟨(some 7), .len 1 (.t 6), none, .write, 0⟩, ⟨(some 8), .move (.c (.int .i64 0)), none, .write, 0⟩])
 (.block 0 (.loop (.seq (.region [⟨(some 9), .arith .lss (.t 8) (.t 7), none, .write, 0⟩])
 (.seq (.cond (.t 9) .skip (.exit 0))
 (.seq (.block 1 (.seq (.region [⟨(some 10), .indexAddr 1 (.t 6) (.t 8), none, .write, 0⟩, ⟨(some 11), .load none (.t 10), none, .write, 0⟩, ⟨(some 5), .move (.t 11), none, .write, 0⟩])
 (.seq (.region [⟨(some 12), .move (.t 5), none, .write, 0⟩, ⟨(some 13), .move (.t 3), none, .write, 0⟩, ⟨(some 14), .arith .neq (.t 12) (.t 13), none, .write, 0⟩])
 (.cond (.t 14) (.seq (.region [⟨(some 15), .move (.t 5), none, .write, 0⟩, ⟨(some 2), .move (.t 15), none, .write, 0⟩])
 .ret) .skip))))
 (.region [⟨(some 16), .arith .add (.t 8) (.c (.int .i64 1)), none, .write, 0⟩, ⟨(some 8), .move (.t 16), none, .write, 0⟩])))))))
 (.seq (.region [⟨(some 17), .move (.t 3), none, .write, 0⟩, ⟨(some 2), .move (.t 17), none, .write, 0⟩])
 .ret)))) }

theorem c92 : compFunc Tryz.prog Tryz.f92 .full = some t92 := by kernel_rfl

/-- cmp.Compare[int] -/
def t93 : DFunc := { ntmps := 20, results := [(.t 4)], mode := .full, body :=
 (.seq (.region [⟨(some 4), .move (.c (.int .i64 0)), none, .write, 0⟩])
 (.seq (.region [⟨(some 7), .move (.t 0), none, .write, 0⟩, ⟨(some 8), .call (.c (.func 174 [])) [(.t 7)], none, .write, 0⟩, ⟨(some 5), .move (.t 8), none, .write, 0⟩])
 (.seq (.region [⟨(some 9), .move (.t 1), none, .write, 0⟩, ⟨(some 10), .call (.c (.func 174 [])) [(.t 9)], none, .write, 0⟩, ⟨(some 6), .move (.t 10), none, .write, 0⟩])
 (.seq (.seq (.region [⟨(some 11), .move (.t 5), none, .write, 0⟩])
 (.cond (.t 11) (.seq (.seq (.region [⟨(some 12), .move (.t 6), none, .write, 0⟩])
 (.cond (.t 12) (.seq (.region [⟨(some 4), .move (.c (.int .i64 0)), none, .write, 0⟩])
 .ret) .skip))
 (.seq (.region [⟨(some 4), .move (.c (.int .i64 (-1))), none, .write, 0⟩])
 .ret)) .skip))
 (.seq (.seq (.region [⟨(some 13), .move (.t 6), none, .write, 0⟩])
 (.cond (.t 13) (.seq (.region [⟨(some 4), .move (.c (.int .i64 1)), none, .write, 0⟩])
 .ret) .skip))
 (.seq (.seq (.region [⟨(some 14), .move (.t 0), none, .write, 0⟩, ⟨(some 15), .move (.t 1), none, .write, 0⟩, ⟨(some 16), .arith .lss (.t 14) (.t 15), none, .write, 0⟩])
 (.cond (.t 16) (.seq (.region [⟨(some 4), .move (.c (.int .i64 (-1))), none, .write, 0⟩])
 .ret) .skip))
 (.seq (.seq (.region [⟨(some 17), .move (.t 0), none, .write, 0⟩, ⟨(some 18), .move (.t 1), none, .write, 0⟩, ⟨(some 19), .arith .gtr (.t 17) (.t 18), none, .write, 0⟩])
 (.cond (.t 19) (.seq (.region [⟨(some 4), .move (.c (.int .i64 1)), none, .write, 0⟩])
 .ret) .skip))
 (.seq (.region [⟨(some 4), .move (.c (.int .i64 0)), none, .write, 0⟩])
 .ret)))))))) }

theorem c93 : compFunc Tryz.prog Tryz.f93 .full = some t93 := by kernel_rfl

/-- slices.Compact[[][2]int,[2]int] -/
def t94 : DFunc := { ntmps := 61, results := [(.t 2)], mode := .full, body :=
 (.seq (.region [⟨(some 2), .move (.c .nsl), none, .write, 0⟩])
 (.seq (.seq (.region [⟨(some 6), .move (.t 0), none, .write, 0⟩, ⟨(some 7), .len 1 (.t 6), none, .write, 0⟩, ⟨(some 8), .arith .lss (.t 7) (.c (.int .i64 2)), none, .write, 0⟩])
 (.cond (.t 8) (.seq (.region [⟨(some 9), .move (.t 0), none, .write, 0⟩, ⟨(some 2), .move (.t 9), none, .write, 0⟩])
 .ret) .skip))
 (.seq (.seq (.region [⟨(some 3), .move (.c (.int .i64 1)), none, .write, 0⟩])
 (.block 0 (.loop (.seq (.seq (.region [⟨(some 10), .move (.t 3), none, .write, 0⟩, ⟨(some 11), .move (.t 0), none, .write, 0⟩, ⟨(some 12), .len 1 (.t 11), none, .write, 0⟩, ⟨(some 13), .arith .lss (.t 10) (.t 12), none, .write, 0⟩])
 (.cond (.t 13) .skip (.exit 0)))
 (.seq (.block 1 (.seq (.draw [⟨(some 16), .move (.t 0), none, .read, 0⟩, ⟨(some 17), .move (.t 3), none, .read, 0⟩, ⟨(some 18), .indexAddr 2 (.t 16) (.t 17), none, .read, 0⟩, ⟨(some 19), .load (some 2) (.t 18), none, .read, 0⟩, ⟨(some 20), .move (.t 0), none, .read, 0⟩, ⟨(some 21), .move (.t 3), none, .read, 0⟩, ⟨(some 22), .arith .sub (.t 21) (.c (.int .i64 1)), none, .read, 0⟩, ⟨(some 23), .indexAddr 2 (.t 20) (.t 22), none, .read, 0⟩, ⟨(some 24), .load (some 2) (.t 23), none, .read, 0⟩, ⟨(some 25), .eqa false [1, 1] (.t 19) (.t 24), none, .read, 0⟩])
 (.cond (.t 25) (.seq (.region [⟨(some 26), .move (.t 0), none, .write, 0⟩, ⟨(some 27), .move (.t 3), none, .write, 0⟩, ⟨(some 28), .sliceSl 2 (.t 26) (some (.t 27)) none, none, .write, 0⟩, ⟨(some 4), .move (.t 28), none, .write, 0⟩])
 (.seq (.seq (.region [⟨(some 5), .move (.c (.int .i64 1)), none, .write, 0⟩])
 (.block 2 (.loop (.seq (.seq (.region [⟨(some 29), .move (.t 5), none, .write, 0⟩, ⟨(some 30), .move (.t 4), none, .write, 0⟩, ⟨(some 31), .len 1 (.t 30), none, .write, 0⟩, ⟨(some 32), .arith .lss (.t 29) (.t 31), none, .write, 0⟩])
 (.cond (.t 32) .skip (.exit 2)))
 (.seq (.block 3 (.seq (.draw [⟨(some 35), .move (.t 4), none, .read, 0⟩, ⟨(some 36), .move (.t 5), none, .read, 0⟩, ⟨(some 37), .indexAddr 2 (.t 35) (.t 36), none, .read, 0⟩, ⟨(some 38), .load (some 2) (.t 37), none, .read, 0⟩, ⟨(some 39), .move (.t 4), none, .read, 0⟩, ⟨(some 40), .move (.t 5), none, .read, 0⟩, ⟨(some 41), .arith .sub (.t 40) (.c (.int .i64 1)), none, .read, 0⟩, ⟨(some 42), .indexAddr 2 (.t 39) (.t 41), none, .read, 0⟩, ⟨(some 43), .load (some 2) (.t 42), none, .read, 0⟩, ⟨(some 44), .eqa true [1, 1] (.t 38) (.t 43), none, .read, 0⟩])
 (.cond (.t 44) (.seq (.region [⟨(some 45), .move (.t 0), none, .write, 0⟩, ⟨(some 46), .move (.t 3), none, .write, 0⟩, ⟨(some 47), .move (.t 4), none, .write, 0⟩, ⟨(some 48), .move (.t 5), none, .write, 0⟩, ⟨(some 49), .indexAddr 2 (.t 47) (.t 48), none, .write, 0⟩, ⟨(some 50), .load (some 2) (.t 49), none, .write, 0⟩, ⟨(some 51), .indexAddr 2 (.t 45) (.t 46), none, .write, 0⟩, ⟨none, .store 2 (.t 51) (.t 50), none, .write, 0⟩])
 (.region [⟨(some 52), .move (.t 3), none, .write, 0⟩, ⟨(some 53), .arith .add (.t 52) (.c (.int .i64 1)), none, .write, 0⟩, ⟨(some 3), .move (.t 53), none, .write, 0⟩])) .skip)))
 (.region [⟨(some 33), .move (.t 5), none, .write, 0⟩, ⟨(some 34), .arith .add (.t 33) (.c (.int .i64 1)), none, .write, 0⟩, ⟨(some 5), .move (.t 34), none, .write, 0⟩]))))))
 (.seq (.region [⟨(some 54), .move (.t 0), none, .write, 0⟩, ⟨(some 55), .move (.t 3), none, .write, 0⟩, ⟨(some 56), .sliceSl 2 (.t 54) (some (.t 55)) none, none, .write, 0⟩, ⟨none, .clear 2 (.agg [(.int .i64 0), (.int .i64 0)]) (.t 56), none, .write, 0⟩])
 (.seq (.region [⟨(some 57), .move (.t 0), none, .write, 0⟩, ⟨(some 58), .move (.t 3), none, .write, 0⟩, ⟨(some 59), .sliceSl 2 (.t 57) none (some (.t 58)), none, .write, 0⟩, ⟨(some 2), .move (.t 59), none, .write, 0⟩])
 .ret)))) .skip)))
 (.region [⟨(some 14), .move (.t 3), none, .write, 0⟩, ⟨(some 15), .arith .add (.t 14) (.c (.int .i64 1)), none, .write, 0⟩, ⟨(some 3), .move (.t 15), none, .write, 0⟩]))))))
 (.seq (.region [⟨(some 60), .move (.t 0), none, .write, 0⟩, ⟨(some 2), .move (.t 60), none, .write, 0⟩])
 .ret)))) }

theorem c94 : compFunc Tryz.prog Tryz.f94 .full = some t94 := by kernel_rfl

/-- (*broadside/model.Model).Take -/
def t95 : DFunc := { ntmps := 174, results := [], mode := .full, body :=
 (.seq (.region [⟨(some 4), .box 85 9 (.t 1), none, .write, 0⟩, ⟨(some 5), .box 82 7 (.t 2), none, .write, 0⟩])
 (.seq (.seq (.region [⟨(some 19), .fieldAddr 0 (.t 5), none, .write, 0⟩, ⟨(some 20), .load none (.t 19), none, .write, 0⟩, ⟨(some 21), .arith .neq (.t 20) (.c (.int .i64 0)), none, .write, 0⟩])
 (.cond (.t 21) .ret .skip))
 (.seq (.region [⟨(some 22), .fieldAddr 1 (.t 4), none, .write, 0⟩, ⟨(some 23), .load none (.t 22), none, .write, 0⟩, ⟨(some 24), .fieldAddr 2 (.t 4), none, .write, 0⟩, ⟨(some 25), .load none (.t 24), none, .write, 0⟩, ⟨(some 26), .build [(.int .i64 0), (.int .i64 0)] [(0, 1, (.t 23)), (1, 1, (.t 25))], none, .write, 0⟩, ⟨(some 6), .alloc 45 2 (.agg [(.int .i64 0), (.int .i64 0)]), none, .write, 0⟩, ⟨none, .store 2 (.t 6) (.t 26), none, .write, 0⟩])
 (.seq (.region [⟨(some 27), .fieldAddr 0 (.t 4), none, .write, 0⟩, ⟨(some 28), .load none (.t 27), none, .write, 0⟩])
 (.block 0 (.seq (.region [⟨(some 30), .arith .eql (.t 28) (.c (.int .i64 1)), none, .write, 0⟩, ⟨(some 29), .move (.t 30), none, .write, 0⟩])
 (.cond (.t 29) (.draw [⟨(some 32), .move (.t 0), none, .read, 0⟩, ⟨(some 33), .nilCheck (.t 32), none, .read, 0⟩, ⟨(some 34), .fieldAddr 0 (.t 33), none, .read, 0⟩, ⟨(some 35), .load none (.t 34), none, .read, 0⟩, ⟨(some 36), .fieldAddr 4 (.t 4), none, .read, 0⟩, ⟨(some 37), .load none (.t 36), none, .read, 0⟩, ⟨(some 38), .buildSlice 3 1 (.int .i64 0) 1 [(0, (.t 37))], none, .create, 0⟩, ⟨(some 39), .append 3 1 8 (.t 35) (.t 38), none, .write, 1⟩, ⟨(some 31), .move (.t 0), none, .read, 0⟩, ⟨(some 40), .nilCheck (.t 31), none, .read, 2⟩, ⟨(some 41), .fieldAddr 0 (.t 40), none, .read, 2⟩, ⟨none, .store 1 (.t 41) (.t 39), none, .write, 2⟩]) (.seq (.region [⟨(some 43), .arith .eql (.t 28) (.c (.int .i64 6)), none, .write, 0⟩, ⟨(some 42), .move (.t 43), none, .write, 0⟩])
 (.cond (.t 42) (.draw [⟨(some 44), .move (.t 0), none, .read, 0⟩, ⟨(some 45), .nilCheck (.t 44), none, .read, 0⟩, ⟨(some 46), .fieldAddr 3 (.t 45), none, .read, 0⟩, ⟨(some 47), .indexArr 3 1 (.t 46) (.c (.int .i64 2)), none, .read, 0⟩, ⟨(some 48), .load none (.t 47), none, .read, 0⟩, ⟨(some 49), .arith .add (.t 48) (.c (.int .i64 1)), none, .read, 0⟩, ⟨(some 50), .nilCheck (.t 44), none, .read, 0⟩, ⟨(some 51), .fieldAddr 3 (.t 50), none, .read, 0⟩, ⟨(some 52), .indexArr 3 1 (.t 51) (.c (.int .i64 2)), none, .read, 0⟩, ⟨none, .store 1 (.t 52) (.t 49), none, .write, 0⟩]) (.seq (.region [⟨(some 54), .arith .eql (.t 28) (.c (.int .i64 2)), none, .write, 0⟩, ⟨(some 53), .move (.t 54), none, .write, 0⟩])
 (.cond (.t 53) (.seq (.region [⟨(some 56), .fieldAddr 6 (.t 4), none, .write, 0⟩, ⟨(some 57), .load none (.t 56), none, .write, 0⟩, ⟨(some 58), .call (.c (.func 175 [])) [(.t 57)], none, .write, 0⟩, ⟨(some 55), .move (.t 58), none, .write, 0⟩, ⟨(some 59), .extract (.t 55) 0, none, .write, 0⟩, ⟨(some 60), .extract (.t 55) 1, none, .write, 0⟩, ⟨(some 7), .move (.t 59), none, .write, 0⟩, ⟨(some 8), .move (.t 60), none, .write, 0⟩])
 (.seq (.seq (.region [⟨(some 62), .move (.t 0), none, .write, 0⟩, ⟨(some 63), .fieldAddr 2 (.t 5), none, .write, 0⟩, ⟨(some 64), .load (some 2) (.t 63), none, .write, 0⟩, ⟨(some 65), .call (.c (.func 176 [])) [(.t 62), (.t 64)], none, .write, 0⟩, ⟨(some 61), .move (.t 65), none, .write, 0⟩, ⟨(some 66), .extract (.t 61) 0, none, .write, 0⟩, ⟨(some 67), .extract (.t 61) 1, none, .write, 0⟩, ⟨(some 9), .move (.t 66), none, .write, 0⟩, ⟨(some 10), .move (.t 67), none, .write, 0⟩])
 (.seq (.region [⟨(some 68), .move (.t 10), none, .write, 0⟩, ⟨(some 69), .un .not (.t 68), none, .write, 0⟩])
 (.cond (.t 69) (.draw [⟨(some 71), .move (.t 0), none, .read, 0⟩, ⟨(some 72), .nilCheck (.t 71), none, .read, 0⟩, ⟨(some 73), .fieldAddr 1 (.t 72), none, .read, 0⟩, ⟨(some 74), .load none (.t 73), none, .read, 0⟩, ⟨(some 76), .fieldAddr 2 (.t 5), none, .read, 0⟩, ⟨(some 77), .load (some 2) (.t 76), none, .read, 0⟩, ⟨(some 80), .fieldAddr 1 (.t 4), none, .read, 0⟩, ⟨(some 81), .load none (.t 80), none, .read, 0⟩, ⟨(some 79), .move (.t 0), none, .read, 0⟩, ⟨(some 82), .call (.c (.func 178 [])) [(.t 79), (.t 81)], none, .create, 0⟩, ⟨(some 75), .move (.t 9), none, .read, 0⟩, ⟨(some 78), .move (.t 7), none, .read, 0⟩, ⟨(some 83), .build [(.int .i64 0), (.int .i64 0), .nsl, (.int .i64 0)] [(0, 2, (.t 77)), (2, 1, (.t 78)), (3, 1, (.t 82))], none, .read, 1⟩, ⟨(some 84), .buildSlice 70 4 (.agg [(.int .i64 0), (.int .i64 0), .nsl, (.int .i64 0)]) 1 [(0, (.t 83))], none, .create, 0⟩, ⟨(some 85), .call (.c (.func 177 [])) [(.t 74), (.t 75), (.t 84)], none, .write, 2⟩, ⟨(some 70), .move (.t 0), none, .read, 0⟩, ⟨(some 86), .nilCheck (.t 70), none, .read, 3⟩, ⟨(some 87), .fieldAddr 1 (.t 86), none, .read, 3⟩, ⟨none, .store 1 (.t 87) (.t 85), none, .write, 3⟩]) .skip)))
 (.draw [⟨(some 88), .move (.t 0), none, .read, 0⟩, ⟨(some 89), .nilCheck (.t 88), none, .read, 0⟩, ⟨(some 90), .fieldAddr 3 (.t 89), none, .read, 0⟩, ⟨(some 91), .indexArr 3 1 (.t 90) (.c (.int .i64 0)), none, .read, 0⟩, ⟨(some 92), .load none (.t 91), none, .read, 0⟩, ⟨(some 93), .arith .add (.t 92) (.c (.int .i64 1)), none, .read, 0⟩, ⟨(some 94), .nilCheck (.t 88), none, .read, 0⟩, ⟨(some 95), .fieldAddr 3 (.t 94), none, .read, 0⟩, ⟨(some 96), .indexArr 3 1 (.t 95) (.c (.int .i64 0)), none, .read, 0⟩, ⟨none, .store 1 (.t 96) (.t 93), none, .write, 0⟩]))) (.seq (.region [⟨(some 98), .arith .eql (.t 28) (.c (.int .i64 4)), none, .write, 0⟩, ⟨(some 97), .move (.t 98), none, .write, 0⟩])
 (.cond (.t 97) (.seq (.region [⟨(some 100), .fieldAddr 6 (.t 4), none, .write, 0⟩, ⟨(some 101), .load none (.t 100), none, .write, 0⟩, ⟨(some 102), .call (.c (.func 175 [])) [(.t 101)], none, .write, 0⟩, ⟨(some 99), .move (.t 102), none, .write, 0⟩, ⟨(some 103), .extract (.t 99) 0, none, .write, 0⟩, ⟨(some 104), .extract (.t 99) 1, none, .write, 0⟩, ⟨(some 11), .move (.t 103), none, .write, 0⟩, ⟨(some 12), .move (.t 104), none, .write, 0⟩])
 (.seq (.seq (.region [⟨(some 106), .move (.t 0), none, .write, 0⟩, ⟨(some 107), .fieldAddr 2 (.t 5), none, .write, 0⟩, ⟨(some 108), .load (some 2) (.t 107), none, .write, 0⟩, ⟨(some 109), .call (.c (.func 179 [])) [(.t 106), (.t 108)], none, .write, 0⟩, ⟨(some 105), .move (.t 109), none, .write, 0⟩, ⟨(some 110), .extract (.t 105) 0, none, .write, 0⟩, ⟨(some 111), .extract (.t 105) 1, none, .write, 0⟩, ⟨(some 13), .move (.t 110), none, .write, 0⟩, ⟨(some 14), .move (.t 111), none, .write, 0⟩])
 (.seq (.region [⟨(some 112), .move (.t 14), none, .write, 0⟩, ⟨(some 113), .un .not (.t 112), none, .write, 0⟩])
 (.cond (.t 113) (.draw [⟨(some 115), .move (.t 0), none, .read, 0⟩, ⟨(some 116), .nilCheck (.t 115), none, .read, 0⟩, ⟨(some 117), .fieldAddr 2 (.t 116), none, .read, 0⟩, ⟨(some 118), .load none (.t 117), none, .read, 0⟩, ⟨(some 120), .fieldAddr 2 (.t 5), none, .read, 0⟩, ⟨(some 121), .load (some 2) (.t 120), none, .read, 0⟩, ⟨(some 119), .move (.t 13), none, .read, 0⟩, ⟨(some 122), .move (.t 11), none, .read, 0⟩, ⟨(some 123), .build [(.int .i64 0), (.int .i64 0), .nsl] [(0, 2, (.t 121)), (2, 1, (.t 122))], none, .read, 0⟩, ⟨(some 124), .build [(.int .i64 0), (.int .i64 0), .nsl, (.bool false)] [(0, 3, (.t 123))], none, .read, 0⟩, ⟨(some 125), .buildSlice 278 4 (.agg [(.int .i64 0), (.int .i64 0), .nsl, (.bool false)]) 1 [(0, (.t 124))], none, .create, 0⟩, ⟨(some 126), .call (.c (.func 180 [])) [(.t 118), (.t 119), (.t 125)], none, .write, 1⟩, ⟨(some 114), .move (.t 0), none, .read, 0⟩, ⟨(some 127), .nilCheck (.t 114), none, .read, 2⟩, ⟨(some 128), .fieldAddr 2 (.t 127), none, .read, 2⟩, ⟨none, .store 1 (.t 128) (.t 126), none, .write, 2⟩]) .skip)))
 (.draw [⟨(some 129), .move (.t 0), none, .read, 0⟩, ⟨(some 130), .nilCheck (.t 129), none, .read, 0⟩, ⟨(some 131), .fieldAddr 3 (.t 130), none, .read, 0⟩, ⟨(some 132), .indexArr 3 1 (.t 131) (.c (.int .i64 1)), none, .read, 0⟩, ⟨(some 133), .load none (.t 132), none, .read, 0⟩, ⟨(some 134), .arith .add (.t 133) (.c (.int .i64 1)), none, .read, 0⟩, ⟨(some 135), .nilCheck (.t 129), none, .read, 0⟩, ⟨(some 136), .fieldAddr 3 (.t 135), none, .read, 0⟩, ⟨(some 137), .indexArr 3 1 (.t 136) (.c (.int .i64 1)), none, .read, 0⟩, ⟨none, .store 1 (.t 137) (.t 134), none, .write, 0⟩]))) (.seq (.region [⟨(some 139), .arith .eql (.t 28) (.c (.int .i64 3)), none, .write, 0⟩, ⟨(some 138), .move (.t 139), none, .write, 0⟩])
 (.cond (.t 138) (.seq (.region [⟨(some 141), .move (.t 0), none, .write, 0⟩, ⟨(some 142), .load (some 2) (.t 6), none, .write, 0⟩, ⟨(some 143), .call (.c (.func 176 [])) [(.t 141), (.t 142)], none, .write, 0⟩, ⟨(some 140), .move (.t 143), none, .write, 0⟩, ⟨(some 144), .extract (.t 140) 0, none, .write, 0⟩, ⟨(some 145), .extract (.t 140) 1, none, .write, 0⟩, ⟨(some 15), .move (.t 144), none, .write, 0⟩, ⟨(some 16), .move (.t 145), none, .write, 0⟩])
 (.seq (.region [⟨(some 146), .move (.t 16), none, .write, 0⟩])
 (.cond (.t 146) (.region [⟨(some 147), .move (.t 0), none, .write, 0⟩, ⟨(some 148), .move (.t 0), none, .write, 0⟩, ⟨(some 149), .nilCheck (.t 148), none, .write, 0⟩, ⟨(some 150), .fieldAddr 1 (.t 149), none, .write, 0⟩, ⟨(some 151), .load none (.t 150), none, .write, 0⟩, ⟨(some 152), .move (.t 15), none, .write, 0⟩, ⟨(some 153), .move (.t 15), none, .write, 0⟩, ⟨(some 154), .arith .add (.t 153) (.c (.int .i64 1)), none, .write, 0⟩, ⟨(some 155), .call (.c (.func 181 [])) [(.t 151), (.t 152), (.t 154)], none, .write, 0⟩, ⟨(some 156), .nilCheck (.t 147), none, .write, 0⟩, ⟨(some 157), .fieldAddr 1 (.t 156), none, .write, 0⟩, ⟨none, .store 1 (.t 157) (.t 155), none, .write, 0⟩]) .skip))) (.seq (.region [⟨(some 159), .arith .eql (.t 28) (.c (.int .i64 5)), none, .write, 0⟩, ⟨(some 158), .move (.t 159), none, .write, 0⟩])
 (.cond (.t 158) (.seq (.region [⟨(some 161), .move (.t 0), none, .write, 0⟩, ⟨(some 162), .load (some 2) (.t 6), none, .write, 0⟩, ⟨(some 163), .call (.c (.func 179 [])) [(.t 161), (.t 162)], none, .write, 0⟩, ⟨(some 160), .move (.t 163), none, .write, 0⟩, ⟨(some 164), .extract (.t 160) 0, none, .write, 0⟩, ⟨(some 165), .extract (.t 160) 1, none, .write, 0⟩, ⟨(some 17), .move (.t 164), none, .write, 0⟩, ⟨(some 18), .move (.t 165), none, .write, 0⟩])
 (.seq (.region [⟨(some 166), .move (.t 18), none, .write, 0⟩])
 (.cond (.t 166) (.region [⟨(some 167), .move (.t 0), none, .write, 0⟩, ⟨(some 168), .nilCheck (.t 167), none, .write, 0⟩, ⟨(some 169), .fieldAddr 2 (.t 168), none, .write, 0⟩, ⟨(some 170), .load none (.t 169), none, .write, 0⟩, ⟨(some 171), .move (.t 17), none, .write, 0⟩, ⟨(some 172), .indexAddr 4 (.t 170) (.t 171), none, .write, 0⟩, ⟨(some 173), .fieldAddr 3 (.t 172), none, .write, 0⟩, ⟨none, .store 1 (.t 173) (.c (.bool true)), none, .write, 0⟩]) .skip))) .skip))))))))))))))))) }

theorem c95 : compFunc Tryz.prog Tryz.f95 .full = some t95 := by kernel_rfl

/-- broadside/code.Split -/
def t96 : DFunc := { ntmps := 29, results := [(.t 2), (.t 3)], mode := .full, body :=
 (.seq (.region [⟨(some 2), .move (.c .nsl), none, .write, 0⟩, ⟨(some 3), .move (.c .nili), none, .write, 0⟩])
 (.seq (.region [⟨(some 4), .move (.c .nsl), none, .write, 0⟩])
 (.seq (.block 0 (.loop (.seq (.seq (.region [⟨(some 8), .move (.t 0), none, .write, 0⟩, ⟨(some 9), .len 1 (.t 8), none, .write, 0⟩, ⟨(some 10), .arith .gtr (.t 9) (.c (.int .i64 0)), none, .write, 0⟩])
 (.cond (.t 10) .skip (.exit 0)))
 (.block 1 (.seq (.region [⟨(some 12), .move (.t 0), none, .write, 0⟩, ⟨(some 13), .call (.c (.func 182 [])) [(.t 12)], none, .write, 0⟩, ⟨(some 11), .move (.t 13), none, .write, 0⟩, ⟨(some 14), .extract (.t 11) 0, none, .write, 0⟩, ⟨(some 15), .extract (.t 11) 1, none, .write, 0⟩, ⟨(some 16), .extract (.t 11) 2, none, .write, 0⟩, ⟨(some 5), .alloc 85 9 (.agg [(.int .i64 0), (.int .i64 0), (.int .i64 0), (.int .i64 0), (.int .i64 0), (.int .i64 0), .nsl, .nsl, .nsl]), none, .write, 0⟩, ⟨none, .store 9 (.t 5) (.t 14), none, .write, 0⟩, ⟨(some 6), .move (.t 15), none, .write, 0⟩, ⟨(some 7), .move (.t 16), none, .write, 0⟩])
 (.seq (.seq (.region [⟨(some 17), .move (.t 7), none, .write, 0⟩, ⟨(some 18), .eqn 4 true (.t 17) (.c .nili), none, .write, 0⟩])
 (.cond (.t 18) (.seq (.region [⟨(some 19), .move (.t 4), none, .write, 0⟩, ⟨(some 20), .len 1 (.t 19), none, .write, 0⟩, ⟨(some 21), .move (.t 7), none, .write, 0⟩, ⟨(some 22), .call (.c (.func 47 [])) [(.c (.str [115, 99, 114, 105, 112, 116])), (.t 20), (.t 21)], none, .write, 0⟩, ⟨(some 2), .move (.c .nsl), none, .write, 0⟩, ⟨(some 3), .move (.t 22), none, .write, 0⟩])
 .ret) .skip))
 (.region [⟨(some 23), .move (.t 4), none, .write, 0⟩, ⟨(some 24), .load (some 9) (.t 5), none, .write, 0⟩, ⟨(some 25), .buildSlice 85 9 (.agg [(.int .i64 0), (.int .i64 0), (.int .i64 0), (.int .i64 0), (.int .i64 0), (.int .i64 0), .nsl, .nsl, .nsl]) 1 [(0, (.t 24))], none, .write, 0⟩, ⟨(some 26), .append 85 9 120 (.t 23) (.t 25), none, .write, 0⟩, ⟨(some 27), .move (.t 6), none, .write, 0⟩, ⟨(some 4), .move (.t 26), none, .write, 0⟩, ⟨(some 0), .move (.t 27), none, .write, 0⟩])))))))
 (.seq (.region [⟨(some 28), .move (.t 4), none, .write, 0⟩, ⟨(some 2), .move (.t 28), none, .write, 0⟩, ⟨(some 3), .move (.c .nili), none, .write, 0⟩])
 .ret)))) }

theorem c96 : compFunc Tryz.prog Tryz.f96 .full = some t96 := by kernel_rfl

/-- broadside/num.Read -/
def t97 : DFunc := { ntmps := 8, results := [(.t 2)], mode := .full, body :=
 (.seq (.region [⟨(some 2), .move (.c .nilp), none, .write, 0⟩])
 (.seq (.region [⟨(some 3), .buildSlice 5 1 (.int .u8 0) 0 [], none, .write, 0⟩, ⟨(some 4), .move (.t 0), none, .write, 0⟩, ⟨(some 5), .append 5 1 1 (.t 3) (.t 4), none, .write, 0⟩, ⟨(some 6), .build [.nsl, (.bool false)] [(0, 1, (.t 5))], none, .write, 0⟩, ⟨(some 7), .box 283 2 (.t 6), none, .write, 0⟩, ⟨(some 2), .move (.t 7), none, .write, 0⟩])
 .ret)) }

theorem c97 : compFunc Tryz.prog Tryz.f97 .full = some t97 := by kernel_rfl

/-- broadside/wire.read -/
def t98 : DFunc := { ntmps := 69, results := [(.cell 2 (some 7))], mode := .full, body :=
 (.seq (.region [⟨(some 2), .alloc 49 7 (.agg [(.int .i64 0), (.int .i64 0), (.int .i64 0), (.int .i64 0), (.int .i64 0), .nsl, .nsl]), none, .write, 0⟩])
 (.seq (.region [⟨(some 8), .move (.t 0), none, .write, 0⟩, ⟨(some 9), .call (.c (.func 183 [])) [(.t 8)], none, .write, 0⟩, ⟨(some 10), .conv .i64 (.t 9), none, .write, 0⟩, ⟨(some 11), .move (.t 0), none, .write, 0⟩, ⟨(some 12), .call (.c (.func 184 [])) [(.t 11)], none, .write, 0⟩, ⟨(some 13), .build [(.int .i64 0), (.int .i64 0), (.int .i64 0), (.int .i64 0), (.int .i64 0), .nsl, .nsl] [(0, 1, (.t 10)), (1, 2, (.t 12))], none, .write, 0⟩, ⟨(some 3), .alloc 49 7 (.agg [(.int .i64 0), (.int .i64 0), (.int .i64 0), (.int .i64 0), (.int .i64 0), .nsl, .nsl]), none, .write, 0⟩, ⟨none, .store 7 (.t 3) (.t 13), none, .write, 0⟩])
 (.seq (.region [⟨(some 15), .fieldAddr 0 (.t 3), none, .write, 0⟩, ⟨(some 16), .load none (.t 15), none, .write, 0⟩, ⟨(some 17), .call (.c (.func 185 [])) [(.t 16)], none, .write, 0⟩, ⟨(some 14), .move (.t 17), none, .write, 0⟩, ⟨(some 18), .extract (.t 14) 0, none, .write, 0⟩, ⟨(some 19), .extract (.t 14) 1, none, .write, 0⟩, ⟨(some 4), .move (.t 18), none, .write, 0⟩, ⟨(some 5), .move (.t 19), none, .write, 0⟩])
 (.seq (.seq (.region [⟨(some 20), .move (.t 4), none, .write, 0⟩, ⟨(some 21), .arith .and (.t 20) (.c (.int .i64 1)), none, .write, 0⟩, ⟨(some 22), .arith .neq (.t 21) (.c (.int .i64 0)), none, .write, 0⟩])
 (.cond (.t 22) (.region [⟨(some 23), .move (.t 0), none, .write, 0⟩, ⟨(some 24), .call (.c (.func 184 [])) [(.t 23)], none, .write, 0⟩, ⟨(some 25), .fieldAddr 3 (.t 3), none, .write, 0⟩, ⟨none, .store 2 (.t 25) (.t 24), none, .write, 0⟩]) .skip))
 (.seq (.seq (.region [⟨(some 26), .move (.t 4), none, .write, 0⟩, ⟨(some 27), .arith .and (.t 26) (.c (.int .i64 2)), none, .write, 0⟩, ⟨(some 28), .arith .neq (.t 27) (.c (.int .i64 0)), none, .write, 0⟩])
 (.cond (.t 28) (.seq (.region [⟨(some 29), .move (.t 0), none, .write, 0⟩, ⟨(some 30), .call (.c (.func 183 [])) [(.t 29)], none, .write, 0⟩, ⟨(some 31), .conv .i64 (.t 30), none, .write, 0⟩, ⟨(some 6), .move (.t 31), none, .write, 0⟩])
 (.block 0 (.loop (.seq (.seq (.region [⟨(some 32), .move (.t 6), none, .write, 0⟩, ⟨(some 33), .arith .gtr (.t 32) (.c (.int .i64 0)), none, .write, 0⟩, ⟨(some 34), .move (.t 33), none, .write, 0⟩, ⟨(some 35), .move (.t 0), (some (34, true)), .write, 0⟩, ⟨(some 36), .call (.c (.func 186 [])) [(.t 35)], (some (34, true)), .write, 0⟩, ⟨(some 37), .pick (.t 34) (.t 36) (.c (.bool false)), none, .write, 0⟩])
 (.cond (.t 37) .skip (.exit 0)))
 (.seq (.block 1 (.draw [⟨(some 40), .fieldAddr 5 (.t 3), none, .read, 0⟩, ⟨(some 41), .load none (.t 40), none, .read, 0⟩, ⟨(some 42), .move (.t 0), none, .read, 0⟩, ⟨(some 43), .call (.c (.func 187 [])) [(.t 42)], none, .create, 0⟩, ⟨(some 44), .buildSlice 288 5 (.agg [(.str []), (.int .i64 0), (.int .i64 0), (.int .i64 0), (.str [])]) 1 [(0, (.t 43))], none, .create, 0⟩, ⟨(some 45), .append 288 5 56 (.t 41) (.t 44), none, .write, 2⟩, ⟨(some 46), .fieldAddr 5 (.t 3), none, .read, 3⟩, ⟨none, .store 1 (.t 46) (.t 45), none, .write, 3⟩]))
 (.region [⟨(some 38), .move (.t 6), none, .write, 0⟩, ⟨(some 39), .arith .sub (.t 38) (.c (.int .i64 1)), none, .write, 0⟩, ⟨(some 6), .move (.t 39), none, .write, 0⟩])))))) .skip))
 (.seq (.seq (.region [⟨(some 47), .move (.t 4), none, .write, 0⟩, ⟨(some 48), .arith .and (.t 47) (.c (.int .i64 4)), none, .write, 0⟩, ⟨(some 49), .arith .neq (.t 48) (.c (.int .i64 0)), none, .write, 0⟩])
 (.cond (.t 49) (.seq (.region [⟨(some 50), .move (.t 0), none, .write, 0⟩, ⟨(some 51), .call (.c (.func 183 [])) [(.t 50)], none, .write, 0⟩, ⟨(some 52), .conv .i64 (.t 51), none, .write, 0⟩, ⟨(some 7), .move (.t 52), none, .write, 0⟩])
 (.block 2 (.loop (.seq (.seq (.region [⟨(some 53), .move (.t 7), none, .write, 0⟩, ⟨(some 54), .arith .gtr (.t 53) (.c (.int .i64 0)), none, .write, 0⟩, ⟨(some 55), .move (.t 54), none, .write, 0⟩, ⟨(some 56), .move (.t 0), (some (55, true)), .write, 0⟩, ⟨(some 57), .call (.c (.func 186 [])) [(.t 56)], (some (55, true)), .write, 0⟩, ⟨(some 58), .pick (.t 55) (.t 57) (.c (.bool false)), none, .write, 0⟩])
 (.cond (.t 58) .skip (.exit 2)))
 (.seq (.block 3 (.draw [⟨(some 61), .fieldAddr 6 (.t 3), none, .read, 0⟩, ⟨(some 62), .load none (.t 61), none, .read, 0⟩, ⟨(some 63), .move (.t 0), none, .read, 0⟩, ⟨(some 64), .call (.c (.func 188 [])) [(.t 63)], none, .create, 0⟩, ⟨(some 65), .buildSlice 293 4 (.agg [(.str []), (.bool false), (.int .i64 0), (.str [])]) 1 [(0, (.t 64))], none, .create, 0⟩, ⟨(some 66), .append 293 4 48 (.t 62) (.t 65), none, .write, 2⟩, ⟨(some 67), .fieldAddr 6 (.t 3), none, .read, 3⟩, ⟨none, .store 1 (.t 67) (.t 66), none, .write, 3⟩]))
 (.region [⟨(some 59), .move (.t 7), none, .write, 0⟩, ⟨(some 60), .arith .sub (.t 59) (.c (.int .i64 1)), none, .write, 0⟩, ⟨(some 7), .move (.t 60), none, .write, 0⟩])))))) .skip))
 (.seq (.region [⟨(some 68), .load (some 7) (.t 3), none, .write, 0⟩, ⟨none, .store 7 (.t 2) (.t 68), none, .write, 0⟩])
 .ret))))))) }

theorem c98 : compFunc Tryz.prog Tryz.f98 .full = some t98 := by kernel_rfl

/-- (*broadside/num.Reader).Done -/
def t99 : DFunc := { ntmps := 16, results := [(.t 2)], mode := .full, body :=
 (.seq (.region [⟨(some 2), .move (.c (.bool false)), none, .write, 0⟩])
 (.seq (.region [⟨(some 3), .move (.t 0), none, .write, 0⟩, ⟨(some 4), .nilCheck (.t 3), none, .write, 0⟩, ⟨(some 5), .fieldAddr 1 (.t 4), none, .write, 0⟩, ⟨(some 6), .load none (.t 5), none, .write, 0⟩, ⟨(some 7), .un .not (.t 6), none, .write, 0⟩, ⟨(some 8), .move (.t 7), none, .write, 0⟩, ⟨(some 9), .move (.t 0), (some (8, true)), .write, 0⟩, ⟨(some 10), .nilCheck (.t 9), (some (8, true)), .write, 0⟩, ⟨(some 11), .fieldAddr 0 (.t 10), (some (8, true)), .write, 0⟩, ⟨(some 12), .load none (.t 11), (some (8, true)), .write, 0⟩, ⟨(some 13), .len 1 (.t 12), (some (8, true)), .write, 0⟩, ⟨(some 14), .arith .eql (.t 13) (.c (.int .i64 0)), (some (8, true)), .write, 0⟩, ⟨(some 15), .pick (.t 8) (.t 14) (.c (.bool false)), none, .write, 0⟩, ⟨(some 2), .move (.t 15), none, .write, 0⟩])
 .ret)) }

theorem c99 : compFunc Tryz.prog Tryz.f99 .full = some t99 := by kernel_rfl

/-- broadside/wire.Right -/
def t100 : DFunc := { ntmps := 63, results := [(.t 2)], mode := .full, body :=
 (.seq (.region [⟨(some 1), .box 49 7 (.t 0), none, .write, 0⟩, ⟨(some 2), .move (.c (.bool false)), none, .write, 0⟩])
 (.seq (.region [⟨(some 6), .fieldAddr 0 (.t 1), none, .write, 0⟩, ⟨(some 7), .load none (.t 6), none, .write, 0⟩, ⟨(some 8), .call (.c (.func 185 [])) [(.t 7)], none, .write, 0⟩, ⟨(some 5), .move (.t 8), none, .write, 0⟩, ⟨(some 9), .extract (.t 5) 0, none, .write, 0⟩, ⟨(some 10), .extract (.t 5) 1, none, .write, 0⟩, ⟨(some 3), .move (.t 9), none, .write, 0⟩, ⟨(some 4), .move (.t 10), none, .write, 0⟩])
 (.seq (.block 0 (.seq (.region [⟨(some 12), .move (.t 4), none, .write, 0⟩, ⟨(some 13), .un .not (.t 12), none, .write, 0⟩, ⟨(some 14), .move (.t 13), none, .write, 0⟩, ⟨(some 15), .fieldAddr 1 (.t 1), (some (14, false)), .write, 0⟩, ⟨(some 16), .load (some 2) (.t 15), (some (14, false)), .write, 0⟩, ⟨(some 17), .call (.c (.func 189 [])) [(.t 16)], (some (14, false)), .write, 0⟩, ⟨(some 18), .un .not (.t 17), (some (14, false)), .write, 0⟩, ⟨(some 19), .pick (.t 14) (.c (.bool true)) (.t 18), none, .write, 0⟩, ⟨(some 20), .move (.t 19), none, .write, 0⟩, ⟨(some 21), .fieldAddr 5 (.t 1), (some (20, false)), .write, 0⟩, ⟨(some 22), .load none (.t 21), (some (20, false)), .write, 0⟩, ⟨(some 23), .call (.c (.func 136 [])) [(.t 22)], (some (20, false)), .write, 0⟩, ⟨(some 24), .un .not (.t 23), (some (20, false)), .write, 0⟩, ⟨(some 25), .pick (.t 20) (.c (.bool true)) (.t 24), none, .write, 0⟩, ⟨(some 26), .move (.t 25), none, .write, 0⟩, ⟨(some 27), .fieldAddr 6 (.t 1), (some (26, false)), .write, 0⟩, ⟨(some 28), .load none (.t 27), (some (26, false)), .write, 0⟩, ⟨(some 29), .call (.c (.func 190 [])) [(.t 28)], (some (26, false)), .write, 0⟩, ⟨(some 30), .un .not (.t 29), (some (26, false)), .write, 0⟩, ⟨(some 31), .pick (.t 26) (.c (.bool true)) (.t 30), none, .write, 0⟩, ⟨(some 11), .move (.t 31), none, .write, 0⟩])
 (.cond (.t 11) (.seq (.region [⟨(some 2), .move (.c (.bool false)), none, .write, 0⟩])
 .ret) (.seq (.seq (.region [⟨(some 33), .move (.t 3), none, .write, 0⟩, ⟨(some 34), .arith .and (.t 33) (.c (.int .i64 1)), none, .write, 0⟩, ⟨(some 35), .arith .eql (.t 34) (.c (.int .i64 0)), none, .write, 0⟩, ⟨(some 36), .move (.t 35), none, .write, 0⟩, ⟨(some 37), .fieldAddr 3 (.t 1), (some (36, true)), .write, 0⟩, ⟨(some 38), .load (some 2) (.t 37), (some (36, true)), .write, 0⟩, ⟨(some 39), .build [(.int .i64 0), (.int .i64 0)] [], (some (36, true)), .write, 0⟩, ⟨(some 40), .eqa true [1, 1] (.t 38) (.t 39), (some (36, true)), .write, 0⟩, ⟨(some 41), .pick (.t 36) (.t 40) (.c (.bool false)), none, .write, 0⟩, ⟨(some 32), .move (.t 41), none, .write, 0⟩])
 (.cond (.t 32) .skip (.seq (.region [⟨(some 42), .move (.t 3), none, .write, 0⟩, ⟨(some 43), .arith .and (.t 42) (.c (.int .i64 2)), none, .write, 0⟩, ⟨(some 44), .arith .eql (.t 43) (.c (.int .i64 0)), none, .write, 0⟩, ⟨(some 45), .move (.t 44), none, .write, 0⟩, ⟨(some 46), .fieldAddr 5 (.t 1), (some (45, true)), .write, 0⟩, ⟨(some 47), .load none (.t 46), (some (45, true)), .write, 0⟩, ⟨(some 48), .len 1 (.t 47), (some (45, true)), .write, 0⟩, ⟨(some 49), .arith .gtr (.t 48) (.c (.int .i64 0)), (some (45, true)), .write, 0⟩, ⟨(some 50), .pick (.t 45) (.t 49) (.c (.bool false)), none, .write, 0⟩, ⟨(some 32), .move (.t 50), none, .write, 0⟩])
 (.cond (.t 32) .skip (.region [⟨(some 51), .move (.t 3), none, .write, 0⟩, ⟨(some 52), .arith .and (.t 51) (.c (.int .i64 4)), none, .write, 0⟩, ⟨(some 53), .arith .eql (.t 52) (.c (.int .i64 0)), none, .write, 0⟩, ⟨(some 54), .move (.t 53), none, .write, 0⟩, ⟨(some 55), .fieldAddr 6 (.t 1), (some (54, true)), .write, 0⟩, ⟨(some 56), .load none (.t 55), (some (54, true)), .write, 0⟩, ⟨(some 57), .len 1 (.t 56), (some (54, true)), .write, 0⟩, ⟨(some 58), .arith .gtr (.t 57) (.c (.int .i64 0)), (some (54, true)), .write, 0⟩, ⟨(some 59), .pick (.t 54) (.t 58) (.c (.bool false)), none, .write, 0⟩, ⟨(some 32), .move (.t 59), none, .write, 0⟩])))))
 (.cond (.t 32) (.seq (.region [⟨(some 2), .move (.c (.bool false)), none, .write, 0⟩])
 .ret) .skip)))))
 (.seq (.region [⟨(some 60), .fieldAddr 3 (.t 1), none, .write, 0⟩, ⟨(some 61), .load (some 2) (.t 60), none, .write, 0⟩, ⟨(some 62), .call (.c (.func 189 [])) [(.t 61)], none, .write, 0⟩, ⟨(some 2), .move (.t 62), none, .write, 0⟩])
 .ret)))) }

theorem c100 : compFunc Tryz.prog Tryz.f100 .full = some t100 := by kernel_rfl

/-- bytes.Equal -/
def t101 : DFunc := { ntmps := 10, results := [(.t 4)], mode := .full, body :=
 (.seq (.region [⟨(some 4), .move (.c (.bool false)), none, .write, 0⟩])
 (.seq (.region [⟨(some 5), .move (.t 0), none, .write, 0⟩, ⟨(some 6), .extract (.c .nilp) 0, none, .write, 0⟩, ⟨(some 7), .move (.t 1), none, .write, 0⟩, ⟨(some 8), .extract (.c .nilp) 0, none, .write, 0⟩, ⟨(some 9), .arith .eql (.t 6) (.t 8), none, .write, 0⟩, ⟨(some 4), .move (.t 9), none, .write, 0⟩])
 .ret)) }

theorem c101 : compFunc Tryz.prog Tryz.f101 .full = some t101 := by kernel_rfl

/-- broadside/wire.put -/
def t102 : DFunc := { ntmps := 77, results := [(.t 2)], mode := .full, body :=
 (.seq (.region [⟨(some 1), .box 49 7 (.t 0), none, .write, 0⟩, ⟨(some 2), .move (.c .nsl), none, .write, 0⟩])
 (.seq (.region [⟨(some 11), .fieldAddr 0 (.t 1), none, .write, 0⟩, ⟨(some 12), .load none (.t 11), none, .write, 0⟩, ⟨(some 13), .call (.c (.func 185 [])) [(.t 12)], none, .write, 0⟩, ⟨(some 10), .move (.t 13), none, .write, 0⟩, ⟨(some 14), .extract (.t 10) 0, none, .write, 0⟩, ⟨(some 15), .extract (.t 10) 1, none, .write, 0⟩, ⟨(some 3), .move (.t 14), none, .write, 0⟩, ⟨(some 4), .move (.t 15), none, .write, 0⟩])
 (.seq (.draw [⟨(some 16), .fieldAddr 0 (.t 1), none, .read, 0⟩, ⟨(some 17), .load none (.t 16), none, .read, 0⟩, ⟨(some 20), .fieldAddr 1 (.t 1), none, .read, 0⟩, ⟨(some 21), .load (some 2) (.t 20), none, .read, 0⟩, ⟨(some 22), .call (.c (.func 191 [])) [(.t 21)], none, .create, 0⟩, ⟨(some 18), .conv .u8 (.t 17), none, .read, 0⟩, ⟨(some 19), .buildSlice 5 1 (.int .u8 0) 1 [(0, (.t 18))], none, .create, 0⟩, ⟨(some 23), .append 5 1 1 (.t 19) (.t 22), none, .write, 2⟩, ⟨(some 5), .move (.t 23), none, .read, 3⟩])
 (.seq (.seq (.region [⟨(some 24), .move (.t 3), none, .write, 0⟩, ⟨(some 25), .arith .and (.t 24) (.c (.int .i64 1)), none, .write, 0⟩, ⟨(some 26), .arith .neq (.t 25) (.c (.int .i64 0)), none, .write, 0⟩])
 (.cond (.t 26) (.region [⟨(some 27), .move (.t 5), none, .write, 0⟩, ⟨(some 28), .fieldAddr 3 (.t 1), none, .write, 0⟩, ⟨(some 29), .load (some 2) (.t 28), none, .write, 0⟩, ⟨(some 30), .call (.c (.func 191 [])) [(.t 29)], none, .write, 0⟩, ⟨(some 31), .append 5 1 1 (.t 27) (.t 30), none, .write, 0⟩, ⟨(some 5), .move (.t 31), none, .write, 0⟩]) .skip))
 (.seq (.seq (.region [⟨(some 32), .move (.t 3), none, .write, 0⟩, ⟨(some 33), .arith .and (.t 32) (.c (.int .i64 2)), none, .write, 0⟩, ⟨(some 34), .arith .neq (.t 33) (.c (.int .i64 0)), none, .write, 0⟩])
 (.cond (.t 34) (.seq (.region [⟨(some 35), .move (.t 5), none, .write, 0⟩, ⟨(some 36), .fieldAddr 5 (.t 1), none, .write, 0⟩, ⟨(some 37), .load none (.t 36), none, .write, 0⟩, ⟨(some 38), .len 1 (.t 37), none, .write, 0⟩, ⟨(some 39), .conv .u8 (.t 38), none, .write, 0⟩, ⟨(some 40), .buildSlice 5 1 (.int .u8 0) 1 [(0, (.t 39))], none, .write, 0⟩, ⟨(some 41), .append 5 1 1 (.t 35) (.t 40), none, .write, 0⟩, ⟨(some 5), .move (.t 41), none, .write, 0⟩])
 (.seq (.region [⟨(some 42), .fieldAddr 5 (.t 1), none, .write, 0⟩, ⟨(some 43), .load none (.t 42), none, .write, 0⟩, ⟨(some 44), .len 1 (.t 43), none, .write, 0⟩, ⟨(some 45), .move (.c (.int .i64 0)), none, .write, 0⟩])
 (.block 0 (.loop (.seq (.region [⟨(some 46), .arith .lss (.t 45) (.t 44), none, .write, 0⟩])
 (.seq (.cond (.t 46) .skip (.exit 0))
 (.seq (.block 1 (.seq (.region [⟨(some 47), .indexAddr 5 (.t 43) (.t 45), none, .write, 0⟩, ⟨(some 48), .load (some 5) (.t 47), none, .write, 0⟩, ⟨(some 7), .alloc 288 5 (.agg [(.str []), (.int .i64 0), (.int .i64 0), (.int .i64 0), (.str [])]), none, .write, 0⟩, ⟨none, .store 5 (.t 7) (.t 48), none, .write, 0⟩])
 (.region [⟨(some 49), .move (.t 5), none, .write, 0⟩, ⟨(some 50), .load (some 5) (.t 7), none, .write, 0⟩, ⟨(some 51), .call (.c (.func 192 [])) [(.t 50)], none, .write, 0⟩, ⟨(some 52), .append 5 1 1 (.t 49) (.t 51), none, .write, 0⟩, ⟨(some 5), .move (.t 52), none, .write, 0⟩])))
 (.region [⟨(some 53), .arith .add (.t 45) (.c (.int .i64 1)), none, .write, 0⟩, ⟨(some 45), .move (.t 53), none, .write, 0⟩])))))))) .skip))
 (.seq (.seq (.region [⟨(some 54), .move (.t 3), none, .write, 0⟩, ⟨(some 55), .arith .and (.t 54) (.c (.int .i64 4)), none, .write, 0⟩, ⟨(some 56), .arith .neq (.t 55) (.c (.int .i64 0)), none, .write, 0⟩])
 (.cond (.t 56) (.seq (.region [⟨(some 57), .move (.t 5), none, .write, 0⟩, ⟨(some 58), .fieldAddr 6 (.t 1), none, .write, 0⟩, ⟨(some 59), .load none (.t 58), none, .write, 0⟩, ⟨(some 60), .len 1 (.t 59), none, .write, 0⟩, ⟨(some 61), .conv .u8 (.t 60), none, .write, 0⟩, ⟨(some 62), .buildSlice 5 1 (.int .u8 0) 1 [(0, (.t 61))], none, .write, 0⟩, ⟨(some 63), .append 5 1 1 (.t 57) (.t 62), none, .write, 0⟩, ⟨(some 5), .move (.t 63), none, .write, 0⟩])
 (.seq (.region [⟨(some 64), .fieldAddr 6 (.t 1), none, .write, 0⟩, ⟨(some 65), .load none (.t 64), none, .write, 0⟩, ⟨(some 66), .len 1 (.t 65), none, .write, 0⟩, ⟨(some 67), .move (.c (.int .i64 0)), none, .write, 0⟩])
 (.block 2 (.loop (.seq (.region [⟨(some 68), .arith .lss (.t 67) (.t 66), none, .write, 0⟩])
 (.seq (.cond (.t 68) .skip (.exit 2))
 (.seq (.block 3 (.seq (.region [⟨(some 69), .indexAddr 4 (.t 65) (.t 67), none, .write, 0⟩, ⟨(some 70), .load (some 4) (.t 69), none, .write, 0⟩, ⟨(some 9), .alloc 293 4 (.agg [(.str []), (.bool false), (.int .i64 0), (.str [])]), none, .write, 0⟩, ⟨none, .store 4 (.t 9) (.t 70), none, .write, 0⟩])
 (.region [⟨(some 71), .move (.t 5), none, .write, 0⟩, ⟨(some 72), .load (some 4) (.t 9), none, .write, 0⟩, ⟨(some 73), .call (.c (.func 193 [])) [(.t 72)], none, .write, 0⟩, ⟨(some 74), .append 5 1 1 (.t 71) (.t 73), none, .write, 0⟩, ⟨(some 5), .move (.t 74), none, .write, 0⟩])))
 (.region [⟨(some 75), .arith .add (.t 67) (.c (.int .i64 1)), none, .write, 0⟩, ⟨(some 67), .move (.t 75), none, .write, 0⟩])))))))) .skip))
 (.seq (.region [⟨(some 76), .move (.t 5), none, .write, 0⟩, ⟨(some 2), .move (.t 76), none, .write, 0⟩])
 .ret))))))) }

theorem c102 : compFunc Tryz.prog Tryz.f102 .full = some t102 := by kernel_rfl

/-- broadside/flood.Unadvertise -/
def t103 : DFunc := { ntmps := 26, results := [(.cell 6 (some 6)), (.t 7)], mode := .full, body :=
 (.seq (.region [⟨(some 3), .box 28 6 (.t 0), none, .write, 0⟩, ⟨(some 5), .box 45 2 (.t 2), none, .write, 0⟩, ⟨(some 6), .alloc 28 6 (.agg [(.int .i64 0), .nsl, .nsl, .nsl, .nsl, .nsl]), none, .write, 0⟩, ⟨(some 7), .move (.c .nsl), none, .write, 0⟩])
 (.seq (.region [⟨(some 11), .load (some 6) (.t 3), none, .write, 0⟩, ⟨(some 12), .load (some 2) (.t 5), none, .write, 0⟩, ⟨(some 13), .move (.t 1), none, .write, 0⟩, ⟨(some 14), .call (.c (.func 194 [])) [(.t 11), (.t 12), (.t 13)], none, .write, 0⟩, ⟨(some 10), .move (.t 14), none, .write, 0⟩, ⟨(some 15), .extract (.t 10) 0, none, .write, 0⟩, ⟨(some 16), .extract (.t 10) 1, none, .write, 0⟩, ⟨(some 8), .alloc 28 6 (.agg [(.int .i64 0), .nsl, .nsl, .nsl, .nsl, .nsl]), none, .write, 0⟩, ⟨none, .store 6 (.t 8) (.t 15), none, .write, 0⟩, ⟨(some 9), .move (.t 16), none, .write, 0⟩])
 (.seq (.seq (.region [⟨(some 17), .move (.t 9), none, .write, 0⟩, ⟨(some 18), .un .not (.t 17), none, .write, 0⟩])
 (.cond (.t 18) (.seq (.region [⟨(some 19), .load (some 6) (.t 3), none, .write, 0⟩, ⟨none, .store 6 (.t 6) (.t 19), none, .write, 0⟩, ⟨(some 7), .move (.c .nsl), none, .write, 0⟩])
 .ret) .skip))
 (.seq (.draw [⟨(some 20), .load (some 6) (.t 8), none, .read, 0⟩, ⟨(some 21), .load (some 6) (.t 3), none, .read, 0⟩, ⟨(some 23), .load (some 2) (.t 5), none, .read, 0⟩, ⟨(some 22), .move (.t 1), none, .read, 0⟩, ⟨(some 24), .build [(.int .i64 0), (.int .i64 0), (.int .i64 0), (.int .i64 0), (.int .i64 0), .nsl, .nsl] [(0, 1, (.c (.int .i64 2))), (1, 2, (.t 23))], none, .read, 0⟩, ⟨(some 25), .call (.c (.func 155 [])) [(.t 21), (.t 22), (.t 24)], none, .create, 0⟩, ⟨none, .store 6 (.t 6) (.t 20), none, .write, 1⟩, ⟨(some 7), .move (.t 25), none, .read, 2⟩])
 .ret)))) }

theorem c103 : compFunc Tryz.prog Tryz.f103 .full = some t103 := by kernel_rfl

/-- broadside/route.OnSub -/
def t104 : DFunc := { ntmps := 20, results := [(.cell 6 (some 6)), (.t 7)], mode := .full, body :=
 (.seq (.region [⟨(some 3), .box 28 6 (.t 0), none, .write, 0⟩, ⟨(some 5), .box 49 7 (.t 2), none, .write, 0⟩, ⟨(some 6), .alloc 28 6 (.agg [(.int .i64 0), .nsl, .nsl, .nsl, .nsl, .nsl]), none, .write, 0⟩, ⟨(some 7), .move (.c .nsl), none, .write, 0⟩])
 (.seq (.region [⟨(some 8), .load (some 6) (.t 3), none, .write, 0⟩, ⟨(some 9), .fieldAddr 1 (.t 5), none, .write, 0⟩, ⟨(some 10), .load (some 2) (.t 9), none, .write, 0⟩, ⟨(some 11), .fieldAddr 3 (.t 5), none, .write, 0⟩, ⟨(some 12), .load (some 2) (.t 11), none, .write, 0⟩, ⟨(some 13), .fieldAddr 5 (.t 5), none, .write, 0⟩, ⟨(some 14), .load none (.t 13), none, .write, 0⟩, ⟨(some 15), .move (.t 1), none, .write, 0⟩, ⟨(some 16), .build [(.int .i64 0), (.int .i64 0), (.int .i64 0), (.int .i64 0), .nsl, (.int .i64 0), (.bool false)] [(0, 2, (.t 10)), (2, 2, (.t 12)), (4, 1, (.t 14)), (5, 1, (.t 15))], none, .write, 0⟩, ⟨(some 17), .call (.c (.func 164 [])) [(.t 8), (.t 16)], none, .write, 0⟩, ⟨(some 18), .extract (.t 17) 0, none, .write, 0⟩, ⟨(some 19), .extract (.t 17) 1, none, .write, 0⟩, ⟨none, .store 6 (.t 6) (.t 18), none, .write, 0⟩, ⟨(some 7), .move (.t 19), none, .write, 0⟩])
 .ret)) }

theorem c104 : compFunc Tryz.prog Tryz.f104 .full = some t104 := by kernel_rfl

/-- broadside/route.OnUnsub -/
def t105 : DFunc := { ntmps := 17, results := [(.cell 6 (some 6)), (.t 7)], mode := .full, body :=
 (.seq (.region [⟨(some 3), .box 28 6 (.t 0), none, .write, 0⟩, ⟨(some 5), .box 49 7 (.t 2), none, .write, 0⟩, ⟨(some 6), .alloc 28 6 (.agg [(.int .i64 0), .nsl, .nsl, .nsl, .nsl, .nsl]), none, .write, 0⟩, ⟨(some 7), .move (.c .nsl), none, .write, 0⟩])
 (.seq (.region [⟨(some 8), .load (some 6) (.t 3), none, .write, 0⟩, ⟨(some 9), .fieldAddr 1 (.t 5), none, .write, 0⟩, ⟨(some 10), .load (some 2) (.t 9), none, .write, 0⟩, ⟨(some 11), .fieldAddr 3 (.t 5), none, .write, 0⟩, ⟨(some 12), .load (some 2) (.t 11), none, .write, 0⟩, ⟨(some 13), .move (.t 1), none, .write, 0⟩, ⟨(some 14), .call (.c (.func 195 [])) [(.t 8), (.t 10), (.t 12), (.t 13)], none, .write, 0⟩, ⟨(some 15), .extract (.t 14) 0, none, .write, 0⟩, ⟨(some 16), .extract (.t 14) 1, none, .write, 0⟩, ⟨none, .store 6 (.t 6) (.t 15), none, .write, 0⟩, ⟨(some 7), .move (.t 16), none, .write, 0⟩])
 .ret)) }

theorem c105 : compFunc Tryz.prog Tryz.f105 .full = some t105 := by kernel_rfl

/-- slices.pdqsortOrdered[int] -/
def t106 : DFunc := { ntmps := 134, results := [], mode := .full, body :=
 (.seq (.region [⟨(some 8), .move (.c (.bool true)), none, .write, 0⟩])
 (.seq (.region [⟨(some 9), .move (.c (.bool true)), none, .write, 0⟩])
 (.block 0 (.loop (.block 1 (.seq (.region [⟨(some 19), .move (.t 2), none, .write, 0⟩, ⟨(some 20), .move (.t 1), none, .write, 0⟩, ⟨(some 21), .arith .sub (.t 19) (.t 20), none, .write, 0⟩, ⟨(some 10), .move (.t 21), none, .write, 0⟩])
 (.seq (.seq (.region [⟨(some 22), .move (.t 10), none, .write, 0⟩, ⟨(some 23), .arith .leq (.t 22) (.c (.int .i64 12)), none, .write, 0⟩])
 (.cond (.t 23) (.seq (.region [⟨(some 24), .move (.t 0), none, .write, 0⟩, ⟨(some 25), .move (.t 1), none, .write, 0⟩, ⟨(some 26), .move (.t 2), none, .write, 0⟩, ⟨(some 27), .call (.c (.func 196 [])) [(.t 24), (.t 25), (.t 26)], none, .write, 0⟩])
 .ret) .skip))
 (.seq (.seq (.region [⟨(some 28), .move (.t 3), none, .write, 0⟩, ⟨(some 29), .arith .eql (.t 28) (.c (.int .i64 0)), none, .write, 0⟩])
 (.cond (.t 29) (.seq (.region [⟨(some 30), .move (.t 0), none, .write, 0⟩, ⟨(some 31), .move (.t 1), none, .write, 0⟩, ⟨(some 32), .move (.t 2), none, .write, 0⟩, ⟨(some 33), .call (.c (.func 197 [])) [(.t 30), (.t 31), (.t 32)], none, .write, 0⟩])
 .ret) .skip))
 (.seq (.seq (.region [⟨(some 34), .move (.t 8), none, .write, 0⟩, ⟨(some 35), .un .not (.t 34), none, .write, 0⟩])
 (.cond (.t 35) (.seq (.region [⟨(some 36), .move (.t 0), none, .write, 0⟩, ⟨(some 37), .move (.t 1), none, .write, 0⟩, ⟨(some 38), .move (.t 2), none, .write, 0⟩, ⟨(some 39), .call (.c (.func 198 [])) [(.t 36), (.t 37), (.t 38)], none, .write, 0⟩])
 (.region [⟨(some 40), .move (.t 3), none, .write, 0⟩, ⟨(some 41), .arith .sub (.t 40) (.c (.int .i64 1)), none, .write, 0⟩, ⟨(some 3), .move (.t 41), none, .write, 0⟩])) .skip))
 (.seq (.region [⟨(some 43), .move (.t 0), none, .write, 0⟩, ⟨(some 44), .move (.t 1), none, .write, 0⟩, ⟨(some 45), .move (.t 2), none, .write, 0⟩, ⟨(some 46), .call (.c (.func 199 [])) [(.t 43), (.t 44), (.t 45)], none, .write, 0⟩, ⟨(some 42), .move (.t 46), none, .write, 0⟩, ⟨(some 47), .extract (.t 42) 0, none, .write, 0⟩, ⟨(some 48), .extract (.t 42) 1, none, .write, 0⟩, ⟨(some 11), .move (.t 47), none, .write, 0⟩, ⟨(some 12), .move (.t 48), none, .write, 0⟩])
 (.seq (.seq (.region [⟨(some 49), .move (.t 12), none, .write, 0⟩, ⟨(some 50), .arith .eql (.t 49) (.c (.int .i64 2)), none, .write, 0⟩])
 (.cond (.t 50) (.seq (.region [⟨(some 51), .move (.t 0), none, .write, 0⟩, ⟨(some 52), .move (.t 1), none, .write, 0⟩, ⟨(some 53), .move (.t 2), none, .write, 0⟩, ⟨(some 54), .call (.c (.func 200 [])) [(.t 51), (.t 52), (.t 53)], none, .write, 0⟩])
 (.seq (.region [⟨(some 55), .move (.t 2), none, .write, 0⟩, ⟨(some 56), .arith .sub (.t 55) (.c (.int .i64 1)), none, .write, 0⟩, ⟨(some 57), .move (.t 11), none, .write, 0⟩, ⟨(some 58), .move (.t 1), none, .write, 0⟩, ⟨(some 59), .arith .sub (.t 57) (.t 58), none, .write, 0⟩, ⟨(some 60), .arith .sub (.t 56) (.t 59), none, .write, 0⟩, ⟨(some 11), .move (.t 60), none, .write, 0⟩])
 (.region [⟨(some 12), .move (.c (.int .i64 1)), none, .write, 0⟩]))) .skip))
 (.seq (.seq (.region [⟨(some 61), .move (.t 8), none, .write, 0⟩, ⟨(some 62), .move (.t 61), none, .write, 0⟩, ⟨(some 63), .move (.t 9), (some (62, true)), .write, 0⟩, ⟨(some 64), .pick (.t 62) (.t 63) (.c (.bool false)), none, .write, 0⟩, ⟨(some 65), .move (.t 64), none, .write, 0⟩, ⟨(some 66), .move (.t 12), (some (65, true)), .write, 0⟩, ⟨(some 67), .arith .eql (.t 66) (.c (.int .i64 1)), (some (65, true)), .write, 0⟩, ⟨(some 68), .pick (.t 65) (.t 67) (.c (.bool false)), none, .write, 0⟩])
 (.cond (.t 68) (.seq (.region [⟨(some 69), .move (.t 0), none, .write, 0⟩, ⟨(some 70), .move (.t 1), none, .write, 0⟩, ⟨(some 71), .move (.t 2), none, .write, 0⟩, ⟨(some 72), .call (.c (.func 201 [])) [(.t 69), (.t 70), (.t 71)], none, .write, 0⟩])
 (.cond (.t 72) .ret .skip)) .skip))
 (.seq (.seq (.draw [⟨(some 73), .move (.t 1), none, .read, 0⟩, ⟨(some 74), .arith .gtr (.t 73) (.c (.int .i64 0)), none, .read, 0⟩, ⟨(some 75), .move (.t 74), none, .read, 0⟩, ⟨(some 76), .move (.t 0), (some (75, true)), .read, 0⟩, ⟨(some 77), .move (.t 1), (some (75, true)), .read, 0⟩, ⟨(some 78), .arith .sub (.t 77) (.c (.int .i64 1)), (some (75, true)), .read, 0⟩, ⟨(some 79), .indexAddr 1 (.t 76) (.t 78), (some (75, true)), .read, 0⟩, ⟨(some 80), .load none (.t 79), (some (75, true)), .read, 0⟩, ⟨(some 81), .move (.t 0), (some (75, true)), .read, 0⟩, ⟨(some 82), .move (.t 11), (some (75, true)), .read, 0⟩, ⟨(some 83), .indexAddr 1 (.t 81) (.t 82), (some (75, true)), .read, 0⟩, ⟨(some 84), .load none (.t 83), (some (75, true)), .read, 0⟩, ⟨(some 85), .call (.c (.func 202 [])) [(.t 80), (.t 84)], (some (75, true)), .write, 0⟩, ⟨(some 86), .un .not (.t 85), (some (75, true)), .read, 1⟩, ⟨(some 87), .pick (.t 75) (.t 86) (.c (.bool false)), none, .read, 1⟩])
 (.cond (.t 87) (.seq (.region [⟨(some 88), .move (.t 0), none, .write, 0⟩, ⟨(some 89), .move (.t 1), none, .write, 0⟩, ⟨(some 90), .move (.t 2), none, .write, 0⟩, ⟨(some 91), .move (.t 11), none, .write, 0⟩, ⟨(some 92), .call (.c (.func 203 [])) [(.t 88), (.t 89), (.t 90), (.t 91)], none, .write, 0⟩, ⟨(some 13), .move (.t 92), none, .write, 0⟩])
 (.seq (.region [⟨(some 93), .move (.t 13), none, .write, 0⟩, ⟨(some 1), .move (.t 93), none, .write, 0⟩])
 (.exit 1))) .skip))
 (.seq (.region [⟨(some 95), .move (.t 0), none, .write, 0⟩, ⟨(some 96), .move (.t 1), none, .write, 0⟩, ⟨(some 97), .move (.t 2), none, .write, 0⟩, ⟨(some 98), .move (.t 11), none, .write, 0⟩, ⟨(some 99), .call (.c (.func 204 [])) [(.t 95), (.t 96), (.t 97), (.t 98)], none, .write, 0⟩, ⟨(some 94), .move (.t 99), none, .write, 0⟩, ⟨(some 100), .extract (.t 94) 0, none, .write, 0⟩, ⟨(some 101), .extract (.t 94) 1, none, .write, 0⟩, ⟨(some 14), .move (.t 100), none, .write, 0⟩, ⟨(some 15), .move (.t 101), none, .write, 0⟩])
 (.seq (.region [⟨(some 102), .move (.t 15), none, .write, 0⟩, ⟨(some 9), .move (.t 102), none, .write, 0⟩])
 (.seq (.region [⟨(some 103), .move (.t 14), none, .write, 0⟩, ⟨(some 104), .move (.t 1), none, .write, 0⟩, ⟨(some 105), .arith .sub (.t 103) (.t 104), none, .write, 0⟩, ⟨(some 106), .move (.t 2), none, .write, 0⟩, ⟨(some 107), .move (.t 14), none, .write, 0⟩, ⟨(some 108), .arith .sub (.t 106) (.t 107), none, .write, 0⟩, ⟨(some 16), .move (.t 105), none, .write, 0⟩, ⟨(some 17), .move (.t 108), none, .write, 0⟩])
 (.seq (.region [⟨(some 109), .move (.t 10), none, .write, 0⟩, ⟨(some 110), .arith .quo (.t 109) (.c (.int .i64 8)), none, .write, 0⟩, ⟨(some 18), .move (.t 110), none, .write, 0⟩])
 (.seq (.region [⟨(some 111), .move (.t 16), none, .write, 0⟩, ⟨(some 112), .move (.t 17), none, .write, 0⟩, ⟨(some 113), .arith .lss (.t 111) (.t 112), none, .write, 0⟩])
 (.cond (.t 113) (.seq (.region [⟨(some 114), .move (.t 16), none, .write, 0⟩, ⟨(some 115), .move (.t 18), none, .write, 0⟩, ⟨(some 116), .arith .geq (.t 114) (.t 115), none, .write, 0⟩, ⟨(some 8), .move (.t 116), none, .write, 0⟩])
 (.seq (.region [⟨(some 117), .move (.t 0), none, .write, 0⟩, ⟨(some 118), .move (.t 1), none, .write, 0⟩, ⟨(some 119), .move (.t 14), none, .write, 0⟩, ⟨(some 120), .move (.t 3), none, .write, 0⟩, ⟨(some 121), .call (.c (.func 106 [])) [(.t 117), (.t 118), (.t 119), (.t 120)], none, .write, 0⟩])
 (.region [⟨(some 122), .move (.t 14), none, .write, 0⟩, ⟨(some 123), .arith .add (.t 122) (.c (.int .i64 1)), none, .write, 0⟩, ⟨(some 1), .move (.t 123), none, .write, 0⟩]))) (.seq (.region [⟨(some 124), .move (.t 17), none, .write, 0⟩, ⟨(some 125), .move (.t 18), none, .write, 0⟩, ⟨(some 126), .arith .geq (.t 124) (.t 125), none, .write, 0⟩, ⟨(some 8), .move (.t 126), none, .write, 0⟩])
 (.seq (.region [⟨(some 127), .move (.t 0), none, .write, 0⟩, ⟨(some 128), .move (.t 14), none, .write, 0⟩, ⟨(some 129), .arith .add (.t 128) (.c (.int .i64 1)), none, .write, 0⟩, ⟨(some 130), .move (.t 2), none, .write, 0⟩, ⟨(some 131), .move (.t 3), none, .write, 0⟩, ⟨(some 132), .call (.c (.func 106 [])) [(.t 127), (.t 129), (.t 130), (.t 131)], none, .write, 0⟩])
 (.region [⟨(some 133), .move (.t 14), none, .write, 0⟩, ⟨(some 2), .move (.t 133), none, .write, 0⟩])))))))))))))))))))))) }

theorem c106 : compFunc Tryz.prog Tryz.f106 .full = some t106 := by kernel_rfl

/-- math/bits.Len -/
def t107 : DFunc := { ntmps := 8, results := [(.t 2)], mode := .full, body :=
 (.seq (.region [⟨(some 2), .move (.c (.int .i64 0)), none, .write, 0⟩])
 (.seq (.cond (.c (.bool false)) (.seq (.region [⟨(some 3), .move (.t 0), none, .write, 0⟩, ⟨(some 4), .conv .u32 (.t 3), none, .write, 0⟩, ⟨(some 5), .call (.c (.func 205 [])) [(.t 4)], none, .write, 0⟩, ⟨(some 2), .move (.t 5), none, .write, 0⟩])
 .ret) .skip)
 (.seq (.region [⟨(some 6), .move (.t 0), none, .write, 0⟩, ⟨(some 7), .call (.c (.func 206 [])) [(.t 6)], none, .write, 0⟩, ⟨(some 2), .move (.t 7), none, .write, 0⟩])
 .ret))) }

theorem c107 : compFunc Tryz.prog Tryz.f107 .full = some t107 := by kernel_rfl

/-- broadside/adverts.Less -/
def t124 : DFunc := { ntmps := 9, results := [(.t 4)], mode := .full, body :=
 (.seq (.region [⟨(some 2), .box 45 2 (.t 0), none, .write, 0⟩, ⟨(some 3), .box 45 2 (.t 1), none, .write, 0⟩, ⟨(some 4), .move (.c (.bool false)), none, .write, 0⟩])
 (.seq (.region [⟨(some 5), .load (some 2) (.t 2), none, .write, 0⟩, ⟨(some 6), .load (some 2) (.t 3), none, .write, 0⟩, ⟨(some 7), .call (.c (.func 131 [])) [(.t 5), (.t 6)], none, .write, 0⟩, ⟨(some 8), .arith .lss (.t 7) (.c (.int .i64 0)), none, .write, 0⟩, ⟨(some 4), .move (.t 8), none, .write, 0⟩])
 .ret)) }

theorem c124 : compFunc Tryz.prog Tryz.f124 .full = some t124 := by kernel_rfl

/-- broadside/adverts.compare -/
def t131 : DFunc := { ntmps := 17, results := [(.t 4)], mode := .full, body :=
 (.seq (.region [⟨(some 2), .box 45 2 (.t 0), none, .write, 0⟩, ⟨(some 3), .box 45 2 (.t 1), none, .write, 0⟩, ⟨(some 4), .move (.c (.int .i64 0)), none, .write, 0⟩])
 (.seq (.draw [⟨(some 5), .fieldAddr 0 (.t 2), none, .read, 0⟩, ⟨(some 6), .load none (.t 5), none, .read, 0⟩, ⟨(some 7), .fieldAddr 0 (.t 3), none, .read, 0⟩, ⟨(some 8), .load none (.t 7), none, .read, 0⟩, ⟨(some 9), .call (.c (.func 93 [])) [(.t 6), (.t 8)], none, .create, 0⟩, ⟨(some 10), .fieldAddr 1 (.t 2), none, .read, 0⟩, ⟨(some 11), .load none (.t 10), none, .read, 0⟩, ⟨(some 12), .fieldAddr 1 (.t 3), none, .read, 0⟩, ⟨(some 13), .load none (.t 12), none, .read, 0⟩, ⟨(some 14), .call (.c (.func 93 [])) [(.t 11), (.t 13)], none, .write, 1⟩, ⟨(some 15), .buildSlice 3 1 (.int .i64 0) 2 [(0, (.t 9)), (1, (.t 14))], none, .create, 0⟩, ⟨(some 16), .call (.c (.func 92 [])) [(.t 15)], none, .write, 3⟩, ⟨(some 4), .move (.t 16), none, .read, 4⟩])
 .ret)) }

theorem c131 : compFunc Tryz.prog Tryz.f131 .full = some t131 := by kernel_rfl

/-- broadside/pred.Right -/
def t136 : DFunc := { ntmps := 34, results := [(.t 2)], mode := .full, body :=
 (.seq (.region [⟨(some 2), .move (.c (.bool false)), none, .write, 0⟩])
 (.seq (.seq (.region [⟨(some 5), .move (.t 0), none, .write, 0⟩, ⟨(some 6), .len 1 (.t 5), none, .write, 0⟩, ⟨(some 7), .move (.c (.int .i64 0)), none, .write, 0⟩])
 (.block 0 (.loop (.seq (.region [⟨(some 8), .arith .lss (.t 7) (.t 6), none, .write, 0⟩])
 (.seq (.cond (.t 8) .skip (.exit 0))
 (.seq (.block 1 (.seq (.region [⟨(some 9), .move (.t 7), none, .write, 0⟩, ⟨(some 10), .indexAddr 5 (.t 5) (.t 7), none, .write, 0⟩, ⟨(some 11), .load (some 5) (.t 10), none, .write, 0⟩, ⟨(some 4), .alloc 288 5 (.agg [(.str []), (.int .i64 0), (.int .i64 0), (.int .i64 0), (.str [])]), none, .write, 0⟩, ⟨(some 3), .move (.t 9), none, .write, 0⟩, ⟨none, .store 5 (.t 4) (.t 11), none, .write, 0⟩])
 (.seq (.draw [⟨(some 12), .load (some 5) (.t 4), none, .read, 0⟩, ⟨(some 13), .call (.c (.func 214 [])) [(.t 12)], none, .write, 0⟩, ⟨(some 14), .un .not (.t 13), none, .read, 1⟩, ⟨(some 15), .move (.t 14), none, .read, 1⟩, ⟨(some 16), .move (.t 3), (some (15, false)), .read, 1⟩, ⟨(some 17), .arith .gtr (.t 16) (.c (.int .i64 0)), (some (15, false)), .read, 1⟩, ⟨(some 18), .move (.t 17), (some (15, false)), .read, 1⟩, ⟨(some 19), .move (.t 0), (some (18, true)), .read, 1⟩, ⟨(some 20), .move (.t 3), (some (18, true)), .read, 1⟩, ⟨(some 21), .arith .sub (.t 20) (.c (.int .i64 1)), (some (18, true)), .read, 1⟩, ⟨(some 22), .indexAddr 5 (.t 19) (.t 21), (some (18, true)), .read, 1⟩, ⟨(some 23), .fieldAddr 0 (.t 22), (some (18, true)), .read, 1⟩, ⟨(some 24), .load none (.t 23), (some (18, true)), .read, 1⟩, ⟨(some 25), .fieldAddr 0 (.t 4), (some (18, true)), .read, 1⟩, ⟨(some 26), .load none (.t 25), (some (18, true)), .read, 1⟩, ⟨(some 27), .arith .geq (.t 24) (.t 26), (some (18, true)), .read, 1⟩, ⟨(some 28), .pick (.t 18) (.t 27) (.c (.bool false)), (some (15, false)), .read, 1⟩, ⟨(some 29), .pick (.t 15) (.c (.bool true)) (.t 28), none, .read, 1⟩])
 (.cond (.t 29) (.seq (.region [⟨(some 2), .move (.c (.bool false)), none, .write, 0⟩])
 .ret) .skip))))
 (.region [⟨(some 30), .arith .add (.t 7) (.c (.int .i64 1)), none, .write, 0⟩, ⟨(some 7), .move (.t 30), none, .write, 0⟩])))))))
 (.seq (.region [⟨(some 31), .move (.t 0), none, .write, 0⟩, ⟨(some 32), .len 1 (.t 31), none, .write, 0⟩, ⟨(some 33), .arith .leq (.t 32) (.c (.int .i64 5)), none, .write, 0⟩, ⟨(some 2), .move (.t 33), none, .write, 0⟩])
 .ret))) }

theorem c136 : compFunc Tryz.prog Tryz.f136 .full = some t136 := by kernel_rfl

/-- slices.ContainsFunc[[]broadside/api.Entry,broadside/api.Entry] -/
def t137 : DFunc := { ntmps := 9, results := [(.t 4)], mode := .full, body :=
 (.seq (.region [⟨(some 4), .move (.c (.bool false)), none, .write, 0⟩])
 (.seq (.region [⟨(some 5), .move (.t 0), none, .write, 0⟩, ⟨(some 6), .move (.t 1), none, .write, 0⟩, ⟨(some 7), .call (.c (.func 215 [])) [(.t 5), (.t 6)], none, .write, 0⟩, ⟨(some 8), .arith .geq (.t 7) (.c (.int .i64 0)), none, .write, 0⟩, ⟨(some 4), .move (.t 8), none, .write, 0⟩])
 .ret)) }

theorem c137 : compFunc Tryz.prog Tryz.f137 .full = some t137 := by kernel_rfl

/-- broadside/subs.Covered -/
def t142 : DFunc := { ntmps := 12, results := [(.t 6)], mode := .full, body :=
 (.seq (.region [⟨(some 3), .box 28 6 (.t 0), none, .write, 0⟩, ⟨(some 4), .box 45 2 (.t 1), none, .write, 0⟩, ⟨(some 5), .box 46 1 (.t 2), none, .write, 0⟩, ⟨(some 6), .move (.c (.bool false)), none, .write, 0⟩])
 (.seq (.region [⟨(some 7), .load (some 6) (.t 3), none, .write, 0⟩, ⟨(some 8), .load (some 2) (.t 4), none, .write, 0⟩, ⟨(some 9), .call (.c (.func 217 [])) [(.t 7), (.t 8)], none, .write, 0⟩, ⟨(some 10), .makeFunc 218 [(.t 5)], none, .write, 0⟩, ⟨(some 11), .call (.c (.func 137 [])) [(.t 9), (.t 10)], none, .write, 0⟩, ⟨(some 6), .move (.t 11), none, .write, 0⟩])
 .ret)) }

theorem c142 : compFunc Tryz.prog Tryz.f142 .full = some t142 := by kernel_rfl

/-- broadside/rel.Meets -/
def t148 : DFunc := { ntmps := 14, results := [(.t 4)], mode := .full, body :=
 (.seq (.region [⟨(some 4), .move (.c (.bool false)), none, .write, 0⟩])
 (.seq (.region [⟨(some 8), .move (.t 0), none, .write, 0⟩, ⟨(some 9), .move (.t 1), none, .write, 0⟩, ⟨(some 10), .call (.c (.func 225 [])) [(.t 8), (.t 9)], none, .write, 0⟩, ⟨(some 7), .move (.t 10), none, .write, 0⟩, ⟨(some 11), .extract (.t 7) 0, none, .write, 0⟩, ⟨(some 12), .extract (.t 7) 1, none, .write, 0⟩, ⟨(some 5), .move (.t 11), none, .write, 0⟩, ⟨(some 6), .move (.t 12), none, .write, 0⟩])
 (.seq (.region [⟨(some 13), .move (.t 6), none, .write, 0⟩, ⟨(some 4), .move (.t 13), none, .write, 0⟩])
 .ret))) }

theorem c148 : compFunc Tryz.prog Tryz.f148 .full = some t148 := by kernel_rfl

/-- broadside/graph.joined -/
def t151 : DFunc := { ntmps := 14, results := [(.cell 2 (some 2))], mode := .full, body :=
 (.seq (.region [⟨(some 1), .box 64 2 (.t 0), none, .write, 0⟩, ⟨(some 2), .alloc 64 2 (.agg [(.int .i64 0), (.int .i64 0)]), none, .write, 0⟩])
 (.seq (.region [⟨(some 3), .indexArr 2 1 (.t 1) (.c (.int .i64 0)), none, .write, 0⟩, ⟨(some 4), .load none (.t 3), none, .write, 0⟩, ⟨(some 5), .indexArr 2 1 (.t 1) (.c (.int .i64 1)), none, .write, 0⟩, ⟨(some 6), .load none (.t 5), none, .write, 0⟩, ⟨(some 7), .minmax false (.t 4) (.t 6), none, .write, 0⟩, ⟨(some 8), .indexArr 2 1 (.t 1) (.c (.int .i64 0)), none, .write, 0⟩, ⟨(some 9), .load none (.t 8), none, .write, 0⟩, ⟨(some 10), .indexArr 2 1 (.t 1) (.c (.int .i64 1)), none, .write, 0⟩, ⟨(some 11), .load none (.t 10), none, .write, 0⟩, ⟨(some 12), .minmax true (.t 9) (.t 11), none, .write, 0⟩, ⟨(some 13), .build [(.int .i64 0), (.int .i64 0)] [(0, 1, (.t 7)), (1, 1, (.t 12))], none, .write, 0⟩, ⟨none, .store 2 (.t 2) (.t 13), none, .write, 0⟩])
 .ret)) }

theorem c151 : compFunc Tryz.prog Tryz.f151 .full = some t151 := by kernel_rfl

/-- broadside/graph.reach -/
def t152 : DFunc := { ntmps := 53, results := [(.t 4)], mode := .full, body :=
 (.seq (.region [⟨(some 2), .box 56 2 (.t 0), none, .write, 0⟩, ⟨(some 4), .move (.c .nmap), none, .write, 0⟩])
 (.seq (.region [⟨(some 11), .makeMap, none, .write, 0⟩, ⟨(some 12), .move (.t 1), none, .write, 0⟩, ⟨none, .mapUpdate (.prim 1) (.t 11) (.t 12) (.c (.int .i64 0)), none, .write, 0⟩, ⟨(some 13), .move (.t 11), none, .write, 0⟩, ⟨(some 5), .move (.t 13), none, .write, 0⟩])
 (.seq (.seq (.region [⟨(some 14), .move (.t 1), none, .write, 0⟩, ⟨(some 15), .buildSlice 3 1 (.int .i64 0) 1 [(0, (.t 14))], none, .write, 0⟩, ⟨(some 6), .move (.t 15), none, .write, 0⟩])
 (.block 0 (.loop (.seq (.seq (.region [⟨(some 16), .move (.t 6), none, .write, 0⟩, ⟨(some 17), .len 1 (.t 16), none, .write, 0⟩, ⟨(some 18), .arith .gtr (.t 17) (.c (.int .i64 0)), none, .write, 0⟩])
 (.cond (.t 18) .skip (.exit 0)))
 (.seq (.block 1 (.seq (.draw [⟨(some 21), .load (some 2) (.t 2), none, .read, 0⟩, ⟨(some 22), .move (.t 6), none, .read, 0⟩, ⟨(some 23), .indexAddr 1 (.t 22) (.c (.int .i64 0)), none, .read, 0⟩, ⟨(some 24), .load none (.t 23), none, .read, 0⟩, ⟨(some 25), .call (.c (.func 66 [])) [(.t 21), (.t 24)], none, .write, 0⟩, ⟨(some 26), .len 1 (.t 25), none, .read, 1⟩, ⟨(some 27), .move (.c (.int .i64 0)), none, .read, 0⟩])
 (.block 2 (.loop (.seq (.region [⟨(some 28), .arith .lss (.t 27) (.t 26), none, .write, 0⟩])
 (.seq (.cond (.t 28) .skip (.exit 2))
 (.seq (.block 3 (.seq (.region [⟨(some 29), .indexAddr 1 (.t 25) (.t 27), none, .write, 0⟩, ⟨(some 30), .load none (.t 29), none, .write, 0⟩, ⟨(some 8), .move (.t 30), none, .write, 0⟩])
 (.seq (.region [⟨(some 32), .move (.t 5), none, .write, 0⟩, ⟨(some 33), .move (.t 8), none, .write, 0⟩, ⟨(some 34), .lookup (.prim 1) (.int .i64 0) true (.t 32) (.t 33), none, .write, 0⟩, ⟨(some 31), .move (.t 34), none, .write, 0⟩, ⟨(some 35), .extract (.t 31) 0, none, .write, 0⟩, ⟨(some 36), .extract (.t 31) 1, none, .write, 0⟩, ⟨(some 9), .move (.t 35), none, .write, 0⟩, ⟨(some 10), .move (.t 36), none, .write, 0⟩])
 (.seq (.region [⟨(some 37), .move (.t 10), none, .write, 0⟩, ⟨(some 38), .un .not (.t 37), none, .write, 0⟩])
 (.cond (.t 38) (.seq (.region [⟨(some 39), .move (.t 5), none, .write, 0⟩, ⟨(some 40), .move (.t 8), none, .write, 0⟩, ⟨(some 41), .move (.t 5), none, .write, 0⟩, ⟨(some 42), .move (.t 6), none, .write, 0⟩, ⟨(some 43), .indexAddr 1 (.t 42) (.c (.int .i64 0)), none, .write, 0⟩, ⟨(some 44), .load none (.t 43), none, .write, 0⟩, ⟨(some 45), .lookup (.prim 1) (.int .i64 0) false (.t 41) (.t 44), none, .write, 0⟩, ⟨(some 46), .arith .add (.t 45) (.c (.int .i64 1)), none, .write, 0⟩, ⟨none, .mapUpdate (.prim 1) (.t 39) (.t 40) (.t 46), none, .write, 0⟩])
 (.region [⟨(some 47), .move (.t 6), none, .write, 0⟩, ⟨(some 48), .move (.t 8), none, .write, 0⟩, ⟨(some 49), .buildSlice 3 1 (.int .i64 0) 1 [(0, (.t 48))], none, .write, 0⟩, ⟨(some 50), .append 3 1 8 (.t 47) (.t 49), none, .write, 0⟩, ⟨(some 6), .move (.t 50), none, .write, 0⟩])) .skip)))))
 (.region [⟨(some 51), .arith .add (.t 27) (.c (.int .i64 1)), none, .write, 0⟩, ⟨(some 27), .move (.t 51), none, .write, 0⟩]))))))))
 (.region [⟨(some 19), .move (.t 6), none, .write, 0⟩, ⟨(some 20), .sliceSl 1 (.t 19) (some (.c (.int .i64 1))) none, none, .write, 0⟩, ⟨(some 6), .move (.t 20), none, .write, 0⟩]))))))
 (.seq (.region [⟨(some 52), .move (.t 5), none, .write, 0⟩, ⟨(some 4), .move (.t 52), none, .write, 0⟩])
 .ret)))) }

theorem c152 : compFunc Tryz.prog Tryz.f152 .full = some t152 := by kernel_rfl

/-- broadside/adverts.Learn -/
def t154 : DFunc := { ntmps := 44, results := [(.cell 4 (some 6)), (.t 5)], mode := .full, body :=
 (.seq (.region [⟨(some 2), .box 28 6 (.t 0), none, .write, 0⟩, ⟨(some 3), .box 70 4 (.t 1), none, .write, 0⟩, ⟨(some 4), .alloc 28 6 (.agg [(.int .i64 0), .nsl, .nsl, .nsl, .nsl, .nsl]), none, .write, 0⟩, ⟨(some 5), .move (.c (.bool false)), none, .write, 0⟩])
 (.seq (.region [⟨(some 10), .load (some 6) (.t 2), none, .write, 0⟩, ⟨(some 11), .call (.c (.func 232 [])) [(.t 10)], none, .write, 0⟩, ⟨none, .store 6 (.t 2) (.t 11), none, .write, 0⟩])
 (.seq (.region [⟨(some 13), .load (some 6) (.t 2), none, .write, 0⟩, ⟨(some 14), .fieldAddr 0 (.t 3), none, .write, 0⟩, ⟨(some 15), .load (some 2) (.t 14), none, .write, 0⟩, ⟨(some 16), .call (.c (.func 212 [])) [(.t 13), (.t 15)], none, .write, 0⟩, ⟨(some 12), .move (.t 16), none, .write, 0⟩, ⟨(some 17), .extract (.t 12) 0, none, .write, 0⟩, ⟨(some 18), .extract (.t 12) 1, none, .write, 0⟩, ⟨(some 6), .move (.t 17), none, .write, 0⟩, ⟨(some 7), .move (.t 18), none, .write, 0⟩])
 (.seq (.seq (.region [⟨(some 19), .move (.t 7), none, .write, 0⟩])
 (.cond (.t 19) (.seq (.region [⟨(some 20), .load (some 6) (.t 2), none, .write, 0⟩, ⟨none, .store 6 (.t 4) (.t 20), none, .write, 0⟩, ⟨(some 5), .move (.c (.bool false)), none, .write, 0⟩])
 .ret) .skip))
 (.seq (.region [⟨(some 22), .load (some 6) (.t 2), none, .write, 0⟩, ⟨(some 23), .fieldAddr 0 (.t 3), none, .write, 0⟩, ⟨(some 24), .load (some 2) (.t 23), none, .write, 0⟩, ⟨(some 25), .call (.c (.func 73 [])) [(.t 22), (.t 24)], none, .write, 0⟩, ⟨(some 21), .move (.t 25), none, .write, 0⟩, ⟨(some 26), .extract (.t 21) 0, none, .write, 0⟩, ⟨(some 27), .extract (.t 21) 1, none, .write, 0⟩, ⟨(some 8), .move (.t 26), none, .write, 0⟩, ⟨(some 9), .move (.t 27), none, .write, 0⟩])
 (.seq (.region [⟨(some 28), .fieldAddr 2 (.t 2), none, .write, 0⟩, ⟨(some 29), .load none (.t 28), none, .write, 0⟩, ⟨(some 30), .move (.t 8), none, .write, 0⟩, ⟨(some 31), .load (some 4) (.t 3), none, .write, 0⟩, ⟨(some 32), .buildSlice 70 4 (.agg [(.int .i64 0), (.int .i64 0), .nsl, (.int .i64 0)]) 1 [(0, (.t 31))], none, .write, 0⟩, ⟨(some 33), .call (.c (.func 177 [])) [(.t 29), (.t 30), (.t 32)], none, .write, 0⟩, ⟨(some 34), .fieldAddr 2 (.t 2), none, .write, 0⟩, ⟨none, .store 1 (.t 34) (.t 33), none, .write, 0⟩])
 (.seq (.region [⟨(some 35), .fieldAddr 3 (.t 2), none, .write, 0⟩, ⟨(some 36), .load none (.t 35), none, .write, 0⟩, ⟨(some 37), .move (.t 6), none, .write, 0⟩, ⟨(some 38), .fieldAddr 0 (.t 3), none, .write, 0⟩, ⟨(some 39), .load (some 2) (.t 38), none, .write, 0⟩, ⟨(some 40), .buildSlice 45 2 (.agg [(.int .i64 0), (.int .i64 0)]) 1 [(0, (.t 39))], none, .write, 0⟩, ⟨(some 41), .call (.c (.func 233 [])) [(.t 36), (.t 37), (.t 40)], none, .write, 0⟩, ⟨(some 42), .fieldAddr 3 (.t 2), none, .write, 0⟩, ⟨none, .store 1 (.t 42) (.t 41), none, .write, 0⟩])
 (.seq (.region [⟨(some 43), .load (some 6) (.t 2), none, .write, 0⟩, ⟨none, .store 6 (.t 4) (.t 43), none, .write, 0⟩, ⟨(some 5), .move (.c (.bool true)), none, .write, 0⟩])
 .ret)))))))) }

theorem c154 : compFunc Tryz.prog Tryz.f154 .full = some t154 := by kernel_rfl

end Go.Dm.TabS
