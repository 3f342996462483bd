/-
The table of functions, brought into the machine's form (Tr7, part 0). Written by program (wip/tools/table3.lean.txt).
-/
import Derived.Test.YtloabemenciijaaGreatDoorMm4
import Derived.Test.YtloabemenciijaaGreatDoorRows
import Derived.KernelRfl
namespace Go.Dm.Tr7
open Go.Proofs

/-- broadside/broadsidelaw22.QuietRuns -/
def t7 : DFunc := { ntmps := 45, results := [(.t 0)], mode := .full, body :=
 (.seq (.region [oW 0 (.move (oB false))])
 (.seq (.region [oW 6 (.build [(.int .i64 0), (.int .i64 0)] [(0, 1, (oI 0)), (1, 1, (oI 1))]), oW 7 (.buildSlice 90 2 (.agg [(.int .i64 0), (.int .i64 0)]) 1 [(0, (.t 6))]), oW 8 (.build [(.int .i64 0), .nsl] [(0, 1, (oI 2)), (1, 1, (.t 7))]), oW 1 (.alloc 79 2 (.agg [(.int .i64 0), .nsl])), oS 2 1 8])
 (.seq (.region [oL 10 2 1, oW 11 (.call (oF 32) [(.t 10)]), oM 9 11, oX 12 9 0, oX 13 9 1, oM 2 12, oM 3 13])
 (.seq (.seq (.region [oM 14 2, oW 15 (.eqn 0 false (.t 14) (.c .nilp)), oM 16 15, ⟨(some 17), .move (.t 3), (some (16, false)), .write, 0, false⟩, ⟨(some 18), .eqn 4 true (.t 17) (.c .nili), (some (16, false)), .write, 0, false⟩, oW 19 (.pick (.t 16) (oB true) (.t 18))])
 (.cond (.t 19) (.seq (.region [oW 0 (.move (oB false))])
 .ret) .skip))
 (.seq (.region [oM 20 2, oW 21 (.build [(.int .i64 0), (.int .i64 0), (.int .i64 0), (.int .i64 0), (.int .i64 0), (.int .i64 0), .nsl, .nsl, .nsl] [(0, 1, (oI 1))]), oW 22 (.call (oF 37) [(.t 20), (.t 21)])])
 (.seq (.region [oM 23 2, oW 24 (.build [(.int .i64 0), (.int .i64 0), (.int .i64 0), (.int .i64 0), (.int .i64 0), (.int .i64 0), .nsl, .nsl, .nsl] [(0, 1, (oI 2))]), oW 25 (.call (oF 37) [(.t 23), (.t 24)])])
 (.seq (.region [oM 26 2, oW 27 (.call (oF 38) [(.t 26)]), oM 4 27])
 (.seq (.region [oM 28 2, oW 29 (.call (oF 39) [(.t 28), (.c .nsl)]), oM 5 29])
 (.seq (.region [oM 30 4, oW 31 (.un .not (.t 30)), oM 32 31, ⟨(some 33), .move (.t 5), (some (32, true)), .write, 0, false⟩, ⟨(some 34), .arith .eql (.t 33) (oI 1), (some (32, true)), .write, 0, false⟩, oW 35 (.pick (.t 32) (.t 34) (oB false)), oM 36 35, ⟨(some 37), .move (.t 2), (some (36, true)), .write, 0, false⟩, ⟨(some 38), .call (oF 38) [(.t 37)], (some (36, true)), .write, 0, false⟩, oW 39 (.pick (.t 36) (.t 38) (oB false)), oM 40 39, ⟨(some 41), .load (some 2) (.t 1), (some (40, true)), .write, 0, false⟩, ⟨(some 42), .call (oF 40) [(.t 41), (oI 1), (oI 0), (oI 0)], (some (40, true)), .write, 0, false⟩, ⟨(some 43), .arith .eql (.t 42) (oI 4), (some (40, true)), .write, 0, false⟩, oW 44 (.pick (.t 40) (.t 43) (oB false)), oM 0 44])
 .ret))))))))) }

theorem c7 : compFunc Tryz.prog Tryz.f7 .full = some t7 := by kernel_rfl

/-- broadside/fault.Kind -/
def t18 : DFunc := { ntmps := 8, results := [(.t 2)], mode := .full, body :=
 (.seq (.region [oW 2 (.move (oI 0))])
 (.seq (.region [oW 3 (.alloc 57 1 (.int .i64 0))])
 (.seq (.seq (.region [oM 4 0, oW 5 (.makeIface 154 (.t 3)), oW 6 (.call (oF 75) [(.t 4), (.t 5)])])
 (.cond (.t 6) (.seq (.region [oD 7 3, oM 2 7])
 .ret) .skip))
 (.seq (.region [oW 2 (.move (oI 0))])
 .ret)))) }

theorem c18 : compFunc Tryz.prog Tryz.f18 .full = some t18 := by kernel_rfl

/-- broadside/broker.Step -/
def t23 : DFunc := { ntmps := 68, results := [(.cell 6 (some 6)), (.t 7), (.t 8)], mode := .full, body :=
 (.seq (.region [oW 3 (.box 37 6 (.t 0)), oW 5 (.box 49 7 (.t 2)), oW 6 (.alloc 37 6 (.agg [(.int .i64 0), .nsl, .nsl, .nsl, .nsl, .nsl])), oW 7 (.move (.c .nsl)), oW 8 (.move (.c .nsl))])
 (.seq (.region [oW 9 (.move (.c .nsl))])
 (.seq (.seq (.region [oA 12 0 5, oD 13 12])
 (.block 0 (.seq (.region [oW 15 (.arith .eql (.t 13) (oI 1)), oM 14 15])
 (.cond (.t 14) (.region [oL 17 6 3, oM 18 1, oA 19 1 5, oL 20 2 19, oA 21 5 5, oD 22 21, oW 23 (.call (oF 78) [(.t 17), (.t 18), (.t 20), (.t 22)]), oM 16 23, oX 24 16 0, oX 25 16 1, oS 6 3 24, oM 9 25]) (.seq (.region [oW 27 (.arith .eql (.t 13) (oI 2)), oM 26 27])
 (.cond (.t 26) (.region [oL 29 6 3, oM 30 1, oA 31 1 5, oL 32 2 31, oW 33 (.call (oF 79) [(.t 29), (.t 30), (.t 32)]), oM 28 33, oX 34 28 0, oX 35 28 1, oS 6 3 34, oM 9 35]) (.seq (.region [oW 37 (.arith .eql (.t 13) (oI 3)), oM 36 37])
 (.cond (.t 36) (.region [oL 39 6 3, oM 40 1, oL 41 7 5, oW 42 (.call (oF 80) [(.t 39), (.t 40), (.t 41)]), oM 38 42, oX 43 38 0, oX 44 38 1, oS 6 3 43, oM 9 44]) (.seq (.region [oW 46 (.arith .eql (.t 13) (oI 4)), oM 45 46])
 (.cond (.t 45) (.region [oL 48 6 3, oM 49 1, oL 50 7 5, oW 51 (.call (oF 81) [(.t 48), (.t 49), (.t 50)]), oM 47 51, oX 52 47 0, oX 53 47 1, oS 6 3 52, oM 9 53]) (.seq (.region [oW 55 (.arith .eql (.t 13) (oI 5)), oM 54 55])
 (.cond (.t 54) (.seq (.region [oL 57 6 3, oM 58 1, oL 59 7 5, oW 60 (.call (oF 82) [(.t 57), (.t 58), (.t 59)]), oM 56 60, oX 61 56 0, oX 62 56 1, oM 10 61, oM 11 62])
 (.seq (.region [oL 63 6 3, oM 64 10, oM 65 11, oS 6 6 63, oM 7 64, oM 8 65])
 .ret)) .skip))))))))))))
 (.seq (.region [oL 66 6 3, oM 67 9, oS 6 6 66, oM 7 67, oW 8 (.move (.c .nsl))])
 .ret)))) }

theorem c23 : compFunc Tryz.prog Tryz.f23 .full = some t23 := by kernel_rfl

/-- broadside/wire.Decode -/
def t28 : DFunc := { ntmps := 31, results := [(.cell 2 (some 7)), (.t 3)], mode := .full, body :=
 (.seq (.region [oW 2 (.alloc 49 7 (.agg [(.int .i64 0), (.int .i64 0), (.int .i64 0), (.int .i64 0), (.int .i64 0), .nsl, .nsl])), oW 3 (.move (.c .nili))])
 (.seq (.region [oM 6 0, oW 7 (.call (oF 92) [(.t 6)]), oM 4 7])
 (.seq (.region [oM 8 4, oW 9 (.call (oF 93) [(.t 8)]), oW 5 (.alloc 49 7 (.agg [(.int .i64 0), (.int .i64 0), (.int .i64 0), (.int .i64 0), (.int .i64 0), .nsl, .nsl])), oS 7 5 9])
 (.seq (.seq (.region [oM 10 4, oW 11 (.call (oF 94) [(.t 10)]), oW 12 (.un .not (.t 11)), oM 13 12, ⟨(some 14), .load (some 7) (.t 5), (some (13, false)), .write, 0, false⟩, ⟨(some 15), .call (oF 63) [(.t 14)], (some (13, false)), .write, 0, false⟩, ⟨(some 16), .un .not (.t 15), (some (13, false)), .write, 0, false⟩, oW 17 (.pick (.t 13) (oB true) (.t 16)), oM 18 17, ⟨(some 19), .load (some 7) (.t 5), (some (18, false)), .write, 0, false⟩, ⟨(some 20), .call (oF 65) [(.t 19)], (some (18, false)), .write, 0, false⟩, ⟨(some 21), .move (.t 0), (some (18, false)), .write, 0, false⟩, ⟨(some 22), .call (oF 95) [(.t 20), (.t 21)], (some (18, false)), .write, 0, false⟩, ⟨(some 23), .un .not (.t 22), (some (18, false)), .write, 0, false⟩, oW 24 (.pick (.t 18) (oB true) (.t 23))])
 (.cond (.t 24) (.seq (.region [oW 25 (.build [(.int .i64 0), (.int .i64 0), (.int .i64 0), (.int .i64 0), (.int .i64 0), .nsl, .nsl] []), oM 26 0, oW 27 (.len 1 (.t 26)), oW 28 (.makeIface 57 (oI 1)), oW 29 (.call (oF 64) [(.c (.str [119, 105, 114, 101])), (.t 27), (.t 28)]), oS 7 2 25, oM 3 29])
 .ret) .skip))
 (.seq (.region [oL 30 7 5, oS 7 2 30, oW 3 (.move (.c .nili))])
 .ret))))) }

theorem c28 : compFunc Tryz.prog Tryz.f28 .full = some t28 := by kernel_rfl

/-- broadside/world.New -/
def t32 : DFunc := { ntmps := 19, results := [(.t 2), (.t 3)], mode := .full, body :=
 (.seq (.region [oW 1 (.box 79 2 (.t 0)), oW 2 (.move (.c .nilp)), oW 3 (.move (.c .nili))])
 (.seq (.region [oL 7 2 1, oW 8 (.call (oF 43) [(.t 7)]), oM 6 8, oX 9 6 0, oX 10 6 1, oM 4 9, oM 5 10])
 (.seq (.seq (.region [oM 11 5, oW 12 (.eqn 4 true (.t 11) (.c .nili))])
 (.cond (.t 12) (.seq (.region [oM 13 5, oW 14 (.call (oF 64) [(.c (.str [119, 111, 114, 108, 100])), (oI (-1)), (.t 13)]), oW 2 (.move (.c .nilp)), oM 3 14])
 .ret) .skip))
 (.seq (.region [oM 15 4, oW 16 (.call (oF 119) []), oW 17 (.build [.nilp, .nsl, .nilp, (.int .i64 0), .nili] [(0, 1, (.t 15)), (2, 1, (.t 16))]), oW 18 (.box 205 5 (.t 17)), oM 2 18, oW 3 (.move (.c .nili))])
 .ret)))) }

theorem c32 : compFunc Tryz.prog Tryz.f32 .full = some t32 := by kernel_rfl

/-- (*broadside/world.World).Do -/
def t37 : DFunc := { ntmps := 26, results := [(.cell 4 (some 7))], mode := .full, body :=
 (.seq (.region [oW 3 (.box 95 9 (.t 1)), oW 4 (.alloc 92 7 (.agg [(.int .i64 0), (.int .i64 0), (.int .i64 0), (.int .i64 0), (.int .i64 0), (.int .i64 0), .nsl]))])
 (.seq (.region [oM 8 0, oL 9 9 3, oW 10 (.call (oF 125) [(.t 8), (.t 9)]), oM 7 10, oX 11 7 0, oX 12 7 1, oW 5 (.alloc 92 7 (.agg [(.int .i64 0), (.int .i64 0), (.int .i64 0), (.int .i64 0), (.int .i64 0), (.int .i64 0), .nsl])), oS 7 5 11, oM 6 12])
 (.seq (.region [oM 13 0, oA 14 0 3, oD 15 14, oM 16 6, oW 17 (.call (oF 64) [(.c (.str [119, 111, 114, 108, 100])), (.t 15), (.t 16)]), oW 18 (.nilCheck (.t 13)), oA 19 4 18, oS 1 19 17])
 (.seq (.seq (.region [oM 20 6, oW 21 (.eqn 4 true (.t 20) (.c .nili))])
 (.cond (.t 21) (.seq (.region [oM 22 6, oW 23 (.call (oF 18) [(.t 22)]), oW 24 (.build [(.int .i64 0), (.int .i64 0), (.int .i64 0), (.int .i64 0), (.int .i64 0), (.int .i64 0), .nsl] [(0, 1, (.t 23))]), oS 7 4 24])
 .ret) .skip))
 (.seq (.region [oL 25 7 5, oS 7 4 25])
 .ret))))) }

theorem c37 : compFunc Tryz.prog Tryz.f37 .full = some t37 := by kernel_rfl

/-- broadside/quiet.Is -/
def t38 : DFunc := { ntmps := 8, results := [(.t 2)], mode := .full, body :=
 (.seq (.region [oW 2 (.move (oB false))])
 (.seq (.region [oM 3 0, oW 4 (.call (oF 120) [(.t 3)]), oW 5 (.call (oF 46) [(.t 4)]), oW 6 (.len 1 (.t 5)), oW 7 (.arith .eql (.t 6) (oI 0)), oM 2 7])
 .ret)) }

theorem c38 : compFunc Tryz.prog Tryz.f38 .full = some t38 := by kernel_rfl

def t39l0 : DCode :=
 (.seq (.seq (.region [oM 6 0, oM 7 1, oM 8 5, oW 9 (.call (oF 126) [(.t 6), (.t 7), (.t 8)])])
 (.cond (.t 9) .skip (.exit 0)))
 (.block 1 (.region [oM 10 5, oW 11 (.arith .add (.t 10) (oI 1)), oM 5 11])))

def t39k0 : DCode :=
 (.seq (.region [oM 12 5, oM 4 12])
 .ret)

/-- broadside/quiet.Run -/
def t39 : DFunc := { ntmps := 13, results := [(.t 4)], mode := .full, body :=
 (.seq (.region [oW 4 (.move (oI 0))])
 (.seq (.region [oW 5 (.move (oI 0))])
 (.seq (.block 0 (.loop t39l0))
 t39k0))) }

theorem c39 : compFunc Tryz.prog Tryz.f39 .full = some t39 := by kernel_rfl

/-- broadside/quiet.Bound -/
def t40 : DFunc := { ntmps := 29, results := [(.t 8)], mode := .full, body :=
 (.seq (.region [oW 4 (.box 79 2 (.t 0)), oW 8 (.move (oI 0))])
 (.seq (.region [oL 10 2 4, oW 11 (.call (oF 42) [(.t 10)]), oW 12 (.len 1 (.t 11)), oM 9 12])
 (.seq (.region [oM 13 1, oW 14 (.arith .mul (oI 2) (.t 13)), oM 15 9, oW 16 (.arith .mul (.t 14) (.t 15)), oM 17 1, oW 18 (.arith .mul (oI 2) (.t 17)), oM 19 2, oW 20 (.arith .mul (.t 18) (.t 19)), oA 21 0 4, oD 22 21, oW 23 (.arith .mul (.t 20) (.t 22)), oW 24 (.arith .add (.t 16) (.t 23)), oM 25 3, oM 26 9, oW 27 (.arith .mul (.t 25) (.t 26)), oW 28 (.arith .add (.t 24) (.t 27)), oM 8 28])
 .ret))) }

theorem c40 : compFunc Tryz.prog Tryz.f40 .full = some t40 := by kernel_rfl

def t42l0 : DCode :=
 (.seq (.region [oW 10 (.arith .lss (.t 9) (.t 8))])
 (.seq (.cond (.t 10) .skip (.exit 0))
 (.seq (.block 1 (.seq (.region [oW 11 (.indexAddr 2 (.t 7) (.t 9)), oL 12 2 11, oW 5 (.alloc 90 2 (.agg [(.int .i64 0), (.int .i64 0)])), oS 2 5 12])
 (.seq (.region [oL 13 2 1, oL 14 2 5, oW 15 (.call (oF 129) [(.t 13), (.t 14)])])
 (.cond (.t 15) (.region [oM 16 3, oL 17 2 5, oW 18 (.indexArr 2 1 (.t 5) (oI 1)), oD 19 18, oW 20 (.indexArr 2 1 (.t 5) (oI 0)), oD 21 20, oW 22 (.build [(.int .i64 0), (.int .i64 0)] [(0, 1, (.t 19)), (1, 1, (.t 21))]), oW 23 (.buildSlice 90 2 (.agg [(.int .i64 0), (.int .i64 0)]) 2 [(0, (.t 17)), (1, (.t 22))]), oW 24 (.append 90 2 16 (.t 16) (.t 23)), oM 3 24]) .skip))))
 (.region [oW 25 (.arith .add (.t 9) (oI 1)), oM 9 25]))))

def t42k0 : DCode :=
 (.seq (.region [oM 26 3, oW 27 (.call (oF 130) [(.t 26), (oF 131)])])
 (.seq (.region [oM 28 3, oW 29 (.call (oF 133) [(.t 28)]), oM 2 29])
 .ret))

/-- broadside/graph.Ways -/
def t42 : DFunc := { ntmps := 30, results := [(.t 2)], mode := .full, body :=
 (.seq (.region [oW 1 (.box 79 2 (.t 0)), oW 2 (.move (.c .nsl))])
 (.seq (.region [oW 3 (.move (.c .nsl))])
 (.seq (.seq (.region [oA 6 1 1, oD 7 6, oW 8 (.len 1 (.t 7)), oW 9 (.move (oI 0))])
 (.block 0 (.loop t42l0)))
 t42k0))) }

theorem c42 : compFunc Tryz.prog Tryz.f42 .full = some t42 := by kernel_rfl

def t43l0 : DCode :=
 (.seq (.region [oW 22 (.arith .lss (.t 21) (.t 20))])
 (.seq (.cond (.t 22) .skip (.exit 0))
 (.seq (.block 1 (.seq (.region [oM 23 21, oM 6 23])
 (.draw [oRM 25 5, oR 26 (.nilCheck (.t 25)), oRA 27 2 26, oRD 28 27, oRL 30 2 1, oRM 31 6, ⟨(some 32), .call (oF 137) [(.t 30), (.t 31)], none, .create, 0, false⟩, oRM 29 6, ⟨(some 33), .call (oF 77) [(.t 29), (.t 32)], none, .create, 0, false⟩, ⟨(some 34), .buildSlice 37 6 (.agg [(.int .i64 0), .nsl, .nsl, .nsl, .nsl, .nsl]) 1 [(0, (.t 33))], none, .create, 0, false⟩, ⟨(some 35), .append 37 6 128 (.t 28) (.t 34), none, .write, 3, false⟩, oRM 24 5, ⟨(some 36), .nilCheck (.t 24), none, .read, 4, false⟩, ⟨(some 37), .fieldAddr 2 (.t 36), none, .read, 4, false⟩, ⟨none, .store 1 (.t 37) (.t 35), none, .write, 4, false⟩])))
 (.region [oW 38 (.arith .add (.t 21) (oI 1)), oM 21 38]))))

def t43k0 : DCode :=
 (.seq (.region [oM 39 5, oM 2 39, oW 3 (.move (.c .nili))])
 .ret)

/-- broadside/net.New -/
def t43 : DFunc := { ntmps := 40, results := [(.t 2), (.t 3)], mode := .full, body :=
 (.seq (.region [oW 1 (.box 79 2 (.t 0)), oW 2 (.move (.c .nilp)), oW 3 (.move (.c .nili))])
 (.seq (.seq (.region [oL 7 2 1, oW 8 (.call (oF 134) [(.t 7)]), oM 4 8])
 (.seq (.region [oM 9 4, oW 10 (.eqn 4 true (.t 9) (.c .nili))])
 (.cond (.t 10) (.seq (.region [oM 11 4, oW 12 (.call (oF 64) [(.c (.str [110, 101, 116])), (oI (-1)), (.t 11)]), oW 2 (.move (.c .nilp)), oM 3 12])
 .ret) .skip)))
 (.seq (.draw [oRL 13 2 1, ⟨(some 14), .call (oF 135) [(.t 13)], none, .create, 0, false⟩, oRL 15 2 1, ⟨(some 16), .call (oF 136) [(.t 15)], none, .write, 1, false⟩, ⟨(some 17), .build [(.int .i64 0), .nsl, .nsl, .nilp, .nsl] [(0, 2, (.t 14)), (3, 1, (.t 16))], none, .read, 2, false⟩, ⟨(some 18), .box 230 5 (.t 17), none, .write, 2, false⟩, ⟨(some 5), .move (.t 18), none, .read, 3, false⟩])
 (.seq (.seq (.region [oA 19 0 1, oD 20 19, oW 21 (.move (oI 0))])
 (.block 0 (.loop t43l0)))
 t43k0)))) }

theorem c43 : compFunc Tryz.prog Tryz.f43 .full = some t43 := by kernel_rfl

/-- (*broadside/net.Net).Advertise -/
def t44 : DFunc := { ntmps := 13, results := [(.t 8)], mode := .full, body :=
 (.seq (.region [oW 6 (.box 45 2 (.t 2)), oW 7 (.box 46 1 (.t 3)), oW 8 (.move (.c .nili))])
 (.seq (.region [oM 9 0, oM 10 1, oW 11 (.makeFunc 139 [(.t 6), (.t 7)]), oW 12 (.call (oF 138) [(.t 9), (.t 10), (.t 11)]), oM 8 12])
 .ret)) }

theorem c44 : compFunc Tryz.prog Tryz.f44 .full = some t44 := by kernel_rfl

/-- (*broadside/net.Net).Busy -/
def t46 : DFunc := { ntmps := 8, results := [(.t 2)], mode := .full, body :=
 (.seq (.region [oW 2 (.move (.c .nsl))])
 (.seq (.region [oM 3 0, oW 4 (.nilCheck (.t 3)), oA 5 3 4, oD 6 5, oW 7 (.call (oF 142) [(.t 6)]), oM 2 7])
 .ret)) }

theorem c46 : compFunc Tryz.prog Tryz.f46 .full = some t46 := by kernel_rfl

/-- (*broadside/net.Net).Pick -/
def t48 : DFunc := { ntmps := 54, results := [(.t 6), (.t 7)], mode := .full, body :=
 (.seq (.region [oW 6 (.move (.c .nsl)), oW 7 (.move (.c .nili))])
 (.seq (.region [oM 14 0, oW 15 (.nilCheck (.t 14)), oA 16 3 15, oD 17 16, oM 18 1, oM 19 2, oW 20 (.call (oF 144) [(.t 17), (.t 18), (.t 19)]), oM 13 20, oX 21 13 0, oX 22 13 1, oW 8 (.alloc 49 7 (.agg [(.int .i64 0), (.int .i64 0), (.int .i64 0), (.int .i64 0), (.int .i64 0), .nsl, .nsl])), oS 7 8 21, oM 9 22])
 (.seq (.seq (.region [oM 23 9, oW 24 (.eqn 4 true (.t 23) (.c .nili))])
 (.cond (.t 24) (.seq (.region [oM 25 1, oM 26 9, oW 27 (.call (oF 64) [(.c (.str [110, 101, 116])), (.t 25), (.t 26)]), oW 6 (.move (.c .nsl)), oM 7 27])
 .ret) .skip))
 (.seq (.draw [oRM 29 0, oR 30 (.nilCheck (.t 29)), oRA 31 2 30, oRD 32 31, oRM 33 2, oR 34 (.indexAddr 6 (.t 32) (.t 33)), oRL 35 6 34, oRL 37 7 8, oRM 36 1, oW 38 (.call (oF 23) [(.t 35), (.t 36), (.t 37)]), ⟨(some 28), .move (.t 38), none, .read, 1, false⟩, ⟨(some 39), .extract (.t 28) 0, none, .read, 1, false⟩, ⟨(some 10), .alloc 37 6 (.agg [(.int .i64 0), .nsl, .nsl, .nsl, .nsl, .nsl]), none, .create, 0, false⟩, ⟨none, .store 6 (.t 10) (.t 39), none, .write, 2, false⟩, ⟨(some 40), .extract (.t 28) 1, none, .read, 1, false⟩, ⟨(some 41), .extract (.t 28) 2, none, .read, 1, false⟩, ⟨(some 11), .move (.t 40), none, .read, 3, false⟩, ⟨(some 12), .move (.t 41), none, .read, 3, false⟩])
 (.seq (.draw [oRM 42 0, oR 43 (.nilCheck (.t 42)), oRA 44 2 43, oRD 45 44, oRL 47 6 10, oRM 46 2, oR 48 (.indexAddr 6 (.t 45) (.t 46)), oS 6 48 47])
 (.seq (.region [oM 49 0, oM 50 2, oM 51 11, oW 52 (.call (oF 145) [(.t 49), (.t 50), (.t 51)])])
 (.seq (.region [oM 53 12, oM 6 53, oW 7 (.move (.c .nili))])
 .ret))))))) }

theorem c48 : compFunc Tryz.prog Tryz.f48 .full = some t48 := by kernel_rfl

/-- broadside/adverts.Find -/
def t49 : DFunc := { ntmps := 22, results := [(.cell 4 (some 4)), (.t 5)], mode := .full, body :=
 (.seq (.region [oW 2 (.box 37 6 (.t 0)), oW 3 (.box 45 2 (.t 1)), oW 4 (.alloc 86 4 (.agg [(.int .i64 0), (.int .i64 0), .nsl, (.int .i64 0)])), oW 5 (.move (oB false))])
 (.seq (.region [oL 9 6 2, oL 10 2 3, oW 11 (.call (oF 146) [(.t 9), (.t 10)]), oM 8 11, oX 12 8 0, oX 13 8 1, oM 6 12, oM 7 13])
 (.seq (.seq (.region [oM 14 7, oW 15 (.un .not (.t 14))])
 (.cond (.t 15) (.seq (.region [oW 16 (.build [(.int .i64 0), (.int .i64 0), .nsl, (.int .i64 0)] []), oS 4 4 16, oW 5 (.move (oB false))])
 .ret) .skip))
 (.seq (.region [oA 17 2 2, oD 18 17, oM 19 6, oW 20 (.indexAddr 4 (.t 18) (.t 19)), oL 21 4 20, oS 4 4 21, oW 5 (.move (oB true))])
 .ret)))) }

theorem c49 : compFunc Tryz.prog Tryz.f49 .full = some t49 := by kernel_rfl

/-- (*broadside/net.Net).Subscribe -/
def t55 : DFunc := { ntmps := 13, results := [(.t 8)], mode := .full, body :=
 (.seq (.region [oW 6 (.box 45 2 (.t 2)), oW 7 (.box 46 1 (.t 3)), oW 8 (.move (.c .nili))])
 (.seq (.region [oM 9 0, oM 10 1, oW 11 (.makeFunc 154 [(.t 6), (.t 7)]), oW 12 (.call (oF 138) [(.t 9), (.t 10), (.t 11)]), oM 8 12])
 .ret)) }

theorem c55 : compFunc Tryz.prog Tryz.f55 .full = some t55 := by kernel_rfl

/-- (*broadside/net.Net).Publish -/
def t56 : DFunc := { ntmps := 20, results := [(.t 10), (.t 11)], mode := .full, body :=
 (.seq (.region [oW 7 (.box 45 2 (.t 2)), oW 8 (.box 45 2 (.t 3)), oW 9 (.box 47 1 (.t 4)), oW 10 (.move (.c .nsl)), oW 11 (.move (.c .nili))])
 (.seq (.region [oW 12 (.alloc 53 1 .nsl)])
 (.seq (.region [oM 14 0, oM 15 1, oW 16 (.makeFunc 156 [(.t 7), (.t 8), (.t 9), (.t 12)]), oW 17 (.call (oF 138) [(.t 14), (.t 15), (.t 16)]), oM 13 17])
 (.seq (.region [oD 18 12, oM 19 13, oM 10 18, oM 11 19])
 .ret)))) }

theorem c56 : compFunc Tryz.prog Tryz.f56 .full = some t56 := by kernel_rfl

/-- (*broadside/net.Net).Copy -/
def t58 : DFunc := { ntmps := 25, results := [(.t 2)], mode := .full, body :=
 (.seq (.region [oW 2 (.move (.c .nilp))])
 (.seq (.draw [oRM 3 0, oR 4 (.nilCheck (.t 3)), oRA 5 0 4, oRL 6 2 5, ⟨(some 7), .call (oF 135) [(.t 6)], none, .create, 0, false⟩, oRM 8 0, oR 9 (.nilCheck (.t 8)), oRA 10 2 9, oRD 11 10, ⟨(some 12), .call (oF 158) [(.t 11)], none, .create, 0, false⟩, oRM 13 0, oR 14 (.nilCheck (.t 13)), oRA 15 3 14, oRD 16 15, ⟨(some 17), .call (oF 159) [(.t 16)], none, .create, 0, false⟩, oRM 18 0, oR 19 (.nilCheck (.t 18)), oRA 20 4 19, oRD 21 20, ⟨(some 22), .call (oF 153) [(.t 21)], none, .write, 3, false⟩, ⟨(some 23), .build [(.int .i64 0), .nsl, .nsl, .nilp, .nsl] [(0, 2, (.t 7)), (2, 1, (.t 12)), (3, 1, (.t 17)), (4, 1, (.t 22))], none, .read, 4, false⟩, ⟨(some 24), .box 230 5 (.t 23), none, .write, 4, false⟩, ⟨(some 2), .move (.t 24), none, .read, 5, false⟩])
 .ret)) }

theorem c58 : compFunc Tryz.prog Tryz.f58 .full = some t58 := by kernel_rfl

/-- broadside/wire.Right -/
def t63 : DFunc := { ntmps := 63, results := [(.t 2)], mode := .full, body :=
 (.seq (.region [oW 1 (.box 49 7 (.t 0)), oW 2 (.move (oB false))])
 (.seq (.region [oA 6 0 1, oD 7 6, oW 8 (.call (oF 167) [(.t 7)]), oM 5 8, oX 9 5 0, oX 10 5 1, oM 3 9, oM 4 10])
 (.seq (.block 0 (.seq (.region [oM 12 4, oW 13 (.un .not (.t 12)), oM 14 13, ⟨(some 15), .fieldAddr 1 (.t 1), (some (14, false)), .write, 0, false⟩, ⟨(some 16), .load (some 2) (.t 15), (some (14, false)), .write, 0, false⟩, ⟨(some 17), .call (oF 168) [(.t 16)], (some (14, false)), .write, 0, false⟩, ⟨(some 18), .un .not (.t 17), (some (14, false)), .write, 0, false⟩, oW 19 (.pick (.t 14) (oB true) (.t 18)), oM 20 19, ⟨(some 21), .fieldAddr 5 (.t 1), (some (20, false)), .write, 0, false⟩, ⟨(some 22), .load none (.t 21), (some (20, false)), .write, 0, false⟩, ⟨(some 23), .call (oF 112) [(.t 22)], (some (20, false)), .write, 0, false⟩, ⟨(some 24), .un .not (.t 23), (some (20, false)), .write, 0, false⟩, oW 25 (.pick (.t 20) (oB true) (.t 24)), oM 26 25, ⟨(some 27), .fieldAddr 6 (.t 1), (some (26, false)), .write, 0, false⟩, ⟨(some 28), .load none (.t 27), (some (26, false)), .write, 0, false⟩, ⟨(some 29), .call (oF 169) [(.t 28)], (some (26, false)), .write, 0, false⟩, ⟨(some 30), .un .not (.t 29), (some (26, false)), .write, 0, false⟩, oW 31 (.pick (.t 26) (oB true) (.t 30)), oM 11 31])
 (.cond (.t 11) (.seq (.region [oW 2 (.move (oB false))])
 .ret) (.seq (.seq (.region [oM 33 3, oW 34 (.arith .and (.t 33) (oI 1)), oW 35 (.arith .eql (.t 34) (oI 0)), oM 36 35, ⟨(some 37), .fieldAddr 3 (.t 1), (some (36, true)), .write, 0, false⟩, ⟨(some 38), .load (some 2) (.t 37), (some (36, true)), .write, 0, false⟩, ⟨(some 39), .build [(.int .i64 0), (.int .i64 0)] [], (some (36, true)), .write, 0, false⟩, ⟨(some 40), .eqa true [1, 1] (.t 38) (.t 39), (some (36, true)), .write, 0, false⟩, oW 41 (.pick (.t 36) (.t 40) (oB false)), oM 32 41])
 (.cond (.t 32) .skip (.seq (.region [oM 42 3, oW 43 (.arith .and (.t 42) (oI 2)), oW 44 (.arith .eql (.t 43) (oI 0)), oM 45 44, ⟨(some 46), .fieldAddr 5 (.t 1), (some (45, true)), .write, 0, false⟩, ⟨(some 47), .load none (.t 46), (some (45, true)), .write, 0, false⟩, ⟨(some 48), .len 1 (.t 47), (some (45, true)), .write, 0, false⟩, ⟨(some 49), .arith .gtr (.t 48) (oI 0), (some (45, true)), .write, 0, false⟩, oW 50 (.pick (.t 45) (.t 49) (oB false)), oM 32 50])
 (.cond (.t 32) .skip (.region [oM 51 3, oW 52 (.arith .and (.t 51) (oI 4)), oW 53 (.arith .eql (.t 52) (oI 0)), oM 54 53, ⟨(some 55), .fieldAddr 6 (.t 1), (some (54, true)), .write, 0, false⟩, ⟨(some 56), .load none (.t 55), (some (54, true)), .write, 0, false⟩, ⟨(some 57), .len 1 (.t 56), (some (54, true)), .write, 0, false⟩, ⟨(some 58), .arith .gtr (.t 57) (oI 0), (some (54, true)), .write, 0, false⟩, oW 59 (.pick (.t 54) (.t 58) (oB false)), oM 32 59])))))
 (.cond (.t 32) (.seq (.region [oW 2 (.move (oB false))])
 .ret) .skip)))))
 (.seq (.region [oA 60 3 1, oL 61 2 60, oW 62 (.call (oF 168) [(.t 61)]), oM 2 62])
 .ret)))) }

theorem c63 : compFunc Tryz.prog Tryz.f63 .full = some t63 := by kernel_rfl

/-- broadside/fault.New -/
def t64 : DFunc := { ntmps := 15, results := [(.t 6)], mode := .full, body :=
 (.seq (.region [oW 6 (.move (.c .nili))])
 (.seq (.seq (.region [oM 7 2, oW 8 (.eqn 4 false (.t 7) (.c .nili))])
 (.cond (.t 8) (.seq (.region [oW 6 (.move (.c .nili))])
 .ret) .skip))
 (.seq (.region [oM 9 0, oM 10 1, oM 11 2, oW 12 (.build [(.str []), (.int .i64 0), .nili] [(0, 1, (.t 9)), (1, 1, (.t 10)), (2, 1, (.t 11))]), oW 13 (.box 159 3 (.t 12)), oW 14 (.makeIface 157 (.t 13)), oM 6 14])
 .ret))) }

theorem c64 : compFunc Tryz.prog Tryz.f64 .full = some t64 := by kernel_rfl

def t65l0 : DCode :=
 (.seq (.region [oW 46 (.arith .lss (.t 45) (.t 44))])
 (.seq (.cond (.t 46) .skip (.exit 0))
 (.seq (.block 1 (.seq (.region [oW 47 (.indexAddr 5 (.t 43) (.t 45)), oL 48 5 47, oW 7 (.alloc 119 5 (.agg [(.str []), (.int .i64 0), (.int .i64 0), (.int .i64 0), (.str [])])), oS 5 7 48])
 (.region [oM 49 5, oL 50 5 7, oW 51 (.call (oF 171) [(.t 50)]), oW 52 (.append 5 1 1 (.t 49) (.t 51)), oM 5 52])))
 (.region [oW 53 (.arith .add (.t 45) (oI 1)), oM 45 53]))))

def t65l1 : DCode :=
 (.seq (.region [oW 68 (.arith .lss (.t 67) (.t 66))])
 (.seq (.cond (.t 68) .skip (.exit 2))
 (.seq (.block 3 (.seq (.region [oW 69 (.indexAddr 4 (.t 65) (.t 67)), oL 70 4 69, oW 9 (.alloc 176 4 (.agg [(.str []), (.bool false), (.int .i64 0), (.str [])])), oS 4 9 70])
 (.region [oM 71 5, oL 72 4 9, oW 73 (.call (oF 172) [(.t 72)]), oW 74 (.append 5 1 1 (.t 71) (.t 73)), oM 5 74])))
 (.region [oW 75 (.arith .add (.t 67) (oI 1)), oM 67 75]))))

def t65k0 : DCode :=
 (.seq (.region [oM 76 5, oM 2 76])
 .ret)

def t65k1 : DCode :=
 (.seq (.seq (.region [oM 54 3, oW 55 (.arith .and (.t 54) (oI 4)), oW 56 (.arith .neq (.t 55) (oI 0))])
 (.cond (.t 56) (.seq (.region [oM 57 5, oA 58 6 1, oD 59 58, oW 60 (.len 1 (.t 59)), oW 61 (.conv .u8 (.t 60)), oW 62 (.buildSlice 5 1 (.int .u8 0) 1 [(0, (.t 61))]), oW 63 (.append 5 1 1 (.t 57) (.t 62)), oM 5 63])
 (.seq (.region [oA 64 6 1, oD 65 64, oW 66 (.len 1 (.t 65)), oW 67 (.move (oI 0))])
 (.block 2 (.loop t65l1)))) .skip))
 t65k0)

/-- broadside/wire.put -/
def t65 : DFunc := { ntmps := 77, results := [(.t 2)], mode := .full, body :=
 (.seq (.region [oW 1 (.box 49 7 (.t 0)), oW 2 (.move (.c .nsl))])
 (.seq (.region [oA 11 0 1, oD 12 11, oW 13 (.call (oF 167) [(.t 12)]), oM 10 13, oX 14 10 0, oX 15 10 1, oM 3 14, oM 4 15])
 (.seq (.draw [oRA 16 0 1, oRD 17 16, oRA 20 1 1, oRL 21 2 20, ⟨(some 22), .call (oF 170) [(.t 21)], none, .create, 0, false⟩, oR 18 (.conv .u8 (.t 17)), ⟨(some 19), .buildSlice 5 1 (.int .u8 0) 1 [(0, (.t 18))], none, .create, 0, false⟩, ⟨(some 23), .append 5 1 1 (.t 19) (.t 22), none, .write, 2, false⟩, ⟨(some 5), .move (.t 23), none, .read, 3, false⟩])
 (.seq (.seq (.region [oM 24 3, oW 25 (.arith .and (.t 24) (oI 1)), oW 26 (.arith .neq (.t 25) (oI 0))])
 (.cond (.t 26) (.region [oM 27 5, oA 28 3 1, oL 29 2 28, oW 30 (.call (oF 170) [(.t 29)]), oW 31 (.append 5 1 1 (.t 27) (.t 30)), oM 5 31]) .skip))
 (.seq (.seq (.region [oM 32 3, oW 33 (.arith .and (.t 32) (oI 2)), oW 34 (.arith .neq (.t 33) (oI 0))])
 (.cond (.t 34) (.seq (.region [oM 35 5, oA 36 5 1, oD 37 36, oW 38 (.len 1 (.t 37)), oW 39 (.conv .u8 (.t 38)), oW 40 (.buildSlice 5 1 (.int .u8 0) 1 [(0, (.t 39))]), oW 41 (.append 5 1 1 (.t 35) (.t 40)), oM 5 41])
 (.seq (.region [oA 42 5 1, oD 43 42, oW 44 (.len 1 (.t 43)), oW 45 (.move (oI 0))])
 (.block 0 (.loop t65l0)))) .skip))
 t65k1))))) }

theorem c65 : compFunc Tryz.prog Tryz.f65 .full = some t65 := by kernel_rfl

/-- broadside/adverts.New -/
def t77 : DFunc := { ntmps := 14, results := [(.cell 4 (some 6))], mode := .full, body :=
 (.seq (.region [oW 4 (.alloc 37 6 (.agg [(.int .i64 0), .nsl, .nsl, .nsl, .nsl, .nsl]))])
 (.seq (.region [oM 6 1, oW 7 (.call (oF 148) [(.t 6)]), oM 5 7])
 (.seq (.region [oM 8 5, oW 9 (.call (oF 178) [(.t 8)])])
 (.seq (.region [oM 10 0, oM 11 5, oW 12 (.call (oF 179) [(.t 11)]), oW 13 (.build [(.int .i64 0), .nsl, .nsl, .nsl, .nsl, .nsl] [(0, 1, (.t 10)), (1, 1, (.t 12))]), oS 6 4 13])
 .ret)))) }

theorem c77 : compFunc Tryz.prog Tryz.f77 .full = some t77 := by kernel_rfl

def t78l0 : DCode :=
 (.seq (.region [oW 39 (.arith .lss (.t 38) (.t 37))])
 (.seq (.cond (.t 39) .skip (.exit 0))
 (.seq (.block 1 (.seq (.region [oW 40 (.indexAddr 3 (.t 36) (.t 38)), oL 41 3 40, oW 14 (.alloc 151 3 (.agg [(.int .i64 0), (.int .i64 0), .nsl])), oS 3 14 41])
 (.seq (.seq (.region [oA 42 2 14, oD 43 42, oM 44 3, oW 45 (.call (oF 182) [(.t 43), (.t 44)]), oW 46 (.un .not (.t 45))])
 (.cond (.t 46) (.exit 1) .skip))
 (.seq (.region [oL 47 2 6, oA 48 0 14, oL 49 2 48, oA 50 2 14, oD 51 50, oW 52 (.build [(.int .i64 0), (.int .i64 0), (.int .i64 0), (.int .i64 0), .nsl, (.int .i64 0), (.bool false)] [(0, 2, (.t 47)), (2, 2, (.t 49)), (4, 1, (.t 51)), (5, 1, (oI (-1)))]), oW 15 (.alloc 88 7 (.agg [(.int .i64 0), (.int .i64 0), (.int .i64 0), (.int .i64 0), .nsl, (.int .i64 0), (.bool false)])), oS 7 15 52])
 (.seq (.region [oW 16 (.move (oB false))])
 (.seq (.region [oL 54 6 10, oL 55 7 15, oW 56 (.call (oF 183) [(.t 54), (.t 55)]), oM 53 56, oX 57 53 0, oX 58 53 1, oS 6 10 57, oM 16 58])
 (.seq (.region [oM 59 16])
 (.cond (.t 59) (.region [oM 60 12, oM 61 1, oL 62 7 15, oW 63 (.call (oF 184) [(.t 62)]), oW 64 (.build [(.int .i64 0), (.int .i64 0), (.int .i64 0), (.int .i64 0), (.int .i64 0), (.int .i64 0), .nsl, .nsl] [(0, 1, (.t 61)), (1, 7, (.t 63))]), oW 65 (.buildSlice 168 8 (.agg [(.int .i64 0), (.int .i64 0), (.int .i64 0), (.int .i64 0), (.int .i64 0), (.int .i64 0), .nsl, .nsl]) 1 [(0, (.t 64))]), oW 66 (.append 168 8 96 (.t 60) (.t 65)), oM 12 66]) .skip))))))))
 (.region [oW 67 (.arith .add (.t 38) (oI 1)), oM 38 67]))))

def t78k0 : DCode :=
 (.seq (.region [oL 68 6 10, oM 69 12, oS 6 8 68, oM 9 69])
 .ret)

/-- broadside/flood.Advertise -/
def t78 : DFunc := { ntmps := 70, results := [(.cell 8 (some 6)), (.t 9)], mode := .full, body :=
 (.seq (.region [oW 4 (.box 37 6 (.t 0)), oW 6 (.box 45 2 (.t 2)), oW 8 (.alloc 37 6 (.agg [(.int .i64 0), .nsl, .nsl, .nsl, .nsl, .nsl])), oW 9 (.move (.c .nsl))])
 (.seq (.region [oL 18 6 4, oL 19 2 6, oM 20 3, oM 21 1, oW 22 (.build [(.int .i64 0), (.int .i64 0), .nsl, (.int .i64 0)] [(0, 2, (.t 19)), (2, 1, (.t 20)), (3, 1, (.t 21))]), oW 23 (.call (oF 180) [(.t 18), (.t 22)]), oM 17 23, oX 24 17 0, oX 25 17 1, oW 10 (.alloc 37 6 (.agg [(.int .i64 0), .nsl, .nsl, .nsl, .nsl, .nsl])), oS 6 10 24, oM 11 25])
 (.seq (.seq (.region [oM 26 11, oW 27 (.un .not (.t 26))])
 (.cond (.t 27) (.seq (.region [oL 28 6 4, oS 6 8 28, oW 9 (.move (.c .nsl))])
 .ret) .skip))
 (.seq (.region [oL 29 6 4, oM 30 1, oL 31 2 6, oM 32 3, oW 33 (.build [(.int .i64 0), (.int .i64 0), (.int .i64 0), (.int .i64 0), (.int .i64 0), .nsl, .nsl] [(0, 1, (oI 1)), (1, 2, (.t 31)), (5, 1, (.t 32))]), oW 34 (.call (oF 181) [(.t 29), (.t 30), (.t 33)]), oM 12 34])
 (.seq (.seq (.region [oA 35 5 4, oD 36 35, oW 37 (.len 1 (.t 36)), oW 38 (.move (oI 0))])
 (.block 0 (.loop t78l0)))
 t78k0))))) }

theorem c78 : compFunc Tryz.prog Tryz.f78 .full = some t78 := by kernel_rfl

/-- broadside/flood.Unadvertise -/
def t79 : DFunc := { ntmps := 26, results := [(.cell 6 (some 6)), (.t 7)], mode := .full, body :=
 (.seq (.region [oW 3 (.box 37 6 (.t 0)), oW 5 (.box 45 2 (.t 2)), oW 6 (.alloc 37 6 (.agg [(.int .i64 0), .nsl, .nsl, .nsl, .nsl, .nsl])), oW 7 (.move (.c .nsl))])
 (.seq (.region [oL 11 6 3, oL 12 2 5, oM 13 1, oW 14 (.call (oF 185) [(.t 11), (.t 12), (.t 13)]), oM 10 14, oX 15 10 0, oX 16 10 1, oW 8 (.alloc 37 6 (.agg [(.int .i64 0), .nsl, .nsl, .nsl, .nsl, .nsl])), oS 6 8 15, oM 9 16])
 (.seq (.seq (.region [oM 17 9, oW 18 (.un .not (.t 17))])
 (.cond (.t 18) (.seq (.region [oL 19 6 3, oS 6 6 19, oW 7 (.move (.c .nsl))])
 .ret) .skip))
 (.seq (.draw [oRL 20 6 8, oRL 21 6 3, oRL 23 2 5, oRM 22 1, oR 24 (.build [(.int .i64 0), (.int .i64 0), (.int .i64 0), (.int .i64 0), (.int .i64 0), .nsl, .nsl] [(0, 1, (oI 2)), (1, 2, (.t 23))]), ⟨(some 25), .call (oF 181) [(.t 21), (.t 22), (.t 24)], none, .create, 0, false⟩, ⟨none, .store 6 (.t 6) (.t 20), none, .write, 1, false⟩, ⟨(some 7), .move (.t 25), none, .read, 2, false⟩])
 .ret)))) }

theorem c79 : compFunc Tryz.prog Tryz.f79 .full = some t79 := by kernel_rfl

/-- broadside/route.OnSub -/
def t80 : DFunc := { ntmps := 20, results := [(.cell 6 (some 6)), (.t 7)], mode := .full, body :=
 (.seq (.region [oW 3 (.box 37 6 (.t 0)), oW 5 (.box 49 7 (.t 2)), oW 6 (.alloc 37 6 (.agg [(.int .i64 0), .nsl, .nsl, .nsl, .nsl, .nsl])), oW 7 (.move (.c .nsl))])
 (.seq (.region [oL 8 6 3, oA 9 1 5, oL 10 2 9, oA 11 3 5, oL 12 2 11, oA 13 5 5, oD 14 13, oM 15 1, oW 16 (.build [(.int .i64 0), (.int .i64 0), (.int .i64 0), (.int .i64 0), .nsl, (.int .i64 0), (.bool false)] [(0, 2, (.t 10)), (2, 2, (.t 12)), (4, 1, (.t 14)), (5, 1, (.t 15))]), oW 17 (.call (oF 186) [(.t 8), (.t 16)]), oX 18 17 0, oX 19 17 1, oS 6 6 18, oM 7 19])
 .ret)) }

theorem c80 : compFunc Tryz.prog Tryz.f80 .full = some t80 := by kernel_rfl

/-- broadside/route.OnUnsub -/
def t81 : DFunc := { ntmps := 17, results := [(.cell 6 (some 6)), (.t 7)], mode := .full, body :=
 (.seq (.region [oW 3 (.box 37 6 (.t 0)), oW 5 (.box 49 7 (.t 2)), oW 6 (.alloc 37 6 (.agg [(.int .i64 0), .nsl, .nsl, .nsl, .nsl, .nsl])), oW 7 (.move (.c .nsl))])
 (.seq (.region [oL 8 6 3, oA 9 1 5, oL 10 2 9, oA 11 3 5, oL 12 2 11, oM 13 1, oW 14 (.call (oF 187) [(.t 8), (.t 10), (.t 12), (.t 13)]), oX 15 14 0, oX 16 14 1, oS 6 6 15, oM 7 16])
 .ret)) }

theorem c81 : compFunc Tryz.prog Tryz.f81 .full = some t81 := by kernel_rfl

def t82l0 : DCode :=
 (.seq (.region [oW 39 (.arith .lss (.t 38) (.t 37))])
 (.seq (.cond (.t 39) .skip (.exit 0))
 (.seq (.block 1 (.seq (.region [oW 40 (.indexAddr 1 (.t 36) (.t 38)), oD 41 40, oM 13 41])
 (.region [oM 42 10, oM 43 13, oL 44 7 5, oW 45 (.build [(.int .i64 0), (.int .i64 0), (.int .i64 0), (.int .i64 0), (.int .i64 0), (.int .i64 0), .nsl, .nsl] [(0, 1, (.t 43)), (1, 7, (.t 44))]), oW 46 (.buildSlice 168 8 (.agg [(.int .i64 0), (.int .i64 0), (.int .i64 0), (.int .i64 0), (.int .i64 0), (.int .i64 0), .nsl, .nsl]) 1 [(0, (.t 45))]), oW 47 (.append 168 8 96 (.t 42) (.t 46)), oM 10 47])))
 (.region [oW 48 (.arith .add (.t 38) (oI 1)), oM 38 48]))))

def t82l1 : DCode :=
 (.seq (.region [oW 55 (.arith .lss (.t 54) (.t 53))])
 (.seq (.cond (.t 55) .skip (.exit 2))
 (.seq (.block 3 (.seq (.region [oW 56 (.indexAddr 1 (.t 52) (.t 54)), oD 57 56, oM 15 57])
 (.region [oM 58 11, oM 59 15, oA 60 3 5, oL 61 2 60, oA 62 6 5, oD 63 62, oW 64 (.build [(.int .i64 0), (.int .i64 0), (.int .i64 0), .nsl] [(0, 1, (.t 59)), (1, 2, (.t 61)), (3, 1, (.t 63))]), oW 65 (.buildSlice 171 4 (.agg [(.int .i64 0), (.int .i64 0), (.int .i64 0), .nsl]) 1 [(0, (.t 64))]), oW 66 (.append 171 4 48 (.t 58) (.t 65)), oM 11 66])))
 (.region [oW 67 (.arith .add (.t 54) (oI 1)), oM 54 67]))))

def t82k0 : DCode :=
 (.seq (.region [oM 68 10, oM 69 11, oM 6 68, oM 7 69])
 .ret)

def t82k1 : DCode :=
 (.seq (.seq (.region [oL 49 6 3, oA 50 6 5, oD 51 50, oW 52 (.call (oF 189) [(.t 49), (.t 51)]), oW 53 (.len 1 (.t 52)), oW 54 (.move (oI 0))])
 (.block 2 (.loop t82l1)))
 t82k0)

/-- broadside/carry.Pub -/
def t82 : DFunc := { ntmps := 70, results := [(.t 6), (.t 7)], mode := .full, body :=
 (.seq (.region [oW 3 (.box 37 6 (.t 0)), oW 5 (.box 49 7 (.t 2)), oW 6 (.move (.c .nsl)), oW 7 (.move (.c .nsl))])
 (.seq (.region [oL 17 6 3, oA 18 1 5, oL 19 2 18, oW 20 (.call (oF 49) [(.t 17), (.t 19)]), oM 16 20, oX 21 16 0, oX 22 16 1, oW 8 (.alloc 86 4 (.agg [(.int .i64 0), (.int .i64 0), .nsl, (.int .i64 0)])), oS 4 8 21, oM 9 22])
 (.seq (.seq (.region [oM 23 9, oW 24 (.un .not (.t 23)), oM 25 24, ⟨(some 26), .fieldAddr 3 (.t 8), (some (25, false)), .write, 0, false⟩, ⟨(some 27), .load none (.t 26), (some (25, false)), .write, 0, false⟩, ⟨(some 28), .move (.t 1), (some (25, false)), .write, 0, false⟩, ⟨(some 29), .arith .neq (.t 27) (.t 28), (some (25, false)), .write, 0, false⟩, oW 30 (.pick (.t 25) (oB true) (.t 29))])
 (.cond (.t 30) (.seq (.region [oW 6 (.move (.c .nsl)), oW 7 (.move (.c .nsl))])
 .ret) .skip))
 (.seq (.region [oW 10 (.move (.c .nsl))])
 (.seq (.region [oW 11 (.move (.c .nsl))])
 (.seq (.seq (.region [oL 31 6 3, oA 32 1 5, oL 33 2 32, oA 34 6 5, oD 35 34, oW 36 (.call (oF 188) [(.t 31), (.t 33), (.t 35)]), oW 37 (.len 1 (.t 36)), oW 38 (.move (oI 0))])
 (.block 0 (.loop t82l0)))
 t82k1)))))) }

theorem c82 : compFunc Tryz.prog Tryz.f82 .full = some t82 := by kernel_rfl

/-- broadside/num.Read -/
def t92 : DFunc := { ntmps := 8, results := [(.t 2)], mode := .full, body :=
 (.seq (.region [oW 2 (.move (.c .nilp))])
 (.seq (.region [oW 3 (.buildSlice 5 1 (.int .u8 0) 0 []), oM 4 0, oW 5 (.append 5 1 1 (.t 3) (.t 4)), oW 6 (.build [.nsl, (.bool false)] [(0, 1, (.t 5))]), oW 7 (.box 284 2 (.t 6)), oM 2 7])
 .ret)) }

theorem c92 : compFunc Tryz.prog Tryz.f92 .full = some t92 := by kernel_rfl

def t93l0 : DCode :=
 (.seq (.seq (.region [oM 32 6, oW 33 (.arith .gtr (.t 32) (oI 0)), oM 34 33, ⟨(some 35), .move (.t 0), (some (34, true)), .write, 0, false⟩, ⟨(some 36), .call (oF 195) [(.t 35)], (some (34, true)), .write, 0, false⟩, oW 37 (.pick (.t 34) (.t 36) (oB false))])
 (.cond (.t 37) .skip (.exit 0)))
 (.seq (.block 1 (.draw [oRA 40 5 3, oRD 41 40, oRM 42 0, ⟨(some 43), .call (oF 196) [(.t 42)], none, .create, 0, false⟩, ⟨(some 44), .buildSlice 119 5 (.agg [(.str []), (.int .i64 0), (.int .i64 0), (.int .i64 0), (.str [])]) 1 [(0, (.t 43))], none, .create, 0, false⟩, ⟨(some 45), .append 119 5 56 (.t 41) (.t 44), none, .write, 2, false⟩, ⟨(some 46), .fieldAddr 5 (.t 3), none, .read, 3, false⟩, ⟨none, .store 1 (.t 46) (.t 45), none, .write, 3, false⟩]))
 (.region [oM 38 6, oW 39 (.arith .sub (.t 38) (oI 1)), oM 6 39])))

def t93l1 : DCode :=
 (.seq (.seq (.region [oM 53 7, oW 54 (.arith .gtr (.t 53) (oI 0)), oM 55 54, ⟨(some 56), .move (.t 0), (some (55, true)), .write, 0, false⟩, ⟨(some 57), .call (oF 195) [(.t 56)], (some (55, true)), .write, 0, false⟩, oW 58 (.pick (.t 55) (.t 57) (oB false))])
 (.cond (.t 58) .skip (.exit 2)))
 (.seq (.block 3 (.draw [oRA 61 6 3, oRD 62 61, oRM 63 0, ⟨(some 64), .call (oF 197) [(.t 63)], none, .create, 0, false⟩, ⟨(some 65), .buildSlice 176 4 (.agg [(.str []), (.bool false), (.int .i64 0), (.str [])]) 1 [(0, (.t 64))], none, .create, 0, false⟩, ⟨(some 66), .append 176 4 48 (.t 62) (.t 65), none, .write, 2, false⟩, ⟨(some 67), .fieldAddr 6 (.t 3), none, .read, 3, false⟩, ⟨none, .store 1 (.t 67) (.t 66), none, .write, 3, false⟩]))
 (.region [oM 59 7, oW 60 (.arith .sub (.t 59) (oI 1)), oM 7 60])))

def t93k0 : DCode :=
 (.seq (.region [oL 68 7 3, oS 7 2 68])
 .ret)

def t93k1 : DCode :=
 (.seq (.seq (.region [oM 47 4, oW 48 (.arith .and (.t 47) (oI 4)), oW 49 (.arith .neq (.t 48) (oI 0))])
 (.cond (.t 49) (.seq (.region [oM 50 0, oW 51 (.call (oF 193) [(.t 50)]), oW 52 (.conv .i64 (.t 51)), oM 7 52])
 (.block 2 (.loop t93l1))) .skip))
 t93k0)

/-- broadside/wire.read -/
def t93 : DFunc := { ntmps := 69, results := [(.cell 2 (some 7))], mode := .full, body :=
 (.seq (.region [oW 2 (.alloc 49 7 (.agg [(.int .i64 0), (.int .i64 0), (.int .i64 0), (.int .i64 0), (.int .i64 0), .nsl, .nsl]))])
 (.seq (.region [oM 8 0, oW 9 (.call (oF 193) [(.t 8)]), oW 10 (.conv .i64 (.t 9)), oM 11 0, oW 12 (.call (oF 194) [(.t 11)]), oW 13 (.build [(.int .i64 0), (.int .i64 0), (.int .i64 0), (.int .i64 0), (.int .i64 0), .nsl, .nsl] [(0, 1, (.t 10)), (1, 2, (.t 12))]), oW 3 (.alloc 49 7 (.agg [(.int .i64 0), (.int .i64 0), (.int .i64 0), (.int .i64 0), (.int .i64 0), .nsl, .nsl])), oS 7 3 13])
 (.seq (.region [oA 15 0 3, oD 16 15, oW 17 (.call (oF 167) [(.t 16)]), oM 14 17, oX 18 14 0, oX 19 14 1, oM 4 18, oM 5 19])
 (.seq (.seq (.region [oM 20 4, oW 21 (.arith .and (.t 20) (oI 1)), oW 22 (.arith .neq (.t 21) (oI 0))])
 (.cond (.t 22) (.region [oM 23 0, oW 24 (.call (oF 194) [(.t 23)]), oA 25 3 3, oS 2 25 24]) .skip))
 (.seq (.seq (.region [oM 26 4, oW 27 (.arith .and (.t 26) (oI 2)), oW 28 (.arith .neq (.t 27) (oI 0))])
 (.cond (.t 28) (.seq (.region [oM 29 0, oW 30 (.call (oF 193) [(.t 29)]), oW 31 (.conv .i64 (.t 30)), oM 6 31])
 (.block 0 (.loop t93l0))) .skip))
 t93k1))))) }

theorem c93 : compFunc Tryz.prog Tryz.f93 .full = some t93 := by kernel_rfl

/-- (*broadside/num.Reader).Done -/
def t94 : DFunc := { ntmps := 16, results := [(.t 2)], mode := .full, body :=
 (.seq (.region [oW 2 (.move (oB false))])
 (.seq (.region [oM 3 0, oW 4 (.nilCheck (.t 3)), oA 5 1 4, oD 6 5, oW 7 (.un .not (.t 6)), oM 8 7, ⟨(some 9), .move (.t 0), (some (8, true)), .write, 0, false⟩, ⟨(some 10), .nilCheck (.t 9), (some (8, true)), .write, 0, false⟩, ⟨(some 11), .fieldAddr 0 (.t 10), (some (8, true)), .write, 0, false⟩, ⟨(some 12), .load none (.t 11), (some (8, true)), .write, 0, false⟩, ⟨(some 13), .len 1 (.t 12), (some (8, true)), .write, 0, false⟩, ⟨(some 14), .arith .eql (.t 13) (oI 0), (some (8, true)), .write, 0, false⟩, oW 15 (.pick (.t 8) (.t 14) (oB false)), oM 2 15])
 .ret)) }

theorem c94 : compFunc Tryz.prog Tryz.f94 .full = some t94 := by kernel_rfl

/-- bytes.Equal -/
def t95 : DFunc := { ntmps := 10, results := [(.t 4)], mode := .full, body :=
 (.seq (.region [oW 4 (.move (oB false))])
 (.seq (.region [oM 5 0, oW 6 (.bytesStr (.t 5)), oM 7 1, oW 8 (.bytesStr (.t 7)), oW 9 (.arith .eql (.t 6) (.t 8)), oM 4 9])
 .ret)) }

theorem c95 : compFunc Tryz.prog Tryz.f95 .full = some t95 := by kernel_rfl

/-- broadside/adverts.Less -/
def t99 : DFunc := { ntmps := 9, results := [(.t 4)], mode := .full, body :=
 (.seq (.region [oW 2 (.box 45 2 (.t 0)), oW 3 (.box 45 2 (.t 1)), oW 4 (.move (oB false))])
 (.seq (.region [oL 5 2 2, oL 6 2 3, oW 7 (.call (oF 107) [(.t 5), (.t 6)]), oW 8 (.arith .lss (.t 7) (oI 0)), oM 4 8])
 .ret)) }

theorem c99 : compFunc Tryz.prog Tryz.f99 .full = some t99 := by kernel_rfl

def t106l0 : DCode :=
 (.seq (.region [oW 9 (.arith .lss (.t 8) (.t 7))])
 (.seq (.cond (.t 9) .skip (.exit 0))
 (.seq (.block 1 (.seq (.region [oW 10 (.indexAddr 1 (.t 6) (.t 8)), oD 11 10, oM 5 11])
 (.seq (.region [oM 12 5, oM 13 3, oW 14 (.arith .neq (.t 12) (.t 13))])
 (.cond (.t 14) (.seq (.region [oM 15 5, oM 2 15])
 .ret) .skip))))
 (.region [oW 16 (.arith .add (.t 8) (oI 1)), oM 8 16]))))

def t106k0 : DCode :=
 (.seq (.region [oM 17 3, oM 2 17])
 .ret)

/-- cmp.Or[int] -/
def t106 : DFunc := { ntmps := 18, results := [(.t 2)], mode := .full, body :=
 (.seq (.region [oW 2 (.move (oI 0))])
 (.seq (.region [oW 3 (.move (oI 0))])
 (.seq (.seq (.region [oM 6 0, oW 7 (.len 1 (.t 6)), oW 8 (.move (oI 0))])
 (.block 0 (.loop t106l0)))
 t106k0))) }

theorem c106 : compFunc Tryz.prog Tryz.f106 .full = some t106 := by kernel_rfl

/-- broadside/adverts.compare -/
def t107 : DFunc := { ntmps := 17, results := [(.t 4)], mode := .full, body :=
 (.seq (.region [oW 2 (.box 45 2 (.t 0)), oW 3 (.box 45 2 (.t 1)), oW 4 (.move (oI 0))])
 (.seq (.draw [oRA 5 0 2, oRD 6 5, oRA 7 0 3, oRD 8 7, ⟨(some 9), .call (oF 132) [(.t 6), (.t 8)], none, .create, 0, false⟩, oRA 10 1 2, oRD 11 10, oRA 12 1 3, oRD 13 12, ⟨(some 14), .call (oF 132) [(.t 11), (.t 13)], none, .write, 1, false⟩, ⟨(some 15), .buildSlice 3 1 (.int .i64 0) 2 [(0, (.t 9)), (1, (.t 14))], none, .create, 0, false⟩, ⟨(some 16), .call (oF 106) [(.t 15)], none, .write, 3, false⟩, ⟨(some 4), .move (.t 16), none, .read, 4, false⟩])
 .ret)) }

theorem c107 : compFunc Tryz.prog Tryz.f107 .full = some t107 := by kernel_rfl

def t112l0 : DCode :=
 (.seq (.region [oW 8 (.arith .lss (.t 7) (.t 6))])
 (.seq (.cond (.t 8) .skip (.exit 0))
 (.seq (.block 1 (.seq (.region [oM 9 7, oW 10 (.indexAddr 5 (.t 5) (.t 7)), oL 11 5 10, oW 4 (.alloc 119 5 (.agg [(.str []), (.int .i64 0), (.int .i64 0), (.int .i64 0), (.str [])])), oM 3 9, oS 5 4 11])
 (.seq (.draw [oRL 12 5 4, oW 13 (.call (oF 201) [(.t 12)]), ⟨(some 14), .un .not (.t 13), none, .read, 1, false⟩, ⟨(some 15), .move (.t 14), none, .read, 1, false⟩, ⟨(some 16), .move (.t 3), (some (15, false)), .read, 1, false⟩, ⟨(some 17), .arith .gtr (.t 16) (oI 0), (some (15, false)), .read, 1, false⟩, ⟨(some 18), .move (.t 17), (some (15, false)), .read, 1, false⟩, ⟨(some 19), .move (.t 0), (some (18, true)), .read, 1, false⟩, ⟨(some 20), .move (.t 3), (some (18, true)), .read, 1, false⟩, ⟨(some 21), .arith .sub (.t 20) (oI 1), (some (18, true)), .read, 1, false⟩, ⟨(some 22), .indexAddr 5 (.t 19) (.t 21), (some (18, true)), .read, 1, false⟩, ⟨(some 23), .fieldAddr 0 (.t 22), (some (18, true)), .read, 1, false⟩, ⟨(some 24), .load none (.t 23), (some (18, true)), .read, 1, false⟩, ⟨(some 25), .fieldAddr 0 (.t 4), (some (18, true)), .read, 1, false⟩, ⟨(some 26), .load none (.t 25), (some (18, true)), .read, 1, false⟩, ⟨(some 27), .arith .geq (.t 24) (.t 26), (some (18, true)), .read, 1, false⟩, ⟨(some 28), .pick (.t 18) (.t 27) (oB false), (some (15, false)), .read, 1, false⟩, ⟨(some 29), .pick (.t 15) (oB true) (.t 28), none, .read, 1, false⟩])
 (.cond (.t 29) (.seq (.region [oW 2 (.move (oB false))])
 .ret) .skip))))
 (.region [oW 30 (.arith .add (.t 7) (oI 1)), oM 7 30]))))

def t112k0 : DCode :=
 (.seq (.region [oM 31 0, oW 32 (.len 1 (.t 31)), oW 33 (.arith .leq (.t 32) (oI 5)), oM 2 33])
 .ret)

/-- broadside/pred.Right -/
def t112 : DFunc := { ntmps := 34, results := [(.t 2)], mode := .full, body :=
 (.seq (.region [oW 2 (.move (oB false))])
 (.seq (.seq (.region [oM 5 0, oW 6 (.len 1 (.t 5)), oW 7 (.move (oI 0))])
 (.block 0 (.loop t112l0)))
 t112k0)) }

theorem c112 : compFunc Tryz.prog Tryz.f112 .full = some t112 := by kernel_rfl

/-- slices.ContainsFunc[[]broadside/api.Entry,broadside/api.Entry] -/
def t113 : DFunc := { ntmps := 9, results := [(.t 4)], mode := .full, body :=
 (.seq (.region [oW 4 (.move (oB false))])
 (.seq (.region [oM 5 0, oM 6 1, oW 7 (.call (oF 202) [(.t 5), (.t 6)]), oW 8 (.arith .geq (.t 7) (oI 0)), oM 4 8])
 .ret)) }

theorem c113 : compFunc Tryz.prog Tryz.f113 .full = some t113 := by kernel_rfl

end Go.Dm.Tr7
