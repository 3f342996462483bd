/-
The table of functions, brought into the machine's form (Tr5, part 0). Written by program (wip/tools/table3.lean.txt).
-/
import Derived.Test.YtloabemenciijaaGreatDoorMm4
import Derived.Test.YtloabemenciijaaGreatDoorRows
import Derived.KernelRfl
namespace Go.Dm.Tr5
open Go.Proofs

/-- broadside/broadsidelaw25.AuditRuns -/
def t5 : DFunc := { ntmps := 38, results := [(.t 0)], mode := .full, body :=
 (.seq (.region [oW 0 (.move (oB false))])
 (.seq (.region [oW 6 (.build [(.int .i64 0), .nsl] [(0, 1, (oI 1))]), oW 7 (.call (oF 32) [(.t 6)]), oM 5 7, oX 8 5 0, oX 9 5 1, oM 1 8, oM 2 9])
 (.seq (.region [oW 10 (.call (oF 33) []), oM 3 10])
 (.seq (.seq (.region [oM 11 1, oW 12 (.eqn 0 false (.t 11) (.c .nilp)), oM 13 12, ⟨(some 14), .move (.t 3), (some (13, false)), .write, 0, false⟩, ⟨(some 15), .eqn 0 false (.t 14) (.c .nilp), (some (13, false)), .write, 0, false⟩, oW 16 (.pick (.t 13) (oB true) (.t 15)), oM 17 16, ⟨(some 18), .move (.t 2), (some (17, false)), .write, 0, false⟩, ⟨(some 19), .eqn 4 true (.t 18) (.c .nili), (some (17, false)), .write, 0, false⟩, oW 20 (.pick (.t 17) (oB true) (.t 19))])
 (.cond (.t 20) (.seq (.region [oW 0 (.move (oB false))])
 .ret) .skip))
 (.seq (.region [oW 21 (.buildSlice 3 1 (.int .i64 0) 2 [(0, (oI 2)), (1, (oI 1))]), oW 22 (.build [(.int .i64 0), .nsl, .nsl, .nsl, .nsl, .nsl] [(0, 1, (oI 3)), (1, 1, (.t 21))]), oW 23 (.call (oF 34) [(.t 22)]), oM 4 23])
 (.seq (.region [oM 24 1, oM 25 3, oW 26 (.call (oF 35) [(.t 24), (.t 25)]), oW 27 (.eqn 4 false (.t 26) (.c .nili)), oM 28 27, ⟨(some 29), .move (.t 4), (some (28, true)), .write, 0, false⟩, ⟨(some 30), .call (oF 18) [(.t 29)], (some (28, true)), .write, 0, false⟩, ⟨(some 31), .arith .eql (.t 30) (oI 4), (some (28, true)), .write, 0, false⟩, oW 32 (.pick (.t 28) (.t 31) (oB false)), oM 33 32, ⟨(some 34), .move (.t 4), (some (33, true)), .write, 0, false⟩, ⟨(some 35), .call (oF 21) [(.t 34)], (some (33, true)), .write, 0, false⟩, ⟨(some 36), .arith .eql (.t 35) (oI 3), (some (33, true)), .write, 0, false⟩, oW 37 (.pick (.t 33) (.t 36) (oB false)), oM 0 37])
 .ret)))))) }

theorem c5 : compFunc Tryz.prog Tryz.f5 .full = some t5 := by kernel_rfl

/-- broadside/fault.Kind -/
def t18 : DFunc := { ntmps := 8, results := [(.t 2)], mode := .full, body :=
 (.seq (.region [oW 2 (.move (oI 0))])
 (.seq (.region [oW 3 (.alloc 57 1 (.int .i64 0))])
 (.seq (.seq (.region [oM 4 0, oW 5 (.makeIface 154 (.t 3)), oW 6 (.call (oF 75) [(.t 4), (.t 5)])])
 (.cond (.t 6) (.seq (.region [oD 7 3, oM 2 7])
 .ret) .skip))
 (.seq (.region [oW 2 (.move (oI 0))])
 .ret)))) }

theorem c18 : compFunc Tryz.prog Tryz.f18 .full = some t18 := by kernel_rfl

/-- broadside/fault.Place -/
def t21 : DFunc := { ntmps := 11, results := [(.t 2)], mode := .full, body :=
 (.seq (.region [oW 2 (.move (oI 0))])
 (.seq (.region [oW 3 (.alloc 157 1 .nilp)])
 (.seq (.seq (.region [oM 4 0, oW 5 (.makeIface 160 (.t 3)), oW 6 (.call (oF 75) [(.t 4), (.t 5)])])
 (.cond (.t 6) (.seq (.region [oD 7 3, oW 8 (.nilCheck (.t 7)), oA 9 1 8, oD 10 9, oM 2 10])
 .ret) .skip))
 (.seq (.region [oW 2 (.move (oI (-1)))])
 .ret)))) }

theorem c21 : compFunc Tryz.prog Tryz.f21 .full = some t21 := by kernel_rfl

/-- broadside/adverts.Right -/
def t30 : DFunc := { ntmps := 48, results := [(.t 2)], mode := .full, body :=
 (.seq (.region [oW 1 (.box 37 6 (.t 0)), oW 2 (.move (oB false))])
 (.seq (.region [oA 4 1 1, oD 5 4, oW 6 (.call (oF 96) [(.t 5), (oF 97)]), oM 7 6, ⟨(some 8), .fieldAddr 3 (.t 1), (some (7, true)), .write, 0, false⟩, ⟨(some 9), .load none (.t 8), (some (7, true)), .write, 0, false⟩, ⟨(some 10), .call (oF 98) [(.t 9), (oF 99)], (some (7, true)), .write, 0, false⟩, oW 11 (.pick (.t 7) (.t 10) (oB false)), oM 12 11, ⟨(some 13), .fieldAddr 2 (.t 1), (some (12, true)), .write, 0, false⟩, ⟨(some 14), .load none (.t 13), (some (12, true)), .write, 0, false⟩, ⟨(some 15), .call (oF 100) [(.t 14), (oF 101)], (some (12, true)), .write, 0, false⟩, oW 16 (.pick (.t 12) (.t 15) (oB false)), oM 17 16, ⟨(some 18), .fieldAddr 5 (.t 1), (some (17, true)), .write, 0, false⟩, ⟨(some 19), .load none (.t 18), (some (17, true)), .write, 0, false⟩, ⟨(some 20), .call (oF 102) [(.t 19), (oF 103)], (some (17, true)), .write, 0, false⟩, oW 21 (.pick (.t 17) (.t 20) (oB false)), oM 22 21, ⟨(some 23), .fieldAddr 4 (.t 1), (some (22, true)), .write, 0, false⟩, ⟨(some 24), .load none (.t 23), (some (22, true)), .write, 0, false⟩, ⟨(some 25), .call (oF 104) [(.t 24), (oF 105)], (some (22, true)), .write, 0, false⟩, oW 26 (.pick (.t 22) (.t 25) (oB false)), oM 3 26])
 (.seq (.region [oM 27 3, oM 28 27, ⟨(some 29), .fieldAddr 2 (.t 1), (some (28, true)), .write, 0, false⟩, ⟨(some 30), .load none (.t 29), (some (28, true)), .write, 0, false⟩, ⟨(some 31), .makeFunc 109 [(.t 1)], (some (28, true)), .write, 0, false⟩, ⟨(some 32), .call (oF 108) [(.t 30), (.t 31)], (some (28, true)), .write, 0, false⟩, ⟨(some 33), .un .not (.t 32), (some (28, true)), .write, 0, false⟩, oW 34 (.pick (.t 28) (.t 33) (oB false)), oM 35 34, ⟨(some 36), .fieldAddr 4 (.t 1), (some (35, true)), .write, 0, false⟩, ⟨(some 37), .load none (.t 36), (some (35, true)), .write, 0, false⟩, ⟨(some 38), .makeFunc 114 [(.t 1)], (some (35, true)), .write, 0, false⟩, ⟨(some 39), .call (oF 113) [(.t 37), (.t 38)], (some (35, true)), .write, 0, false⟩, ⟨(some 40), .un .not (.t 39), (some (35, true)), .write, 0, false⟩, oW 41 (.pick (.t 35) (.t 40) (oB false)), oM 42 41, ⟨(some 43), .fieldAddr 5 (.t 1), (some (42, true)), .write, 0, false⟩, ⟨(some 44), .load none (.t 43), (some (42, true)), .write, 0, false⟩, ⟨(some 45), .call (oF 116) [(.t 44), (oF 117)], (some (42, true)), .write, 0, false⟩, ⟨(some 46), .un .not (.t 45), (some (42, true)), .write, 0, false⟩, oW 47 (.pick (.t 42) (.t 46) (oB false)), oM 2 47])
 .ret))) }

theorem c30 : compFunc Tryz.prog Tryz.f30 .full = some t30 := by kernel_rfl

def t31l0 : DCode :=
 (.seq (.region [oW 11 (.arith .lss (.t 10) (.t 9))])
 (.seq (.cond (.t 11) .skip (.exit 0))
 (.seq (.block 1 (.seq (.region [oW 12 (.indexAddr 7 (.t 8) (.t 10)), oL 13 7 12, oW 4 (.alloc 88 7 (.agg [(.int .i64 0), (.int .i64 0), (.int .i64 0), (.int .i64 0), .nsl, (.int .i64 0), (.bool false)])), oS 7 4 13])
 (.seq (.region [oL 15 6 1, oA 16 0 4, oL 17 2 16, oW 18 (.call (oF 49) [(.t 15), (.t 17)]), oM 14 18, oX 19 14 0, oX 20 14 1, oW 5 (.alloc 86 4 (.agg [(.int .i64 0), (.int .i64 0), .nsl, (.int .i64 0)])), oS 4 5 19, oM 6 20])
 (.seq (.region [oA 21 6 4, oD 22 21, oW 23 (.un .not (.t 22)), oM 24 23, ⟨(some 25), .fieldAddr 3 (.t 5), (some (24, true)), .write, 0, false⟩, ⟨(some 26), .load none (.t 25), (some (24, true)), .write, 0, false⟩, ⟨(some 27), .arith .neq (.t 26) (oI (-1)), (some (24, true)), .write, 0, false⟩, oW 28 (.pick (.t 24) (.t 27) (oB false)), oM 29 28, ⟨(some 30), .load (some 6) (.t 1), (some (29, true)), .write, 0, false⟩, ⟨(some 31), .fieldAddr 0 (.t 4), (some (29, true)), .write, 0, false⟩, ⟨(some 32), .load (some 2) (.t 31), (some (29, true)), .write, 0, false⟩, ⟨(some 33), .fieldAddr 4 (.t 4), (some (29, true)), .write, 0, false⟩, ⟨(some 34), .load none (.t 33), (some (29, true)), .write, 0, false⟩, ⟨(some 35), .call (oF 118) [(.t 30), (.t 32), (.t 34)], (some (29, true)), .write, 0, false⟩, ⟨(some 36), .un .not (.t 35), (some (29, true)), .write, 0, false⟩, oW 37 (.pick (.t 29) (.t 36) (oB false))])
 (.cond (.t 37) (.seq (.region [oW 2 (.move (oB false))])
 .ret) .skip)))))
 (.region [oW 38 (.arith .add (.t 10) (oI 1)), oM 10 38]))))

def t31k0 : DCode :=
 (.seq (.region [oW 2 (.move (oB true))])
 .ret)

/-- broadside/subs.Tight -/
def t31 : DFunc := { ntmps := 39, results := [(.t 2)], mode := .full, body :=
 (.seq (.region [oW 1 (.box 37 6 (.t 0)), oW 2 (.move (oB false))])
 (.seq (.seq (.region [oA 7 4 1, oD 8 7, oW 9 (.len 1 (.t 8)), oW 10 (.move (oI 0))])
 (.block 0 (.loop t31l0)))
 t31k0)) }

theorem c31 : compFunc Tryz.prog Tryz.f31 .full = some t31 := by kernel_rfl

/-- broadside/world.New -/
def t32 : DFunc := { ntmps := 19, results := [(.t 2), (.t 3)], mode := .full, body :=
 (.seq (.region [oW 1 (.box 79 2 (.t 0)), oW 2 (.move (.c .nilp)), oW 3 (.move (.c .nili))])
 (.seq (.region [oL 7 2 1, oW 8 (.call (oF 43) [(.t 7)]), oM 6 8, oX 9 6 0, oX 10 6 1, oM 4 9, oM 5 10])
 (.seq (.seq (.region [oM 11 5, oW 12 (.eqn 4 true (.t 11) (.c .nili))])
 (.cond (.t 12) (.seq (.region [oM 13 5, oW 14 (.call (oF 64) [(.c (.str [119, 111, 114, 108, 100])), (oI (-1)), (.t 13)]), oW 2 (.move (.c .nilp)), oM 3 14])
 .ret) .skip))
 (.seq (.region [oM 15 4, oW 16 (.call (oF 119) []), oW 17 (.build [.nilp, .nsl, .nilp, (.int .i64 0), .nili] [(0, 1, (.t 15)), (2, 1, (.t 16))]), oW 18 (.box 205 5 (.t 17)), oM 2 18, oW 3 (.move (.c .nili))])
 .ret)))) }

theorem c32 : compFunc Tryz.prog Tryz.f32 .full = some t32 := by kernel_rfl

/-- broadside/model.New -/
def t33 : DFunc := { ntmps := 3, results := [(.t 0)], mode := .full, body :=
 (.seq (.region [oW 0 (.move (.c .nilp))])
 (.seq (.region [oW 1 (.build [.nsl, .nsl, .nsl, (.int .i64 0), (.int .i64 0), (.int .i64 0)] []), oW 2 (.box 209 6 (.t 1)), oM 0 2])
 .ret)) }

theorem c33 : compFunc Tryz.prog Tryz.f33 .full = some t33 := by kernel_rfl

/-- broadside/audit.Broker -/
def t34 : DFunc := { ntmps := 15, results := [(.t 2)], mode := .full, body :=
 (.seq (.region [oW 1 (.box 37 6 (.t 0)), oW 2 (.move (.c .nili))])
 (.seq (.seq (.region [oL 3 6 1, oW 4 (.call (oF 30) [(.t 3)]), oW 5 (.un .not (.t 4)), oM 6 5, ⟨(some 7), .load (some 6) (.t 1), (some (6, false)), .write, 0, false⟩, ⟨(some 8), .call (oF 31) [(.t 7)], (some (6, false)), .write, 0, false⟩, ⟨(some 9), .un .not (.t 8), (some (6, false)), .write, 0, false⟩, oW 10 (.pick (.t 6) (oB true) (.t 9))])
 (.cond (.t 10) (.seq (.region [oA 11 0 1, oD 12 11, oW 13 (.makeIface 57 (oI 4)), oW 14 (.call (oF 64) [(.c (.str [98, 114, 111, 107, 101, 114])), (.t 12), (.t 13)]), oM 2 14])
 .ret) .skip))
 (.seq (.region [oW 2 (.move (.c .nili))])
 .ret))) }

theorem c34 : compFunc Tryz.prog Tryz.f34 .full = some t34 := by kernel_rfl

def t35l0 : DCode :=
 (.seq (.region [oW 22 (.arith .lss (.t 21) (.t 20))])
 (.seq (.cond (.t 22) .skip (.exit 0))
 (.seq (.block 1 (.seq (.region [oM 23 21, oM 6 23])
 (.seq (.region [oM 24 5, oM 25 6, oW 26 (.call (oF 50) [(.t 24), (.t 25)]), oM 27 1, oW 28 (.call (oF 122) [(.t 26), (.t 27)]), oM 7 28])
 (.seq (.region [oM 29 7, oW 30 (.eqn 4 true (.t 29) (.c .nili))])
 (.cond (.t 30) (.seq (.region [oM 31 6, oM 32 7, oW 33 (.call (oF 64) [(.c (.str [116, 97, 98, 108, 101, 115])), (.t 31), (.t 32)]), oM 4 33])
 .ret) .skip)))))
 (.region [oW 34 (.arith .add (.t 21) (oI 1)), oM 21 34]))))

def t35l1 : DCode :=
 (.seq (.region [oW 39 (.arith .lss (.t 38) (.t 37))])
 (.seq (.cond (.t 39) .skip (.exit 2))
 (.seq (.block 3 (.seq (.region [oW 40 (.indexAddr 4 (.t 36) (.t 38)), oL 41 4 40, oW 9 (.alloc 86 4 (.agg [(.int .i64 0), (.int .i64 0), .nsl, (.int .i64 0)])), oS 4 9 41])
 (.seq (.region [oM 42 5, oM 43 1, oA 44 0 9, oL 45 2 44, oW 46 (.call (oF 124) [(.t 42), (.t 43), (.t 45)]), oM 10 46])
 (.seq (.region [oM 47 10, oW 48 (.eqn 4 true (.t 47) (.c .nili))])
 (.cond (.t 48) (.seq (.region [oM 49 10, oW 50 (.call (oF 64) [(.c (.str [116, 97, 98, 108, 101, 115])), (oI (-1)), (.t 49)]), oM 4 50])
 .ret) .skip)))))
 (.region [oW 51 (.arith .add (.t 38) (oI 1)), oM 38 51]))))

def t35k0 : DCode :=
 (.seq (.region [oW 4 (.move (.c .nili))])
 .ret)

def t35k1 : DCode :=
 (.seq (.seq (.region [oM 35 1, oW 36 (.call (oF 123) [(.t 35)]), oW 37 (.len 1 (.t 36)), oW 38 (.move (oI 0))])
 (.block 2 (.loop t35l1)))
 t35k0)

/-- broadside/audit.Tables -/
def t35 : DFunc := { ntmps := 52, results := [(.t 4)], mode := .full, body :=
 (.seq (.region [oW 4 (.move (.c .nili))])
 (.seq (.seq (.region [oM 11 0, oW 12 (.call (oF 38) [(.t 11)]), oW 13 (.un .not (.t 12))])
 (.cond (.t 13) (.seq (.region [oW 14 (.makeIface 57 (oI 8)), oW 15 (.call (oF 64) [(.c (.str [116, 97, 98, 108, 101, 115])), (oI (-1)), (.t 14)]), oM 4 15])
 .ret) .skip))
 (.seq (.region [oM 16 0, oW 17 (.call (oF 120) [(.t 16)]), oM 5 17])
 (.seq (.seq (.region [oM 18 5, oW 19 (.call (oF 121) [(.t 18)]), oW 20 (.field 0 none (.t 19)), oW 21 (.move (oI 0))])
 (.block 0 (.loop t35l0)))
 t35k1)))) }

theorem c35 : compFunc Tryz.prog Tryz.f35 .full = some t35 := by kernel_rfl

/-- broadside/quiet.Is -/
def t38 : DFunc := { ntmps := 8, results := [(.t 2)], mode := .full, body :=
 (.seq (.region [oW 2 (.move (oB false))])
 (.seq (.region [oM 3 0, oW 4 (.call (oF 120) [(.t 3)]), oW 5 (.call (oF 46) [(.t 4)]), oW 6 (.len 1 (.t 5)), oW 7 (.arith .eql (.t 6) (oI 0)), oM 2 7])
 .ret)) }

theorem c38 : compFunc Tryz.prog Tryz.f38 .full = some t38 := by kernel_rfl

def t42l0 : DCode :=
 (.seq (.region [oW 10 (.arith .lss (.t 9) (.t 8))])
 (.seq (.cond (.t 10) .skip (.exit 0))
 (.seq (.block 1 (.seq (.region [oW 11 (.indexAddr 2 (.t 7) (.t 9)), oL 12 2 11, oW 5 (.alloc 90 2 (.agg [(.int .i64 0), (.int .i64 0)])), oS 2 5 12])
 (.seq (.region [oL 13 2 1, oL 14 2 5, oW 15 (.call (oF 129) [(.t 13), (.t 14)])])
 (.cond (.t 15) (.region [oM 16 3, oL 17 2 5, oW 18 (.indexArr 2 1 (.t 5) (oI 1)), oD 19 18, oW 20 (.indexArr 2 1 (.t 5) (oI 0)), oD 21 20, oW 22 (.build [(.int .i64 0), (.int .i64 0)] [(0, 1, (.t 19)), (1, 1, (.t 21))]), oW 23 (.buildSlice 90 2 (.agg [(.int .i64 0), (.int .i64 0)]) 2 [(0, (.t 17)), (1, (.t 22))]), oW 24 (.append 90 2 16 (.t 16) (.t 23)), oM 3 24]) .skip))))
 (.region [oW 25 (.arith .add (.t 9) (oI 1)), oM 9 25]))))

def t42k0 : DCode :=
 (.seq (.region [oM 26 3, oW 27 (.call (oF 130) [(.t 26), (oF 131)])])
 (.seq (.region [oM 28 3, oW 29 (.call (oF 133) [(.t 28)]), oM 2 29])
 .ret))

/-- broadside/graph.Ways -/
def t42 : DFunc := { ntmps := 30, results := [(.t 2)], mode := .full, body :=
 (.seq (.region [oW 1 (.box 79 2 (.t 0)), oW 2 (.move (.c .nsl))])
 (.seq (.region [oW 3 (.move (.c .nsl))])
 (.seq (.seq (.region [oA 6 1 1, oD 7 6, oW 8 (.len 1 (.t 7)), oW 9 (.move (oI 0))])
 (.block 0 (.loop t42l0)))
 t42k0))) }

theorem c42 : compFunc Tryz.prog Tryz.f42 .full = some t42 := by kernel_rfl

def t43l0 : DCode :=
 (.seq (.region [oW 22 (.arith .lss (.t 21) (.t 20))])
 (.seq (.cond (.t 22) .skip (.exit 0))
 (.seq (.block 1 (.seq (.region [oM 23 21, oM 6 23])
 (.draw [oRM 25 5, oR 26 (.nilCheck (.t 25)), oRA 27 2 26, oRD 28 27, oRL 30 2 1, oRM 31 6, ⟨(some 32), .call (oF 137) [(.t 30), (.t 31)], none, .create, 0, false⟩, oRM 29 6, ⟨(some 33), .call (oF 77) [(.t 29), (.t 32)], none, .create, 0, false⟩, ⟨(some 34), .buildSlice 37 6 (.agg [(.int .i64 0), .nsl, .nsl, .nsl, .nsl, .nsl]) 1 [(0, (.t 33))], none, .create, 0, false⟩, ⟨(some 35), .append 37 6 128 (.t 28) (.t 34), none, .write, 3, false⟩, oRM 24 5, ⟨(some 36), .nilCheck (.t 24), none, .read, 4, false⟩, ⟨(some 37), .fieldAddr 2 (.t 36), none, .read, 4, false⟩, ⟨none, .store 1 (.t 37) (.t 35), none, .write, 4, false⟩])))
 (.region [oW 38 (.arith .add (.t 21) (oI 1)), oM 21 38]))))

def t43k0 : DCode :=
 (.seq (.region [oM 39 5, oM 2 39, oW 3 (.move (.c .nili))])
 .ret)

/-- broadside/net.New -/
def t43 : DFunc := { ntmps := 40, results := [(.t 2), (.t 3)], mode := .full, body :=
 (.seq (.region [oW 1 (.box 79 2 (.t 0)), oW 2 (.move (.c .nilp)), oW 3 (.move (.c .nili))])
 (.seq (.seq (.region [oL 7 2 1, oW 8 (.call (oF 134) [(.t 7)]), oM 4 8])
 (.seq (.region [oM 9 4, oW 10 (.eqn 4 true (.t 9) (.c .nili))])
 (.cond (.t 10) (.seq (.region [oM 11 4, oW 12 (.call (oF 64) [(.c (.str [110, 101, 116])), (oI (-1)), (.t 11)]), oW 2 (.move (.c .nilp)), oM 3 12])
 .ret) .skip)))
 (.seq (.draw [oRL 13 2 1, ⟨(some 14), .call (oF 135) [(.t 13)], none, .create, 0, false⟩, oRL 15 2 1, ⟨(some 16), .call (oF 136) [(.t 15)], none, .write, 1, false⟩, ⟨(some 17), .build [(.int .i64 0), .nsl, .nsl, .nilp, .nsl] [(0, 2, (.t 14)), (3, 1, (.t 16))], none, .read, 2, false⟩, ⟨(some 18), .box 230 5 (.t 17), none, .write, 2, false⟩, ⟨(some 5), .move (.t 18), none, .read, 3, false⟩])
 (.seq (.seq (.region [oA 19 0 1, oD 20 19, oW 21 (.move (oI 0))])
 (.block 0 (.loop t43l0)))
 t43k0)))) }

theorem c43 : compFunc Tryz.prog Tryz.f43 .full = some t43 := by kernel_rfl

/-- (*broadside/net.Net).Busy -/
def t46 : DFunc := { ntmps := 8, results := [(.t 2)], mode := .full, body :=
 (.seq (.region [oW 2 (.move (.c .nsl))])
 (.seq (.region [oM 3 0, oW 4 (.nilCheck (.t 3)), oA 5 3 4, oD 6 5, oW 7 (.call (oF 142) [(.t 6)]), oM 2 7])
 .ret)) }

theorem c46 : compFunc Tryz.prog Tryz.f46 .full = some t46 := by kernel_rfl

/-- broadside/adverts.Find -/
def t49 : DFunc := { ntmps := 22, results := [(.cell 4 (some 4)), (.t 5)], mode := .full, body :=
 (.seq (.region [oW 2 (.box 37 6 (.t 0)), oW 3 (.box 45 2 (.t 1)), oW 4 (.alloc 86 4 (.agg [(.int .i64 0), (.int .i64 0), .nsl, (.int .i64 0)])), oW 5 (.move (oB false))])
 (.seq (.region [oL 9 6 2, oL 10 2 3, oW 11 (.call (oF 146) [(.t 9), (.t 10)]), oM 8 11, oX 12 8 0, oX 13 8 1, oM 6 12, oM 7 13])
 (.seq (.seq (.region [oM 14 7, oW 15 (.un .not (.t 14))])
 (.cond (.t 15) (.seq (.region [oW 16 (.build [(.int .i64 0), (.int .i64 0), .nsl, (.int .i64 0)] []), oS 4 4 16, oW 5 (.move (oB false))])
 .ret) .skip))
 (.seq (.region [oA 17 2 2, oD 18 17, oM 19 6, oW 20 (.indexAddr 4 (.t 18) (.t 19)), oL 21 4 20, oS 4 4 21, oW 5 (.move (oB true))])
 .ret)))) }

theorem c49 : compFunc Tryz.prog Tryz.f49 .full = some t49 := by kernel_rfl

/-- (*broadside/net.Net).Broker -/
def t50 : DFunc := { ntmps := 39, results := [(.cell 4 (some 6))], mode := .full, body :=
 (.seq (.region [oW 4 (.alloc 37 6 (.agg [(.int .i64 0), .nsl, .nsl, .nsl, .nsl, .nsl]))])
 (.seq (.seq (.region [oM 6 0, oM 7 1, oW 8 (.call (oF 147) [(.t 6), (.t 7)]), oW 9 (.un .not (.t 8))])
 (.cond (.t 9) (.seq (.region [oW 10 (.build [(.int .i64 0), .nsl, .nsl, .nsl, .nsl, .nsl] []), oS 6 4 10])
 .ret) .skip))
 (.seq (.region [oM 11 0, oW 12 (.nilCheck (.t 11)), oA 13 2 12, oD 14 13, oM 15 1, oW 16 (.indexAddr 6 (.t 14) (.t 15)), oL 17 6 16, oW 5 (.alloc 37 6 (.agg [(.int .i64 0), .nsl, .nsl, .nsl, .nsl, .nsl])), oS 6 5 17])
 (.seq (.draw [oRA 18 1 5, oRD 19 18, ⟨(some 20), .call (oF 148) [(.t 19)], none, .create, 0, false⟩, oRA 21 2 5, oRD 22 21, ⟨(some 23), .call (oF 149) [(.t 22)], none, .create, 0, false⟩, oRA 24 3 5, oRD 25 24, ⟨(some 26), .call (oF 150) [(.t 25)], none, .create, 0, false⟩, oRA 27 4 5, oRD 28 27, ⟨(some 29), .call (oF 151) [(.t 28)], none, .create, 0, false⟩, oRA 30 5 5, oRD 31 30, ⟨(some 32), .call (oF 152) [(.t 31)], none, .write, 4, false⟩, ⟨(some 33), .fieldAddr 1 (.t 5), none, .read, 1, false⟩, ⟨none, .store 1 (.t 33) (.t 20), none, .write, 5, false⟩, ⟨(some 34), .fieldAddr 2 (.t 5), none, .read, 6, false⟩, ⟨none, .store 1 (.t 34) (.t 23), none, .write, 6, false⟩, ⟨(some 35), .fieldAddr 3 (.t 5), none, .read, 7, false⟩, ⟨none, .store 1 (.t 35) (.t 26), none, .write, 7, false⟩, ⟨(some 36), .fieldAddr 4 (.t 5), none, .read, 8, false⟩, ⟨none, .store 1 (.t 36) (.t 29), none, .write, 8, false⟩, ⟨(some 37), .fieldAddr 5 (.t 5), none, .read, 9, false⟩, ⟨none, .store 1 (.t 37) (.t 32), none, .write, 9, false⟩])
 (.seq (.region [oL 38 6 5, oS 6 4 38])
 .ret))))) }

theorem c50 : compFunc Tryz.prog Tryz.f50 .full = some t50 := by kernel_rfl

/-- (*broadside/net.Net).Copy -/
def t58 : DFunc := { ntmps := 25, results := [(.t 2)], mode := .full, body :=
 (.seq (.region [oW 2 (.move (.c .nilp))])
 (.seq (.draw [oRM 3 0, oR 4 (.nilCheck (.t 3)), oRA 5 0 4, oRL 6 2 5, ⟨(some 7), .call (oF 135) [(.t 6)], none, .create, 0, false⟩, oRM 8 0, oR 9 (.nilCheck (.t 8)), oRA 10 2 9, oRD 11 10, ⟨(some 12), .call (oF 158) [(.t 11)], none, .create, 0, false⟩, oRM 13 0, oR 14 (.nilCheck (.t 13)), oRA 15 3 14, oRD 16 15, ⟨(some 17), .call (oF 159) [(.t 16)], none, .create, 0, false⟩, oRM 18 0, oR 19 (.nilCheck (.t 18)), oRA 20 4 19, oRD 21 20, ⟨(some 22), .call (oF 153) [(.t 21)], none, .write, 3, false⟩, ⟨(some 23), .build [(.int .i64 0), .nsl, .nsl, .nilp, .nsl] [(0, 2, (.t 7)), (2, 1, (.t 12)), (3, 1, (.t 17)), (4, 1, (.t 22))], none, .read, 4, false⟩, ⟨(some 24), .box 230 5 (.t 23), none, .write, 4, false⟩, ⟨(some 2), .move (.t 24), none, .read, 5, false⟩])
 .ret)) }

theorem c58 : compFunc Tryz.prog Tryz.f58 .full = some t58 := by kernel_rfl

/-- broadside/fault.New -/
def t64 : DFunc := { ntmps := 15, results := [(.t 6)], mode := .full, body :=
 (.seq (.region [oW 6 (.move (.c .nili))])
 (.seq (.seq (.region [oM 7 2, oW 8 (.eqn 4 false (.t 7) (.c .nili))])
 (.cond (.t 8) (.seq (.region [oW 6 (.move (.c .nili))])
 .ret) .skip))
 (.seq (.region [oM 9 0, oM 10 1, oM 11 2, oW 12 (.build [(.str []), (.int .i64 0), .nili] [(0, 1, (.t 9)), (1, 1, (.t 10)), (2, 1, (.t 11))]), oW 13 (.box 159 3 (.t 12)), oW 14 (.makeIface 157 (.t 13)), oM 6 14])
 .ret))) }

theorem c64 : compFunc Tryz.prog Tryz.f64 .full = some t64 := by kernel_rfl

/-- broadside/adverts.New -/
def t77 : DFunc := { ntmps := 14, results := [(.cell 4 (some 6))], mode := .full, body :=
 (.seq (.region [oW 4 (.alloc 37 6 (.agg [(.int .i64 0), .nsl, .nsl, .nsl, .nsl, .nsl]))])
 (.seq (.region [oM 6 1, oW 7 (.call (oF 148) [(.t 6)]), oM 5 7])
 (.seq (.region [oM 8 5, oW 9 (.call (oF 178) [(.t 8)])])
 (.seq (.region [oM 10 0, oM 11 5, oW 12 (.call (oF 179) [(.t 11)]), oW 13 (.build [(.int .i64 0), .nsl, .nsl, .nsl, .nsl, .nsl] [(0, 1, (.t 10)), (1, 1, (.t 12))]), oS 6 4 13])
 .ret)))) }

theorem c77 : compFunc Tryz.prog Tryz.f77 .full = some t77 := by kernel_rfl

def t96l0 : DCode :=
 (.seq (.seq (.region [oM 6 5, oM 7 0, oW 8 (.len 1 (.t 7)), oW 9 (.arith .lss (.t 6) (.t 8))])
 (.cond (.t 9) .skip (.exit 0)))
 (.seq (.block 1 (.seq (.draw [oRM 13 0, oRM 14 5, oR 15 (.arith .sub (.t 14) (oI 1)), oR 16 (.indexAddr 1 (.t 13) (.t 15)), oRD 17 16, oRM 18 0, oRM 19 5, oR 20 (.indexAddr 1 (.t 18) (.t 19)), oRD 21 20, oRM 12 1, oW 22 (.call (.t 12) [(.t 17), (.t 21)]), ⟨(some 23), .un .not (.t 22), none, .read, 1, false⟩])
 (.cond (.t 23) (.seq (.region [oW 4 (.move (oB false))])
 .ret) .skip)))
 (.region [oM 10 5, oW 11 (.arith .add (.t 10) (oI 1)), oM 5 11])))

def t96k0 : DCode :=
 (.seq (.region [oW 4 (.move (oB true))])
 .ret)

/-- broadside/adverts.rises[int] -/
def t96 : DFunc := { ntmps := 24, results := [(.t 4)], mode := .full, body :=
 (.seq (.region [oW 4 (.move (oB false))])
 (.seq (.seq (.region [oW 5 (.move (oI 1))])
 (.block 0 (.loop t96l0)))
 t96k0)) }

theorem c96 : compFunc Tryz.prog Tryz.f96 .full = some t96 := by kernel_rfl

/-- broadside/adverts.Right$1 -/
def t97 : DFunc := { ntmps := 8, results := [(.t 4)], mode := .full, body :=
 (.seq (.region [oW 4 (.move (oB false))])
 (.seq (.region [oM 5 0, oM 6 1, oW 7 (.arith .lss (.t 5) (.t 6)), oM 4 7])
 .ret)) }

theorem c97 : compFunc Tryz.prog Tryz.f97 .full = some t97 := by kernel_rfl

def t98l0 : DCode :=
 (.seq (.seq (.region [oM 6 5, oM 7 0, oW 8 (.len 1 (.t 7)), oW 9 (.arith .lss (.t 6) (.t 8))])
 (.cond (.t 9) .skip (.exit 0)))
 (.seq (.block 1 (.seq (.draw [oRM 13 0, oRM 14 5, oR 15 (.arith .sub (.t 14) (oI 1)), oR 16 (.indexAddr 2 (.t 13) (.t 15)), oRL 17 2 16, oRM 18 0, oRM 19 5, oR 20 (.indexAddr 2 (.t 18) (.t 19)), oRL 21 2 20, oRM 12 1, oW 22 (.call (.t 12) [(.t 17), (.t 21)]), ⟨(some 23), .un .not (.t 22), none, .read, 1, false⟩])
 (.cond (.t 23) (.seq (.region [oW 4 (.move (oB false))])
 .ret) .skip)))
 (.region [oM 10 5, oW 11 (.arith .add (.t 10) (oI 1)), oM 5 11])))

def t98k0 : DCode :=
 (.seq (.region [oW 4 (.move (oB true))])
 .ret)

/-- broadside/adverts.rises[broadside/api.ID] -/
def t98 : DFunc := { ntmps := 24, results := [(.t 4)], mode := .full, body :=
 (.seq (.region [oW 4 (.move (oB false))])
 (.seq (.seq (.region [oW 5 (.move (oI 1))])
 (.block 0 (.loop t98l0)))
 t98k0)) }

theorem c98 : compFunc Tryz.prog Tryz.f98 .full = some t98 := by kernel_rfl

/-- broadside/adverts.Less -/
def t99 : DFunc := { ntmps := 9, results := [(.t 4)], mode := .full, body :=
 (.seq (.region [oW 2 (.box 45 2 (.t 0)), oW 3 (.box 45 2 (.t 1)), oW 4 (.move (oB false))])
 (.seq (.region [oL 5 2 2, oL 6 2 3, oW 7 (.call (oF 107) [(.t 5), (.t 6)]), oW 8 (.arith .lss (.t 7) (oI 0)), oM 4 8])
 .ret)) }

theorem c99 : compFunc Tryz.prog Tryz.f99 .full = some t99 := by kernel_rfl

def t100l0 : DCode :=
 (.seq (.seq (.region [oM 6 5, oM 7 0, oW 8 (.len 1 (.t 7)), oW 9 (.arith .lss (.t 6) (.t 8))])
 (.cond (.t 9) .skip (.exit 0)))
 (.seq (.block 1 (.seq (.draw [oRM 13 0, oRM 14 5, oR 15 (.arith .sub (.t 14) (oI 1)), oR 16 (.indexAddr 4 (.t 13) (.t 15)), oRL 17 4 16, oRM 18 0, oRM 19 5, oR 20 (.indexAddr 4 (.t 18) (.t 19)), oRL 21 4 20, oRM 12 1, oW 22 (.call (.t 12) [(.t 17), (.t 21)]), ⟨(some 23), .un .not (.t 22), none, .read, 1, false⟩])
 (.cond (.t 23) (.seq (.region [oW 4 (.move (oB false))])
 .ret) .skip)))
 (.region [oM 10 5, oW 11 (.arith .add (.t 10) (oI 1)), oM 5 11])))

def t100k0 : DCode :=
 (.seq (.region [oW 4 (.move (oB true))])
 .ret)

/-- broadside/adverts.rises[broadside/api.Advert] -/
def t100 : DFunc := { ntmps := 24, results := [(.t 4)], mode := .full, body :=
 (.seq (.region [oW 4 (.move (oB false))])
 (.seq (.seq (.region [oW 5 (.move (oI 1))])
 (.block 0 (.loop t100l0)))
 t100k0)) }

theorem c100 : compFunc Tryz.prog Tryz.f100 .full = some t100 := by kernel_rfl

/-- broadside/adverts.Right$2 -/
def t101 : DFunc := { ntmps := 10, results := [(.t 4)], mode := .full, body :=
 (.seq (.region [oW 2 (.box 86 4 (.t 0)), oW 3 (.box 86 4 (.t 1)), oW 4 (.move (oB false))])
 (.seq (.region [oA 5 0 2, oL 6 2 5, oA 7 0 3, oL 8 2 7, oW 9 (.call (oF 99) [(.t 6), (.t 8)]), oM 4 9])
 .ret)) }

theorem c101 : compFunc Tryz.prog Tryz.f101 .full = some t101 := by kernel_rfl

def t102l0 : DCode :=
 (.seq (.seq (.region [oM 6 5, oM 7 0, oW 8 (.len 1 (.t 7)), oW 9 (.arith .lss (.t 6) (.t 8))])
 (.cond (.t 9) .skip (.exit 0)))
 (.seq (.block 1 (.seq (.draw [oRM 13 0, oRM 14 5, oR 15 (.arith .sub (.t 14) (oI 1)), oR 16 (.indexAddr 3 (.t 13) (.t 15)), oRL 17 3 16, oRM 18 0, oRM 19 5, oR 20 (.indexAddr 3 (.t 18) (.t 19)), oRL 21 3 20, oRM 12 1, oW 22 (.call (.t 12) [(.t 17), (.t 21)]), ⟨(some 23), .un .not (.t 22), none, .read, 1, false⟩])
 (.cond (.t 23) (.seq (.region [oW 4 (.move (oB false))])
 .ret) .skip)))
 (.region [oM 10 5, oW 11 (.arith .add (.t 10) (oI 1)), oM 5 11])))

def t102k0 : DCode :=
 (.seq (.region [oW 4 (.move (oB true))])
 .ret)

/-- broadside/adverts.rises[broadside/api.Own] -/
def t102 : DFunc := { ntmps := 24, results := [(.t 4)], mode := .full, body :=
 (.seq (.region [oW 4 (.move (oB false))])
 (.seq (.seq (.region [oW 5 (.move (oI 1))])
 (.block 0 (.loop t102l0)))
 t102k0)) }

theorem c102 : compFunc Tryz.prog Tryz.f102 .full = some t102 := by kernel_rfl

/-- broadside/adverts.Right$3 -/
def t103 : DFunc := { ntmps := 10, results := [(.t 4)], mode := .full, body :=
 (.seq (.region [oW 2 (.box 151 3 (.t 0)), oW 3 (.box 151 3 (.t 1)), oW 4 (.move (oB false))])
 (.seq (.region [oA 5 0 2, oL 6 2 5, oA 7 0 3, oL 8 2 7, oW 9 (.call (oF 99) [(.t 6), (.t 8)]), oM 4 9])
 .ret)) }

theorem c103 : compFunc Tryz.prog Tryz.f103 .full = some t103 := by kernel_rfl

def t104l0 : DCode :=
 (.seq (.seq (.region [oM 6 5, oM 7 0, oW 8 (.len 1 (.t 7)), oW 9 (.arith .lss (.t 6) (.t 8))])
 (.cond (.t 9) .skip (.exit 0)))
 (.seq (.block 1 (.seq (.draw [oRM 13 0, oRM 14 5, oR 15 (.arith .sub (.t 14) (oI 1)), oR 16 (.indexAddr 7 (.t 13) (.t 15)), oRL 17 7 16, oRM 18 0, oRM 19 5, oR 20 (.indexAddr 7 (.t 18) (.t 19)), oRL 21 7 20, oRM 12 1, oW 22 (.call (.t 12) [(.t 17), (.t 21)]), ⟨(some 23), .un .not (.t 22), none, .read, 1, false⟩])
 (.cond (.t 23) (.seq (.region [oW 4 (.move (oB false))])
 .ret) .skip)))
 (.region [oM 10 5, oW 11 (.arith .add (.t 10) (oI 1)), oM 5 11])))

def t104k0 : DCode :=
 (.seq (.region [oW 4 (.move (oB true))])
 .ret)

/-- broadside/adverts.rises[broadside/api.Entry] -/
def t104 : DFunc := { ntmps := 24, results := [(.t 4)], mode := .full, body :=
 (.seq (.region [oW 4 (.move (oB false))])
 (.seq (.seq (.region [oW 5 (.move (oI 1))])
 (.block 0 (.loop t104l0)))
 t104k0)) }

theorem c104 : compFunc Tryz.prog Tryz.f104 .full = some t104 := by kernel_rfl

/-- broadside/adverts.Right$4 -/
def t105 : DFunc := { ntmps := 18, results := [(.t 4)], mode := .full, body :=
 (.seq (.region [oW 2 (.box 88 7 (.t 0)), oW 3 (.box 88 7 (.t 1)), oW 4 (.move (oB false))])
 (.seq (.draw [oRA 5 0 2, oRL 6 2 5, oRA 7 0 3, oRL 8 2 7, ⟨(some 9), .call (oF 107) [(.t 6), (.t 8)], none, .create, 0, false⟩, oRA 10 2 2, oRL 11 2 10, oRA 12 2 3, oRL 13 2 12, ⟨(some 14), .call (oF 107) [(.t 11), (.t 13)], none, .write, 1, false⟩, ⟨(some 15), .buildSlice 3 1 (.int .i64 0) 2 [(0, (.t 9)), (1, (.t 14))], none, .create, 0, false⟩, ⟨(some 16), .call (oF 106) [(.t 15)], none, .write, 3, false⟩, ⟨(some 17), .arith .lss (.t 16) (oI 0), none, .read, 4, false⟩, ⟨(some 4), .move (.t 17), none, .read, 4, false⟩])
 .ret)) }

theorem c105 : compFunc Tryz.prog Tryz.f105 .full = some t105 := by kernel_rfl

def t106l0 : DCode :=
 (.seq (.region [oW 9 (.arith .lss (.t 8) (.t 7))])
 (.seq (.cond (.t 9) .skip (.exit 0))
 (.seq (.block 1 (.seq (.region [oW 10 (.indexAddr 1 (.t 6) (.t 8)), oD 11 10, oM 5 11])
 (.seq (.region [oM 12 5, oM 13 3, oW 14 (.arith .neq (.t 12) (.t 13))])
 (.cond (.t 14) (.seq (.region [oM 15 5, oM 2 15])
 .ret) .skip))))
 (.region [oW 16 (.arith .add (.t 8) (oI 1)), oM 8 16]))))

def t106k0 : DCode :=
 (.seq (.region [oM 17 3, oM 2 17])
 .ret)

/-- cmp.Or[int] -/
def t106 : DFunc := { ntmps := 18, results := [(.t 2)], mode := .full, body :=
 (.seq (.region [oW 2 (.move (oI 0))])
 (.seq (.region [oW 3 (.move (oI 0))])
 (.seq (.seq (.region [oM 6 0, oW 7 (.len 1 (.t 6)), oW 8 (.move (oI 0))])
 (.block 0 (.loop t106l0)))
 t106k0))) }

theorem c106 : compFunc Tryz.prog Tryz.f106 .full = some t106 := by kernel_rfl

/-- broadside/adverts.compare -/
def t107 : DFunc := { ntmps := 17, results := [(.t 4)], mode := .full, body :=
 (.seq (.region [oW 2 (.box 45 2 (.t 0)), oW 3 (.box 45 2 (.t 1)), oW 4 (.move (oI 0))])
 (.seq (.draw [oRA 5 0 2, oRD 6 5, oRA 7 0 3, oRD 8 7, ⟨(some 9), .call (oF 132) [(.t 6), (.t 8)], none, .create, 0, false⟩, oRA 10 1 2, oRD 11 10, oRA 12 1 3, oRD 13 12, ⟨(some 14), .call (oF 132) [(.t 11), (.t 13)], none, .write, 1, false⟩, ⟨(some 15), .buildSlice 3 1 (.int .i64 0) 2 [(0, (.t 9)), (1, (.t 14))], none, .create, 0, false⟩, ⟨(some 16), .call (oF 106) [(.t 15)], none, .write, 3, false⟩, ⟨(some 4), .move (.t 16), none, .read, 4, false⟩])
 .ret)) }

theorem c107 : compFunc Tryz.prog Tryz.f107 .full = some t107 := by kernel_rfl

/-- slices.ContainsFunc[[]broadside/api.Advert,broadside/api.Advert] -/
def t108 : DFunc := { ntmps := 9, results := [(.t 4)], mode := .full, body :=
 (.seq (.region [oW 4 (.move (oB false))])
 (.seq (.region [oM 5 0, oM 6 1, oW 7 (.call (oF 198) [(.t 5), (.t 6)]), oW 8 (.arith .geq (.t 7) (oI 0)), oM 4 8])
 .ret)) }

theorem c108 : compFunc Tryz.prog Tryz.f108 .full = some t108 := by kernel_rfl

/-- broadside/adverts.Right$5 -/
def t109 : DFunc := { ntmps := 22, results := [(.t 3)], mode := .full, body :=
 (.seq (.region [oW 2 (.box 86 4 (.t 0)), oW 3 (.move (oB false))])
 (.seq (.region [oL 4 6 1, oA 5 0 2, oL 6 2 5, oW 7 (.call (oF 110) [(.t 4), (.t 6)]), oW 8 (.un .not (.t 7)), oM 9 8, ⟨(some 10), .load (some 6) (.t 1), (some (9, false)), .write, 0, false⟩, ⟨(some 11), .fieldAddr 3 (.t 2), (some (9, false)), .write, 0, false⟩, ⟨(some 12), .load none (.t 11), (some (9, false)), .write, 0, false⟩, ⟨(some 13), .call (oF 111) [(.t 10), (.t 12)], (some (9, false)), .write, 0, false⟩, ⟨(some 14), .un .not (.t 13), (some (9, false)), .write, 0, false⟩, oW 15 (.pick (.t 9) (oB true) (.t 14)), oM 16 15, ⟨(some 17), .fieldAddr 2 (.t 2), (some (16, false)), .write, 0, false⟩, ⟨(some 18), .load none (.t 17), (some (16, false)), .write, 0, false⟩, ⟨(some 19), .call (oF 112) [(.t 18)], (some (16, false)), .write, 0, false⟩, ⟨(some 20), .un .not (.t 19), (some (16, false)), .write, 0, false⟩, oW 21 (.pick (.t 16) (oB true) (.t 20)), oM 3 21])
 .ret)) }

theorem c109 : compFunc Tryz.prog Tryz.f109 .full = some t109 := by kernel_rfl

/-- broadside/adverts.Seen -/
def t110 : DFunc := { ntmps := 14, results := [(.t 4)], mode := .full, body :=
 (.seq (.region [oW 2 (.box 37 6 (.t 0)), oW 3 (.box 45 2 (.t 1)), oW 4 (.move (oB false))])
 (.seq (.region [oL 8 6 2, oL 9 2 3, oW 10 (.call (oF 199) [(.t 8), (.t 9)]), oM 7 10, oX 11 7 0, oX 12 7 1, oM 5 11, oM 6 12])
 (.seq (.region [oM 13 6, oM 4 13])
 .ret))) }

theorem c110 : compFunc Tryz.prog Tryz.f110 .full = some t110 := by kernel_rfl

/-- broadside/adverts.link -/
def t111 : DFunc := { ntmps := 13, results := [(.t 4)], mode := .full, body :=
 (.seq (.region [oW 2 (.box 37 6 (.t 0)), oW 4 (.move (oB false))])
 (.seq (.region [oM 5 1, oW 6 (.arith .eql (.t 5) (oI (-1))), oM 7 6, ⟨(some 8), .fieldAddr 1 (.t 2), (some (7, false)), .write, 0, false⟩, ⟨(some 9), .load none (.t 8), (some (7, false)), .write, 0, false⟩, ⟨(some 10), .move (.t 1), (some (7, false)), .write, 0, false⟩, ⟨(some 11), .call (oF 200) [(.t 9), (.t 10)], (some (7, false)), .write, 0, false⟩, oW 12 (.pick (.t 7) (oB true) (.t 11)), oM 4 12])
 .ret)) }

theorem c111 : compFunc Tryz.prog Tryz.f111 .full = some t111 := by kernel_rfl

def t112l0 : DCode :=
 (.seq (.region [oW 8 (.arith .lss (.t 7) (.t 6))])
 (.seq (.cond (.t 8) .skip (.exit 0))
 (.seq (.block 1 (.seq (.region [oM 9 7, oW 10 (.indexAddr 5 (.t 5) (.t 7)), oL 11 5 10, oW 4 (.alloc 119 5 (.agg [(.str []), (.int .i64 0), (.int .i64 0), (.int .i64 0), (.str [])])), oM 3 9, oS 5 4 11])
 (.seq (.draw [oRL 12 5 4, oW 13 (.call (oF 201) [(.t 12)]), ⟨(some 14), .un .not (.t 13), none, .read, 1, false⟩, ⟨(some 15), .move (.t 14), none, .read, 1, false⟩, ⟨(some 16), .move (.t 3), (some (15, false)), .read, 1, false⟩, ⟨(some 17), .arith .gtr (.t 16) (oI 0), (some (15, false)), .read, 1, false⟩, ⟨(some 18), .move (.t 17), (some (15, false)), .read, 1, false⟩, ⟨(some 19), .move (.t 0), (some (18, true)), .read, 1, false⟩, ⟨(some 20), .move (.t 3), (some (18, true)), .read, 1, false⟩, ⟨(some 21), .arith .sub (.t 20) (oI 1), (some (18, true)), .read, 1, false⟩, ⟨(some 22), .indexAddr 5 (.t 19) (.t 21), (some (18, true)), .read, 1, false⟩, ⟨(some 23), .fieldAddr 0 (.t 22), (some (18, true)), .read, 1, false⟩, ⟨(some 24), .load none (.t 23), (some (18, true)), .read, 1, false⟩, ⟨(some 25), .fieldAddr 0 (.t 4), (some (18, true)), .read, 1, false⟩, ⟨(some 26), .load none (.t 25), (some (18, true)), .read, 1, false⟩, ⟨(some 27), .arith .geq (.t 24) (.t 26), (some (18, true)), .read, 1, false⟩, ⟨(some 28), .pick (.t 18) (.t 27) (oB false), (some (15, false)), .read, 1, false⟩, ⟨(some 29), .pick (.t 15) (oB true) (.t 28), none, .read, 1, false⟩])
 (.cond (.t 29) (.seq (.region [oW 2 (.move (oB false))])
 .ret) .skip))))
 (.region [oW 30 (.arith .add (.t 7) (oI 1)), oM 7 30]))))

def t112k0 : DCode :=
 (.seq (.region [oM 31 0, oW 32 (.len 1 (.t 31)), oW 33 (.arith .leq (.t 32) (oI 5)), oM 2 33])
 .ret)

/-- broadside/pred.Right -/
def t112 : DFunc := { ntmps := 34, results := [(.t 2)], mode := .full, body :=
 (.seq (.region [oW 2 (.move (oB false))])
 (.seq (.seq (.region [oM 5 0, oW 6 (.len 1 (.t 5)), oW 7 (.move (oI 0))])
 (.block 0 (.loop t112l0)))
 t112k0)) }

theorem c112 : compFunc Tryz.prog Tryz.f112 .full = some t112 := by kernel_rfl

/-- slices.ContainsFunc[[]broadside/api.Entry,broadside/api.Entry] -/
def t113 : DFunc := { ntmps := 9, results := [(.t 4)], mode := .full, body :=
 (.seq (.region [oW 4 (.move (oB false))])
 (.seq (.region [oM 5 0, oM 6 1, oW 7 (.call (oF 202) [(.t 5), (.t 6)]), oW 8 (.arith .geq (.t 7) (oI 0)), oM 4 8])
 .ret)) }

theorem c113 : compFunc Tryz.prog Tryz.f113 .full = some t113 := by kernel_rfl

end Go.Dm.Tr5
