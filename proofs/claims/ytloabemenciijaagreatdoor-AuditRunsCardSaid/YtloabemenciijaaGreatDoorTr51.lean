/-
The table of functions, brought into the machine's form (Tr5, part 1). Written by program (wip/tools/table3.lean.txt).
-/
import Derived.Test.YtloabemenciijaaGreatDoorMm4
import Derived.Test.YtloabemenciijaaGreatDoorRows
import Derived.KernelRfl
namespace Go.Dm.Tr5
open Go.Proofs

/-- broadside/adverts.Right$6 -/
def t114 : DFunc := { ntmps := 8, results := [(.t 3)], mode := .full, body :=
 (.seq (.region [oW 2 (.box 88 7 (.t 0)), oW 3 (.move (oB false))])
 (.seq (.region [oL 4 6 1, oL 5 7 2, oW 6 (.call (oF 115) [(.t 4), (.t 5)]), oW 7 (.un .not (.t 6)), oM 3 7])
 .ret)) }

theorem c114 : compFunc Tryz.prog Tryz.f114 .full = some t114 := by kernel_rfl

/-- broadside/adverts.rightEntry -/
def t115 : DFunc := { ntmps := 48, results := [(.t 4)], mode := .full, body :=
 (.seq (.region [oW 2 (.box 37 6 (.t 0)), oW 3 (.box 88 7 (.t 1)), oW 4 (.move (oB false))])
 (.seq (.region [oL 9 6 2, oA 10 0 3, oL 11 2 10, oW 12 (.call (oF 49) [(.t 9), (.t 11)]), oM 8 12, oX 13 8 0, oX 14 8 1, oW 5 (.alloc 86 4 (.agg [(.int .i64 0), (.int .i64 0), .nsl, (.int .i64 0)])), oS 4 5 13, oM 6 14])
 (.seq (.region [oA 15 3 5, oD 16 15, oW 17 (.arith .eql (.t 16) (oI (-1))), oM 7 17])
 (.seq (.region [oM 18 6, oM 19 18, ⟨(some 20), .load (some 6) (.t 2), (some (19, true)), .write, 0, false⟩, ⟨(some 21), .fieldAddr 5 (.t 3), (some (19, true)), .write, 0, false⟩, ⟨(some 22), .load none (.t 21), (some (19, true)), .write, 0, false⟩, ⟨(some 23), .call (oF 111) [(.t 20), (.t 22)], (some (19, true)), .write, 0, false⟩, oW 24 (.pick (.t 19) (.t 23) (oB false)), oM 25 24, ⟨(some 26), .fieldAddr 5 (.t 3), (some (25, true)), .write, 0, false⟩, ⟨(some 27), .load none (.t 26), (some (25, true)), .write, 0, false⟩, ⟨(some 28), .fieldAddr 3 (.t 5), (some (25, true)), .write, 0, false⟩, ⟨(some 29), .load none (.t 28), (some (25, true)), .write, 0, false⟩, ⟨(some 30), .arith .neq (.t 27) (.t 29), (some (25, true)), .write, 0, false⟩, ⟨(some 31), .move (.t 30), (some (25, true)), .write, 0, false⟩, ⟨(some 32), .move (.t 7), (some (31, false)), .write, 0, false⟩, ⟨(some 33), .pick (.t 31) (oB true) (.t 32), (some (25, true)), .write, 0, false⟩, oW 34 (.pick (.t 25) (.t 33) (oB false)), oM 35 34, ⟨(some 36), .fieldAddr 6 (.t 3), (some (35, true)), .write, 0, false⟩, ⟨(some 37), .load none (.t 36), (some (35, true)), .write, 0, false⟩, ⟨(some 38), .move (.t 37), (some (35, true)), .write, 0, false⟩, ⟨(some 39), .move (.t 7), (some (38, true)), .write, 0, false⟩, ⟨(some 40), .pick (.t 38) (.t 39) (oB false), (some (35, true)), .write, 0, false⟩, ⟨(some 41), .un .not (.t 40), (some (35, true)), .write, 0, false⟩, oW 42 (.pick (.t 35) (.t 41) (oB false)), oM 43 42, ⟨(some 44), .fieldAddr 4 (.t 3), (some (43, true)), .write, 0, false⟩, ⟨(some 45), .load none (.t 44), (some (43, true)), .write, 0, false⟩, ⟨(some 46), .call (oF 112) [(.t 45)], (some (43, true)), .write, 0, false⟩, oW 47 (.pick (.t 43) (.t 46) (oB false)), oM 4 47])
 .ret)))) }

theorem c115 : compFunc Tryz.prog Tryz.f115 .full = some t115 := by kernel_rfl

/-- slices.ContainsFunc[[]broadside/api.Own,broadside/api.Own] -/
def t116 : DFunc := { ntmps := 9, results := [(.t 4)], mode := .full, body :=
 (.seq (.region [oW 4 (.move (oB false))])
 (.seq (.region [oM 5 0, oM 6 1, oW 7 (.call (oF 203) [(.t 5), (.t 6)]), oW 8 (.arith .geq (.t 7) (oI 0)), oM 4 8])
 .ret)) }

theorem c116 : compFunc Tryz.prog Tryz.f116 .full = some t116 := by kernel_rfl

/-- broadside/adverts.Right$7 -/
def t117 : DFunc := { ntmps := 7, results := [(.t 2)], mode := .full, body :=
 (.seq (.region [oW 1 (.box 151 3 (.t 0)), oW 2 (.move (oB false))])
 (.seq (.region [oA 3 2 1, oD 4 3, oW 5 (.call (oF 112) [(.t 4)]), oW 6 (.un .not (.t 5)), oM 2 6])
 .ret)) }

theorem c117 : compFunc Tryz.prog Tryz.f117 .full = some t117 := by kernel_rfl

/-- broadside/subs.Covered -/
def t118 : DFunc := { ntmps := 12, results := [(.t 6)], mode := .full, body :=
 (.seq (.region [oW 3 (.box 37 6 (.t 0)), oW 4 (.box 45 2 (.t 1)), oW 5 (.box 46 1 (.t 2)), oW 6 (.move (oB false))])
 (.seq (.region [oL 7 6 3, oL 8 2 4, oW 9 (.call (oF 204) [(.t 7), (.t 8)]), oW 10 (.makeFunc 205 [(.t 5)]), oW 11 (.call (oF 113) [(.t 9), (.t 10)]), oM 6 11])
 .ret)) }

theorem c118 : compFunc Tryz.prog Tryz.f118 .full = some t118 := by kernel_rfl

/-- broadside/inbox.New -/
def t119 : DFunc := { ntmps := 4, results := [(.t 0)], mode := .full, body :=
 (.seq (.region [oW 0 (.move (.c .nilp))])
 (.seq (.region [oW 1 (.makeMap), oW 2 (.build [.nmap, .nsl] [(0, 1, (.t 1))]), oW 3 (.box 297 2 (.t 2)), oM 0 3])
 .ret)) }

theorem c119 : compFunc Tryz.prog Tryz.f119 .full = some t119 := by kernel_rfl

/-- (*broadside/world.World).Net -/
def t120 : DFunc := { ntmps := 8, results := [(.t 2)], mode := .full, body :=
 (.seq (.region [oW 2 (.move (.c .nilp))])
 (.seq (.region [oM 3 0, oW 4 (.nilCheck (.t 3)), oA 5 0 4, oD 6 5, oW 7 (.call (oF 58) [(.t 6)]), oM 2 7])
 .ret)) }

theorem c120 : compFunc Tryz.prog Tryz.f120 .full = some t120 := by kernel_rfl

/-- (*broadside/net.Net).Graph -/
def t121 : DFunc := { ntmps := 8, results := [(.cell 2 (some 2))], mode := .full, body :=
 (.seq (.region [oW 2 (.alloc 79 2 (.agg [(.int .i64 0), .nsl]))])
 (.seq (.region [oM 3 0, oW 4 (.nilCheck (.t 3)), oA 5 0 4, oL 6 2 5, oW 7 (.call (oF 135) [(.t 6)]), oS 2 2 7])
 .ret)) }

theorem c121 : compFunc Tryz.prog Tryz.f121 .full = some t121 := by kernel_rfl

def t122l0 : DCode :=
 (.seq (.region [oW 19 (.arith .lss (.t 18) (.t 17))])
 (.seq (.cond (.t 19) .skip (.exit 0))
 (.seq (.block 1 (.seq (.region [oW 20 (.indexAddr 4 (.t 16) (.t 18)), oL 21 4 20, oW 7 (.alloc 86 4 (.agg [(.int .i64 0), (.int .i64 0), .nsl, (.int .i64 0)])), oS 4 7 21])
 (.seq (.region [oM 23 1, oA 24 0 7, oL 25 2 24, oW 26 (.call (oF 207) [(.t 23), (.t 25)]), oM 22 26, oX 27 22 0, oX 28 22 1, oW 8 (.alloc 86 4 (.agg [(.int .i64 0), (.int .i64 0), .nsl, (.int .i64 0)])), oS 4 8 27, oM 9 28])
 (.seq (.region [oM 29 9, oW 30 (.un .not (.t 29))])
 (.cond (.t 30) (.seq (.region [oW 31 (.makeIface 57 (oI 4)), oM 4 31])
 .ret) .skip)))))
 (.region [oW 32 (.arith .add (.t 18) (oI 1)), oM 18 32]))))

def t122k0 : DCode :=
 (.seq (.region [oW 4 (.move (.c .nili))])
 .ret)

/-- broadside/audit.odd -/
def t122 : DFunc := { ntmps := 33, results := [(.t 4)], mode := .full, body :=
 (.seq (.region [oW 2 (.box 37 6 (.t 0)), oW 4 (.move (.c .nili))])
 (.seq (.seq (.region [oL 10 6 2, oW 11 (.call (oF 34) [(.t 10)]), oM 5 11])
 (.seq (.region [oM 12 5, oW 13 (.eqn 4 true (.t 12) (.c .nili))])
 (.cond (.t 13) (.seq (.region [oM 14 5, oM 4 14])
 .ret) .skip)))
 (.seq (.seq (.region [oA 15 2 2, oD 16 15, oW 17 (.len 1 (.t 16)), oW 18 (.move (oI 0))])
 (.block 0 (.loop t122l0)))
 t122k0))) }

theorem c122 : compFunc Tryz.prog Tryz.f122 .full = some t122 := by kernel_rfl

/-- (*broadside/model.Model).Adverts -/
def t123 : DFunc := { ntmps := 8, results := [(.t 2)], mode := .full, body :=
 (.seq (.region [oW 2 (.move (.c .nsl))])
 (.seq (.region [oM 3 0, oW 4 (.nilCheck (.t 3)), oA 5 1 4, oD 6 5, oW 7 (.call (oF 149) [(.t 6)]), oM 2 7])
 .ret)) }

theorem c123 : compFunc Tryz.prog Tryz.f123 .full = some t123 := by kernel_rfl

/-- broadside/graph.may -/
def t129 : DFunc := { ntmps := 22, results := [(.t 4)], mode := .full, body :=
 (.seq (.region [oW 2 (.box 79 2 (.t 0)), oW 3 (.box 90 2 (.t 1)), oW 4 (.move (oB false))])
 (.seq (.region [oL 5 2 2, oW 6 (.indexArr 2 1 (.t 3) (oI 0)), oD 7 6, oW 8 (.call (oF 217) [(.t 5), (.t 7)]), oM 9 8, ⟨(some 10), .load (some 2) (.t 2), (some (9, true)), .write, 0, false⟩, ⟨(some 11), .indexArr 2 1 (.t 3) (oI 1), (some (9, true)), .write, 0, false⟩, ⟨(some 12), .load none (.t 11), (some (9, true)), .write, 0, false⟩, ⟨(some 13), .call (oF 217) [(.t 10), (.t 12)], (some (9, true)), .write, 0, false⟩, oW 14 (.pick (.t 9) (.t 13) (oB false)), oM 15 14, ⟨(some 16), .indexArr 2 1 (.t 3) (oI 0), (some (15, true)), .write, 0, false⟩, ⟨(some 17), .load none (.t 16), (some (15, true)), .write, 0, false⟩, ⟨(some 18), .indexArr 2 1 (.t 3) (oI 1), (some (15, true)), .write, 0, false⟩, ⟨(some 19), .load none (.t 18), (some (15, true)), .write, 0, false⟩, ⟨(some 20), .arith .neq (.t 17) (.t 19), (some (15, true)), .write, 0, false⟩, oW 21 (.pick (.t 15) (.t 20) (oB false)), oM 4 21])
 .ret)) }

theorem c129 : compFunc Tryz.prog Tryz.f129 .full = some t129 := by kernel_rfl

/-- slices.SortFunc[[][2]int,[2]int] -/
def t130 : DFunc := { ntmps := 14, results := [], mode := .full, body :=
 (.seq (.region [oM 5 0, oW 6 (.len 1 (.t 5)), oM 4 6])
 (.region [oM 7 0, oM 8 4, oM 9 4, oW 10 (.conv .u64 (.t 9)), oW 11 (.call (oF 219) [(.t 10)]), oM 12 1, oW 13 (.call (oF 218) [(.t 7), (oI 0), (.t 8), (.t 11), (.t 12)])])) }

theorem c130 : compFunc Tryz.prog Tryz.f130 .full = some t130 := by kernel_rfl

/-- broadside/graph.Ways$1 -/
def t131 : DFunc := { ntmps := 17, results := [(.t 4)], mode := .full, body :=
 (.seq (.region [oW 2 (.box 90 2 (.t 0)), oW 3 (.box 90 2 (.t 1)), oW 4 (.move (oI 0))])
 (.seq (.draw [oR 5 (.indexArr 2 1 (.t 2) (oI 0)), oRD 6 5, oR 7 (.indexArr 2 1 (.t 3) (oI 0)), oRD 8 7, ⟨(some 9), .call (oF 132) [(.t 6), (.t 8)], none, .create, 0, false⟩, oR 10 (.indexArr 2 1 (.t 2) (oI 1)), oRD 11 10, oR 12 (.indexArr 2 1 (.t 3) (oI 1)), oRD 13 12, ⟨(some 14), .call (oF 132) [(.t 11), (.t 13)], none, .write, 1, false⟩, ⟨(some 15), .buildSlice 3 1 (.int .i64 0) 2 [(0, (.t 9)), (1, (.t 14))], none, .create, 0, false⟩, ⟨(some 16), .call (oF 106) [(.t 15)], none, .write, 3, false⟩, ⟨(some 4), .move (.t 16), none, .read, 4, false⟩])
 .ret)) }

theorem c131 : compFunc Tryz.prog Tryz.f131 .full = some t131 := by kernel_rfl

/-- cmp.Compare[int] -/
def t132 : DFunc := { ntmps := 20, results := [(.t 4)], mode := .full, body :=
 (.seq (.region [oW 4 (.move (oI 0))])
 (.seq (.region [oM 7 0, oW 8 (.call (oF 220) [(.t 7)]), oM 5 8])
 (.seq (.region [oM 9 1, oW 10 (.call (oF 220) [(.t 9)]), oM 6 10])
 (.seq (.seq (.region [oM 11 5])
 (.cond (.t 11) (.seq (.seq (.region [oM 12 6])
 (.cond (.t 12) (.seq (.region [oW 4 (.move (oI 0))])
 .ret) .skip))
 (.seq (.region [oW 4 (.move (oI (-1)))])
 .ret)) .skip))
 (.seq (.seq (.region [oM 13 6])
 (.cond (.t 13) (.seq (.region [oW 4 (.move (oI 1))])
 .ret) .skip))
 (.seq (.seq (.region [oM 14 0, oM 15 1, oW 16 (.arith .lss (.t 14) (.t 15))])
 (.cond (.t 16) (.seq (.region [oW 4 (.move (oI (-1)))])
 .ret) .skip))
 (.seq (.seq (.region [oM 17 0, oM 18 1, oW 19 (.arith .gtr (.t 17) (.t 18))])
 (.cond (.t 19) (.seq (.region [oW 4 (.move (oI 1))])
 .ret) .skip))
 (.seq (.region [oW 4 (.move (oI 0))])
 .ret)))))))) }

theorem c132 : compFunc Tryz.prog Tryz.f132 .full = some t132 := by kernel_rfl

def t133l0 : DCode :=
 (.seq (.seq (.region [oM 29 5, oM 30 4, oW 31 (.len 1 (.t 30)), oW 32 (.arith .lss (.t 29) (.t 31))])
 (.cond (.t 32) .skip (.exit 2)))
 (.seq (.block 3 (.seq (.draw [oRM 35 4, oRM 36 5, oR 37 (.indexAddr 2 (.t 35) (.t 36)), oRL 38 2 37, oRM 39 4, oRM 40 5, oR 41 (.arith .sub (.t 40) (oI 1)), oR 42 (.indexAddr 2 (.t 39) (.t 41)), oRL 43 2 42, oR 44 (.eqa true [1, 1] (.t 38) (.t 43))])
 (.cond (.t 44) (.seq (.region [oM 45 0, oM 46 3, oM 47 4, oM 48 5, oW 49 (.indexAddr 2 (.t 47) (.t 48)), oL 50 2 49, oW 51 (.indexAddr 2 (.t 45) (.t 46)), oS 2 51 50])
 (.region [oM 52 3, oW 53 (.arith .add (.t 52) (oI 1)), oM 3 53])) .skip)))
 (.region [oM 33 5, oW 34 (.arith .add (.t 33) (oI 1)), oM 5 34])))

def t133k0 : DCode :=
 (.seq (.region [oM 54 0, oM 55 3, oW 56 (.sliceSl 2 (.t 54) (some (.t 55)) none), oZ (.clear 2 (.agg [(.int .i64 0), (.int .i64 0)]) (.t 56))])
 (.seq (.region [oM 57 0, oM 58 3, oW 59 (.sliceSl 2 (.t 57) none (some (.t 58))), oM 2 59])
 .ret))

def t133k1 : DCode :=
 (.region [oM 14 3, oW 15 (.arith .add (.t 14) (oI 1)), oM 3 15])

def t133l1 : DCode :=
 (.seq (.seq (.region [oM 10 3, oM 11 0, oW 12 (.len 1 (.t 11)), oW 13 (.arith .lss (.t 10) (.t 12))])
 (.cond (.t 13) .skip (.exit 0)))
 (.seq (.block 1 (.seq (.draw [oRM 16 0, oRM 17 3, oR 18 (.indexAddr 2 (.t 16) (.t 17)), oRL 19 2 18, oRM 20 0, oRM 21 3, oR 22 (.arith .sub (.t 21) (oI 1)), oR 23 (.indexAddr 2 (.t 20) (.t 22)), oRL 24 2 23, oR 25 (.eqa false [1, 1] (.t 19) (.t 24))])
 (.cond (.t 25) (.seq (.region [oM 26 0, oM 27 3, oW 28 (.sliceSl 2 (.t 26) (some (.t 27)) none), oM 4 28])
 (.seq (.seq (.region [oW 5 (.move (oI 1))])
 (.block 2 (.loop t133l0)))
 t133k0)) .skip)))
 t133k1))

def t133k2 : DCode :=
 (.seq (.region [oM 60 0, oM 2 60])
 .ret)

/-- slices.Compact[[][2]int,[2]int] -/
def t133 : DFunc := { ntmps := 61, results := [(.t 2)], mode := .full, body :=
 (.seq (.region [oW 2 (.move (.c .nsl))])
 (.seq (.seq (.region [oM 6 0, oW 7 (.len 1 (.t 6)), oW 8 (.arith .lss (.t 7) (oI 2))])
 (.cond (.t 8) (.seq (.region [oM 9 0, oM 2 9])
 .ret) .skip))
 (.seq (.seq (.region [oW 3 (.move (oI 1))])
 (.block 0 (.loop t133l1)))
 t133k2))) }

theorem c133 : compFunc Tryz.prog Tryz.f133 .full = some t133 := by kernel_rfl

def t134l0 : DCode :=
 (.seq (.region [oW 11 (.arith .lss (.t 10) (.t 9))])
 (.seq (.cond (.t 11) .skip (.exit 0))
 (.seq (.block 1 (.seq (.region [oM 12 10, oW 13 (.indexAddr 2 (.t 8) (.t 10)), oL 14 2 13, oW 5 (.alloc 90 2 (.agg [(.int .i64 0), (.int .i64 0)])), oM 4 12, oS 2 5 14])
 (.seq (.seq (.region [oL 15 2 1, oL 16 2 5, oW 17 (.call (oF 129) [(.t 15), (.t 16)]), oW 18 (.un .not (.t 17)), oM 19 18, ⟨(some 20), .move (.t 3), (some (19, false)), .write, 0, false⟩, ⟨(some 21), .load (some 2) (.t 5), (some (19, false)), .write, 0, false⟩, ⟨(some 22), .call (oF 221) [(.t 21)], (some (19, false)), .write, 0, false⟩, ⟨(some 23), .lookup (.agg [1, 1]) (.bool false) false (.t 20) (.t 22), (some (19, false)), .write, 0, false⟩, oW 24 (.pick (.t 19) (oB true) (.t 23))])
 (.cond (.t 24) (.seq (.region [oM 25 4, oW 26 (.makeIface 57 (oI 2)), oW 27 (.call (oF 64) [(.c (.str [103, 114, 97, 112, 104])), (.t 25), (.t 26)]), oM 2 27])
 .ret) .skip))
 (.region [oM 28 3, oL 29 2 5, oW 30 (.call (oF 221) [(.t 29)]), oZ (.mapUpdate (.agg [1, 1]) (.t 28) (.t 30) (oB true))]))))
 (.region [oW 31 (.arith .add (.t 10) (oI 1)), oM 10 31]))))

def t134k0 : DCode :=
 (.seq (.seq (.draw [oRA 32 0 1, oRD 33 32, oR 34 (.arith .lss (.t 33) (oI 1)), oRM 35 34, ⟨(some 36), .fieldAddr 0 (.t 1), (some (35, false)), .read, 0, false⟩, ⟨(some 37), .load none (.t 36), (some (35, false)), .read, 0, false⟩, ⟨(some 38), .arith .gtr (.t 37) (oI 64), (some (35, false)), .read, 0, false⟩, oR 39 (.pick (.t 35) (oB true) (.t 38)), oRM 40 39, ⟨(some 41), .fieldAddr 1 (.t 1), (some (40, false)), .read, 0, false⟩, ⟨(some 42), .load none (.t 41), (some (40, false)), .read, 0, false⟩, ⟨(some 43), .len 1 (.t 42), (some (40, false)), .read, 0, false⟩, ⟨(some 44), .arith .gtr (.t 43) (oI 200), (some (40, false)), .read, 0, false⟩, oR 45 (.pick (.t 40) (oB true) (.t 44)), oRM 46 45, ⟨(some 47), .load (some 2) (.t 1), (some (46, false)), .read, 0, false⟩, ⟨(some 48), .call (oF 222) [(.t 47), (oI 0)], (some (46, false)), .create, 0, false⟩, ⟨(some 49), .len 2 (.t 48), (some (46, false)), .read, 1, false⟩, ⟨(some 50), .fieldAddr 0 (.t 1), (some (46, false)), .read, 0, false⟩, ⟨(some 51), .load none (.t 50), (some (46, false)), .read, 0, false⟩, ⟨(some 52), .arith .neq (.t 49) (.t 51), (some (46, false)), .read, 1, false⟩, ⟨(some 53), .pick (.t 46) (oB true) (.t 52), none, .read, 1, false⟩])
 (.cond (.t 53) (.seq (.region [oW 54 (.makeIface 57 (oI 2)), oW 55 (.call (oF 64) [(.c (.str [103, 114, 97, 112, 104])), (oI (-1)), (.t 54)]), oM 2 55])
 .ret) .skip))
 (.seq (.region [oW 2 (.move (.c .nili))])
 .ret))

/-- broadside/graph.Check -/
def t134 : DFunc := { ntmps := 56, results := [(.t 2)], mode := .full, body :=
 (.seq (.region [oW 1 (.box 79 2 (.t 0)), oW 2 (.move (.c .nili))])
 (.seq (.region [oW 6 (.makeMap), oM 3 6])
 (.seq (.seq (.region [oA 7 1 1, oD 8 7, oW 9 (.len 1 (.t 8)), oW 10 (.move (oI 0))])
 (.block 0 (.loop t134l0)))
 t134k0))) }

theorem c134 : compFunc Tryz.prog Tryz.f134 .full = some t134 := by kernel_rfl

/-- broadside/net.copied -/
def t135 : DFunc := { ntmps := 8, results := [(.cell 2 (some 2))], mode := .full, body :=
 (.seq (.region [oW 1 (.box 79 2 (.t 0)), oW 2 (.alloc 79 2 (.agg [(.int .i64 0), .nsl]))])
 (.seq (.region [oA 3 1 1, oD 4 3, oW 5 (.call (oF 223) [(.t 4)]), oA 6 1 1, oS 1 6 5])
 (.seq (.region [oL 7 2 1, oS 2 2 7])
 .ret))) }

theorem c135 : compFunc Tryz.prog Tryz.f135 .full = some t135 := by kernel_rfl

/-- broadside/queue.New -/
def t136 : DFunc := { ntmps := 8, results := [(.t 2)], mode := .full, body :=
 (.seq (.region [oW 1 (.box 79 2 (.t 0)), oW 2 (.move (.c .nilp))])
 (.seq (.region [oL 3 2 1, oW 4 (.call (oF 42) [(.t 3)]), oW 5 (.makeMap), oW 6 (.build [.nsl, .nmap] [(0, 1, (.t 4)), (1, 1, (.t 5))]), oW 7 (.box 316 2 (.t 6)), oM 2 7])
 .ret)) }

theorem c136 : compFunc Tryz.prog Tryz.f136 .full = some t136 := by kernel_rfl

def t137l0 : DCode :=
 (.seq (.region [oW 12 (.arith .lss (.t 11) (.t 10))])
 (.seq (.cond (.t 12) .skip (.exit 0))
 (.seq (.block 1 (.seq (.region [oW 13 (.indexAddr 2 (.t 9) (.t 11)), oL 14 2 13, oW 7 (.alloc 90 2 (.agg [(.int .i64 0), (.int .i64 0)])), oS 2 7 14])
 (.block 2 (.seq (.region [oL 16 2 2, oL 17 2 7, oW 18 (.call (oF 129) [(.t 16), (.t 17)]), oW 19 (.un .not (.t 18)), oM 15 19])
 (.cond (.t 15) .skip (.seq (.region [oW 21 (.indexArr 2 1 (.t 7) (oI 0)), oD 22 21, oM 23 1, oW 24 (.arith .eql (.t 22) (.t 23)), oM 20 24])
 (.cond (.t 20) (.region [oM 25 5, oW 26 (.indexArr 2 1 (.t 7) (oI 1)), oD 27 26, oW 28 (.buildSlice 3 1 (.int .i64 0) 1 [(0, (.t 27))]), oW 29 (.append 3 1 8 (.t 25) (.t 28)), oM 5 29]) (.seq (.region [oW 31 (.indexArr 2 1 (.t 7) (oI 1)), oD 32 31, oM 33 1, oW 34 (.arith .eql (.t 32) (.t 33)), oM 30 34])
 (.cond (.t 30) (.region [oM 35 5, oW 36 (.indexArr 2 1 (.t 7) (oI 0)), oD 37 36, oW 38 (.buildSlice 3 1 (.int .i64 0) 1 [(0, (.t 37))]), oW 39 (.append 3 1 8 (.t 35) (.t 38)), oM 5 39]) .skip)))))))))
 (.region [oW 40 (.arith .add (.t 11) (oI 1)), oM 11 40]))))

def t137k0 : DCode :=
 (.seq (.region [oM 41 5, oW 42 (.call (oF 178) [(.t 41)])])
 (.seq (.region [oM 43 5, oW 44 (.call (oF 179) [(.t 43)]), oM 4 44])
 .ret))

/-- broadside/graph.Near -/
def t137 : DFunc := { ntmps := 45, results := [(.t 4)], mode := .full, body :=
 (.seq (.region [oW 2 (.box 79 2 (.t 0)), oW 4 (.move (.c .nsl))])
 (.seq (.region [oW 5 (.move (.c .nsl))])
 (.seq (.seq (.region [oA 8 1 2, oD 9 8, oW 10 (.len 1 (.t 9)), oW 11 (.move (oI 0))])
 (.block 0 (.loop t137l0)))
 t137k0))) }

theorem c137 : compFunc Tryz.prog Tryz.f137 .full = some t137 := by kernel_rfl

def t142l0 : DCode :=
 (.seq (.region [oW 12 (.arith .lss (.t 11) (.t 10))])
 (.seq (.cond (.t 12) .skip (.exit 0))
 (.seq (.block 1 (.seq (.region [oW 13 (.indexAddr 2 (.t 9) (.t 11)), oL 14 2 13, oW 5 (.alloc 90 2 (.agg [(.int .i64 0), (.int .i64 0)])), oS 2 5 14])
 (.seq (.draw [oRM 15 0, oR 16 (.nilCheck (.t 15)), oRA 17 1 16, oRD 18 17, oRL 19 2 5, oR 20 (.lookup (.agg [1, 1]) .nsl false (.t 18) (.t 19)), oR 21 (.len 1 (.t 20)), oR 22 (.arith .gtr (.t 21) (oI 0))])
 (.cond (.t 22) (.region [oM 23 3, oL 24 2 5, oW 25 (.buildSlice 90 2 (.agg [(.int .i64 0), (.int .i64 0)]) 1 [(0, (.t 24))]), oW 26 (.append 90 2 16 (.t 23) (.t 25)), oM 3 26]) .skip))))
 (.region [oW 27 (.arith .add (.t 11) (oI 1)), oM 11 27]))))

def t142k0 : DCode :=
 (.seq (.region [oM 28 3, oM 2 28])
 .ret)

/-- (*broadside/queue.Queues).Busy -/
def t142 : DFunc := { ntmps := 29, results := [(.t 2)], mode := .full, body :=
 (.seq (.region [oW 2 (.move (.c .nsl))])
 (.seq (.region [oW 3 (.move (.c .nsl))])
 (.seq (.seq (.region [oM 6 0, oW 7 (.nilCheck (.t 6)), oA 8 0 7, oD 9 8, oW 10 (.len 1 (.t 9)), oW 11 (.move (oI 0))])
 (.block 0 (.loop t142l0)))
 t142k0))) }

theorem c142 : compFunc Tryz.prog Tryz.f142 .full = some t142 := by kernel_rfl

/-- broadside/adverts.place -/
def t146 : DFunc := { ntmps := 12, results := [(.t 4), (.t 5)], mode := .full, body :=
 (.seq (.region [oW 2 (.box 37 6 (.t 0)), oW 3 (.box 45 2 (.t 1)), oW 4 (.move (oI 0)), oW 5 (.move (oB false))])
 (.seq (.region [oA 6 2 2, oD 7 6, oL 8 2 3, oW 9 (.call (oF 228) [(.t 7), (.t 8), (oF 229)]), oX 10 9 0, oX 11 9 1, oM 4 10, oM 5 11])
 .ret)) }

theorem c146 : compFunc Tryz.prog Tryz.f146 .full = some t146 := by kernel_rfl

/-- (*broadside/net.Net).there -/
def t147 : DFunc := { ntmps := 16, results := [(.t 4)], mode := .full, body :=
 (.seq (.region [oW 4 (.move (oB false))])
 (.seq (.region [oM 5 1, oW 6 (.arith .geq (.t 5) (oI 0)), oM 7 6, ⟨(some 8), .move (.t 1), (some (7, true)), .write, 0, false⟩, ⟨(some 9), .move (.t 0), (some (7, true)), .write, 0, false⟩, ⟨(some 10), .nilCheck (.t 9), (some (7, true)), .write, 0, false⟩, ⟨(some 11), .fieldAddr 2 (.t 10), (some (7, true)), .write, 0, false⟩, ⟨(some 12), .load none (.t 11), (some (7, true)), .write, 0, false⟩, ⟨(some 13), .len 1 (.t 12), (some (7, true)), .write, 0, false⟩, ⟨(some 14), .arith .lss (.t 8) (.t 13), (some (7, true)), .write, 0, false⟩, oW 15 (.pick (.t 7) (.t 14) (oB false)), oM 4 15])
 .ret)) }

theorem c147 : compFunc Tryz.prog Tryz.f147 .full = some t147 := by kernel_rfl

def t159w0 : DCode :=
 (.draw [oRM 23 3, oR 24 (.nilCheck (.t 23)), oRA 25 1 24, oRD 26 25, oRL 27 2 4, oRM 28 5, ⟨(some 29), .call (oF 225) [(.t 28)], none, .create, 0, false⟩, ⟨none, .mapUpdate (.agg [1, 1]) (.t 26) (.t 27) (.t 29), none, .write, 1, false⟩])

def t159k0 : DCode :=
 (.seq (.region [oM 30 3, oM 2 30])
 .ret)

/-- (*broadside/queue.Queues).Copy -/
def t159 : DFunc := { ntmps := 31, results := [(.t 2)], mode := .full, body :=
 (.seq (.region [oW 2 (.move (.c .nilp))])
 (.seq (.region [oM 6 0, oW 7 (.nilCheck (.t 6)), oA 8 0 7, oD 9 8, oW 10 (.makeMap), oW 11 (.build [.nsl, .nmap] [(0, 1, (.t 9)), (1, 1, (.t 10))]), oW 12 (.box 316 2 (.t 11)), oM 3 12])
 (.seq (.seq (.region [oM 13 0, oW 14 (.nilCheck (.t 13)), oA 15 1 14, oD 16 15])
 (.walk (.t 16) 17 18 19 20 0 1 [17, 18, 19, 20, 29, 28, 27, 26, 25, 24, 23, 5, 4, 22, 21, 20] [oX 21 20 0, oX 22 20 1, oW 4 (.alloc 90 2 (.agg [(.int .i64 0), (.int .i64 0)])), oS 2 4 21, oM 5 22] t159w0))
 t159k0))) }

theorem c159 : compFunc Tryz.prog Tryz.f159 .full = some t159 := by kernel_rfl

/-- slices.Sort[[]int,int] -/
def t178 : DFunc := { ntmps := 11, results := [], mode := .full, body :=
 (.seq (.region [oM 3 0, oW 4 (.len 1 (.t 3)), oM 2 4])
 (.region [oM 5 0, oM 6 2, oM 7 2, oW 8 (.conv .u64 (.t 7)), oW 9 (.call (oF 219) [(.t 8)]), oW 10 (.call (oF 244) [(.t 5), (oI 0), (.t 6), (.t 9)])])) }

theorem c178 : compFunc Tryz.prog Tryz.f178 .full = some t178 := by kernel_rfl

def t179l0 : DCode :=
 (.seq (.seq (.region [oM 29 5, oM 30 4, oW 31 (.len 1 (.t 30)), oW 32 (.arith .lss (.t 29) (.t 31))])
 (.cond (.t 32) .skip (.exit 2)))
 (.seq (.block 3 (.seq (.draw [oRM 35 4, oRM 36 5, oR 37 (.indexAddr 1 (.t 35) (.t 36)), oRD 38 37, oRM 39 4, oRM 40 5, oR 41 (.arith .sub (.t 40) (oI 1)), oR 42 (.indexAddr 1 (.t 39) (.t 41)), oRD 43 42, oR 44 (.arith .neq (.t 38) (.t 43))])
 (.cond (.t 44) (.seq (.region [oM 45 0, oM 46 3, oM 47 4, oM 48 5, oW 49 (.indexAddr 1 (.t 47) (.t 48)), oD 50 49, oW 51 (.indexAddr 1 (.t 45) (.t 46)), oS 1 51 50])
 (.region [oM 52 3, oW 53 (.arith .add (.t 52) (oI 1)), oM 3 53])) .skip)))
 (.region [oM 33 5, oW 34 (.arith .add (.t 33) (oI 1)), oM 5 34])))

def t179k0 : DCode :=
 (.seq (.region [oM 54 0, oM 55 3, oW 56 (.sliceSl 1 (.t 54) (some (.t 55)) none), oZ (.clear 1 (.int .i64 0) (.t 56))])
 (.seq (.region [oM 57 0, oM 58 3, oW 59 (.sliceSl 1 (.t 57) none (some (.t 58))), oM 2 59])
 .ret))

def t179k1 : DCode :=
 (.region [oM 14 3, oW 15 (.arith .add (.t 14) (oI 1)), oM 3 15])

def t179l1 : DCode :=
 (.seq (.seq (.region [oM 10 3, oM 11 0, oW 12 (.len 1 (.t 11)), oW 13 (.arith .lss (.t 10) (.t 12))])
 (.cond (.t 13) .skip (.exit 0)))
 (.seq (.block 1 (.seq (.draw [oRM 16 0, oRM 17 3, oR 18 (.indexAddr 1 (.t 16) (.t 17)), oRD 19 18, oRM 20 0, oRM 21 3, oR 22 (.arith .sub (.t 21) (oI 1)), oR 23 (.indexAddr 1 (.t 20) (.t 22)), oRD 24 23, oR 25 (.arith .eql (.t 19) (.t 24))])
 (.cond (.t 25) (.seq (.region [oM 26 0, oM 27 3, oW 28 (.sliceSl 1 (.t 26) (some (.t 27)) none), oM 4 28])
 (.seq (.seq (.region [oW 5 (.move (oI 1))])
 (.block 2 (.loop t179l0)))
 t179k0)) .skip)))
 t179k1))

def t179k2 : DCode :=
 (.seq (.region [oM 60 0, oM 2 60])
 .ret)

/-- slices.Compact[[]int,int] -/
def t179 : DFunc := { ntmps := 61, results := [(.t 2)], mode := .full, body :=
 (.seq (.region [oW 2 (.move (.c .nsl))])
 (.seq (.seq (.region [oM 6 0, oW 7 (.len 1 (.t 6)), oW 8 (.arith .lss (.t 7) (oI 2))])
 (.cond (.t 8) (.seq (.region [oM 9 0, oM 2 9])
 .ret) .skip))
 (.seq (.seq (.region [oW 3 (.move (oI 1))])
 (.block 0 (.loop t179l1)))
 t179k2))) }

theorem c179 : compFunc Tryz.prog Tryz.f179 .full = some t179 := by kernel_rfl

def t198l0 : DCode :=
 (.seq (.region [oW 9 (.arith .lss (.t 8) (.t 7))])
 (.seq (.cond (.t 9) .skip (.exit 0))
 (.seq (.block 1 (.seq (.region [oM 10 8, oM 5 10])
 (.seq (.region [oM 11 1, oM 12 0, oM 13 5, oW 14 (.indexAddr 4 (.t 12) (.t 13)), oL 15 4 14, oW 16 (.call (.t 11) [(.t 15)])])
 (.cond (.t 16) (.seq (.region [oM 17 5, oM 4 17])
 .ret) .skip))))
 (.region [oW 18 (.arith .add (.t 8) (oI 1)), oM 8 18]))))

def t198k0 : DCode :=
 (.seq (.region [oW 4 (.move (oI (-1)))])
 .ret)

/-- slices.IndexFunc[[]broadside/api.Advert,broadside/api.Advert] -/
def t198 : DFunc := { ntmps := 19, results := [(.t 4)], mode := .full, body :=
 (.seq (.region [oW 4 (.move (oI 0))])
 (.seq (.seq (.region [oM 6 0, oW 7 (.len 1 (.t 6)), oW 8 (.move (oI 0))])
 (.block 0 (.loop t198l0)))
 t198k0)) }

theorem c198 : compFunc Tryz.prog Tryz.f198 .full = some t198 := by kernel_rfl

/-- broadside/adverts.seen -/
def t199 : DFunc := { ntmps := 12, results := [(.t 4), (.t 5)], mode := .full, body :=
 (.seq (.region [oW 2 (.box 37 6 (.t 0)), oW 3 (.box 45 2 (.t 1)), oW 4 (.move (oI 0)), oW 5 (.move (oB false))])
 (.seq (.region [oA 6 3 2, oD 7 6, oL 8 2 3, oW 9 (.call (oF 261) [(.t 7), (.t 8), (oF 107)]), oX 10 9 0, oX 11 9 1, oM 4 10, oM 5 11])
 .ret)) }

theorem c199 : compFunc Tryz.prog Tryz.f199 .full = some t199 := by kernel_rfl

/-- slices.Contains[[]int,int] -/
def t200 : DFunc := { ntmps := 9, results := [(.t 4)], mode := .full, body :=
 (.seq (.region [oW 4 (.move (oB false))])
 (.seq (.region [oM 5 0, oM 6 1, oW 7 (.call (oF 262) [(.t 5), (.t 6)]), oW 8 (.arith .geq (.t 7) (oI 0)), oM 4 8])
 .ret)) }

theorem c200 : compFunc Tryz.prog Tryz.f200 .full = some t200 := by kernel_rfl

/-- broadside/pred.RightOne -/
def t201 : DFunc := { ntmps := 43, results := [(.t 2)], mode := .full, body :=
 (.seq (.region [oW 1 (.box 119 5 (.t 0)), oW 2 (.move (oB false))])
 (.seq (.seq (.region [oA 3 0 1, oD 4 3, oW 5 (.call (oF 237) [(.t 4)]), oW 6 (.un .not (.t 5))])
 (.cond (.t 6) (.seq (.region [oW 2 (.move (oB false))])
 .ret) .skip))
 (.seq (.seq (.region [oA 7 1 1, oD 8 7])
 (.block 0 (.seq (.block 3 (.seq (.block 2 (.seq (.block 1 (.seq (.seq (.seq (.region [oW 10 (.arith .eql (.t 8) (oI 1)), oM 9 10])
 (.cond (.t 9) (.exit 1) .skip))
 (.seq (.seq (.region [oW 12 (.arith .eql (.t 8) (oI 3)), oM 11 12])
 (.cond (.t 11) (.exit 2) .skip))
 (.seq (.region [oW 14 (.arith .eql (.t 8) (oI 2)), oM 13 14])
 (.cond (.t 13) (.exit 3) .skip))))
 (.exit 0)))
 (.seq (.seq (.region [oA 15 2 1, oD 16 15, oA 17 3 1, oD 18 17, oW 19 (.arith .leq (.t 16) (.t 18)), oM 20 19, ⟨(some 21), .fieldAddr 4 (.t 1), (some (20, true)), .write, 0, false⟩, ⟨(some 22), .load none (.t 21), (some (20, true)), .write, 0, false⟩, ⟨(some 23), .arith .eql (.t 22) (.c (.str [])), (some (20, true)), .write, 0, false⟩, oW 24 (.pick (.t 20) (.t 23) (oB false)), oM 2 24])
 .ret)
 (.exit 0))))
 (.seq (.region [oA 25 4 1, oD 26 25, oW 27 (.len 0 (.t 26)), oW 28 (.arith .eql (.t 27) (oI 12))])
 (.cond (.t 28) (.seq (.region [oW 2 (.move (oB false))])
 .ret) .skip))))
 (.seq (.seq (.region [oA 29 2 1, oD 30 29, oW 31 (.arith .eql (.t 30) (oI 0)), oM 32 31, ⟨(some 33), .fieldAddr 3 (.t 1), (some (32, true)), .write, 0, false⟩, ⟨(some 34), .load none (.t 33), (some (32, true)), .write, 0, false⟩, ⟨(some 35), .arith .eql (.t 34) (oI 0), (some (32, true)), .write, 0, false⟩, oW 36 (.pick (.t 32) (.t 35) (oB false)), oM 37 36, ⟨(some 38), .fieldAddr 4 (.t 1), (some (37, true)), .write, 0, false⟩, ⟨(some 39), .load none (.t 38), (some (37, true)), .write, 0, false⟩, ⟨(some 40), .len 0 (.t 39), (some (37, true)), .write, 0, false⟩, ⟨(some 41), .arith .leq (.t 40) (oI 12), (some (37, true)), .write, 0, false⟩, oW 42 (.pick (.t 37) (.t 41) (oB false)), oM 2 42])
 .ret)
 (.exit 0)))))
 (.seq (.region [oW 2 (.move (oB false))])
 .ret)))) }

theorem c201 : compFunc Tryz.prog Tryz.f201 .full = some t201 := by kernel_rfl

def t202l0 : DCode :=
 (.seq (.region [oW 9 (.arith .lss (.t 8) (.t 7))])
 (.seq (.cond (.t 9) .skip (.exit 0))
 (.seq (.block 1 (.seq (.region [oM 10 8, oM 5 10])
 (.seq (.region [oM 11 1, oM 12 0, oM 13 5, oW 14 (.indexAddr 7 (.t 12) (.t 13)), oL 15 7 14, oW 16 (.call (.t 11) [(.t 15)])])
 (.cond (.t 16) (.seq (.region [oM 17 5, oM 4 17])
 .ret) .skip))))
 (.region [oW 18 (.arith .add (.t 8) (oI 1)), oM 8 18]))))

def t202k0 : DCode :=
 (.seq (.region [oW 4 (.move (oI (-1)))])
 .ret)

/-- slices.IndexFunc[[]broadside/api.Entry,broadside/api.Entry] -/
def t202 : DFunc := { ntmps := 19, results := [(.t 4)], mode := .full, body :=
 (.seq (.region [oW 4 (.move (oI 0))])
 (.seq (.seq (.region [oM 6 0, oW 7 (.len 1 (.t 6)), oW 8 (.move (oI 0))])
 (.block 0 (.loop t202l0)))
 t202k0)) }

theorem c202 : compFunc Tryz.prog Tryz.f202 .full = some t202 := by kernel_rfl

def t203l0 : DCode :=
 (.seq (.region [oW 9 (.arith .lss (.t 8) (.t 7))])
 (.seq (.cond (.t 9) .skip (.exit 0))
 (.seq (.block 1 (.seq (.region [oM 10 8, oM 5 10])
 (.seq (.region [oM 11 1, oM 12 0, oM 13 5, oW 14 (.indexAddr 3 (.t 12) (.t 13)), oL 15 3 14, oW 16 (.call (.t 11) [(.t 15)])])
 (.cond (.t 16) (.seq (.region [oM 17 5, oM 4 17])
 .ret) .skip))))
 (.region [oW 18 (.arith .add (.t 8) (oI 1)), oM 8 18]))))

def t203k0 : DCode :=
 (.seq (.region [oW 4 (.move (oI (-1)))])
 .ret)

/-- slices.IndexFunc[[]broadside/api.Own,broadside/api.Own] -/
def t203 : DFunc := { ntmps := 19, results := [(.t 4)], mode := .full, body :=
 (.seq (.region [oW 4 (.move (oI 0))])
 (.seq (.seq (.region [oM 6 0, oW 7 (.len 1 (.t 6)), oW 8 (.move (oI 0))])
 (.block 0 (.loop t203l0)))
 t203k0)) }

theorem c203 : compFunc Tryz.prog Tryz.f203 .full = some t203 := by kernel_rfl

def t204l0 : DCode :=
 (.seq (.region [oW 12 (.arith .lss (.t 11) (.t 10))])
 (.seq (.cond (.t 12) .skip (.exit 0))
 (.seq (.block 1 (.seq (.region [oW 13 (.indexAddr 7 (.t 9) (.t 11)), oL 14 7 13, oW 7 (.alloc 88 7 (.agg [(.int .i64 0), (.int .i64 0), (.int .i64 0), (.int .i64 0), .nsl, (.int .i64 0), (.bool false)])), oS 7 7 14])
 (.seq (.region [oA 15 0 7, oL 16 2 15, oL 17 2 3, oW 18 (.eqa false [1, 1] (.t 16) (.t 17))])
 (.cond (.t 18) (.region [oM 19 5, oL 20 7 7, oW 21 (.buildSlice 88 7 (.agg [(.int .i64 0), (.int .i64 0), (.int .i64 0), (.int .i64 0), .nsl, (.int .i64 0), (.bool false)]) 1 [(0, (.t 20))]), oW 22 (.append 88 7 72 (.t 19) (.t 21)), oM 5 22]) .skip))))
 (.region [oW 23 (.arith .add (.t 11) (oI 1)), oM 11 23]))))

def t204k0 : DCode :=
 (.seq (.region [oM 24 5, oM 4 24])
 .ret)

/-- broadside/subs.Of -/
def t204 : DFunc := { ntmps := 25, results := [(.t 4)], mode := .full, body :=
 (.seq (.region [oW 2 (.box 37 6 (.t 0)), oW 3 (.box 45 2 (.t 1)), oW 4 (.move (.c .nsl))])
 (.seq (.region [oW 5 (.move (.c .nsl))])
 (.seq (.seq (.region [oA 8 4 2, oD 9 8, oW 10 (.len 1 (.t 9)), oW 11 (.move (oI 0))])
 (.block 0 (.loop t204l0)))
 t204k0))) }

theorem c204 : compFunc Tryz.prog Tryz.f204 .full = some t204 := by kernel_rfl

/-- broadside/subs.Covered$1 -/
def t205 : DFunc := { ntmps := 12, results := [(.t 3)], mode := .full, body :=
 (.seq (.region [oW 2 (.box 88 7 (.t 0)), oW 3 (.move (oB false))])
 (.seq (.region [oA 4 6 2, oD 5 4, oM 6 5, ⟨(some 7), .fieldAddr 4 (.t 2), (some (6, true)), .write, 0, false⟩, ⟨(some 8), .load none (.t 7), (some (6, true)), .write, 0, false⟩, ⟨(some 9), .load none (.t 1), (some (6, true)), .write, 0, false⟩, ⟨(some 10), .call (oF 206) [(.t 8), (.t 9)], (some (6, true)), .write, 0, false⟩, oW 11 (.pick (.t 6) (.t 10) (oB false)), oM 3 11])
 .ret)) }

theorem c205 : compFunc Tryz.prog Tryz.f205 .full = some t205 := by kernel_rfl

def t206l0 : DCode :=
 (.seq (.region [oW 16 (.arith .lss (.t 15) (.t 14))])
 (.seq (.cond (.t 16) .skip (.exit 0))
 (.seq (.block 1 (.seq (.region [oW 17 (.indexAddr 5 (.t 13) (.t 15)), oL 18 5 17, oW 7 (.alloc 119 5 (.agg [(.str []), (.int .i64 0), (.int .i64 0), (.int .i64 0), (.str [])])), oS 5 7 18])
 (.region [oM 19 5, oA 20 0 7, oD 21 20, oL 22 5 7, oZ (.mapUpdate (.prim 2) (.t 19) (.t 21) (.t 22))])))
 (.region [oW 23 (.arith .add (.t 15) (oI 1)), oM 15 23]))))

def t206l1 : DCode :=
 (.seq (.region [oW 27 (.arith .lss (.t 26) (.t 25))])
 (.seq (.cond (.t 27) .skip (.exit 2))
 (.seq (.block 3 (.seq (.region [oW 28 (.indexAddr 5 (.t 24) (.t 26)), oL 29 5 28, oW 9 (.alloc 119 5 (.agg [(.str []), (.int .i64 0), (.int .i64 0), (.int .i64 0), (.str [])])), oS 5 9 29])
 (.seq (.region [oM 31 5, oA 32 0 9, oD 33 32, oW 34 (.lookup (.prim 2) (.agg [(.str []), (.int .i64 0), (.int .i64 0), (.int .i64 0), (.str [])]) true (.t 31) (.t 33)), oM 30 34, oX 35 30 0, oX 36 30 1, oW 10 (.alloc 119 5 (.agg [(.str []), (.int .i64 0), (.int .i64 0), (.int .i64 0), (.str [])])), oS 5 10 35, oM 11 36])
 (.seq (.region [oM 37 11, oW 38 (.un .not (.t 37)), oM 39 38, ⟨(some 40), .load (some 5) (.t 9), (some (39, false)), .write, 0, false⟩, ⟨(some 41), .load (some 5) (.t 10), (some (39, false)), .write, 0, false⟩, ⟨(some 42), .call (oF 263) [(.t 40), (.t 41)], (some (39, false)), .write, 0, false⟩, ⟨(some 43), .un .not (.t 42), (some (39, false)), .write, 0, false⟩, oW 44 (.pick (.t 39) (oB true) (.t 43))])
 (.cond (.t 44) (.seq (.region [oW 4 (.move (oB false))])
 .ret) .skip)))))
 (.region [oW 45 (.arith .add (.t 26) (oI 1)), oM 26 45]))))

def t206k0 : DCode :=
 (.seq (.region [oW 4 (.move (oB true))])
 .ret)

def t206k1 : DCode :=
 (.seq (.seq (.region [oM 24 0, oW 25 (.len 1 (.t 24)), oW 26 (.move (oI 0))])
 (.block 2 (.loop t206l1)))
 t206k0)

/-- broadside/rel.Covers -/
def t206 : DFunc := { ntmps := 46, results := [(.t 4)], mode := .full, body :=
 (.seq (.region [oW 4 (.move (oB false))])
 (.seq (.region [oW 12 (.makeMap), oM 5 12])
 (.seq (.seq (.region [oM 13 1, oW 14 (.len 1 (.t 13)), oW 15 (.move (oI 0))])
 (.block 0 (.loop t206l0)))
 t206k1))) }

theorem c206 : compFunc Tryz.prog Tryz.f206 .full = some t206 := by kernel_rfl

/-- broadside/audit.live -/
def t207 : DFunc := { ntmps := 20, results := [(.cell 4 (some 4)), (.t 5)], mode := .full, body :=
 (.seq (.region [oW 3 (.box 45 2 (.t 1)), oW 4 (.alloc 86 4 (.agg [(.int .i64 0), (.int .i64 0), .nsl, (.int .i64 0)])), oW 5 (.move (oB false))])
 (.seq (.region [oM 8 0, oW 9 (.call (oF 123) [(.t 8)]), oM 6 9])
 (.seq (.region [oM 10 6, oW 11 (.makeFunc 264 [(.t 3)]), oW 12 (.call (oF 198) [(.t 10), (.t 11)]), oM 7 12])
 (.seq (.seq (.region [oM 13 7, oW 14 (.arith .lss (.t 13) (oI 0))])
 (.cond (.t 14) (.seq (.region [oW 15 (.build [(.int .i64 0), (.int .i64 0), .nsl, (.int .i64 0)] []), oS 4 4 15, oW 5 (.move (oB false))])
 .ret) .skip))
 (.seq (.region [oM 16 6, oM 17 7, oW 18 (.indexAddr 4 (.t 16) (.t 17)), oL 19 4 18, oS 4 4 19, oW 5 (.move (oB true))])
 .ret))))) }

theorem c207 : compFunc Tryz.prog Tryz.f207 .full = some t207 := by kernel_rfl

/-- broadside/graph.broker -/
def t217 : DFunc := { ntmps := 13, results := [(.t 4)], mode := .full, body :=
 (.seq (.region [oW 2 (.box 79 2 (.t 0)), oW 4 (.move (oB false))])
 (.seq (.region [oM 5 1, oW 6 (.arith .geq (.t 5) (oI 0)), oM 7 6, ⟨(some 8), .move (.t 1), (some (7, true)), .write, 0, false⟩, ⟨(some 9), .fieldAddr 0 (.t 2), (some (7, true)), .write, 0, false⟩, ⟨(some 10), .load none (.t 9), (some (7, true)), .write, 0, false⟩, ⟨(some 11), .arith .lss (.t 8) (.t 10), (some (7, true)), .write, 0, false⟩, oW 12 (.pick (.t 7) (.t 11) (oB false)), oM 4 12])
 .ret)) }

theorem c217 : compFunc Tryz.prog Tryz.f217 .full = some t217 := by kernel_rfl

end Go.Dm.Tr5
