/-
The table of functions, brought into the machine's form (Tr7, part 1). Written by program (wip/tools/table3.lean.txt).
-/
import Derived.Test.YtloabemenciijaaGreatDoorMm4
import Derived.Test.YtloabemenciijaaGreatDoorRows
import Derived.KernelRfl
namespace Go.Dm.Tr7
open Go.Proofs

/-- broadside/subs.Covered -/
def t118 : DFunc := { ntmps := 12, results := [(.t 6)], mode := .full, body :=
 (.seq (.region [oW 3 (.box 37 6 (.t 0)), oW 4 (.box 45 2 (.t 1)), oW 5 (.box 46 1 (.t 2)), oW 6 (.move (oB false))])
 (.seq (.region [oL 7 6 3, oL 8 2 4, oW 9 (.call (oF 204) [(.t 7), (.t 8)]), oW 10 (.makeFunc 205 [(.t 5)]), oW 11 (.call (oF 113) [(.t 9), (.t 10)]), oM 6 11])
 .ret)) }

theorem c118 : compFunc Tryz.prog Tryz.f118 .full = some t118 := by kernel_rfl

/-- broadside/inbox.New -/
def t119 : DFunc := { ntmps := 4, results := [(.t 0)], mode := .full, body :=
 (.seq (.region [oW 0 (.move (.c .nilp))])
 (.seq (.region [oW 1 (.makeMap), oW 2 (.build [.nmap, .nsl] [(0, 1, (.t 1))]), oW 3 (.box 297 2 (.t 2)), oM 0 3])
 .ret)) }

theorem c119 : compFunc Tryz.prog Tryz.f119 .full = some t119 := by kernel_rfl

/-- (*broadside/world.World).Net -/
def t120 : DFunc := { ntmps := 8, results := [(.t 2)], mode := .full, body :=
 (.seq (.region [oW 2 (.move (.c .nilp))])
 (.seq (.region [oM 3 0, oW 4 (.nilCheck (.t 3)), oA 5 0 4, oD 6 5, oW 7 (.call (oF 58) [(.t 6)]), oM 2 7])
 .ret)) }

theorem c120 : compFunc Tryz.prog Tryz.f120 .full = some t120 := by kernel_rfl

/-- (*broadside/net.Net).Graph -/
def t121 : DFunc := { ntmps := 8, results := [(.cell 2 (some 2))], mode := .full, body :=
 (.seq (.region [oW 2 (.alloc 79 2 (.agg [(.int .i64 0), .nsl]))])
 (.seq (.region [oM 3 0, oW 4 (.nilCheck (.t 3)), oA 5 0 4, oL 6 2 5, oW 7 (.call (oF 135) [(.t 6)]), oS 2 2 7])
 .ret)) }

theorem c121 : compFunc Tryz.prog Tryz.f121 .full = some t121 := by kernel_rfl

/-- (*broadside/world.World).do -/
def t125 : DFunc := { ntmps := 38, results := [(.cell 4 (some 7)), (.t 5)], mode := .full, body :=
 (.seq (.region [oW 3 (.box 95 9 (.t 1)), oW 4 (.alloc 92 7 (.agg [(.int .i64 0), (.int .i64 0), (.int .i64 0), (.int .i64 0), (.int .i64 0), (.int .i64 0), .nsl])), oW 5 (.move (.c .nili))])
 (.seq (.seq (.region [oA 6 0 3, oD 7 6])
 (.block 0 (.seq (.region [oW 9 (.arith .eql (.t 7) (oI 1)), oM 8 9])
 (.cond (.t 8) (.seq (.region [oM 10 0, oA 11 4 3, oD 12 11, oW 13 (.call (oF 213) [(.t 10), (.t 12)]), oX 14 13 0, oX 15 13 1, oS 7 4 14, oM 5 15])
 .ret) (.seq (.seq (.region [oW 17 (.arith .eql (.t 7) (oI 8)), oM 16 17])
 (.cond (.t 16) .skip (.region [oW 18 (.arith .eql (.t 7) (oI 9)), oM 16 18])))
 (.cond (.t 16) (.seq (.region [oM 19 0, oL 20 9 3, oW 21 (.call (oF 214) [(.t 19), (.t 20)]), oX 22 21 0, oX 23 21 1, oS 7 4 22, oM 5 23])
 .ret) (.seq (.seq (.region [oW 25 (.arith .eql (.t 7) (oI 2)), oM 24 25])
 (.cond (.t 24) .skip (.seq (.region [oW 26 (.arith .eql (.t 7) (oI 3)), oM 24 26])
 (.cond (.t 24) .skip (.seq (.region [oW 27 (.arith .eql (.t 7) (oI 4)), oM 24 27])
 (.cond (.t 24) .skip (.seq (.region [oW 28 (.arith .eql (.t 7) (oI 5)), oM 24 28])
 (.cond (.t 24) .skip (.seq (.region [oW 29 (.arith .eql (.t 7) (oI 6)), oM 24 29])
 (.cond (.t 24) .skip (.region [oW 30 (.arith .eql (.t 7) (oI 7)), oM 24 30])))))))))))
 (.cond (.t 24) (.seq (.region [oM 31 0, oL 32 9 3, oW 33 (.call (oF 215) [(.t 31), (.t 32)]), oX 34 33 0, oX 35 33 1, oS 7 4 34, oM 5 35])
 .ret) .skip))))))))
 (.seq (.region [oW 36 (.build [(.int .i64 0), (.int .i64 0), (.int .i64 0), (.int .i64 0), (.int .i64 0), (.int .i64 0), .nsl] []), oW 37 (.makeIface 57 (oI 1)), oS 7 4 36, oM 5 37])
 .ret))) }

theorem c125 : compFunc Tryz.prog Tryz.f125 .full = some t125 := by kernel_rfl

/-- broadside/quiet.picked -/
def t126 : DFunc := { ntmps := 30, results := [(.t 6)], mode := .full, body :=
 (.seq (.region [oW 6 (.move (oB false))])
 (.seq (.region [oM 9 0, oW 10 (.call (oF 120) [(.t 9)]), oW 11 (.call (oF 46) [(.t 10)]), oM 7 11])
 (.seq (.seq (.region [oM 12 7, oW 13 (.len 1 (.t 12)), oW 14 (.arith .eql (.t 13) (oI 0))])
 (.cond (.t 14) (.seq (.region [oW 6 (.move (oB false))])
 .ret) .skip))
 (.seq (.region [oM 15 7, oM 16 1, oM 17 2, oM 18 7, oW 19 (.len 1 (.t 18)), oW 20 (.call (oF 216) [(.t 16), (.t 17), (.t 19)]), oW 21 (.indexAddr 2 (.t 15) (.t 20)), oL 22 2 21, oW 8 (.alloc 90 2 (.agg [(.int .i64 0), (.int .i64 0)])), oS 2 8 22])
 (.seq (.region [oM 23 0, oW 24 (.indexArr 2 1 (.t 8) (oI 0)), oD 25 24, oW 26 (.indexArr 2 1 (.t 8) (oI 1)), oD 27 26, oW 28 (.build [(.int .i64 0), (.int .i64 0), (.int .i64 0), (.int .i64 0), (.int .i64 0), (.int .i64 0), .nsl, .nsl, .nsl] [(0, 1, (oI 8)), (4, 1, (.t 25)), (5, 1, (.t 27))]), oW 29 (.call (oF 37) [(.t 23), (.t 28)])])
 (.seq (.region [oW 6 (.move (oB true))])
 .ret)))))) }

theorem c126 : compFunc Tryz.prog Tryz.f126 .full = some t126 := by kernel_rfl

/-- broadside/graph.may -/
def t129 : DFunc := { ntmps := 22, results := [(.t 4)], mode := .full, body :=
 (.seq (.region [oW 2 (.box 79 2 (.t 0)), oW 3 (.box 90 2 (.t 1)), oW 4 (.move (oB false))])
 (.seq (.region [oL 5 2 2, oW 6 (.indexArr 2 1 (.t 3) (oI 0)), oD 7 6, oW 8 (.call (oF 217) [(.t 5), (.t 7)]), oM 9 8, ⟨(some 10), .load (some 2) (.t 2), (some (9, true)), .write, 0, false⟩, ⟨(some 11), .indexArr 2 1 (.t 3) (oI 1), (some (9, true)), .write, 0, false⟩, ⟨(some 12), .load none (.t 11), (some (9, true)), .write, 0, false⟩, ⟨(some 13), .call (oF 217) [(.t 10), (.t 12)], (some (9, true)), .write, 0, false⟩, oW 14 (.pick (.t 9) (.t 13) (oB false)), oM 15 14, ⟨(some 16), .indexArr 2 1 (.t 3) (oI 0), (some (15, true)), .write, 0, false⟩, ⟨(some 17), .load none (.t 16), (some (15, true)), .write, 0, false⟩, ⟨(some 18), .indexArr 2 1 (.t 3) (oI 1), (some (15, true)), .write, 0, false⟩, ⟨(some 19), .load none (.t 18), (some (15, true)), .write, 0, false⟩, ⟨(some 20), .arith .neq (.t 17) (.t 19), (some (15, true)), .write, 0, false⟩, oW 21 (.pick (.t 15) (.t 20) (oB false)), oM 4 21])
 .ret)) }

theorem c129 : compFunc Tryz.prog Tryz.f129 .full = some t129 := by kernel_rfl

/-- slices.SortFunc[[][2]int,[2]int] -/
def t130 : DFunc := { ntmps := 14, results := [], mode := .full, body :=
 (.seq (.region [oM 5 0, oW 6 (.len 1 (.t 5)), oM 4 6])
 (.region [oM 7 0, oM 8 4, oM 9 4, oW 10 (.conv .u64 (.t 9)), oW 11 (.call (oF 219) [(.t 10)]), oM 12 1, oW 13 (.call (oF 218) [(.t 7), (oI 0), (.t 8), (.t 11), (.t 12)])])) }

theorem c130 : compFunc Tryz.prog Tryz.f130 .full = some t130 := by kernel_rfl

/-- broadside/graph.Ways$1 -/
def t131 : DFunc := { ntmps := 17, results := [(.t 4)], mode := .full, body :=
 (.seq (.region [oW 2 (.box 90 2 (.t 0)), oW 3 (.box 90 2 (.t 1)), oW 4 (.move (oI 0))])
 (.seq (.draw [oR 5 (.indexArr 2 1 (.t 2) (oI 0)), oRD 6 5, oR 7 (.indexArr 2 1 (.t 3) (oI 0)), oRD 8 7, ⟨(some 9), .call (oF 132) [(.t 6), (.t 8)], none, .create, 0, false⟩, oR 10 (.indexArr 2 1 (.t 2) (oI 1)), oRD 11 10, oR 12 (.indexArr 2 1 (.t 3) (oI 1)), oRD 13 12, ⟨(some 14), .call (oF 132) [(.t 11), (.t 13)], none, .write, 1, false⟩, ⟨(some 15), .buildSlice 3 1 (.int .i64 0) 2 [(0, (.t 9)), (1, (.t 14))], none, .create, 0, false⟩, ⟨(some 16), .call (oF 106) [(.t 15)], none, .write, 3, false⟩, ⟨(some 4), .move (.t 16), none, .read, 4, false⟩])
 .ret)) }

theorem c131 : compFunc Tryz.prog Tryz.f131 .full = some t131 := by kernel_rfl

/-- cmp.Compare[int] -/
def t132 : DFunc := { ntmps := 20, results := [(.t 4)], mode := .full, body :=
 (.seq (.region [oW 4 (.move (oI 0))])
 (.seq (.region [oM 7 0, oW 8 (.call (oF 220) [(.t 7)]), oM 5 8])
 (.seq (.region [oM 9 1, oW 10 (.call (oF 220) [(.t 9)]), oM 6 10])
 (.seq (.seq (.region [oM 11 5])
 (.cond (.t 11) (.seq (.seq (.region [oM 12 6])
 (.cond (.t 12) (.seq (.region [oW 4 (.move (oI 0))])
 .ret) .skip))
 (.seq (.region [oW 4 (.move (oI (-1)))])
 .ret)) .skip))
 (.seq (.seq (.region [oM 13 6])
 (.cond (.t 13) (.seq (.region [oW 4 (.move (oI 1))])
 .ret) .skip))
 (.seq (.seq (.region [oM 14 0, oM 15 1, oW 16 (.arith .lss (.t 14) (.t 15))])
 (.cond (.t 16) (.seq (.region [oW 4 (.move (oI (-1)))])
 .ret) .skip))
 (.seq (.seq (.region [oM 17 0, oM 18 1, oW 19 (.arith .gtr (.t 17) (.t 18))])
 (.cond (.t 19) (.seq (.region [oW 4 (.move (oI 1))])
 .ret) .skip))
 (.seq (.region [oW 4 (.move (oI 0))])
 .ret)))))))) }

theorem c132 : compFunc Tryz.prog Tryz.f132 .full = some t132 := by kernel_rfl

def t133l0 : DCode :=
 (.seq (.seq (.region [oM 29 5, oM 30 4, oW 31 (.len 1 (.t 30)), oW 32 (.arith .lss (.t 29) (.t 31))])
 (.cond (.t 32) .skip (.exit 2)))
 (.seq (.block 3 (.seq (.draw [oRM 35 4, oRM 36 5, oR 37 (.indexAddr 2 (.t 35) (.t 36)), oRL 38 2 37, oRM 39 4, oRM 40 5, oR 41 (.arith .sub (.t 40) (oI 1)), oR 42 (.indexAddr 2 (.t 39) (.t 41)), oRL 43 2 42, oR 44 (.eqa true [1, 1] (.t 38) (.t 43))])
 (.cond (.t 44) (.seq (.region [oM 45 0, oM 46 3, oM 47 4, oM 48 5, oW 49 (.indexAddr 2 (.t 47) (.t 48)), oL 50 2 49, oW 51 (.indexAddr 2 (.t 45) (.t 46)), oS 2 51 50])
 (.region [oM 52 3, oW 53 (.arith .add (.t 52) (oI 1)), oM 3 53])) .skip)))
 (.region [oM 33 5, oW 34 (.arith .add (.t 33) (oI 1)), oM 5 34])))

def t133k0 : DCode :=
 (.seq (.region [oM 54 0, oM 55 3, oW 56 (.sliceSl 2 (.t 54) (some (.t 55)) none), oZ (.clear 2 (.agg [(.int .i64 0), (.int .i64 0)]) (.t 56))])
 (.seq (.region [oM 57 0, oM 58 3, oW 59 (.sliceSl 2 (.t 57) none (some (.t 58))), oM 2 59])
 .ret))

def t133k1 : DCode :=
 (.region [oM 14 3, oW 15 (.arith .add (.t 14) (oI 1)), oM 3 15])

def t133l1 : DCode :=
 (.seq (.seq (.region [oM 10 3, oM 11 0, oW 12 (.len 1 (.t 11)), oW 13 (.arith .lss (.t 10) (.t 12))])
 (.cond (.t 13) .skip (.exit 0)))
 (.seq (.block 1 (.seq (.draw [oRM 16 0, oRM 17 3, oR 18 (.indexAddr 2 (.t 16) (.t 17)), oRL 19 2 18, oRM 20 0, oRM 21 3, oR 22 (.arith .sub (.t 21) (oI 1)), oR 23 (.indexAddr 2 (.t 20) (.t 22)), oRL 24 2 23, oR 25 (.eqa false [1, 1] (.t 19) (.t 24))])
 (.cond (.t 25) (.seq (.region [oM 26 0, oM 27 3, oW 28 (.sliceSl 2 (.t 26) (some (.t 27)) none), oM 4 28])
 (.seq (.seq (.region [oW 5 (.move (oI 1))])
 (.block 2 (.loop t133l0)))
 t133k0)) .skip)))
 t133k1))

def t133k2 : DCode :=
 (.seq (.region [oM 60 0, oM 2 60])
 .ret)

/-- slices.Compact[[][2]int,[2]int] -/
def t133 : DFunc := { ntmps := 61, results := [(.t 2)], mode := .full, body :=
 (.seq (.region [oW 2 (.move (.c .nsl))])
 (.seq (.seq (.region [oM 6 0, oW 7 (.len 1 (.t 6)), oW 8 (.arith .lss (.t 7) (oI 2))])
 (.cond (.t 8) (.seq (.region [oM 9 0, oM 2 9])
 .ret) .skip))
 (.seq (.seq (.region [oW 3 (.move (oI 1))])
 (.block 0 (.loop t133l1)))
 t133k2))) }

theorem c133 : compFunc Tryz.prog Tryz.f133 .full = some t133 := by kernel_rfl

def t134l0 : DCode :=
 (.seq (.region [oW 11 (.arith .lss (.t 10) (.t 9))])
 (.seq (.cond (.t 11) .skip (.exit 0))
 (.seq (.block 1 (.seq (.region [oM 12 10, oW 13 (.indexAddr 2 (.t 8) (.t 10)), oL 14 2 13, oW 5 (.alloc 90 2 (.agg [(.int .i64 0), (.int .i64 0)])), oM 4 12, oS 2 5 14])
 (.seq (.seq (.region [oL 15 2 1, oL 16 2 5, oW 17 (.call (oF 129) [(.t 15), (.t 16)]), oW 18 (.un .not (.t 17)), oM 19 18, ⟨(some 20), .move (.t 3), (some (19, false)), .write, 0, false⟩, ⟨(some 21), .load (some 2) (.t 5), (some (19, false)), .write, 0, false⟩, ⟨(some 22), .call (oF 221) [(.t 21)], (some (19, false)), .write, 0, false⟩, ⟨(some 23), .lookup (.agg [1, 1]) (.bool false) false (.t 20) (.t 22), (some (19, false)), .write, 0, false⟩, oW 24 (.pick (.t 19) (oB true) (.t 23))])
 (.cond (.t 24) (.seq (.region [oM 25 4, oW 26 (.makeIface 57 (oI 2)), oW 27 (.call (oF 64) [(.c (.str [103, 114, 97, 112, 104])), (.t 25), (.t 26)]), oM 2 27])
 .ret) .skip))
 (.region [oM 28 3, oL 29 2 5, oW 30 (.call (oF 221) [(.t 29)]), oZ (.mapUpdate (.agg [1, 1]) (.t 28) (.t 30) (oB true))]))))
 (.region [oW 31 (.arith .add (.t 10) (oI 1)), oM 10 31]))))

def t134k0 : DCode :=
 (.seq (.seq (.draw [oRA 32 0 1, oRD 33 32, oR 34 (.arith .lss (.t 33) (oI 1)), oRM 35 34, ⟨(some 36), .fieldAddr 0 (.t 1), (some (35, false)), .read, 0, false⟩, ⟨(some 37), .load none (.t 36), (some (35, false)), .read, 0, false⟩, ⟨(some 38), .arith .gtr (.t 37) (oI 64), (some (35, false)), .read, 0, false⟩, oR 39 (.pick (.t 35) (oB true) (.t 38)), oRM 40 39, ⟨(some 41), .fieldAddr 1 (.t 1), (some (40, false)), .read, 0, false⟩, ⟨(some 42), .load none (.t 41), (some (40, false)), .read, 0, false⟩, ⟨(some 43), .len 1 (.t 42), (some (40, false)), .read, 0, false⟩, ⟨(some 44), .arith .gtr (.t 43) (oI 200), (some (40, false)), .read, 0, false⟩, oR 45 (.pick (.t 40) (oB true) (.t 44)), oRM 46 45, ⟨(some 47), .load (some 2) (.t 1), (some (46, false)), .read, 0, false⟩, ⟨(some 48), .call (oF 222) [(.t 47), (oI 0)], (some (46, false)), .create, 0, false⟩, ⟨(some 49), .len 2 (.t 48), (some (46, false)), .read, 1, false⟩, ⟨(some 50), .fieldAddr 0 (.t 1), (some (46, false)), .read, 0, false⟩, ⟨(some 51), .load none (.t 50), (some (46, false)), .read, 0, false⟩, ⟨(some 52), .arith .neq (.t 49) (.t 51), (some (46, false)), .read, 1, false⟩, ⟨(some 53), .pick (.t 46) (oB true) (.t 52), none, .read, 1, false⟩])
 (.cond (.t 53) (.seq (.region [oW 54 (.makeIface 57 (oI 2)), oW 55 (.call (oF 64) [(.c (.str [103, 114, 97, 112, 104])), (oI (-1)), (.t 54)]), oM 2 55])
 .ret) .skip))
 (.seq (.region [oW 2 (.move (.c .nili))])
 .ret))

/-- broadside/graph.Check -/
def t134 : DFunc := { ntmps := 56, results := [(.t 2)], mode := .full, body :=
 (.seq (.region [oW 1 (.box 79 2 (.t 0)), oW 2 (.move (.c .nili))])
 (.seq (.region [oW 6 (.makeMap), oM 3 6])
 (.seq (.seq (.region [oA 7 1 1, oD 8 7, oW 9 (.len 1 (.t 8)), oW 10 (.move (oI 0))])
 (.block 0 (.loop t134l0)))
 t134k0))) }

theorem c134 : compFunc Tryz.prog Tryz.f134 .full = some t134 := by kernel_rfl

/-- broadside/net.copied -/
def t135 : DFunc := { ntmps := 8, results := [(.cell 2 (some 2))], mode := .full, body :=
 (.seq (.region [oW 1 (.box 79 2 (.t 0)), oW 2 (.alloc 79 2 (.agg [(.int .i64 0), .nsl]))])
 (.seq (.region [oA 3 1 1, oD 4 3, oW 5 (.call (oF 223) [(.t 4)]), oA 6 1 1, oS 1 6 5])
 (.seq (.region [oL 7 2 1, oS 2 2 7])
 .ret))) }

theorem c135 : compFunc Tryz.prog Tryz.f135 .full = some t135 := by kernel_rfl

/-- broadside/queue.New -/
def t136 : DFunc := { ntmps := 8, results := [(.t 2)], mode := .full, body :=
 (.seq (.region [oW 1 (.box 79 2 (.t 0)), oW 2 (.move (.c .nilp))])
 (.seq (.region [oL 3 2 1, oW 4 (.call (oF 42) [(.t 3)]), oW 5 (.makeMap), oW 6 (.build [.nsl, .nmap] [(0, 1, (.t 4)), (1, 1, (.t 5))]), oW 7 (.box 316 2 (.t 6)), oM 2 7])
 .ret)) }

theorem c136 : compFunc Tryz.prog Tryz.f136 .full = some t136 := by kernel_rfl

def t137l0 : DCode :=
 (.seq (.region [oW 12 (.arith .lss (.t 11) (.t 10))])
 (.seq (.cond (.t 12) .skip (.exit 0))
 (.seq (.block 1 (.seq (.region [oW 13 (.indexAddr 2 (.t 9) (.t 11)), oL 14 2 13, oW 7 (.alloc 90 2 (.agg [(.int .i64 0), (.int .i64 0)])), oS 2 7 14])
 (.block 2 (.seq (.region [oL 16 2 2, oL 17 2 7, oW 18 (.call (oF 129) [(.t 16), (.t 17)]), oW 19 (.un .not (.t 18)), oM 15 19])
 (.cond (.t 15) .skip (.seq (.region [oW 21 (.indexArr 2 1 (.t 7) (oI 0)), oD 22 21, oM 23 1, oW 24 (.arith .eql (.t 22) (.t 23)), oM 20 24])
 (.cond (.t 20) (.region [oM 25 5, oW 26 (.indexArr 2 1 (.t 7) (oI 1)), oD 27 26, oW 28 (.buildSlice 3 1 (.int .i64 0) 1 [(0, (.t 27))]), oW 29 (.append 3 1 8 (.t 25) (.t 28)), oM 5 29]) (.seq (.region [oW 31 (.indexArr 2 1 (.t 7) (oI 1)), oD 32 31, oM 33 1, oW 34 (.arith .eql (.t 32) (.t 33)), oM 30 34])
 (.cond (.t 30) (.region [oM 35 5, oW 36 (.indexArr 2 1 (.t 7) (oI 0)), oD 37 36, oW 38 (.buildSlice 3 1 (.int .i64 0) 1 [(0, (.t 37))]), oW 39 (.append 3 1 8 (.t 35) (.t 38)), oM 5 39]) .skip)))))))))
 (.region [oW 40 (.arith .add (.t 11) (oI 1)), oM 11 40]))))

def t137k0 : DCode :=
 (.seq (.region [oM 41 5, oW 42 (.call (oF 178) [(.t 41)])])
 (.seq (.region [oM 43 5, oW 44 (.call (oF 179) [(.t 43)]), oM 4 44])
 .ret))

/-- broadside/graph.Near -/
def t137 : DFunc := { ntmps := 45, results := [(.t 4)], mode := .full, body :=
 (.seq (.region [oW 2 (.box 79 2 (.t 0)), oW 4 (.move (.c .nsl))])
 (.seq (.region [oW 5 (.move (.c .nsl))])
 (.seq (.seq (.region [oA 8 1 2, oD 9 8, oW 10 (.len 1 (.t 9)), oW 11 (.move (oI 0))])
 (.block 0 (.loop t137l0)))
 t137k0))) }

theorem c137 : compFunc Tryz.prog Tryz.f137 .full = some t137 := by kernel_rfl

/-- (*broadside/net.Net).does -/
def t138 : DFunc := { ntmps := 39, results := [(.t 6)], mode := .full, body :=
 (.seq (.region [oW 6 (.move (.c .nili))])
 (.seq (.seq (.region [oM 9 0, oM 10 1, oW 11 (.call (oF 147) [(.t 9), (.t 10)]), oW 12 (.un .not (.t 11))])
 (.cond (.t 12) (.seq (.region [oM 13 1, oW 14 (.makeIface 57 (oI 3)), oW 15 (.call (oF 64) [(.c (.str [110, 101, 116])), (.t 13), (.t 14)]), oM 6 15])
 .ret) .skip))
 (.seq (.region [oM 17 2, oM 18 0, oW 19 (.nilCheck (.t 18)), oA 20 2 19, oD 21 20, oM 22 1, oW 23 (.indexAddr 6 (.t 21) (.t 22)), oL 24 6 23, oW 25 (.call (.t 17) [(.t 24)]), oM 16 25, oX 26 16 0, oX 27 16 1, oW 7 (.alloc 37 6 (.agg [(.int .i64 0), .nsl, .nsl, .nsl, .nsl, .nsl])), oS 6 7 26, oM 8 27])
 (.seq (.draw [oRM 28 0, oR 29 (.nilCheck (.t 28)), oRA 30 2 29, oRD 31 30, oRL 33 6 7, oRM 32 1, oR 34 (.indexAddr 6 (.t 31) (.t 32)), oS 6 34 33])
 (.seq (.region [oM 35 0, oM 36 1, oM 37 8, oW 38 (.call (oF 145) [(.t 35), (.t 36), (.t 37)])])
 (.seq (.region [oW 6 (.move (.c .nili))])
 .ret)))))) }

theorem c138 : compFunc Tryz.prog Tryz.f138 .full = some t138 := by kernel_rfl

/-- (*broadside/net.Net).Advertise$1 -/
def t139 : DFunc := { ntmps := 12, results := [(.cell 4 (some 6)), (.t 5)], mode := .full, body :=
 (.seq (.region [oW 3 (.box 37 6 (.t 0)), oW 4 (.alloc 37 6 (.agg [(.int .i64 0), .nsl, .nsl, .nsl, .nsl, .nsl])), oW 5 (.move (.c .nsl))])
 (.seq (.region [oL 6 6 3, oL 7 2 1, oD 8 2, oW 9 (.call (oF 78) [(.t 6), (oI (-1)), (.t 7), (.t 8)]), oX 10 9 0, oX 11 9 1, oS 6 4 10, oM 5 11])
 .ret)) }

theorem c139 : compFunc Tryz.prog Tryz.f139 .full = some t139 := by kernel_rfl

def t142l0 : DCode :=
 (.seq (.region [oW 12 (.arith .lss (.t 11) (.t 10))])
 (.seq (.cond (.t 12) .skip (.exit 0))
 (.seq (.block 1 (.seq (.region [oW 13 (.indexAddr 2 (.t 9) (.t 11)), oL 14 2 13, oW 5 (.alloc 90 2 (.agg [(.int .i64 0), (.int .i64 0)])), oS 2 5 14])
 (.seq (.draw [oRM 15 0, oR 16 (.nilCheck (.t 15)), oRA 17 1 16, oRD 18 17, oRL 19 2 5, oR 20 (.lookup (.agg [1, 1]) .nsl false (.t 18) (.t 19)), oR 21 (.len 1 (.t 20)), oR 22 (.arith .gtr (.t 21) (oI 0))])
 (.cond (.t 22) (.region [oM 23 3, oL 24 2 5, oW 25 (.buildSlice 90 2 (.agg [(.int .i64 0), (.int .i64 0)]) 1 [(0, (.t 24))]), oW 26 (.append 90 2 16 (.t 23) (.t 25)), oM 3 26]) .skip))))
 (.region [oW 27 (.arith .add (.t 11) (oI 1)), oM 11 27]))))

def t142k0 : DCode :=
 (.seq (.region [oM 28 3, oM 2 28])
 .ret)

/-- (*broadside/queue.Queues).Busy -/
def t142 : DFunc := { ntmps := 29, results := [(.t 2)], mode := .full, body :=
 (.seq (.region [oW 2 (.move (.c .nsl))])
 (.seq (.region [oW 3 (.move (.c .nsl))])
 (.seq (.seq (.region [oM 6 0, oW 7 (.nilCheck (.t 6)), oA 8 0 7, oD 9 8, oW 10 (.len 1 (.t 9)), oW 11 (.move (oI 0))])
 (.block 0 (.loop t142l0)))
 t142k0))) }

theorem c142 : compFunc Tryz.prog Tryz.f142 .full = some t142 := by kernel_rfl

/-- (*broadside/queue.Queues).Pop -/
def t144 : DFunc := { ntmps := 35, results := [(.cell 6 (some 7)), (.t 7)], mode := .full, body :=
 (.seq (.region [oW 6 (.alloc 49 7 (.agg [(.int .i64 0), (.int .i64 0), (.int .i64 0), (.int .i64 0), (.int .i64 0), .nsl, .nsl])), oW 7 (.move (.c .nili))])
 (.seq (.region [oM 10 1, oM 11 2, oW 12 (.build [(.int .i64 0), (.int .i64 0)] [(0, 1, (.t 10)), (1, 1, (.t 11))]), oW 8 (.alloc 90 2 (.agg [(.int .i64 0), (.int .i64 0)])), oS 2 8 12])
 (.seq (.draw [oRM 13 0, oR 14 (.nilCheck (.t 13)), oRA 15 1 14, oRD 16 15, oRL 17 2 8, oR 18 (.lookup (.agg [1, 1]) .nsl false (.t 16) (.t 17)), oRM 9 18])
 (.seq (.seq (.region [oM 19 9, oW 20 (.len 1 (.t 19)), oW 21 (.arith .eql (.t 20) (oI 0))])
 (.cond (.t 21) (.seq (.region [oW 22 (.build [(.int .i64 0), (.int .i64 0), (.int .i64 0), (.int .i64 0), (.int .i64 0), .nsl, .nsl] []), oM 23 1, oW 24 (.call (oF 226) [(.t 23)]), oS 7 6 22, oM 7 24])
 .ret) .skip))
 (.seq (.draw [oRM 25 0, oR 26 (.nilCheck (.t 25)), oRA 27 1 26, oRD 28 27, oRL 29 2 8, oRM 30 9, oR 31 (.sliceSl 7 (.t 30) (some (oI 1)) none), oZ (.mapUpdate (.agg [1, 1]) (.t 28) (.t 29) (.t 31))])
 (.seq (.region [oM 32 9, oW 33 (.indexAddr 7 (.t 32) (oI 0)), oL 34 7 33, oS 7 6 34, oW 7 (.move (.c .nili))])
 .ret)))))) }

theorem c144 : compFunc Tryz.prog Tryz.f144 .full = some t144 := by kernel_rfl

def t145l0 : DCode :=
 (.seq (.region [oW 11 (.arith .lss (.t 10) (.t 9))])
 (.seq (.cond (.t 11) .skip (.exit 0))
 (.seq (.block 1 (.seq (.region [oW 12 (.indexAddr 8 (.t 8) (.t 10)), oL 13 8 12, oW 7 (.alloc 168 8 (.agg [(.int .i64 0), (.int .i64 0), (.int .i64 0), (.int .i64 0), (.int .i64 0), (.int .i64 0), .nsl, .nsl])), oS 8 7 13])
 (.seq (.draw [oRM 14 0, oR 15 (.nilCheck (.t 14)), oRA 16 3 15, oRD 17 16, oRA 19 0 7, oRD 20 19, oRA 21 1 7, oRL 22 7 21, oRM 18 1, ⟨(some 23), .buildSlice 49 7 (.agg [(.int .i64 0), (.int .i64 0), (.int .i64 0), (.int .i64 0), (.int .i64 0), .nsl, .nsl]) 1 [(0, (.t 22))], none, .create, 0, false⟩, ⟨(some 24), .call (oF 227) [(.t 17), (.t 18), (.t 20), (.t 23)], none, .write, 1, false⟩])
 (.seq (.region [oA 25 1 7, oA 26 0 25, oD 27 26, oW 28 (.arith .eql (.t 27) (oI 5))])
 (.cond (.t 28) (.draw [oRM 30 0, oR 31 (.nilCheck (.t 30)), oRA 32 4 31, oRD 33 32, oRA 35 0 7, oRD 36 35, oRA 37 1 7, oRA 38 3 37, oRL 39 2 38, oRM 34 1, oR 40 (.build [(.int .i64 0), (.int .i64 0), (.int .i64 0), (.int .i64 0)] [(0, 1, (.t 34)), (1, 1, (.t 36)), (2, 2, (.t 39))]), ⟨(some 41), .buildSlice 248 4 (.agg [(.int .i64 0), (.int .i64 0), (.int .i64 0), (.int .i64 0)]) 1 [(0, (.t 40))], none, .create, 0, false⟩, ⟨(some 42), .append 248 4 32 (.t 33) (.t 41), none, .write, 1, false⟩, oRM 29 0, ⟨(some 43), .nilCheck (.t 29), none, .read, 2, false⟩, ⟨(some 44), .fieldAddr 4 (.t 43), none, .read, 2, false⟩, ⟨none, .store 1 (.t 44) (.t 42), none, .write, 2, false⟩]) .skip)))))
 (.region [oW 45 (.arith .add (.t 10) (oI 1)), oM 10 45]))))

/-- (*broadside/net.Net).send -/
def t145 : DFunc := { ntmps := 46, results := [], mode := .full, body :=
 (.seq (.region [oM 8 2, oW 9 (.len 1 (.t 8)), oW 10 (.move (oI 0))])
 (.block 0 (.loop t145l0))) }

theorem c145 : compFunc Tryz.prog Tryz.f145 .full = some t145 := by kernel_rfl

/-- broadside/adverts.place -/
def t146 : DFunc := { ntmps := 12, results := [(.t 4), (.t 5)], mode := .full, body :=
 (.seq (.region [oW 2 (.box 37 6 (.t 0)), oW 3 (.box 45 2 (.t 1)), oW 4 (.move (oI 0)), oW 5 (.move (oB false))])
 (.seq (.region [oA 6 2 2, oD 7 6, oL 8 2 3, oW 9 (.call (oF 228) [(.t 7), (.t 8), (oF 229)]), oX 10 9 0, oX 11 9 1, oM 4 10, oM 5 11])
 .ret)) }

theorem c146 : compFunc Tryz.prog Tryz.f146 .full = some t146 := by kernel_rfl

/-- (*broadside/net.Net).there -/
def t147 : DFunc := { ntmps := 16, results := [(.t 4)], mode := .full, body :=
 (.seq (.region [oW 4 (.move (oB false))])
 (.seq (.region [oM 5 1, oW 6 (.arith .geq (.t 5) (oI 0)), oM 7 6, ⟨(some 8), .move (.t 1), (some (7, true)), .write, 0, false⟩, ⟨(some 9), .move (.t 0), (some (7, true)), .write, 0, false⟩, ⟨(some 10), .nilCheck (.t 9), (some (7, true)), .write, 0, false⟩, ⟨(some 11), .fieldAddr 2 (.t 10), (some (7, true)), .write, 0, false⟩, ⟨(some 12), .load none (.t 11), (some (7, true)), .write, 0, false⟩, ⟨(some 13), .len 1 (.t 12), (some (7, true)), .write, 0, false⟩, ⟨(some 14), .arith .lss (.t 8) (.t 13), (some (7, true)), .write, 0, false⟩, oW 15 (.pick (.t 7) (.t 14) (oB false)), oM 4 15])
 .ret)) }

theorem c147 : compFunc Tryz.prog Tryz.f147 .full = some t147 := by kernel_rfl

/-- (*broadside/net.Net).Subscribe$1 -/
def t154 : DFunc := { ntmps := 12, results := [(.cell 4 (some 6)), (.t 5)], mode := .full, body :=
 (.seq (.region [oW 3 (.box 37 6 (.t 0)), oW 4 (.alloc 37 6 (.agg [(.int .i64 0), .nsl, .nsl, .nsl, .nsl, .nsl])), oW 5 (.move (.c .nsl))])
 (.seq (.region [oL 6 6 3, oL 7 2 1, oD 8 2, oW 9 (.call (oF 155) [(.t 6), (.t 7), (.t 8)]), oX 10 9 0, oX 11 9 1, oS 6 4 10, oM 5 11])
 .ret)) }

theorem c154 : compFunc Tryz.prog Tryz.f154 .full = some t154 := by kernel_rfl

def t155l0 : DCode :=
 (.seq (.region [oW 37 (.arith .lss (.t 36) (.t 35))])
 (.seq (.cond (.t 37) .skip (.exit 0))
 (.seq (.block 1 (.seq (.region [oW 38 (.indexAddr 4 (.t 34) (.t 36)), oL 39 4 38, oW 12 (.alloc 86 4 (.agg [(.int .i64 0), (.int .i64 0), .nsl, (.int .i64 0)])), oS 4 12 39])
 (.seq (.seq (.region [oM 40 2, oA 41 2 12, oD 42 41, oW 43 (.call (oF 182) [(.t 40), (.t 42)]), oW 44 (.un .not (.t 43))])
 (.cond (.t 44) (.exit 1) .skip))
 (.seq (.region [oL 46 6 3, oA 47 0 12, oL 48 2 47, oL 49 2 4, oM 50 2, oW 51 (.build [(.int .i64 0), (.int .i64 0), (.int .i64 0), (.int .i64 0), .nsl, (.int .i64 0), (.bool false)] [(0, 2, (.t 48)), (2, 2, (.t 49)), (4, 1, (.t 50)), (5, 1, (oI (-1)))]), oW 52 (.call (oF 186) [(.t 46), (.t 51)]), oM 45 52, oX 53 45 0, oX 54 45 1, oW 13 (.alloc 37 6 (.agg [(.int .i64 0), .nsl, .nsl, .nsl, .nsl, .nsl])), oS 6 13 53, oM 14 54])
 (.draw [oRL 55 6 13, oRM 56 10, oRM 57 14, ⟨(some 58), .append 168 8 96 (.t 56) (.t 57), none, .create, 0, false⟩, ⟨none, .store 6 (.t 3) (.t 55), none, .write, 1, false⟩, ⟨(some 10), .move (.t 58), none, .read, 2, false⟩])))))
 (.region [oW 59 (.arith .add (.t 36) (oI 1)), oM 36 59]))))

def t155k0 : DCode :=
 (.seq (.region [oL 60 6 3, oM 61 10, oS 6 6 60, oM 7 61])
 .ret)

/-- broadside/route.Subscribe -/
def t155 : DFunc := { ntmps := 62, results := [(.cell 6 (some 6)), (.t 7)], mode := .full, body :=
 (.seq (.region [oW 3 (.box 37 6 (.t 0)), oW 4 (.box 45 2 (.t 1)), oW 6 (.alloc 37 6 (.agg [(.int .i64 0), .nsl, .nsl, .nsl, .nsl, .nsl])), oW 7 (.move (.c .nsl))])
 (.seq (.region [oL 16 6 3, oL 17 2 4, oW 18 (.call (oF 230) [(.t 16), (.t 17)]), oM 15 18, oX 19 15 0, oX 20 15 1, oM 8 19, oM 9 20])
 (.seq (.seq (.region [oM 21 9])
 (.cond (.t 21) (.seq (.region [oL 22 6 3, oS 6 6 22, oW 7 (.move (.c .nsl))])
 .ret) .skip))
 (.seq (.draw [oRA 23 5 3, oRD 24 23, ⟨(some 25), .call (oF 152) [(.t 24)], none, .create, 0, false⟩, oRL 27 2 4, oRM 26 8, oRM 28 2, oR 29 (.build [(.int .i64 0), (.int .i64 0), .nsl] [(0, 2, (.t 27)), (2, 1, (.t 28))]), ⟨(some 30), .buildSlice 151 3 (.agg [(.int .i64 0), (.int .i64 0), .nsl]) 1 [(0, (.t 29))], none, .create, 0, false⟩, ⟨(some 31), .call (oF 231) [(.t 25), (.t 26), (.t 30)], none, .write, 2, false⟩, ⟨(some 32), .fieldAddr 5 (.t 3), none, .read, 3, false⟩, ⟨none, .store 1 (.t 32) (.t 31), none, .write, 3, false⟩])
 (.seq (.region [oW 10 (.move (.c .nsl))])
 (.seq (.seq (.region [oA 33 2 3, oD 34 33, oW 35 (.len 1 (.t 34)), oW 36 (.move (oI 0))])
 (.block 0 (.loop t155l0)))
 t155k0)))))) }

theorem c155 : compFunc Tryz.prog Tryz.f155 .full = some t155 := by kernel_rfl

/-- (*broadside/net.Net).Publish$1 -/
def t156 : DFunc := { ntmps := 22, results := [(.cell 6 (some 6)), (.t 7)], mode := .full, body :=
 (.seq (.region [oW 5 (.box 37 6 (.t 0)), oW 6 (.alloc 37 6 (.agg [(.int .i64 0), .nsl, .nsl, .nsl, .nsl, .nsl])), oW 7 (.move (.c .nsl))])
 (.seq (.region [oL 11 6 5, oL 12 2 1, oL 13 2 2, oD 14 3, oW 15 (.build [(.int .i64 0), (.int .i64 0), (.int .i64 0), (.int .i64 0), (.int .i64 0), .nsl, .nsl] [(0, 1, (oI 5)), (1, 2, (.t 12)), (3, 2, (.t 13)), (6, 1, (.t 14))]), oW 16 (.call (oF 82) [(.t 11), (oI (-1)), (.t 15)]), oM 10 16, oX 17 10 0, oX 18 10 1, oM 8 17, oM 9 18])
 (.seq (.region [oM 19 9, oS 1 4 19])
 (.seq (.region [oL 20 6 5, oM 21 8, oS 6 6 20, oM 7 21])
 .ret)))) }

theorem c156 : compFunc Tryz.prog Tryz.f156 .full = some t156 := by kernel_rfl

def t159w0 : DCode :=
 (.draw [oRM 23 3, oR 24 (.nilCheck (.t 23)), oRA 25 1 24, oRD 26 25, oRL 27 2 4, oRM 28 5, ⟨(some 29), .call (oF 225) [(.t 28)], none, .create, 0, false⟩, ⟨none, .mapUpdate (.agg [1, 1]) (.t 26) (.t 27) (.t 29), none, .write, 1, false⟩])

def t159k0 : DCode :=
 (.seq (.region [oM 30 3, oM 2 30])
 .ret)

/-- (*broadside/queue.Queues).Copy -/
def t159 : DFunc := { ntmps := 31, results := [(.t 2)], mode := .full, body :=
 (.seq (.region [oW 2 (.move (.c .nilp))])
 (.seq (.region [oM 6 0, oW 7 (.nilCheck (.t 6)), oA 8 0 7, oD 9 8, oW 10 (.makeMap), oW 11 (.build [.nsl, .nmap] [(0, 1, (.t 9)), (1, 1, (.t 10))]), oW 12 (.box 316 2 (.t 11)), oM 3 12])
 (.seq (.seq (.region [oM 13 0, oW 14 (.nilCheck (.t 13)), oA 15 1 14, oD 16 15])
 (.walk (.t 16) 17 18 19 20 0 1 [17, 18, 19, 20, 29, 28, 27, 26, 25, 24, 23, 5, 4, 22, 21, 20] [oX 21 20 0, oX 22 20 1, oW 4 (.alloc 90 2 (.agg [(.int .i64 0), (.int .i64 0)])), oS 2 4 21, oM 5 22] t159w0))
 t159k0))) }

theorem c159 : compFunc Tryz.prog Tryz.f159 .full = some t159 := by kernel_rfl

/-- broadside/wire.parts -/
def t167 : DFunc := { ntmps := 19, results := [(.t 2), (.t 3)], mode := .full, body :=
 (.seq (.region [oW 2 (.move (oI 0)), oW 3 (.move (oB false))])
 (.seq (.region [oW 4 (.move (oI 0))])
 (.seq (.seq (.region [oM 5 0])
 (.block 0 (.seq (.block 5 (.seq (.block 4 (.seq (.block 3 (.seq (.block 2 (.seq (.block 1 (.seq (.seq (.seq (.region [oW 7 (.arith .eql (.t 5) (oI 5)), oM 6 7])
 (.cond (.t 6) (.exit 1) .skip))
 (.seq (.seq (.region [oW 9 (.arith .eql (.t 5) (oI 3)), oM 8 9])
 (.cond (.t 8) (.exit 2) .skip))
 (.seq (.seq (.region [oW 11 (.arith .eql (.t 5) (oI 4)), oM 10 11])
 (.cond (.t 10) (.exit 3) .skip))
 (.seq (.seq (.region [oW 13 (.arith .eql (.t 5) (oI 1)), oM 12 13])
 (.cond (.t 12) (.exit 4) .skip))
 (.seq (.region [oW 15 (.arith .eql (.t 5) (oI 2)), oM 14 15])
 (.cond (.t 14) (.exit 5) .skip))))))
 (.exit 0)))
 (.seq (.seq (.region [oW 2 (.move (oI 5)), oW 3 (.move (oB true))])
 .ret)
 (.exit 0))))
 (.region [oW 4 (.move (oI 2))])))
 (.seq (.seq (.region [oM 16 4, oW 17 (.arith .or (.t 16) (oI 1)), oM 2 17, oW 3 (.move (oB true))])
 .ret)
 (.exit 0))))
 (.region [oW 4 (.move (oI 2))])))
 (.seq (.seq (.region [oM 18 4, oM 2 18, oW 3 (.move (oB true))])
 .ret)
 (.exit 0)))))
 (.seq (.region [oW 2 (.move (oI 0)), oW 3 (.move (oB false))])
 .ret)))) }

theorem c167 : compFunc Tryz.prog Tryz.f167 .full = some t167 := by kernel_rfl

/-- broadside/wire.rightID -/
def t168 : DFunc := { ntmps := 16, results := [(.t 2)], mode := .full, body :=
 (.seq (.region [oW 1 (.box 45 2 (.t 0)), oW 2 (.move (oB false))])
 (.seq (.region [oA 3 0 1, oD 4 3, oW 5 (.arith .geq (.t 4) (oI 0)), oM 6 5, ⟨(some 7), .fieldAddr 0 (.t 1), (some (6, true)), .write, 0, false⟩, ⟨(some 8), .load none (.t 7), (some (6, true)), .write, 0, false⟩, ⟨(some 9), .arith .lss (.t 8) (oI 32), (some (6, true)), .write, 0, false⟩, oW 10 (.pick (.t 6) (.t 9) (oB false)), oM 11 10, ⟨(some 12), .fieldAddr 1 (.t 1), (some (11, true)), .write, 0, false⟩, ⟨(some 13), .load none (.t 12), (some (11, true)), .write, 0, false⟩, ⟨(some 14), .arith .geq (.t 13) (oI 0), (some (11, true)), .write, 0, false⟩, oW 15 (.pick (.t 11) (.t 14) (oB false)), oM 2 15])
 .ret)) }

theorem c168 : compFunc Tryz.prog Tryz.f168 .full = some t168 := by kernel_rfl

def t169l0 : DCode :=
 (.seq (.region [oW 8 (.arith .lss (.t 7) (.t 6))])
 (.seq (.cond (.t 8) .skip (.exit 0))
 (.seq (.block 1 (.seq (.region [oM 9 7, oW 10 (.indexAddr 4 (.t 5) (.t 7)), oL 11 4 10, oW 4 (.alloc 176 4 (.agg [(.str []), (.bool false), (.int .i64 0), (.str [])])), oM 3 9, oS 4 4 11])
 (.seq (.draw [oRA 12 0 4, oRD 13 12, oW 14 (.call (oF 237) [(.t 13)]), ⟨(some 15), .un .not (.t 14), none, .read, 1, false⟩, ⟨(some 16), .move (.t 15), none, .read, 1, false⟩, ⟨(some 17), .fieldAddr 1 (.t 4), (some (16, false)), .read, 1, false⟩, ⟨(some 18), .load (some 3) (.t 17), (some (16, false)), .read, 1, false⟩, ⟨(some 19), .call (oF 238) [(.t 18)], (some (16, false)), .write, 1, false⟩, ⟨(some 20), .un .not (.t 19), (some (16, false)), .read, 2, false⟩, ⟨(some 21), .pick (.t 16) (oB true) (.t 20), none, .read, 2, false⟩, ⟨(some 22), .move (.t 21), none, .read, 2, false⟩, ⟨(some 23), .move (.t 3), (some (22, false)), .read, 2, false⟩, ⟨(some 24), .arith .gtr (.t 23) (oI 0), (some (22, false)), .read, 2, false⟩, ⟨(some 25), .move (.t 24), (some (22, false)), .read, 2, false⟩, ⟨(some 26), .move (.t 0), (some (25, true)), .read, 2, false⟩, ⟨(some 27), .move (.t 3), (some (25, true)), .read, 2, false⟩, ⟨(some 28), .arith .sub (.t 27) (oI 1), (some (25, true)), .read, 2, false⟩, ⟨(some 29), .indexAddr 4 (.t 26) (.t 28), (some (25, true)), .read, 2, false⟩, ⟨(some 30), .fieldAddr 0 (.t 29), (some (25, true)), .read, 2, false⟩, ⟨(some 31), .load none (.t 30), (some (25, true)), .read, 2, false⟩, ⟨(some 32), .fieldAddr 0 (.t 4), (some (25, true)), .read, 2, false⟩, ⟨(some 33), .load none (.t 32), (some (25, true)), .read, 2, false⟩, ⟨(some 34), .arith .geq (.t 31) (.t 33), (some (25, true)), .read, 2, false⟩, ⟨(some 35), .pick (.t 25) (.t 34) (oB false), (some (22, false)), .read, 2, false⟩, ⟨(some 36), .pick (.t 22) (oB true) (.t 35), none, .read, 2, false⟩])
 (.cond (.t 36) (.seq (.region [oW 2 (.move (oB false))])
 .ret) .skip))))
 (.region [oW 37 (.arith .add (.t 7) (oI 1)), oM 7 37]))))

def t169k0 : DCode :=
 (.seq (.region [oM 38 0, oW 39 (.len 1 (.t 38)), oW 40 (.arith .leq (.t 39) (oI 5)), oM 2 40])
 .ret)

/-- broadside/tuple.Right -/
def t169 : DFunc := { ntmps := 41, results := [(.t 2)], mode := .full, body :=
 (.seq (.region [oW 2 (.move (oB false))])
 (.seq (.seq (.region [oM 5 0, oW 6 (.len 1 (.t 5)), oW 7 (.move (oI 0))])
 (.block 0 (.loop t169l0)))
 t169k0)) }

theorem c169 : compFunc Tryz.prog Tryz.f169 .full = some t169 := by kernel_rfl

/-- broadside/num.ID -/
def t170 : DFunc := { ntmps := 9, results := [(.t 2)], mode := .full, body :=
 (.seq (.region [oW 1 (.box 45 2 (.t 0)), oW 2 (.move (.c .nsl))])
 (.seq (.region [oA 3 0 1, oD 4 3, oA 5 1 1, oD 6 5, oW 7 (.buildSlice 3 1 (.int .i64 0) 2 [(0, (.t 4)), (1, (.t 6))]), oW 8 (.call (oF 239) [(.t 7)]), oM 2 8])
 .ret)) }

theorem c170 : compFunc Tryz.prog Tryz.f170 .full = some t170 := by kernel_rfl

/-- broadside/wire.constraint -/
def t171 : DFunc := { ntmps := 28, results := [(.t 2)], mode := .full, body :=
 (.seq (.region [oW 1 (.box 119 5 (.t 0)), oW 2 (.move (.c .nsl))])
 (.seq (.draw [oRA 4 0 1, oRD 5 4, ⟨(some 6), .call (oF 240) [(.t 5)], none, .create, 0, false⟩, oRA 7 1 1, oRD 8 7, oR 9 (.conv .u8 (.t 8)), ⟨(some 10), .buildSlice 5 1 (.int .u8 0) 1 [(0, (.t 9))], none, .create, 0, false⟩, ⟨(some 11), .append 5 1 1 (.t 6) (.t 10), none, .write, 2, false⟩, ⟨(some 3), .move (.t 11), none, .read, 3, false⟩])
 (.seq (.seq (.region [oA 12 1 1, oD 13 12, oW 14 (.arith .eql (.t 13) (oI 1))])
 (.cond (.t 14) (.seq (.region [oM 15 3, oA 16 2 1, oD 17 16, oA 18 3 1, oD 19 18, oW 20 (.buildSlice 3 1 (.int .i64 0) 2 [(0, (.t 17)), (1, (.t 19))]), oW 21 (.call (oF 239) [(.t 20)]), oW 22 (.append 5 1 1 (.t 15) (.t 21)), oM 2 22])
 .ret) .skip))
 (.seq (.region [oM 23 3, oA 24 4 1, oD 25 24, oW 26 (.call (oF 240) [(.t 25)]), oW 27 (.append 5 1 1 (.t 23) (.t 26)), oM 2 27])
 .ret)))) }

theorem c171 : compFunc Tryz.prog Tryz.f171 .full = some t171 := by kernel_rfl

/-- broadside/wire.attr -/
def t172 : DFunc := { ntmps := 27, results := [(.t 2)], mode := .full, body :=
 (.seq (.region [oW 1 (.box 176 4 (.t 0)), oW 2 (.move (.c .nsl))])
 (.seq (.region [oA 4 0 1, oD 5 4, oW 6 (.call (oF 240) [(.t 5)]), oM 3 6])
 (.seq (.seq (.region [oA 7 1 1, oA 8 0 7, oD 9 8])
 (.cond (.t 9) (.seq (.draw [oRM 10 3, ⟨(some 11), .buildSlice 5 1 (.int .u8 0) 1 [(0, (.c (.int .u8 1)))], none, .create, 0, false⟩, ⟨(some 12), .append 5 1 1 (.t 10) (.t 11), none, .create, 0, false⟩, oRA 13 1 1, oRA 14 2 13, oRD 15 14, ⟨(some 16), .call (oF 240) [(.t 15)], none, .write, 2, false⟩, ⟨(some 17), .append 5 1 1 (.t 12) (.t 16), none, .write, 3, false⟩, ⟨(some 2), .move (.t 17), none, .read, 4, false⟩])
 .ret) .skip))
 (.seq (.draw [oRM 18 3, ⟨(some 19), .buildSlice 5 1 (.int .u8 0) 1 [(0, (.c (.int .u8 0)))], none, .create, 0, false⟩, ⟨(some 20), .append 5 1 1 (.t 18) (.t 19), none, .create, 0, false⟩, oRA 21 1 1, oRA 22 1 21, oRD 23 22, ⟨(some 24), .buildSlice 3 1 (.int .i64 0) 1 [(0, (.t 23))], none, .create, 0, false⟩, ⟨(some 25), .call (oF 239) [(.t 24)], none, .write, 3, false⟩, ⟨(some 26), .append 5 1 1 (.t 20) (.t 25), none, .write, 4, false⟩, ⟨(some 2), .move (.t 26), none, .read, 5, false⟩])
 .ret)))) }

theorem c172 : compFunc Tryz.prog Tryz.f172 .full = some t172 := by kernel_rfl

/-- slices.Sort[[]int,int] -/
def t178 : DFunc := { ntmps := 11, results := [], mode := .full, body :=
 (.seq (.region [oM 3 0, oW 4 (.len 1 (.t 3)), oM 2 4])
 (.region [oM 5 0, oM 6 2, oM 7 2, oW 8 (.conv .u64 (.t 7)), oW 9 (.call (oF 219) [(.t 8)]), oW 10 (.call (oF 244) [(.t 5), (oI 0), (.t 6), (.t 9)])])) }

theorem c178 : compFunc Tryz.prog Tryz.f178 .full = some t178 := by kernel_rfl

def t179l0 : DCode :=
 (.seq (.seq (.region [oM 29 5, oM 30 4, oW 31 (.len 1 (.t 30)), oW 32 (.arith .lss (.t 29) (.t 31))])
 (.cond (.t 32) .skip (.exit 2)))
 (.seq (.block 3 (.seq (.draw [oRM 35 4, oRM 36 5, oR 37 (.indexAddr 1 (.t 35) (.t 36)), oRD 38 37, oRM 39 4, oRM 40 5, oR 41 (.arith .sub (.t 40) (oI 1)), oR 42 (.indexAddr 1 (.t 39) (.t 41)), oRD 43 42, oR 44 (.arith .neq (.t 38) (.t 43))])
 (.cond (.t 44) (.seq (.region [oM 45 0, oM 46 3, oM 47 4, oM 48 5, oW 49 (.indexAddr 1 (.t 47) (.t 48)), oD 50 49, oW 51 (.indexAddr 1 (.t 45) (.t 46)), oS 1 51 50])
 (.region [oM 52 3, oW 53 (.arith .add (.t 52) (oI 1)), oM 3 53])) .skip)))
 (.region [oM 33 5, oW 34 (.arith .add (.t 33) (oI 1)), oM 5 34])))

def t179k0 : DCode :=
 (.seq (.region [oM 54 0, oM 55 3, oW 56 (.sliceSl 1 (.t 54) (some (.t 55)) none), oZ (.clear 1 (.int .i64 0) (.t 56))])
 (.seq (.region [oM 57 0, oM 58 3, oW 59 (.sliceSl 1 (.t 57) none (some (.t 58))), oM 2 59])
 .ret))

def t179k1 : DCode :=
 (.region [oM 14 3, oW 15 (.arith .add (.t 14) (oI 1)), oM 3 15])

def t179l1 : DCode :=
 (.seq (.seq (.region [oM 10 3, oM 11 0, oW 12 (.len 1 (.t 11)), oW 13 (.arith .lss (.t 10) (.t 12))])
 (.cond (.t 13) .skip (.exit 0)))
 (.seq (.block 1 (.seq (.draw [oRM 16 0, oRM 17 3, oR 18 (.indexAddr 1 (.t 16) (.t 17)), oRD 19 18, oRM 20 0, oRM 21 3, oR 22 (.arith .sub (.t 21) (oI 1)), oR 23 (.indexAddr 1 (.t 20) (.t 22)), oRD 24 23, oR 25 (.arith .eql (.t 19) (.t 24))])
 (.cond (.t 25) (.seq (.region [oM 26 0, oM 27 3, oW 28 (.sliceSl 1 (.t 26) (some (.t 27)) none), oM 4 28])
 (.seq (.seq (.region [oW 5 (.move (oI 1))])
 (.block 2 (.loop t179l0)))
 t179k0)) .skip)))
 t179k1))

def t179k2 : DCode :=
 (.seq (.region [oM 60 0, oM 2 60])
 .ret)

/-- slices.Compact[[]int,int] -/
def t179 : DFunc := { ntmps := 61, results := [(.t 2)], mode := .full, body :=
 (.seq (.region [oW 2 (.move (.c .nsl))])
 (.seq (.seq (.region [oM 6 0, oW 7 (.len 1 (.t 6)), oW 8 (.arith .lss (.t 7) (oI 2))])
 (.cond (.t 8) (.seq (.region [oM 9 0, oM 2 9])
 .ret) .skip))
 (.seq (.seq (.region [oW 3 (.move (oI 1))])
 (.block 0 (.loop t179l1)))
 t179k2))) }

theorem c179 : compFunc Tryz.prog Tryz.f179 .full = some t179 := by kernel_rfl

/-- broadside/adverts.Learn -/
def t180 : DFunc := { ntmps := 44, results := [(.cell 4 (some 6)), (.t 5)], mode := .full, body :=
 (.seq (.region [oW 2 (.box 37 6 (.t 0)), oW 3 (.box 86 4 (.t 1)), oW 4 (.alloc 37 6 (.agg [(.int .i64 0), .nsl, .nsl, .nsl, .nsl, .nsl])), oW 5 (.move (oB false))])
 (.seq (.region [oL 10 6 2, oW 11 (.call (oF 245) [(.t 10)]), oS 6 2 11])
 (.seq (.region [oL 13 6 2, oA 14 0 3, oL 15 2 14, oW 16 (.call (oF 199) [(.t 13), (.t 15)]), oM 12 16, oX 17 12 0, oX 18 12 1, oM 6 17, oM 7 18])
 (.seq (.seq (.region [oM 19 7])
 (.cond (.t 19) (.seq (.region [oL 20 6 2, oS 6 4 20, oW 5 (.move (oB false))])
 .ret) .skip))
 (.seq (.region [oL 22 6 2, oA 23 0 3, oL 24 2 23, oW 25 (.call (oF 146) [(.t 22), (.t 24)]), oM 21 25, oX 26 21 0, oX 27 21 1, oM 8 26, oM 9 27])
 (.seq (.region [oA 28 2 2, oD 29 28, oM 30 8, oL 31 4 3, oW 32 (.buildSlice 86 4 (.agg [(.int .i64 0), (.int .i64 0), .nsl, (.int .i64 0)]) 1 [(0, (.t 31))]), oW 33 (.call (oF 246) [(.t 29), (.t 30), (.t 32)]), oA 34 2 2, oS 1 34 33])
 (.seq (.region [oA 35 3 2, oD 36 35, oM 37 6, oA 38 0 3, oL 39 2 38, oW 40 (.buildSlice 45 2 (.agg [(.int .i64 0), (.int .i64 0)]) 1 [(0, (.t 39))]), oW 41 (.call (oF 247) [(.t 36), (.t 37), (.t 40)]), oA 42 3 2, oS 1 42 41])
 (.seq (.region [oL 43 6 2, oS 6 4 43, oW 5 (.move (oB true))])
 .ret)))))))) }

theorem c180 : compFunc Tryz.prog Tryz.f180 .full = some t180 := by kernel_rfl

def t181l0 : DCode :=
 (.seq (.region [oW 14 (.arith .lss (.t 13) (.t 12))])
 (.seq (.cond (.t 14) .skip (.exit 0))
 (.seq (.block 1 (.seq (.region [oW 15 (.indexAddr 1 (.t 11) (.t 13)), oD 16 15, oM 9 16])
 (.seq (.region [oM 17 9, oM 18 1, oW 19 (.arith .neq (.t 17) (.t 18))])
 (.cond (.t 19) (.region [oM 20 7, oM 21 9, oL 22 7 5, oW 23 (.build [(.int .i64 0), (.int .i64 0), (.int .i64 0), (.int .i64 0), (.int .i64 0), (.int .i64 0), .nsl, .nsl] [(0, 1, (.t 21)), (1, 7, (.t 22))]), oW 24 (.buildSlice 168 8 (.agg [(.int .i64 0), (.int .i64 0), (.int .i64 0), (.int .i64 0), (.int .i64 0), (.int .i64 0), .nsl, .nsl]) 1 [(0, (.t 23))]), oW 25 (.append 168 8 96 (.t 20) (.t 24)), oM 7 25]) .skip))))
 (.region [oW 26 (.arith .add (.t 13) (oI 1)), oM 13 26]))))

def t181k0 : DCode :=
 (.seq (.region [oM 27 7, oM 6 27])
 .ret)

/-- broadside/flood.Others -/
def t181 : DFunc := { ntmps := 28, results := [(.t 6)], mode := .full, body :=
 (.seq (.region [oW 3 (.box 37 6 (.t 0)), oW 5 (.box 49 7 (.t 2)), oW 6 (.move (.c .nsl))])
 (.seq (.region [oW 7 (.move (.c .nsl))])
 (.seq (.seq (.region [oA 10 1 3, oD 11 10, oW 12 (.len 1 (.t 11)), oW 13 (.move (oI 0))])
 (.block 0 (.loop t181l0)))
 t181k0))) }

theorem c181 : compFunc Tryz.prog Tryz.f181 .full = some t181 := by kernel_rfl

end Go.Dm.Tr7
