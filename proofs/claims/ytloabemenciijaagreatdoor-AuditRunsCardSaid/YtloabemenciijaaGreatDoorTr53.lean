/-
The table of functions, brought into the machine's form (Tr5, part 3). Written by program (wip/tools/table3.lean.txt).
-/
import Derived.Test.YtloabemenciijaaGreatDoorMm4
import Derived.Test.YtloabemenciijaaGreatDoorRows
import Derived.KernelRfl
namespace Go.Dm.Tr5
open Go.Proofs

/-- slices.nextPowerOfTwo -/
def t333 : DFunc := { ntmps := 7, results := [(.t 2)], mode := .full, body :=
 (.seq (.region [oW 2 (.move (.c (.int .u64 0)))])
 (.seq (.region [oM 3 0, oW 4 (.conv .u64 (.t 3)), oW 5 (.call (oF 219) [(.t 4)]), oW 6 (.arith .shl (.c (.int .u64 1)) (.t 5)), oM 2 6])
 .ret)) }

theorem c333 : compFunc Tryz.prog Tryz.f333 .full = some t333 := by kernel_rfl

/-- (*slices.xorshift).Next -/
def t334 : DFunc := { ntmps := 33, results := [(.t 2)], mode := .full, body :=
 (.seq (.region [oW 2 (.move (.c (.int .u64 0)))])
 (.seq (.draw [oRM 3 0, oR 4 (.nilCheck (.t 3)), oRD 5 4, oRM 6 0, oR 7 (.nilCheck (.t 6)), oRD 8 7, oR 9 (.arith .shl (.t 8) (.c (.int .u64 13))), oR 10 (.arith .xor (.t 5) (.t 9)), oR 11 (.nilCheck (.t 3)), oS 1 11 10])
 (.seq (.draw [oRM 12 0, oR 13 (.nilCheck (.t 12)), oRD 14 13, oRM 15 0, oR 16 (.nilCheck (.t 15)), oRD 17 16, oR 18 (.arith .shr (.t 17) (.c (.int .u64 7))), oR 19 (.arith .xor (.t 14) (.t 18)), oR 20 (.nilCheck (.t 12)), oS 1 20 19])
 (.seq (.draw [oRM 21 0, oR 22 (.nilCheck (.t 21)), oRD 23 22, oRM 24 0, oR 25 (.nilCheck (.t 24)), oRD 26 25, oR 27 (.arith .shl (.t 26) (.c (.int .u64 17))), oR 28 (.arith .xor (.t 23) (.t 27)), oR 29 (.nilCheck (.t 21)), oS 1 29 28])
 (.seq (.region [oM 30 0, oW 31 (.nilCheck (.t 30)), oD 32 31, oM 2 32])
 .ret))))) }

theorem c334 : compFunc Tryz.prog Tryz.f334 .full = some t334 := by kernel_rfl

/-- slices.medianAdjacentCmpFunc[[2]int] -/
def t335 : DFunc := { ntmps := 18, results := [(.t 8)], mode := .full, body :=
 (.seq (.region [oW 8 (.move (oI 0))])
 (.seq (.region [oM 9 0, oM 10 1, oW 11 (.arith .sub (.t 10) (oI 1)), oM 12 1, oM 13 1, oW 14 (.arith .add (.t 13) (oI 1)), oM 15 2, oM 16 3, oW 17 (.call (oF 336) [(.t 9), (.t 11), (.t 12), (.t 14), (.t 15), (.t 16)]), oM 8 17])
 .ret)) }

theorem c335 : compFunc Tryz.prog Tryz.f335 .full = some t335 := by kernel_rfl

/-- slices.medianCmpFunc[[2]int] -/
def t336 : DFunc := { ntmps := 41, results := [(.t 12)], mode := .full, body :=
 (.seq (.region [oW 12 (.move (oI 0))])
 (.seq (.region [oM 14 0, oM 15 1, oM 16 2, oM 17 4, oM 18 5, oW 19 (.call (oF 363) [(.t 14), (.t 15), (.t 16), (.t 17), (.t 18)]), oM 13 19, oX 20 13 0, oX 21 13 1, oM 1 20, oM 2 21])
 (.seq (.region [oM 23 0, oM 24 2, oM 25 3, oM 26 4, oM 27 5, oW 28 (.call (oF 363) [(.t 23), (.t 24), (.t 25), (.t 26), (.t 27)]), oM 22 28, oX 29 22 0, oX 30 22 1, oM 2 29, oM 3 30])
 (.seq (.region [oM 32 0, oM 33 1, oM 34 2, oM 35 4, oM 36 5, oW 37 (.call (oF 363) [(.t 32), (.t 33), (.t 34), (.t 35), (.t 36)]), oM 31 37, oX 38 31 0, oX 39 31 1, oM 1 38, oM 2 39])
 (.seq (.region [oM 40 2, oM 12 40])
 .ret))))) }

theorem c336 : compFunc Tryz.prog Tryz.f336 .full = some t336 := by kernel_rfl

def t341l0 : DCode :=
 (.block 1 (.seq (.region [oM 11 8, oW 12 (.arith .mul (oI 2) (.t 11)), oW 13 (.arith .add (.t 12) (oI 1)), oM 9 13])
 (.seq (.seq (.region [oM 14 9, oM 15 2, oW 16 (.arith .geq (.t 14) (.t 15))])
 (.cond (.t 16) (.exit 0) .skip))
 (.seq (.seq (.draw [oRM 17 9, oR 18 (.arith .add (.t 17) (oI 1)), oRM 19 2, oR 20 (.arith .lss (.t 18) (.t 19)), oRM 21 20, ⟨(some 22), .move (.t 0), (some (21, true)), .read, 0, false⟩, ⟨(some 23), .move (.t 3), (some (21, true)), .read, 0, false⟩, ⟨(some 24), .move (.t 9), (some (21, true)), .read, 0, false⟩, ⟨(some 25), .arith .add (.t 23) (.t 24), (some (21, true)), .read, 0, false⟩, ⟨(some 26), .indexAddr 1 (.t 22) (.t 25), (some (21, true)), .read, 0, false⟩, ⟨(some 27), .load none (.t 26), (some (21, true)), .read, 0, false⟩, ⟨(some 28), .move (.t 0), (some (21, true)), .read, 0, false⟩, ⟨(some 29), .move (.t 3), (some (21, true)), .read, 0, false⟩, ⟨(some 30), .move (.t 9), (some (21, true)), .read, 0, false⟩, ⟨(some 31), .arith .add (.t 29) (.t 30), (some (21, true)), .read, 0, false⟩, ⟨(some 32), .arith .add (.t 31) (oI 1), (some (21, true)), .read, 0, false⟩, ⟨(some 33), .indexAddr 1 (.t 28) (.t 32), (some (21, true)), .read, 0, false⟩, ⟨(some 34), .load none (.t 33), (some (21, true)), .read, 0, false⟩, ⟨(some 35), .call (oF 303) [(.t 27), (.t 34)], (some (21, true)), .write, 0, false⟩, ⟨(some 36), .pick (.t 21) (.t 35) (oB false), none, .read, 1, false⟩])
 (.cond (.t 36) (.region [oM 37 9, oW 38 (.arith .add (.t 37) (oI 1)), oM 9 38]) .skip))
 (.seq (.seq (.draw [oRM 39 0, oRM 40 3, oRM 41 8, oR 42 (.arith .add (.t 40) (.t 41)), oR 43 (.indexAddr 1 (.t 39) (.t 42)), oRD 44 43, oRM 45 0, oRM 46 3, oRM 47 9, oR 48 (.arith .add (.t 46) (.t 47)), oR 49 (.indexAddr 1 (.t 45) (.t 48)), oRD 50 49, oW 51 (.call (oF 303) [(.t 44), (.t 50)]), ⟨(some 52), .un .not (.t 51), none, .read, 1, false⟩])
 (.cond (.t 52) .ret .skip))
 (.seq (.draw [oRM 61 0, oRM 62 3, oRM 63 9, oR 64 (.arith .add (.t 62) (.t 63)), oR 65 (.indexAddr 1 (.t 61) (.t 64)), oRD 66 65, oRM 67 0, oRM 68 3, oRM 69 8, oR 70 (.arith .add (.t 68) (.t 69)), oR 71 (.indexAddr 1 (.t 67) (.t 70)), oRD 72 71, oRM 53 0, oRM 54 3, oRM 55 8, oR 56 (.arith .add (.t 54) (.t 55)), oR 73 (.indexAddr 1 (.t 53) (.t 56)), oS 1 73 66, oRM 57 0, oRM 58 3, oRM 59 9, oR 60 (.arith .add (.t 58) (.t 59)), ⟨(some 74), .indexAddr 1 (.t 57) (.t 60), none, .read, 1, false⟩, ⟨none, .store 1 (.t 74) (.t 72), none, .write, 1, false⟩])
 (.region [oM 75 9, oM 8 75])))))))

/-- slices.siftDownOrdered[int] -/
def t341 : DFunc := { ntmps := 76, results := [], mode := .full, body :=
 (.seq (.region [oM 10 1, oM 8 10])
 (.block 0 (.loop t341l0))) }

theorem c341 : compFunc Tryz.prog Tryz.f341 .full = some t341 := by kernel_rfl

/-- slices.medianAdjacentOrdered[int] -/
def t342 : DFunc := { ntmps := 15, results := [(.t 6)], mode := .full, body :=
 (.seq (.region [oW 6 (.move (oI 0))])
 (.seq (.region [oM 7 0, oM 8 1, oW 9 (.arith .sub (.t 8) (oI 1)), oM 10 1, oM 11 1, oW 12 (.arith .add (.t 11) (oI 1)), oM 13 2, oW 14 (.call (oF 343) [(.t 7), (.t 9), (.t 10), (.t 12), (.t 13)]), oM 6 14])
 .ret)) }

theorem c342 : compFunc Tryz.prog Tryz.f342 .full = some t342 := by kernel_rfl

/-- slices.medianOrdered[int] -/
def t343 : DFunc := { ntmps := 36, results := [(.t 10)], mode := .full, body :=
 (.seq (.region [oW 10 (.move (oI 0))])
 (.seq (.region [oM 12 0, oM 13 1, oM 14 2, oM 15 4, oW 16 (.call (oF 366) [(.t 12), (.t 13), (.t 14), (.t 15)]), oM 11 16, oX 17 11 0, oX 18 11 1, oM 1 17, oM 2 18])
 (.seq (.region [oM 20 0, oM 21 2, oM 22 3, oM 23 4, oW 24 (.call (oF 366) [(.t 20), (.t 21), (.t 22), (.t 23)]), oM 19 24, oX 25 19 0, oX 26 19 1, oM 2 25, oM 3 26])
 (.seq (.region [oM 28 0, oM 29 1, oM 30 2, oM 31 4, oW 32 (.call (oF 366) [(.t 28), (.t 29), (.t 30), (.t 31)]), oM 27 32, oX 33 27 0, oX 34 27 1, oM 1 33, oM 2 34])
 (.seq (.region [oM 35 2, oM 10 35])
 .ret))))) }

theorem c343 : compFunc Tryz.prog Tryz.f343 .full = some t343 := by kernel_rfl

/-- internal/stringslite.HasPrefix -/
def t353 : DFunc := { ntmps := 18, results := [(.t 4)], mode := .full, body :=
 (.seq (.region [oW 4 (.move (oB false))])
 (.seq (.region [oM 5 0, oW 6 (.len 0 (.t 5)), oM 7 1, oW 8 (.len 0 (.t 7)), oW 9 (.arith .geq (.t 6) (.t 8)), oM 10 9, ⟨(some 11), .move (.t 0), (some (10, true)), .write, 0, false⟩, ⟨(some 12), .move (.t 1), (some (10, true)), .write, 0, false⟩, ⟨(some 13), .len 0 (.t 12), (some (10, true)), .write, 0, false⟩, ⟨(some 14), .sliceStr (.t 11) none (some (.t 13)), (some (10, true)), .write, 0, false⟩, ⟨(some 15), .move (.t 1), (some (10, true)), .write, 0, false⟩, ⟨(some 16), .arith .eql (.t 14) (.t 15), (some (10, true)), .write, 0, false⟩, oW 17 (.pick (.t 10) (.t 16) (oB false)), oM 4 17])
 .ret)) }

theorem c353 : compFunc Tryz.prog Tryz.f353 .full = some t353 := by kernel_rfl

/-- slices.order2CmpFunc[[2]int] -/
def t363 : DFunc := { ntmps := 32, results := [(.t 10), (.t 11)], mode := .full, body :=
 (.seq (.region [oW 10 (.move (oI 0)), oW 11 (.move (oI 0))])
 (.seq (.seq (.draw [oRM 13 0, oRM 14 2, oR 15 (.indexAddr 2 (.t 13) (.t 14)), oRL 16 2 15, oRM 17 0, oRM 18 1, oR 19 (.indexAddr 2 (.t 17) (.t 18)), oRL 20 2 19, oRM 12 4, oW 21 (.call (.t 12) [(.t 16), (.t 20)]), ⟨(some 22), .arith .lss (.t 21) (oI 0), none, .read, 1, false⟩])
 (.cond (.t 22) (.seq (.region [oM 23 3, oW 24 (.nilCheck (.t 23)), oD 25 24, oW 26 (.arith .add (.t 25) (oI 1)), oW 27 (.nilCheck (.t 23)), oS 1 27 26])
 (.seq (.region [oM 28 2, oM 29 1, oM 10 28, oM 11 29])
 .ret)) .skip))
 (.seq (.region [oM 30 1, oM 31 2, oM 10 30, oM 11 31])
 .ret))) }

theorem c363 : compFunc Tryz.prog Tryz.f363 .full = some t363 := by kernel_rfl

/-- slices.order2Ordered[int] -/
def t366 : DFunc := { ntmps := 28, results := [(.t 8), (.t 9)], mode := .full, body :=
 (.seq (.region [oW 8 (.move (oI 0)), oW 9 (.move (oI 0))])
 (.seq (.seq (.draw [oRM 10 0, oRM 11 2, oR 12 (.indexAddr 1 (.t 10) (.t 11)), oRD 13 12, oRM 14 0, oRM 15 1, oR 16 (.indexAddr 1 (.t 14) (.t 15)), oRD 17 16, oW 18 (.call (oF 303) [(.t 13), (.t 17)])])
 (.cond (.t 18) (.seq (.region [oM 19 3, oW 20 (.nilCheck (.t 19)), oD 21 20, oW 22 (.arith .add (.t 21) (oI 1)), oW 23 (.nilCheck (.t 19)), oS 1 23 22])
 (.seq (.region [oM 24 2, oM 25 1, oM 8 24, oM 9 25])
 .ret)) .skip))
 (.seq (.region [oM 26 1, oM 27 2, oM 8 26, oM 9 27])
 .ret))) }

theorem c366 : compFunc Tryz.prog Tryz.f366 .full = some t366 := by kernel_rfl

end Go.Dm.Tr5
