/-
The table of functions, brought into the machine's form (Tc, part 3). Written by program (wip/tools/table.lean.txt).
-/
import Derived.Test.YtfnhanajiibciaaGreatMm3
import Derived.Test.YtfnhanajiibciaaGreatRows
import Derived.KernelRfl
namespace Go.Dm.Tc
open Go.Proofs

def t185l0 : DCode :=
 (.seq (.region [oW 7 (.arith .lss (.t 6) (.t 5))])
 (.seq (.cond (.t 7) .skip (.exit 0))
 (.seq (.block 1 (.seq (.region [oW 8 (.move (.t 6)), oW 3 (.move (.t 8))])
 (.seq (.region [oW 9 (.move (.t 0)), oW 10 (.move (.t 3)), oW 11 (.indexStr (.t 9) (.t 10)), oW 12 (.arith .lss (.t 11) (.c (.int .u8 97))), oW 13 (.move (.t 12)), ⟨(some 14), .move (.t 0), (some (13, false)), .write, 0⟩, ⟨(some 15), .move (.t 3), (some (13, false)), .write, 0⟩, ⟨(some 16), .indexStr (.t 14) (.t 15), (some (13, false)), .write, 0⟩, ⟨(some 17), .arith .gtr (.t 16) (.c (.int .u8 122)), (some (13, false)), .write, 0⟩, oW 18 (.pick (.t 13) (oB true) (.t 17))])
 (.cond (.t 18) (.seq (.region [oW 2 (.move (oB false))])
 .ret) .skip))))
 (.region [oW 19 (.arith .add (.t 6) (oI 1)), oW 6 (.move (.t 19))]))))

def t185k0 : DCode :=
 (.seq (.region [oW 20 (.move (.t 0)), oW 21 (.arith .neq (.t 20) (.c (.str []))), oW 22 (.move (.t 21)), ⟨(some 23), .move (.t 0), (some (22, true)), .write, 0⟩, ⟨(some 24), .len 0 (.t 23), (some (22, true)), .write, 0⟩, ⟨(some 25), .arith .leq (.t 24) (oI 12), (some (22, true)), .write, 0⟩, oW 26 (.pick (.t 22) (.t 25) (oB false)), oW 2 (.move (.t 26))])
 .ret)

/-- broadside/tuple.Name -/
def t185 : DFunc := { ntmps := 27, results := [(.t 2)], mode := .pure, body :=
 (.seq (.region [oW 2 (.move (oB false))])
 (.seq (.seq (.region [oW 4 (.move (.t 0)), oW 5 (.len 0 (.t 4)), oW 6 (.move (oI 0))])
 (.block 0 (.loop t185l0)))
 t185k0)) }

theorem c185 : compFunc Tryz.prog Tryz.f185 .pure = some t185 := by kernel_rfl

/-- slices.rotateLeft[broadside/api.Entry] -/
def t187 : DFunc := { ntmps := 14, results := [], mode := .full, body :=
 (.seq (.region [oW 4 (.move (.t 0)), oW 5 (.move (.t 1)), oW 6 (.sliceSl 7 (.t 4) none (some (.t 5))), oW 7 (.call (oF 207) [(.t 6)])])
 (.seq (.region [oW 8 (.move (.t 0)), oW 9 (.move (.t 1)), oW 10 (.sliceSl 7 (.t 8) (some (.t 9)) none), oW 11 (.call (oF 207) [(.t 10)])])
 (.region [oW 12 (.move (.t 0)), oW 13 (.call (oF 207) [(.t 12)])]))) }

theorem c187 : compFunc Tryz.prog Tryz.f187 .full = some t187 := by kernel_rfl

/-- broadside/broadsideref1.begins -/
def t188 : DFunc := { ntmps := 18, results := [(.t 4)], mode := .pure, body :=
 (.seq (.region [oW 4 (.move (oB false))])
 (.seq (.region [oW 5 (.move (.t 0)), oW 6 (.len 0 (.t 5)), oW 7 (.move (.t 1)), oW 8 (.len 0 (.t 7)), oW 9 (.arith .geq (.t 6) (.t 8)), oW 10 (.move (.t 9)), ⟨(some 11), .move (.t 0), (some (10, true)), .write, 0⟩, ⟨(some 12), .move (.t 1), (some (10, true)), .write, 0⟩, ⟨(some 13), .len 0 (.t 12), (some (10, true)), .write, 0⟩, ⟨(some 14), .sliceStr (.t 11) none (some (.t 13)), (some (10, true)), .write, 0⟩, ⟨(some 15), .move (.t 1), (some (10, true)), .write, 0⟩, ⟨(some 16), .arith .eql (.t 14) (.t 15), (some (10, true)), .write, 0⟩, oW 17 (.pick (.t 10) (.t 16) (oB false)), oW 4 (.move (.t 17))])
 .ret)) }

theorem c188 : compFunc Tryz.prog Tryz.f188 .pure = some t188 := by kernel_rfl

/-- internal/stringslite.HasPrefix -/
def t198 : DFunc := { ntmps := 18, results := [(.t 4)], mode := .pure, body :=
 (.seq (.region [oW 4 (.move (oB false))])
 (.seq (.region [oW 5 (.move (.t 0)), oW 6 (.len 0 (.t 5)), oW 7 (.move (.t 1)), oW 8 (.len 0 (.t 7)), oW 9 (.arith .geq (.t 6) (.t 8)), oW 10 (.move (.t 9)), ⟨(some 11), .move (.t 0), (some (10, true)), .write, 0⟩, ⟨(some 12), .move (.t 1), (some (10, true)), .write, 0⟩, ⟨(some 13), .len 0 (.t 12), (some (10, true)), .write, 0⟩, ⟨(some 14), .sliceStr (.t 11) none (some (.t 13)), (some (10, true)), .write, 0⟩, ⟨(some 15), .move (.t 1), (some (10, true)), .write, 0⟩, ⟨(some 16), .arith .eql (.t 14) (.t 15), (some (10, true)), .write, 0⟩, oW 17 (.pick (.t 10) (.t 16) (oB false)), oW 4 (.move (.t 17))])
 .ret)) }

theorem c198 : compFunc Tryz.prog Tryz.f198 .pure = some t198 := by kernel_rfl

def t199l0 : DCode :=
 (.block 1 (.seq (.region [oW 11 (.move (.t 8)), oW 12 (.arith .mul (oI 2) (.t 11)), oW 13 (.arith .add (.t 12) (oI 1)), oW 9 (.move (.t 13))])
 (.seq (.seq (.region [oW 14 (.move (.t 9)), oW 15 (.move (.t 2)), oW 16 (.arith .geq (.t 14) (.t 15))])
 (.cond (.t 16) (.exit 0) .skip))
 (.seq (.seq (.draw [oR 17 (.move (.t 9)), oR 18 (.arith .add (.t 17) (oI 1)), oR 19 (.move (.t 2)), oR 20 (.arith .lss (.t 18) (.t 19)), oR 21 (.move (.t 20)), ⟨(some 22), .move (.t 0), (some (21, true)), .read, 0⟩, ⟨(some 23), .move (.t 3), (some (21, true)), .read, 0⟩, ⟨(some 24), .move (.t 9), (some (21, true)), .read, 0⟩, ⟨(some 25), .arith .add (.t 23) (.t 24), (some (21, true)), .read, 0⟩, ⟨(some 26), .indexAddr 1 (.t 22) (.t 25), (some (21, true)), .read, 0⟩, ⟨(some 27), .load none (.t 26), (some (21, true)), .read, 0⟩, ⟨(some 28), .move (.t 0), (some (21, true)), .read, 0⟩, ⟨(some 29), .move (.t 3), (some (21, true)), .read, 0⟩, ⟨(some 30), .move (.t 9), (some (21, true)), .read, 0⟩, ⟨(some 31), .arith .add (.t 29) (.t 30), (some (21, true)), .read, 0⟩, ⟨(some 32), .arith .add (.t 31) (oI 1), (some (21, true)), .read, 0⟩, ⟨(some 33), .indexAddr 1 (.t 28) (.t 32), (some (21, true)), .read, 0⟩, ⟨(some 34), .load none (.t 33), (some (21, true)), .read, 0⟩, ⟨(some 35), .call (oF 176) [(.t 27), (.t 34)], (some (21, true)), .write, 0⟩, ⟨(some 36), .pick (.t 21) (.t 35) (oB false), none, .read, 1⟩])
 (.cond (.t 36) (.region [oW 37 (.move (.t 9)), oW 38 (.arith .add (.t 37) (oI 1)), oW 9 (.move (.t 38))]) .skip))
 (.seq (.seq (.draw [oR 39 (.move (.t 0)), oR 40 (.move (.t 3)), oR 41 (.move (.t 8)), oR 42 (.arith .add (.t 40) (.t 41)), oR 43 (.indexAddr 1 (.t 39) (.t 42)), oR 44 (.load none (.t 43)), oR 45 (.move (.t 0)), oR 46 (.move (.t 3)), oR 47 (.move (.t 9)), oR 48 (.arith .add (.t 46) (.t 47)), oR 49 (.indexAddr 1 (.t 45) (.t 48)), oR 50 (.load none (.t 49)), oW 51 (.call (oF 176) [(.t 44), (.t 50)]), ⟨(some 52), .un .not (.t 51), none, .read, 1⟩])
 (.cond (.t 52) .ret .skip))
 (.seq (.draw [oR 61 (.move (.t 0)), oR 62 (.move (.t 3)), oR 63 (.move (.t 9)), oR 64 (.arith .add (.t 62) (.t 63)), oR 65 (.indexAddr 1 (.t 61) (.t 64)), oR 66 (.load none (.t 65)), oR 67 (.move (.t 0)), oR 68 (.move (.t 3)), oR 69 (.move (.t 8)), oR 70 (.arith .add (.t 68) (.t 69)), oR 71 (.indexAddr 1 (.t 67) (.t 70)), oR 72 (.load none (.t 71)), oR 53 (.move (.t 0)), oR 54 (.move (.t 3)), oR 55 (.move (.t 8)), oR 56 (.arith .add (.t 54) (.t 55)), oR 73 (.indexAddr 1 (.t 53) (.t 56)), oZ (.store 1 (.t 73) (.t 66)), oR 57 (.move (.t 0)), oR 58 (.move (.t 3)), oR 59 (.move (.t 9)), oR 60 (.arith .add (.t 58) (.t 59)), ⟨(some 74), .indexAddr 1 (.t 57) (.t 60), none, .read, 1⟩, ⟨none, .store 1 (.t 74) (.t 72), none, .write, 1⟩])
 (.region [oW 75 (.move (.t 9)), oW 8 (.move (.t 75))])))))))

/-- slices.siftDownOrdered[int] -/
def t199 : DFunc := { ntmps := 76, results := [], mode := .full, body :=
 (.seq (.region [oW 10 (.move (.t 1)), oW 8 (.move (.t 10))])
 (.block 0 (.loop t199l0))) }

theorem c199 : compFunc Tryz.prog Tryz.f199 .full = some t199 := by kernel_rfl

/-- slices.nextPowerOfTwo -/
def t200 : DFunc := { ntmps := 7, results := [(.t 2)], mode := .pure, body :=
 (.seq (.region [oW 2 (.move (.c (.int .u64 0)))])
 (.seq (.region [oW 3 (.move (.t 0)), oW 4 (.conv .u64 (.t 3)), oW 5 (.call (oF 135) [(.t 4)]), oW 6 (.arith .shl (.c (.int .u64 1)) (.t 5)), oW 2 (.move (.t 6))])
 .ret)) }

theorem c200 : compFunc Tryz.prog Tryz.f200 .pure = some t200 := by kernel_rfl

/-- (*slices.xorshift).Next -/
def t201 : DFunc := { ntmps := 33, results := [(.t 2)], mode := .full, body :=
 (.seq (.region [oW 2 (.move (.c (.int .u64 0)))])
 (.seq (.draw [oR 3 (.move (.t 0)), oR 4 (.nilCheck (.t 3)), oR 5 (.load none (.t 4)), oR 6 (.move (.t 0)), oR 7 (.nilCheck (.t 6)), oR 8 (.load none (.t 7)), oR 9 (.arith .shl (.t 8) (.c (.int .u64 13))), oR 10 (.arith .xor (.t 5) (.t 9)), oR 11 (.nilCheck (.t 3)), oZ (.store 1 (.t 11) (.t 10))])
 (.seq (.draw [oR 12 (.move (.t 0)), oR 13 (.nilCheck (.t 12)), oR 14 (.load none (.t 13)), oR 15 (.move (.t 0)), oR 16 (.nilCheck (.t 15)), oR 17 (.load none (.t 16)), oR 18 (.arith .shr (.t 17) (.c (.int .u64 7))), oR 19 (.arith .xor (.t 14) (.t 18)), oR 20 (.nilCheck (.t 12)), oZ (.store 1 (.t 20) (.t 19))])
 (.seq (.draw [oR 21 (.move (.t 0)), oR 22 (.nilCheck (.t 21)), oR 23 (.load none (.t 22)), oR 24 (.move (.t 0)), oR 25 (.nilCheck (.t 24)), oR 26 (.load none (.t 25)), oR 27 (.arith .shl (.t 26) (.c (.int .u64 17))), oR 28 (.arith .xor (.t 23) (.t 27)), oR 29 (.nilCheck (.t 21)), oZ (.store 1 (.t 29) (.t 28))])
 (.seq (.region [oW 30 (.move (.t 0)), oW 31 (.nilCheck (.t 30)), oW 32 (.load none (.t 31)), oW 2 (.move (.t 32))])
 .ret))))) }

theorem c201 : compFunc Tryz.prog Tryz.f201 .full = some t201 := by kernel_rfl

/-- slices.medianAdjacentOrdered[int] -/
def t202 : DFunc := { ntmps := 15, results := [(.t 6)], mode := .full, body :=
 (.seq (.region [oW 6 (.move (oI 0))])
 (.seq (.region [oW 7 (.move (.t 0)), oW 8 (.move (.t 1)), oW 9 (.arith .sub (.t 8) (oI 1)), oW 10 (.move (.t 1)), oW 11 (.move (.t 1)), oW 12 (.arith .add (.t 11) (oI 1)), oW 13 (.move (.t 2)), oW 14 (.call (oF 203) [(.t 7), (.t 9), (.t 10), (.t 12), (.t 13)]), oW 6 (.move (.t 14))])
 .ret)) }

theorem c202 : compFunc Tryz.prog Tryz.f202 .full = some t202 := by kernel_rfl

/-- slices.medianOrdered[int] -/
def t203 : DFunc := { ntmps := 36, results := [(.t 10)], mode := .full, body :=
 (.seq (.region [oW 10 (.move (oI 0))])
 (.seq (.region [oW 12 (.move (.t 0)), oW 13 (.move (.t 1)), oW 14 (.move (.t 2)), oW 15 (.move (.t 4)), oW 16 (.call (oF 212) [(.t 12), (.t 13), (.t 14), (.t 15)]), oW 11 (.move (.t 16)), oW 17 (.extract (.t 11) 0), oW 18 (.extract (.t 11) 1), oW 1 (.move (.t 17)), oW 2 (.move (.t 18))])
 (.seq (.region [oW 20 (.move (.t 0)), oW 21 (.move (.t 2)), oW 22 (.move (.t 3)), oW 23 (.move (.t 4)), oW 24 (.call (oF 212) [(.t 20), (.t 21), (.t 22), (.t 23)]), oW 19 (.move (.t 24)), oW 25 (.extract (.t 19) 0), oW 26 (.extract (.t 19) 1), oW 2 (.move (.t 25)), oW 3 (.move (.t 26))])
 (.seq (.region [oW 28 (.move (.t 0)), oW 29 (.move (.t 1)), oW 30 (.move (.t 2)), oW 31 (.move (.t 4)), oW 32 (.call (oF 212) [(.t 28), (.t 29), (.t 30), (.t 31)]), oW 27 (.move (.t 32)), oW 33 (.extract (.t 27) 0), oW 34 (.extract (.t 27) 1), oW 1 (.move (.t 33)), oW 2 (.move (.t 34))])
 (.seq (.region [oW 35 (.move (.t 2)), oW 10 (.move (.t 35))])
 .ret))))) }

theorem c203 : compFunc Tryz.prog Tryz.f203 .full = some t203 := by kernel_rfl

def t204l0 : DCode :=
 (.seq (.seq (.region [oW 7 (.move (.t 2)), oW 8 (.move (.t 3)), oW 9 (.arith .lss (.t 7) (.t 8))])
 (.cond (.t 9) .skip (.exit 0)))
 (.seq (.block 1 (.draw [oR 18 (.move (.t 0)), oR 19 (.move (.t 3)), oR 20 (.indexAddr 4 (.t 18) (.t 19)), oR 21 (.load (some 4) (.t 20)), oR 22 (.move (.t 0)), oR 23 (.move (.t 2)), oR 24 (.indexAddr 4 (.t 22) (.t 23)), oR 25 (.load (some 4) (.t 24)), oR 14 (.move (.t 0)), oR 15 (.move (.t 2)), oR 26 (.indexAddr 4 (.t 14) (.t 15)), oZ (.store 4 (.t 26) (.t 21)), oR 16 (.move (.t 0)), oR 17 (.move (.t 3)), ⟨(some 27), .indexAddr 4 (.t 16) (.t 17), none, .read, 1⟩, ⟨none, .store 4 (.t 27) (.t 25), none, .write, 1⟩]))
 (.region [oW 10 (.move (.t 2)), oW 11 (.arith .add (.t 10) (oI 1)), oW 12 (.move (.t 3)), oW 13 (.arith .sub (.t 12) (oI 1)), oW 2 (.move (.t 11)), oW 3 (.move (.t 13))])))

/-- slices.Reverse[[]broadside/api.Advert,broadside/api.Advert] -/
def t204 : DFunc := { ntmps := 28, results := [], mode := .full, body :=
 (.seq (.region [oW 4 (.move (.t 0)), oW 5 (.len 1 (.t 4)), oW 6 (.arith .sub (.t 5) (oI 1)), oW 2 (.move (oI 0)), oW 3 (.move (.t 6))])
 (.block 0 (.loop t204l0))) }

theorem c204 : compFunc Tryz.prog Tryz.f204 .full = some t204 := by kernel_rfl

def t205l0 : DCode :=
 (.seq (.seq (.region [oW 7 (.move (.t 2)), oW 8 (.move (.t 3)), oW 9 (.arith .lss (.t 7) (.t 8))])
 (.cond (.t 9) .skip (.exit 0)))
 (.seq (.block 1 (.draw [oR 18 (.move (.t 0)), oR 19 (.move (.t 3)), oR 20 (.indexAddr 2 (.t 18) (.t 19)), oR 21 (.load (some 2) (.t 20)), oR 22 (.move (.t 0)), oR 23 (.move (.t 2)), oR 24 (.indexAddr 2 (.t 22) (.t 23)), oR 25 (.load (some 2) (.t 24)), oR 14 (.move (.t 0)), oR 15 (.move (.t 2)), oR 26 (.indexAddr 2 (.t 14) (.t 15)), oZ (.store 2 (.t 26) (.t 21)), oR 16 (.move (.t 0)), oR 17 (.move (.t 3)), ⟨(some 27), .indexAddr 2 (.t 16) (.t 17), none, .read, 1⟩, ⟨none, .store 2 (.t 27) (.t 25), none, .write, 1⟩]))
 (.region [oW 10 (.move (.t 2)), oW 11 (.arith .add (.t 10) (oI 1)), oW 12 (.move (.t 3)), oW 13 (.arith .sub (.t 12) (oI 1)), oW 2 (.move (.t 11)), oW 3 (.move (.t 13))])))

/-- slices.Reverse[[]broadside/api.ID,broadside/api.ID] -/
def t205 : DFunc := { ntmps := 28, results := [], mode := .full, body :=
 (.seq (.region [oW 4 (.move (.t 0)), oW 5 (.len 1 (.t 4)), oW 6 (.arith .sub (.t 5) (oI 1)), oW 2 (.move (oI 0)), oW 3 (.move (.t 6))])
 (.block 0 (.loop t205l0))) }

theorem c205 : compFunc Tryz.prog Tryz.f205 .full = some t205 := by kernel_rfl

def t207l0 : DCode :=
 (.seq (.seq (.region [oW 7 (.move (.t 2)), oW 8 (.move (.t 3)), oW 9 (.arith .lss (.t 7) (.t 8))])
 (.cond (.t 9) .skip (.exit 0)))
 (.seq (.block 1 (.draw [oR 18 (.move (.t 0)), oR 19 (.move (.t 3)), oR 20 (.indexAddr 7 (.t 18) (.t 19)), oR 21 (.load (some 7) (.t 20)), oR 22 (.move (.t 0)), oR 23 (.move (.t 2)), oR 24 (.indexAddr 7 (.t 22) (.t 23)), oR 25 (.load (some 7) (.t 24)), oR 14 (.move (.t 0)), oR 15 (.move (.t 2)), oR 26 (.indexAddr 7 (.t 14) (.t 15)), oZ (.store 7 (.t 26) (.t 21)), oR 16 (.move (.t 0)), oR 17 (.move (.t 3)), ⟨(some 27), .indexAddr 7 (.t 16) (.t 17), none, .read, 1⟩, ⟨none, .store 7 (.t 27) (.t 25), none, .write, 1⟩]))
 (.region [oW 10 (.move (.t 2)), oW 11 (.arith .add (.t 10) (oI 1)), oW 12 (.move (.t 3)), oW 13 (.arith .sub (.t 12) (oI 1)), oW 2 (.move (.t 11)), oW 3 (.move (.t 13))])))

/-- slices.Reverse[[]broadside/api.Entry,broadside/api.Entry] -/
def t207 : DFunc := { ntmps := 28, results := [], mode := .full, body :=
 (.seq (.region [oW 4 (.move (.t 0)), oW 5 (.len 1 (.t 4)), oW 6 (.arith .sub (.t 5) (oI 1)), oW 2 (.move (oI 0)), oW 3 (.move (.t 6))])
 (.block 0 (.loop t207l0))) }

theorem c207 : compFunc Tryz.prog Tryz.f207 .full = some t207 := by kernel_rfl

/-- slices.order2Ordered[int] -/
def t212 : DFunc := { ntmps := 28, results := [(.t 8), (.t 9)], mode := .pure, body :=
 (.seq (.region [oW 8 (.move (oI 0)), oW 9 (.move (oI 0))])
 (.seq (.seq (.draw [oR 10 (.move (.t 0)), oR 11 (.move (.t 2)), oR 12 (.indexAddr 1 (.t 10) (.t 11)), oR 13 (.load none (.t 12)), oR 14 (.move (.t 0)), oR 15 (.move (.t 1)), oR 16 (.indexAddr 1 (.t 14) (.t 15)), oR 17 (.load none (.t 16)), oW 18 (.call (oF 176) [(.t 13), (.t 17)])])
 (.cond (.t 18) (.seq (.region [oW 19 (.move (.t 3)), oW 20 (.nilCheck (.t 19)), oW 21 (.load none (.t 20)), oW 22 (.arith .add (.t 21) (oI 1)), oW 23 (.nilCheck (.t 19)), oZ (.store 1 (.t 23) (.t 22))])
 (.seq (.region [oW 24 (.move (.t 2)), oW 25 (.move (.t 1)), oW 8 (.move (.t 24)), oW 9 (.move (.t 25))])
 .ret)) .skip))
 (.seq (.region [oW 26 (.move (.t 1)), oW 27 (.move (.t 2)), oW 8 (.move (.t 26)), oW 9 (.move (.t 27))])
 .ret))) }

theorem c212 : compFunc Tryz.prog Tryz.f212 .pure = some t212 := by kernel_rfl

end Go.Dm.Tc
