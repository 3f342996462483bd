/-
The table of functions, brought into the machine's form (Tc, part 3). Written by program (wip/tools/table.lean.txt).
-/
import Derived.Test.YtfnhanajiibciaaGreatMm3
import Derived.Test.YtfnhanajiibciaaGreatRows
import Derived.KernelRfl
namespace Go.Dm.Tc
open Go.Proofs
def t201 : DFunc := { ntmps := 33, results := [(.t 2)], mode := .full, body :=
 (.seq (.region [oW 2 (.move (.c (.int .u64 0)))])
 (.seq (.draw [oRM 3 0, oR 4 (.nilCheck (.t 3)), oRD 5 4, oRM 6 0, oR 7 (.nilCheck (.t 6)), oRD 8 7, oR 9 (.arith .shl (.t 8) (.c (.int .u64 13))), oR 10 (.arith .xor (.t 5) (.t 9)), oR 11 (.nilCheck (.t 3)), oS 1 11 10])
 (.seq (.draw [oRM 12 0, oR 13 (.nilCheck (.t 12)), oRD 14 13, oRM 15 0, oR 16 (.nilCheck (.t 15)), oRD 17 16, oR 18 (.arith .shr (.t 17) (.c (.int .u64 7))), oR 19 (.arith .xor (.t 14) (.t 18)), oR 20 (.nilCheck (.t 12)), oS 1 20 19])
 (.seq (.draw [oRM 21 0, oR 22 (.nilCheck (.t 21)), oRD 23 22, oRM 24 0, oR 25 (.nilCheck (.t 24)), oRD 26 25, oR 27 (.arith .shl (.t 26) (.c (.int .u64 17))), oR 28 (.arith .xor (.t 23) (.t 27)), oR 29 (.nilCheck (.t 21)), oS 1 29 28])
 (.seq (.region [oM 30 0, oW 31 (.nilCheck (.t 30)), oD 32 31, oM 2 32])
 .ret))))) }
theorem c201 : compFunc Tryz.prog Tryz.f201 .full = some t201 := by kernel_rfl
def t202 : DFunc := { ntmps := 15, results := [(.t 6)], mode := .full, body :=
 (.seq (.region [oW 6 (.move (oI 0))])
 (.seq (.region [oM 7 0, oM 8 1, oW 9 (.arith .sub (.t 8) (oI 1)), oM 10 1, oM 11 1, oW 12 (.arith .add (.t 11) (oI 1)), oM 13 2, oW 14 (.call (oF 203) [(.t 7), (.t 9), (.t 10), (.t 12), (.t 13)]), oM 6 14])
 .ret)) }
theorem c202 : compFunc Tryz.prog Tryz.f202 .full = some t202 := by kernel_rfl
def t203 : DFunc := { ntmps := 36, results := [(.t 10)], mode := .full, body :=
 (.seq (.region [oW 10 (.move (oI 0))])
 (.seq (.region [oM 12 0, oM 13 1, oM 14 2, oM 15 4, oW 16 (.call (oF 212) [(.t 12), (.t 13), (.t 14), (.t 15)]), oM 11 16, oX 17 11 0, oX 18 11 1, oM 1 17, oM 2 18])
 (.seq (.region [oM 20 0, oM 21 2, oM 22 3, oM 23 4, oW 24 (.call (oF 212) [(.t 20), (.t 21), (.t 22), (.t 23)]), oM 19 24, oX 25 19 0, oX 26 19 1, oM 2 25, oM 3 26])
 (.seq (.region [oM 28 0, oM 29 1, oM 30 2, oM 31 4, oW 32 (.call (oF 212) [(.t 28), (.t 29), (.t 30), (.t 31)]), oM 27 32, oX 33 27 0, oX 34 27 1, oM 1 33, oM 2 34])
 (.seq (.region [oM 35 2, oM 10 35])
 .ret))))) }
theorem c203 : compFunc Tryz.prog Tryz.f203 .full = some t203 := by kernel_rfl
def t204l0 : DCode :=
 (.seq (.seq (.region [oM 7 2, oM 8 3, oW 9 (.arith .lss (.t 7) (.t 8))])
 (.cond (.t 9) .skip (.exit 0)))
 (.seq (.block 1 (.draw [oRM 18 0, oRM 19 3, oR 20 (.indexAddr 4 (.t 18) (.t 19)), oRL 21 4 20, oRM 22 0, oRM 23 2, oR 24 (.indexAddr 4 (.t 22) (.t 23)), oRL 25 4 24, oRM 14 0, oRM 15 2, oR 26 (.indexAddr 4 (.t 14) (.t 15)), oS 4 26 21, oRM 16 0, oRM 17 3, ⟨(some 27), .indexAddr 4 (.t 16) (.t 17), none, .read, 1, false⟩, ⟨none, .store 4 (.t 27) (.t 25), none, .write, 1, false⟩]))
 (.region [oM 10 2, oW 11 (.arith .add (.t 10) (oI 1)), oM 12 3, oW 13 (.arith .sub (.t 12) (oI 1)), oM 2 11, oM 3 13])))
def t204 : DFunc := { ntmps := 28, results := [], mode := .full, body :=
 (.seq (.region [oM 4 0, oW 5 (.len 1 (.t 4)), oW 6 (.arith .sub (.t 5) (oI 1)), oW 2 (.move (oI 0)), oM 3 6])
 (.block 0 (.loop t204l0))) }
theorem c204 : compFunc Tryz.prog Tryz.f204 .full = some t204 := by kernel_rfl
def t205l0 : DCode :=
 (.seq (.seq (.region [oM 7 2, oM 8 3, oW 9 (.arith .lss (.t 7) (.t 8))])
 (.cond (.t 9) .skip (.exit 0)))
 (.seq (.block 1 (.draw [oRM 18 0, oRM 19 3, oR 20 (.indexAddr 2 (.t 18) (.t 19)), oRL 21 2 20, oRM 22 0, oRM 23 2, oR 24 (.indexAddr 2 (.t 22) (.t 23)), oRL 25 2 24, oRM 14 0, oRM 15 2, oR 26 (.indexAddr 2 (.t 14) (.t 15)), oS 2 26 21, oRM 16 0, oRM 17 3, ⟨(some 27), .indexAddr 2 (.t 16) (.t 17), none, .read, 1, false⟩, ⟨none, .store 2 (.t 27) (.t 25), none, .write, 1, false⟩]))
 (.region [oM 10 2, oW 11 (.arith .add (.t 10) (oI 1)), oM 12 3, oW 13 (.arith .sub (.t 12) (oI 1)), oM 2 11, oM 3 13])))
def t205 : DFunc := { ntmps := 28, results := [], mode := .full, body :=
 (.seq (.region [oM 4 0, oW 5 (.len 1 (.t 4)), oW 6 (.arith .sub (.t 5) (oI 1)), oW 2 (.move (oI 0)), oM 3 6])
 (.block 0 (.loop t205l0))) }
theorem c205 : compFunc Tryz.prog Tryz.f205 .full = some t205 := by kernel_rfl
def t206 : DFunc := { ntmps := 48, results := [(.t 4)], mode := .pure, body :=
 (.seq (.region [oW 2 (.box 62 5 (.t 0)), oW 3 (.box 202 3 (.t 1)), oW 4 (.move (oB false))])
 (.seq (.seq (.region [oA 5 1 2, oD 6 5])
 (.block 0 (.seq (.region [oW 8 (.arith .eql (.t 6) (oI 1)), oM 7 8])
 (.cond (.t 7) (.seq (.region [oA 9 0 3, oD 10 9, oW 11 (.un .not (.t 10)), oM 12 11, ⟨(some 13), .fieldAddr 1 (.t 3), (some (12, true)), .write, 0, false⟩, ⟨(some 14), .load none (.t 13), (some (12, true)), .write, 0, false⟩, ⟨(some 15), .fieldAddr 2 (.t 2), (some (12, true)), .write, 0, false⟩, ⟨(some 16), .load none (.t 15), (some (12, true)), .write, 0, false⟩, ⟨(some 17), .arith .geq (.t 14) (.t 16), (some (12, true)), .write, 0, false⟩, oW 18 (.pick (.t 12) (.t 17) (oB false)), oM 19 18, ⟨(some 20), .fieldAddr 1 (.t 3), (some (19, true)), .write, 0, false⟩, ⟨(some 21), .load none (.t 20), (some (19, true)), .write, 0, false⟩, ⟨(some 22), .fieldAddr 3 (.t 2), (some (19, true)), .write, 0, false⟩, ⟨(some 23), .load none (.t 22), (some (19, true)), .write, 0, false⟩, ⟨(some 24), .arith .leq (.t 21) (.t 23), (some (19, true)), .write, 0, false⟩, oW 25 (.pick (.t 19) (.t 24) (oB false)), oM 4 25])
 .ret) (.seq (.region [oW 27 (.arith .eql (.t 6) (oI 2)), oM 26 27])
 (.cond (.t 26) (.seq (.region [oA 28 0 3, oD 29 28, oM 30 29, ⟨(some 31), .fieldAddr 2 (.t 3), (some (30, true)), .write, 0, false⟩, ⟨(some 32), .load none (.t 31), (some (30, true)), .write, 0, false⟩, ⟨(some 33), .fieldAddr 4 (.t 2), (some (30, true)), .write, 0, false⟩, ⟨(some 34), .load none (.t 33), (some (30, true)), .write, 0, false⟩, ⟨(some 35), .arith .eql (.t 32) (.t 34), (some (30, true)), .write, 0, false⟩, oW 36 (.pick (.t 30) (.t 35) (oB false)), oM 4 36])
 .ret) (.seq (.region [oW 38 (.arith .eql (.t 6) (oI 3)), oM 37 38])
 (.cond (.t 37) (.seq (.region [oA 39 0 3, oD 40 39, oM 41 40, ⟨(some 42), .fieldAddr 2 (.t 3), (some (41, true)), .write, 0, false⟩, ⟨(some 43), .load none (.t 42), (some (41, true)), .write, 0, false⟩, ⟨(some 44), .fieldAddr 4 (.t 2), (some (41, true)), .write, 0, false⟩, ⟨(some 45), .load none (.t 44), (some (41, true)), .write, 0, false⟩, ⟨(some 46), .call (oF 188) [(.t 43), (.t 45)], (some (41, true)), .write, 0, false⟩, oW 47 (.pick (.t 41) (.t 46) (oB false)), oM 4 47])
 .ret) .skip))))))))
 (.seq (.region [oW 4 (.move (oB false))])
 .ret))) }
theorem c206 : compFunc Tryz.prog Tryz.f206 .pure = some t206 := by kernel_rfl
def t207l0 : DCode :=
 (.seq (.seq (.region [oM 7 2, oM 8 3, oW 9 (.arith .lss (.t 7) (.t 8))])
 (.cond (.t 9) .skip (.exit 0)))
 (.seq (.block 1 (.draw [oRM 18 0, oRM 19 3, oR 20 (.indexAddr 7 (.t 18) (.t 19)), oRL 21 7 20, oRM 22 0, oRM 23 2, oR 24 (.indexAddr 7 (.t 22) (.t 23)), oRL 25 7 24, oRM 14 0, oRM 15 2, oR 26 (.indexAddr 7 (.t 14) (.t 15)), oS 7 26 21, oRM 16 0, oRM 17 3, ⟨(some 27), .indexAddr 7 (.t 16) (.t 17), none, .read, 1, false⟩, ⟨none, .store 7 (.t 27) (.t 25), none, .write, 1, false⟩]))
 (.region [oM 10 2, oW 11 (.arith .add (.t 10) (oI 1)), oM 12 3, oW 13 (.arith .sub (.t 12) (oI 1)), oM 2 11, oM 3 13])))
def t207 : DFunc := { ntmps := 28, results := [], mode := .full, body :=
 (.seq (.region [oM 4 0, oW 5 (.len 1 (.t 4)), oW 6 (.arith .sub (.t 5) (oI 1)), oW 2 (.move (oI 0)), oM 3 6])
 (.block 0 (.loop t207l0))) }
theorem c207 : compFunc Tryz.prog Tryz.f207 .full = some t207 := by kernel_rfl
def t212 : DFunc := { ntmps := 28, results := [(.t 8), (.t 9)], mode := .pure, body :=
 (.seq (.region [oW 8 (.move (oI 0)), oW 9 (.move (oI 0))])
 (.seq (.seq (.draw [oRM 10 0, oRM 11 2, oR 12 (.indexAddr 1 (.t 10) (.t 11)), oRD 13 12, oRM 14 0, oRM 15 1, oR 16 (.indexAddr 1 (.t 14) (.t 15)), oRD 17 16, oW 18 (.call (oF 176) [(.t 13), (.t 17)])])
 (.cond (.t 18) (.seq (.region [oM 19 3, oW 20 (.nilCheck (.t 19)), oD 21 20, oW 22 (.arith .add (.t 21) (oI 1)), oW 23 (.nilCheck (.t 19)), oS 1 23 22])
 (.seq (.region [oM 24 2, oM 25 1, oM 8 24, oM 9 25])
 .ret)) .skip))
 (.seq (.region [oM 26 1, oM 27 2, oM 8 26, oM 9 27])
 .ret))) }
theorem c212 : compFunc Tryz.prog Tryz.f212 .pure = some t212 := by kernel_rfl
end Go.Dm.Tc
