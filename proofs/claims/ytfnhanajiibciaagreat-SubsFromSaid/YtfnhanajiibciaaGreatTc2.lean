/-
The table of functions, brought into the machine's form (Tc, part 2). Written by program (wip/tools/table.lean.txt).
-/
import Derived.Test.YtfnhanajiibciaaGreatMm3
import Derived.Test.YtfnhanajiibciaaGreatRows
import Derived.KernelRfl
namespace Go.Dm.Tc
open Go.Proofs
def t141 : DFunc := { ntmps := 9, results := [(.t 4)], mode := .pure, body :=
 (.seq (.region [oW 2 (.box 42 4 (.t 0)), oW 3 (.box 37 2 (.t 1)), oW 4 (.move (oI 0))])
 (.seq (.region [oA 5 0 2, oL 6 2 5, oL 7 2 3, oW 8 (.call (oF 101) [(.t 6), (.t 7)]), oM 4 8])
 .ret)) }
theorem c141 : compFunc Tryz.prog Tryz.f141 .pure = some t141 := by kernel_rfl
def t143 : DFunc := { ntmps := 10, results := [], mode := .full, body :=
 (.region [oM 4 0, oM 5 0, oW 6 (.len 1 (.t 5)), oM 7 1, oW 8 (.arith .sub (.t 6) (.t 7)), oW 9 (.call (oF 181) [(.t 4), (.t 8)])]) }
theorem c143 : compFunc Tryz.prog Tryz.f143 .full = some t143 := by kernel_rfl
def t145 : DFunc := { ntmps := 10, results := [], mode := .full, body :=
 (.region [oM 4 0, oM 5 0, oW 6 (.len 1 (.t 5)), oM 7 1, oW 8 (.arith .sub (.t 6) (.t 7)), oW 9 (.call (oF 182) [(.t 4), (.t 8)])]) }
theorem c145 : compFunc Tryz.prog Tryz.f145 .full = some t145 := by kernel_rfl
def t146l0 : DCode :=
 (.seq (.region [oW 9 (.arith .lss (.t 8) (.t 7))])
 (.seq (.cond (.t 9) .skip (.exit 0))
 (.seq (.block 1 (.seq (.region [oM 10 8, oM 5 10])
 (.seq (.region [oM 11 1, oM 12 0, oM 13 5, oW 14 (.indexAddr 7 (.t 12) (.t 13)), oL 15 7 14, oW 16 (.call (.t 11) [(.t 15)])])
 (.cond (.t 16) (.seq (.region [oM 17 5, oM 4 17])
 .ret) .skip))))
 (.region [oW 18 (.arith .add (.t 8) (oI 1)), oM 8 18]))))
def t146k0 : DCode :=
 (.seq (.region [oW 4 (.move (oI (-1)))])
 .ret)
def t146 : DFunc := { ntmps := 19, results := [(.t 4)], mode := .pure, body :=
 (.seq (.region [oW 4 (.move (oI 0))])
 (.seq (.seq (.region [oM 6 0, oW 7 (.len 1 (.t 6)), oW 8 (.move (oI 0))])
 (.block 0 (.loop t146l0)))
 t146k0)) }
theorem c146 : compFunc Tryz.prog Tryz.f146 .pure = some t146 := by kernel_rfl
def t147l0 : DCode :=
 (.seq (.region [oW 14 (.arith .lss (.t 13) (.t 12))])
 (.seq (.cond (.t 14) .skip (.exit 0))
 (.seq (.block 1 (.seq (.region [oM 15 13, oM 5 15])
 (.seq (.draw [oRM 16 0, oRM 17 5, oR 18 (.indexAddr 5 (.t 16) (.t 17)), oRL 19 5 18, oRM 20 1, oRM 21 5, oR 22 (.indexAddr 5 (.t 20) (.t 21)), oRL 23 5 22, oR 24 (.eqa true [2, 1, 1, 1, 2] (.t 19) (.t 23))])
 (.cond (.t 24) (.seq (.region [oW 4 (.move (oB false))])
 .ret) .skip))))
 (.region [oW 25 (.arith .add (.t 13) (oI 1)), oM 13 25]))))
def t147k0 : DCode :=
 (.seq (.region [oW 4 (.move (oB true))])
 .ret)
def t147 : DFunc := { ntmps := 26, results := [(.t 4)], mode := .pure, body :=
 (.seq (.region [oW 4 (.move (oB false))])
 (.seq (.seq (.region [oM 6 0, oW 7 (.len 1 (.t 6)), oM 8 1, oW 9 (.len 1 (.t 8)), oW 10 (.arith .neq (.t 7) (.t 9))])
 (.cond (.t 10) (.seq (.region [oW 4 (.move (oB false))])
 .ret) .skip))
 (.seq (.seq (.region [oM 11 0, oW 12 (.len 1 (.t 11)), oW 13 (.move (oI 0))])
 (.block 0 (.loop t147l0)))
 t147k0))) }
theorem c147 : compFunc Tryz.prog Tryz.f147 .pure = some t147 := by kernel_rfl
def t148 : DFunc := { ntmps := 20, results := [(.t 4)], mode := .pure, body :=
 (.seq (.region [oW 4 (.move (oI 0))])
 (.seq (.region [oM 7 0, oW 8 (.call (oF 183) [(.t 7)]), oM 5 8])
 (.seq (.region [oM 9 1, oW 10 (.call (oF 183) [(.t 9)]), oM 6 10])
 (.seq (.seq (.region [oM 11 5])
 (.cond (.t 11) (.seq (.seq (.region [oM 12 6])
 (.cond (.t 12) (.seq (.region [oW 4 (.move (oI 0))])
 .ret) .skip))
 (.seq (.region [oW 4 (.move (oI (-1)))])
 .ret)) .skip))
 (.seq (.seq (.region [oM 13 6])
 (.cond (.t 13) (.seq (.region [oW 4 (.move (oI 1))])
 .ret) .skip))
 (.seq (.seq (.region [oM 14 0, oM 15 1, oW 16 (.arith .lss (.t 14) (.t 15))])
 (.cond (.t 16) (.seq (.region [oW 4 (.move (oI (-1)))])
 .ret) .skip))
 (.seq (.seq (.region [oM 17 0, oM 18 1, oW 19 (.arith .gtr (.t 17) (.t 18))])
 (.cond (.t 19) (.seq (.region [oW 4 (.move (oI 1))])
 .ret) .skip))
 (.seq (.region [oW 4 (.move (oI 0))])
 .ret)))))))) }
theorem c148 : compFunc Tryz.prog Tryz.f148 .pure = some t148 := by kernel_rfl
def t153l0 : DCode :=
 (.seq (.region [oW 47 (.arith .lss (.t 46) (.t 45))])
 (.seq (.cond (.t 47) .skip (.exit 2))
 (.seq (.block 3 (.seq (.region [oW 48 (.indexAddr 7 (.t 44) (.t 46)), oL 49 7 48, oW 14 (.alloc 58 7 (.agg [(.int .i64 0), (.int .i64 0), (.int .i64 0), (.int .i64 0), .nsl, (.int .i64 0), (.bool false)])), oS 7 14 49])
 (.region [oM 50 12, oM 51 50, ⟨(some 52), .fieldAddr 0 (.t 14), (some (51, false)), .write, 0, false⟩, ⟨(some 53), .load (some 2) (.t 52), (some (51, false)), .write, 0, false⟩, ⟨(some 54), .fieldAddr 1 (.t 5), (some (51, false)), .write, 0, false⟩, ⟨(some 55), .load (some 2) (.t 54), (some (51, false)), .write, 0, false⟩, ⟨(some 56), .eqa false [1, 1] (.t 53) (.t 55), (some (51, false)), .write, 0, false⟩, ⟨(some 57), .move (.t 56), (some (51, false)), .write, 0, false⟩, ⟨(some 58), .fieldAddr 5 (.t 14), (some (57, true)), .write, 0, false⟩, ⟨(some 59), .load none (.t 58), (some (57, true)), .write, 0, false⟩, ⟨(some 60), .move (.t 11), (some (57, true)), .write, 0, false⟩, ⟨(some 61), .arith .eql (.t 59) (.t 60), (some (57, true)), .write, 0, false⟩, ⟨(some 62), .pick (.t 57) (.t 61) (oB false), (some (51, false)), .write, 0, false⟩, ⟨(some 63), .move (.t 62), (some (51, false)), .write, 0, false⟩, ⟨(some 64), .fieldAddr 4 (.t 14), (some (63, true)), .write, 0, false⟩, ⟨(some 65), .load none (.t 64), (some (63, true)), .write, 0, false⟩, ⟨(some 66), .fieldAddr 6 (.t 5), (some (63, true)), .write, 0, false⟩, ⟨(some 67), .load none (.t 66), (some (63, true)), .write, 0, false⟩, ⟨(some 68), .call (oF 186) [(.t 65), (.t 67)], (some (63, true)), .write, 0, false⟩, ⟨(some 69), .pick (.t 63) (.t 68) (oB false), (some (51, false)), .write, 0, false⟩, oW 70 (.pick (.t 51) (oB true) (.t 69)), oM 12 70])))
 (.region [oW 71 (.arith .add (.t 46) (oI 1)), oM 46 71]))))
def t153k0 : DCode :=
 (.seq (.region [oM 72 12])
 (.cond (.t 72) (.region [oM 73 9, oM 74 11, oL 75 7 5, oW 76 (.build [(.int .i64 0), (.int .i64 0), (.int .i64 0), (.int .i64 0), (.int .i64 0), (.int .i64 0), .nsl, .nsl] [(0, 1, (.t 74)), (1, 7, (.t 75))]), oW 77 (.buildSlice 86 8 (.agg [(.int .i64 0), (.int .i64 0), (.int .i64 0), (.int .i64 0), (.int .i64 0), (.int .i64 0), .nsl, .nsl]) 1 [(0, (.t 76))]), oW 78 (.append 86 8 96 (.t 73) (.t 77)), oM 9 78]) .skip))
def t153k1 : DCode :=
 (.region [oW 79 (.arith .add (.t 39) (oI 1)), oM 39 79])
def t153l1 : DCode :=
 (.seq (.region [oW 40 (.arith .lss (.t 39) (.t 38))])
 (.seq (.cond (.t 40) .skip (.exit 0))
 (.seq (.block 1 (.seq (.region [oW 41 (.indexAddr 1 (.t 37) (.t 39)), oD 42 41, oM 11 42])
 (.seq (.region [oW 12 (.move (oB false))])
 (.seq (.seq (.region [oA 43 4 3, oD 44 43, oW 45 (.len 1 (.t 44)), oW 46 (.move (oI 0))])
 (.block 2 (.loop t153l0)))
 t153k0))))
 t153k1)))
def t153l2 : DCode :=
 (.seq (.region [oW 87 (.arith .lss (.t 86) (.t 85))])
 (.seq (.cond (.t 87) .skip (.exit 6))
 (.seq (.block 7 (.seq (.region [oW 88 (.indexAddr 3 (.t 84) (.t 86)), oL 89 3 88, oW 19 (.alloc 60 3 (.agg [(.int .i64 0), (.int .i64 0), .nsl])), oS 3 19 89])
 (.region [oM 90 17, oM 91 90, ⟨(some 92), .fieldAddr 0 (.t 19), (some (91, false)), .write, 0, false⟩, ⟨(some 93), .fieldAddr 0 (.t 92), (some (91, false)), .write, 0, false⟩, ⟨(some 94), .load none (.t 93), (some (91, false)), .write, 0, false⟩, ⟨(some 95), .move (.t 16), (some (91, false)), .write, 0, false⟩, ⟨(some 96), .arith .eql (.t 94) (.t 95), (some (91, false)), .write, 0, false⟩, ⟨(some 97), .move (.t 96), (some (91, false)), .write, 0, false⟩, ⟨(some 98), .fieldAddr 2 (.t 19), (some (97, true)), .write, 0, false⟩, ⟨(some 99), .load none (.t 98), (some (97, true)), .write, 0, false⟩, ⟨(some 100), .fieldAddr 6 (.t 5), (some (97, true)), .write, 0, false⟩, ⟨(some 101), .load none (.t 100), (some (97, true)), .write, 0, false⟩, ⟨(some 102), .call (oF 186) [(.t 99), (.t 101)], (some (97, true)), .write, 0, false⟩, ⟨(some 103), .pick (.t 97) (.t 102) (oB false), (some (91, false)), .write, 0, false⟩, oW 104 (.pick (.t 91) (oB true) (.t 103)), oM 17 104])))
 (.region [oW 105 (.arith .add (.t 86) (oI 1)), oM 86 105]))))
def t153k2 : DCode :=
 (.seq (.region [oM 106 17])
 (.cond (.t 106) (.region [oM 107 15, oM 108 16, oA 109 3 5, oL 110 2 109, oA 111 6 5, oD 112 111, oW 113 (.build [(.int .i64 0), (.int .i64 0), (.int .i64 0), .nsl] [(0, 1, (.t 108)), (1, 2, (.t 110)), (3, 1, (.t 112))]), oW 114 (.buildSlice 222 4 (.agg [(.int .i64 0), (.int .i64 0), (.int .i64 0), .nsl]) 1 [(0, (.t 113))]), oW 115 (.append 222 4 48 (.t 107) (.t 114)), oM 15 115]) .skip))
def t153k3 : DCode :=
 (.region [oW 116 (.arith .add (.t 80) (oI 1)), oM 80 116])
def t153l3 : DCode :=
 (.seq (.region [oW 81 (.arith .lss (.t 80) (oI 32))])
 (.seq (.cond (.t 81) .skip (.exit 4))
 (.seq (.block 5 (.seq (.region [oM 82 80, oM 16 82])
 (.seq (.region [oW 17 (.move (oB false))])
 (.seq (.seq (.region [oA 83 5 3, oD 84 83, oW 85 (.len 1 (.t 84)), oW 86 (.move (oI 0))])
 (.block 6 (.loop t153l2)))
 t153k2))))
 t153k3)))
def t153k4 : DCode :=
 (.seq (.region [oM 117 9, oM 118 15, oM 6 117, oM 7 118])
 .ret)
def t153k5 : DCode :=
 (.seq (.region [oW 15 (.move (.c .nsl))])
 (.seq (.seq (.region [oW 80 (.move (oI 0))])
 (.block 4 (.loop t153l3)))
 t153k4))
def t153 : DFunc := { ntmps := 119, results := [(.t 6), (.t 7)], mode := .pure, body :=
 (.seq (.region [oW 3 (.box 29 6 (.t 0)), oW 5 (.box 84 7 (.t 2)), oW 6 (.move (.c .nsl)), oW 7 (.move (.c .nsl))])
 (.seq (.region [oL 20 6 3, oA 21 1 5, oL 22 2 21, oW 23 (.call (oF 24) [(.t 20), (.t 22)]), oM 8 23])
 (.seq (.seq (.region [oM 24 8, oW 25 (.arith .lss (.t 24) (oI 0)), oM 26 25, ⟨(some 27), .fieldAddr 2 (.t 3), (some (26, false)), .write, 0, false⟩, ⟨(some 28), .load none (.t 27), (some (26, false)), .write, 0, false⟩, ⟨(some 29), .move (.t 8), (some (26, false)), .write, 0, false⟩, ⟨(some 30), .indexAddr 4 (.t 28) (.t 29), (some (26, false)), .write, 0, false⟩, ⟨(some 31), .fieldAddr 3 (.t 30), (some (26, false)), .write, 0, false⟩, ⟨(some 32), .load none (.t 31), (some (26, false)), .write, 0, false⟩, ⟨(some 33), .move (.t 1), (some (26, false)), .write, 0, false⟩, ⟨(some 34), .arith .neq (.t 32) (.t 33), (some (26, false)), .write, 0, false⟩, oW 35 (.pick (.t 26) (oB true) (.t 34))])
 (.cond (.t 35) (.seq (.region [oW 6 (.move (.c .nsl)), oW 7 (.move (.c .nsl))])
 .ret) .skip))
 (.seq (.region [oW 9 (.move (.c .nsl))])
 (.seq (.seq (.region [oA 36 1 3, oD 37 36, oW 38 (.len 1 (.t 37)), oW 39 (.move (oI 0))])
 (.block 0 (.loop t153l1)))
 t153k5))))) }
theorem c153 : compFunc Tryz.prog Tryz.f153 .pure = some t153 := by kernel_rfl
def t154l0 : DCode :=
 (.seq (.seq (.region [oM 15 9, oM 16 10, oW 17 (.arith .lss (.t 15) (.t 16))])
 (.cond (.t 17) .skip (.exit 0)))
 (.block 1 (.seq (.region [oM 18 9, oM 19 10, oW 20 (.arith .add (.t 18) (.t 19)), oW 21 (.conv .u64 (.t 20)), oW 22 (.arith .shr (.t 21) (.c (.int .u64 1))), oW 23 (.conv .i64 (.t 22)), oM 11 23])
 (.seq (.draw [oRM 25 0, oRM 26 11, oR 27 (.indexAddr 7 (.t 25) (.t 26)), oRL 28 7 27, oRL 29 2 4, oRM 24 2, oW 30 (.call (.t 24) [(.t 28), (.t 29)]), ⟨(some 31), .arith .lss (.t 30) (oI 0), none, .read, 1, false⟩])
 (.cond (.t 31) (.region [oM 32 11, oW 33 (.arith .add (.t 32) (oI 1)), oM 9 33]) (.region [oM 34 11, oM 10 34]))))))
def t154k0 : DCode :=
 (.seq (.draw [oRM 36 9, oRM 37 8, oR 38 (.arith .lss (.t 36) (.t 37)), oRM 39 38, ⟨(some 41), .move (.t 0), (some (39, true)), .read, 0, false⟩, ⟨(some 42), .move (.t 9), (some (39, true)), .read, 0, false⟩, ⟨(some 43), .indexAddr 7 (.t 41) (.t 42), (some (39, true)), .read, 0, false⟩, ⟨(some 44), .load (some 7) (.t 43), (some (39, true)), .read, 0, false⟩, ⟨(some 45), .load (some 2) (.t 4), (some (39, true)), .read, 0, false⟩, ⟨(some 40), .move (.t 2), (some (39, true)), .read, 0, false⟩, ⟨(some 46), .call (.t 40) [(.t 44), (.t 45)], (some (39, true)), .write, 0, false⟩, oRM 35 9, ⟨(some 47), .arith .eql (.t 46) (oI 0), (some (39, true)), .read, 1, false⟩, ⟨(some 48), .pick (.t 39) (.t 47) (oB false), none, .read, 1, false⟩, ⟨(some 6), .move (.t 35), none, .read, 1, false⟩, ⟨(some 7), .move (.t 48), none, .read, 1, false⟩])
 .ret)
def t154 : DFunc := { ntmps := 49, results := [(.t 6), (.t 7)], mode := .pure, body :=
 (.seq (.region [oW 4 (.box 37 2 (.t 1)), oW 6 (.move (oI 0)), oW 7 (.move (oB false))])
 (.seq (.region [oM 12 0, oW 13 (.len 1 (.t 12)), oM 8 13])
 (.seq (.region [oM 14 8, oW 9 (.move (oI 0)), oM 10 14])
 (.seq (.block 0 (.loop t154l0))
 t154k0)))) }
theorem c154 : compFunc Tryz.prog Tryz.f154 .pure = some t154 := by kernel_rfl
def t155 : DFunc := { ntmps := 34, results := [(.t 5)], mode := .pure, body :=
 (.seq (.region [oW 3 (.box 58 7 (.t 0)), oW 4 (.box 37 2 (.t 1)), oW 5 (.move (oI 0))])
 (.seq (.block 0 (.seq (.region [oA 7 0 3, oL 8 2 7, oL 9 2 2, oW 10 (.eqa false [1, 1] (.t 8) (.t 9)), oM 11 10, ⟨(some 12), .fieldAddr 2 (.t 3), (some (11, true)), .write, 0, false⟩, ⟨(some 13), .load (some 2) (.t 12), (some (11, true)), .write, 0, false⟩, ⟨(some 14), .load (some 2) (.t 4), (some (11, true)), .write, 0, false⟩, ⟨(some 15), .eqa false [1, 1] (.t 13) (.t 14), (some (11, true)), .write, 0, false⟩, oW 16 (.pick (.t 11) (.t 15) (oB false)), oM 6 16])
 (.cond (.t 6) (.seq (.region [oW 5 (.move (oI 0))])
 .ret) (.seq (.region [oA 18 0 3, oL 19 2 18, oL 20 2 2, oW 21 (.call (oF 56) [(.t 19), (.t 20)]), oM 22 21, ⟨(some 23), .fieldAddr 0 (.t 3), (some (22, false)), .write, 0, false⟩, ⟨(some 24), .load (some 2) (.t 23), (some (22, false)), .write, 0, false⟩, ⟨(some 25), .load (some 2) (.t 2), (some (22, false)), .write, 0, false⟩, ⟨(some 26), .eqa false [1, 1] (.t 24) (.t 25), (some (22, false)), .write, 0, false⟩, ⟨(some 27), .move (.t 26), (some (22, false)), .write, 0, false⟩, ⟨(some 28), .fieldAddr 2 (.t 3), (some (27, true)), .write, 0, false⟩, ⟨(some 29), .load (some 2) (.t 28), (some (27, true)), .write, 0, false⟩, ⟨(some 30), .load (some 2) (.t 4), (some (27, true)), .write, 0, false⟩, ⟨(some 31), .call (oF 56) [(.t 29), (.t 30)], (some (27, true)), .write, 0, false⟩, ⟨(some 32), .pick (.t 27) (.t 31) (oB false), (some (22, false)), .write, 0, false⟩, oW 33 (.pick (.t 22) (oB true) (.t 32)), oM 17 33])
 (.cond (.t 17) (.seq (.region [oW 5 (.move (oI (-1)))])
 .ret) .skip)))))
 (.seq (.region [oW 5 (.move (oI 1))])
 .ret))) }
theorem c155 : compFunc Tryz.prog Tryz.f155 .pure = some t155 := by kernel_rfl
def t157 : DFunc := { ntmps := 10, results := [], mode := .full, body :=
 (.region [oM 4 0, oM 5 0, oW 6 (.len 1 (.t 5)), oM 7 1, oW 8 (.arith .sub (.t 6) (.t 7)), oW 9 (.call (oF 187) [(.t 4), (.t 8)])]) }
theorem c157 : compFunc Tryz.prog Tryz.f157 .full = some t157 := by kernel_rfl
def t158 : DFunc := { ntmps := 50, results := [(.t 4)], mode := .pure, body :=
 (.seq (.region [oW 2 (.box 62 5 (.t 0)), oW 3 (.box 62 5 (.t 1)), oW 4 (.move (oB false))])
 (.seq (.block 0 (.seq (.region [oA 6 1 2, oD 7 6, oW 8 (.arith .eql (.t 7) (oI 1)), oM 5 8])
 (.cond (.t 5) (.seq (.region [oA 9 1 3, oD 10 9, oW 11 (.arith .eql (.t 10) (oI 1)), oM 12 11, ⟨(some 13), .fieldAddr 2 (.t 2), (some (12, true)), .write, 0, false⟩, ⟨(some 14), .load none (.t 13), (some (12, true)), .write, 0, false⟩, ⟨(some 15), .fieldAddr 2 (.t 3), (some (12, true)), .write, 0, false⟩, ⟨(some 16), .load none (.t 15), (some (12, true)), .write, 0, false⟩, ⟨(some 17), .arith .geq (.t 14) (.t 16), (some (12, true)), .write, 0, false⟩, oW 18 (.pick (.t 12) (.t 17) (oB false)), oM 19 18, ⟨(some 20), .fieldAddr 3 (.t 2), (some (19, true)), .write, 0, false⟩, ⟨(some 21), .load none (.t 20), (some (19, true)), .write, 0, false⟩, ⟨(some 22), .fieldAddr 3 (.t 3), (some (19, true)), .write, 0, false⟩, ⟨(some 23), .load none (.t 22), (some (19, true)), .write, 0, false⟩, ⟨(some 24), .arith .leq (.t 21) (.t 23), (some (19, true)), .write, 0, false⟩, oW 25 (.pick (.t 19) (.t 24) (oB false)), oM 4 25])
 .ret) (.seq (.region [oA 27 1 3, oD 28 27, oW 29 (.arith .eql (.t 28) (oI 2)), oM 26 29])
 (.cond (.t 26) (.seq (.region [oA 30 1 2, oD 31 30, oW 32 (.arith .eql (.t 31) (oI 2)), oM 33 32, ⟨(some 34), .fieldAddr 4 (.t 2), (some (33, true)), .write, 0, false⟩, ⟨(some 35), .load none (.t 34), (some (33, true)), .write, 0, false⟩, ⟨(some 36), .fieldAddr 4 (.t 3), (some (33, true)), .write, 0, false⟩, ⟨(some 37), .load none (.t 36), (some (33, true)), .write, 0, false⟩, ⟨(some 38), .arith .eql (.t 35) (.t 37), (some (33, true)), .write, 0, false⟩, oW 39 (.pick (.t 33) (.t 38) (oB false)), oM 4 39])
 .ret) .skip)))))
 (.seq (.region [oA 40 1 3, oD 41 40, oW 42 (.arith .eql (.t 41) (oI 3)), oM 43 42, ⟨(some 44), .fieldAddr 4 (.t 2), (some (43, true)), .write, 0, false⟩, ⟨(some 45), .load none (.t 44), (some (43, true)), .write, 0, false⟩, ⟨(some 46), .fieldAddr 4 (.t 3), (some (43, true)), .write, 0, false⟩, ⟨(some 47), .load none (.t 46), (some (43, true)), .write, 0, false⟩, ⟨(some 48), .call (oF 188) [(.t 45), (.t 47)], (some (43, true)), .write, 0, false⟩, oW 49 (.pick (.t 43) (.t 48) (oB false)), oM 4 49])
 .ret))) }
theorem c158 : compFunc Tryz.prog Tryz.f158 .pure = some t158 := by kernel_rfl
def t159l0 : DCode :=
 (.seq (.seq (.draw [oRM 16 7, oRM 17 4, oR 18 (.len 1 (.t 17)), oR 19 (.arith .lss (.t 16) (.t 18)), oRM 20 19, ⟨(some 21), .move (.t 4), (some (20, true)), .read, 0, false⟩, ⟨(some 22), .move (.t 7), (some (20, true)), .read, 0, false⟩, ⟨(some 23), .indexAddr 5 (.t 21) (.t 22), (some (20, true)), .read, 0, false⟩, ⟨(some 24), .fieldAddr 0 (.t 23), (some (20, true)), .read, 0, false⟩, ⟨(some 25), .load none (.t 24), (some (20, true)), .read, 0, false⟩, ⟨(some 26), .fieldAddr 0 (.t 6), (some (20, true)), .read, 0, false⟩, ⟨(some 27), .load none (.t 26), (some (20, true)), .read, 0, false⟩, ⟨(some 28), .arith .lss (.t 25) (.t 27), (some (20, true)), .read, 0, false⟩, oR 29 (.pick (.t 20) (.t 28) (oB false))])
 (.cond (.t 29) .skip (.exit 2)))
 (.block 3 (.region [oM 30 7, oW 31 (.arith .add (.t 30) (oI 1)), oM 7 31])))
def t159k0 : DCode :=
 (.seq (.seq (.draw [oRM 32 7, oRM 33 4, oR 34 (.len 1 (.t 33)), oR 35 (.arith .lss (.t 32) (.t 34)), oRM 36 35, ⟨(some 37), .move (.t 4), (some (36, true)), .read, 0, false⟩, ⟨(some 38), .move (.t 7), (some (36, true)), .read, 0, false⟩, ⟨(some 39), .indexAddr 5 (.t 37) (.t 38), (some (36, true)), .read, 0, false⟩, ⟨(some 40), .fieldAddr 0 (.t 39), (some (36, true)), .read, 0, false⟩, ⟨(some 41), .load none (.t 40), (some (36, true)), .read, 0, false⟩, ⟨(some 42), .fieldAddr 0 (.t 6), (some (36, true)), .read, 0, false⟩, ⟨(some 43), .load none (.t 42), (some (36, true)), .read, 0, false⟩, ⟨(some 44), .arith .eql (.t 41) (.t 43), (some (36, true)), .read, 0, false⟩, oR 45 (.pick (.t 36) (.t 44) (oB false))])
 (.cond (.t 45) (.seq (.draw [oRM 47 4, oRM 48 7, oR 49 (.indexAddr 5 (.t 47) (.t 48)), oRL 50 5 49, oRL 51 5 6, oW 52 (.call (oF 189) [(.t 50), (.t 51)]), ⟨(some 46), .move (.t 52), none, .read, 1, false⟩, ⟨(some 53), .extract (.t 46) 0, none, .read, 1, false⟩, ⟨(some 8), .alloc 62 5 (.agg [(.str []), (.int .i64 0), (.int .i64 0), (.int .i64 0), (.str [])]), none, .create, 0, false⟩, ⟨none, .store 5 (.t 8) (.t 53), none, .write, 2, false⟩, ⟨(some 54), .extract (.t 46) 1, none, .read, 1, false⟩, ⟨(some 9), .move (.t 54), none, .read, 3, false⟩])
 (.seq (.seq (.region [oM 55 9, oW 56 (.un .not (.t 55))])
 (.cond (.t 56) (.seq (.region [oW 2 (.move (.c .nsl)), oW 3 (.move (oB false))])
 .ret) .skip))
 (.seq (.region [oW 57 (.buildSlice 62 5 (.agg [(.str []), (.int .i64 0), (.int .i64 0), (.int .i64 0), (.str [])]) 0 []), oM 58 4, oW 59 (.append 62 5 56 (.t 57) (.t 58)), oM 4 59])
 (.seq (.region [oM 60 4, oM 61 7, oL 62 5 8, oW 63 (.indexAddr 5 (.t 60) (.t 61)), oS 5 63 62])
 (.exit 1))))) .skip))
 (.draw [oRM 65 4, oRM 66 7, oR 67 (.sliceSl 5 (.t 65) none (some (.t 66))), ⟨(some 64), .buildSlice 62 5 (.agg [(.str []), (.int .i64 0), (.int .i64 0), (.int .i64 0), (.str [])]) 0 [], none, .create, 0, false⟩, ⟨(some 68), .append 62 5 56 (.t 64) (.t 67), none, .create, 0, false⟩, oRL 69 5 6, ⟨(some 70), .buildSlice 62 5 (.agg [(.str []), (.int .i64 0), (.int .i64 0), (.int .i64 0), (.str [])]) 1 [(0, (.t 69))], none, .create, 0, false⟩, ⟨(some 71), .append 62 5 56 (.t 68) (.t 70), none, .create, 0, false⟩, oRM 72 4, oRM 73 7, oR 74 (.sliceSl 5 (.t 72) (some (.t 73)) none), ⟨(some 75), .append 62 5 56 (.t 71) (.t 74), none, .write, 4, false⟩, ⟨(some 4), .move (.t 75), none, .read, 5, false⟩]))
def t159k1 : DCode :=
 (.region [oW 76 (.arith .add (.t 12) (oI 1)), oM 12 76])
def t159l1 : DCode :=
 (.seq (.region [oW 13 (.arith .lss (.t 12) (.t 11))])
 (.seq (.cond (.t 13) .skip (.exit 0))
 (.seq (.block 1 (.seq (.region [oW 14 (.indexAddr 5 (.t 10) (.t 12)), oL 15 5 14, oW 6 (.alloc 62 5 (.agg [(.str []), (.int .i64 0), (.int .i64 0), (.int .i64 0), (.str [])])), oS 5 6 15])
 (.seq (.region [oW 7 (.move (oI 0))])
 (.seq (.block 2 (.loop t159l0))
 t159k0))))
 t159k1)))
def t159k2 : DCode :=
 (.seq (.region [oM 77 4, oM 2 77, oW 3 (.move (oB true))])
 .ret)
def t159 : DFunc := { ntmps := 78, results := [(.t 2), (.t 3)], mode := .pure, body :=
 (.seq (.region [oW 2 (.move (.c .nsl)), oW 3 (.move (oB false))])
 (.seq (.region [oW 4 (.move (.c .nsl))])
 (.seq (.seq (.region [oM 10 0, oW 11 (.len 1 (.t 10)), oW 12 (.move (oI 0))])
 (.block 0 (.loop t159l1)))
 t159k2))) }
theorem c159 : compFunc Tryz.prog Tryz.f159 .pure = some t159 := by kernel_rfl
def t166 : DFunc := { ntmps := 8, results := [(.t 4)], mode := .pure, body :=
 (.seq (.region [oW 4 (.move (oB false))])
 (.seq (.region [oM 5 0, oM 6 1, oW 7 (.call (oF 198) [(.t 5), (.t 6)]), oM 4 7])
 .ret)) }
theorem c166 : compFunc Tryz.prog Tryz.f166 .pure = some t166 := by kernel_rfl
def t167 : DFunc := { ntmps := 48, results := [(.t 4)], mode := .pure, body :=
 (.seq (.region [oW 2 (.box 62 5 (.t 0)), oW 3 (.box 202 3 (.t 1)), oW 4 (.move (oB false))])
 (.seq (.seq (.region [oA 5 1 2, oD 6 5])
 (.block 0 (.seq (.region [oW 8 (.arith .eql (.t 6) (oI 1)), oM 7 8])
 (.cond (.t 7) (.seq (.region [oA 9 0 3, oD 10 9, oW 11 (.un .not (.t 10)), oM 12 11, ⟨(some 13), .fieldAddr 2 (.t 2), (some (12, true)), .write, 0, false⟩, ⟨(some 14), .load none (.t 13), (some (12, true)), .write, 0, false⟩, ⟨(some 15), .fieldAddr 1 (.t 3), (some (12, true)), .write, 0, false⟩, ⟨(some 16), .load none (.t 15), (some (12, true)), .write, 0, false⟩, ⟨(some 17), .arith .leq (.t 14) (.t 16), (some (12, true)), .write, 0, false⟩, oW 18 (.pick (.t 12) (.t 17) (oB false)), oM 19 18, ⟨(some 20), .fieldAddr 1 (.t 3), (some (19, true)), .write, 0, false⟩, ⟨(some 21), .load none (.t 20), (some (19, true)), .write, 0, false⟩, ⟨(some 22), .fieldAddr 3 (.t 2), (some (19, true)), .write, 0, false⟩, ⟨(some 23), .load none (.t 22), (some (19, true)), .write, 0, false⟩, ⟨(some 24), .arith .leq (.t 21) (.t 23), (some (19, true)), .write, 0, false⟩, oW 25 (.pick (.t 19) (.t 24) (oB false)), oM 4 25])
 .ret) (.seq (.region [oW 27 (.arith .eql (.t 6) (oI 2)), oM 26 27])
 (.cond (.t 26) (.seq (.region [oA 28 0 3, oD 29 28, oM 30 29, ⟨(some 31), .fieldAddr 2 (.t 3), (some (30, true)), .write, 0, false⟩, ⟨(some 32), .load none (.t 31), (some (30, true)), .write, 0, false⟩, ⟨(some 33), .fieldAddr 4 (.t 2), (some (30, true)), .write, 0, false⟩, ⟨(some 34), .load none (.t 33), (some (30, true)), .write, 0, false⟩, ⟨(some 35), .arith .eql (.t 32) (.t 34), (some (30, true)), .write, 0, false⟩, oW 36 (.pick (.t 30) (.t 35) (oB false)), oM 4 36])
 .ret) (.seq (.region [oW 38 (.arith .eql (.t 6) (oI 3)), oM 37 38])
 (.cond (.t 37) (.seq (.region [oA 39 0 3, oD 40 39, oM 41 40, ⟨(some 42), .fieldAddr 2 (.t 3), (some (41, true)), .write, 0, false⟩, ⟨(some 43), .load none (.t 42), (some (41, true)), .write, 0, false⟩, ⟨(some 44), .fieldAddr 4 (.t 2), (some (41, true)), .write, 0, false⟩, ⟨(some 45), .load none (.t 44), (some (41, true)), .write, 0, false⟩, ⟨(some 46), .call (oF 166) [(.t 43), (.t 45)], (some (41, true)), .write, 0, false⟩, oW 47 (.pick (.t 41) (.t 46) (oB false)), oM 4 47])
 .ret) .skip))))))))
 (.seq (.region [oW 4 (.move (oB false))])
 .ret))) }
theorem c167 : compFunc Tryz.prog Tryz.f167 .pure = some t167 := by kernel_rfl
def t168 : DFunc := { ntmps := 5, results := [(.cell 2 (some 3))], mode := .pure, body :=
 (.seq (.region [oW 2 (.alloc 202 3 (.agg [(.bool false), (.int .i64 0), (.str [])]))])
 (.seq (.region [oM 3 0, oW 4 (.build [(.bool false), (.int .i64 0), (.str [])] [(0, 1, (oB true)), (2, 1, (.t 3))]), oS 3 2 4])
 .ret)) }
theorem c168 : compFunc Tryz.prog Tryz.f168 .pure = some t168 := by kernel_rfl
def t170l0 : DCode :=
 (.seq (.seq (.draw [oRM 16 7, oRM 17 1, oR 18 (.arith .gtr (.t 16) (.t 17)), oRM 19 18, ⟨(some 20), .move (.t 0), (some (19, true)), .read, 0, false⟩, ⟨(some 21), .move (.t 7), (some (19, true)), .read, 0, false⟩, ⟨(some 22), .indexAddr 1 (.t 20) (.t 21), (some (19, true)), .read, 0, false⟩, ⟨(some 23), .load none (.t 22), (some (19, true)), .read, 0, false⟩, ⟨(some 24), .move (.t 0), (some (19, true)), .read, 0, false⟩, ⟨(some 25), .move (.t 7), (some (19, true)), .read, 0, false⟩, ⟨(some 26), .arith .sub (.t 25) (oI 1), (some (19, true)), .read, 0, false⟩, ⟨(some 27), .indexAddr 1 (.t 24) (.t 26), (some (19, true)), .read, 0, false⟩, ⟨(some 28), .load none (.t 27), (some (19, true)), .read, 0, false⟩, ⟨(some 29), .call (oF 176) [(.t 23), (.t 28)], (some (19, true)), .write, 0, false⟩, ⟨(some 30), .pick (.t 19) (.t 29) (oB false), none, .read, 1, false⟩])
 (.cond (.t 30) .skip (.exit 2)))
 (.seq (.block 3 (.draw [oRM 38 0, oRM 39 7, oR 40 (.arith .sub (.t 39) (oI 1)), oR 41 (.indexAddr 1 (.t 38) (.t 40)), oRD 42 41, oRM 43 0, oRM 44 7, oR 45 (.indexAddr 1 (.t 43) (.t 44)), oRD 46 45, oRM 33 0, oRM 34 7, oR 47 (.indexAddr 1 (.t 33) (.t 34)), oS 1 47 42, oRM 35 0, oRM 36 7, oR 37 (.arith .sub (.t 36) (oI 1)), ⟨(some 48), .indexAddr 1 (.t 35) (.t 37), none, .read, 1, false⟩, ⟨none, .store 1 (.t 48) (.t 46), none, .write, 1, false⟩]))
 (.region [oM 31 7, oW 32 (.arith .sub (.t 31) (oI 1)), oM 7 32])))
def t170k0 : DCode :=
 (.region [oM 13 6, oW 14 (.arith .add (.t 13) (oI 1)), oM 6 14])
def t170l1 : DCode :=
 (.seq (.seq (.region [oM 10 6, oM 11 2, oW 12 (.arith .lss (.t 10) (.t 11))])
 (.cond (.t 12) .skip (.exit 0)))
 (.seq (.block 1 (.seq (.region [oM 15 6, oM 7 15])
 (.block 2 (.loop t170l0))))
 t170k0))
def t170 : DFunc := { ntmps := 49, results := [], mode := .full, body :=
 (.seq (.region [oM 8 1, oW 9 (.arith .add (.t 8) (oI 1)), oM 6 9])
 (.block 0 (.loop t170l1))) }
theorem c170 : compFunc Tryz.prog Tryz.f170 .full = some t170 := by kernel_rfl
def t171l0 : DCode :=
 (.seq (.seq (.region [oM 18 9, oW 19 (.arith .geq (.t 18) (oI 0))])
 (.cond (.t 19) .skip (.exit 0)))
 (.seq (.block 1 (.region [oM 22 0, oM 23 9, oM 24 8, oM 25 6, oW 26 (.call (oF 199) [(.t 22), (.t 23), (.t 24), (.t 25)])]))
 (.region [oM 20 9, oW 21 (.arith .sub (.t 20) (oI 1)), oM 9 21])))
def t171l1 : DCode :=
 (.seq (.seq (.region [oM 29 10, oW 30 (.arith .geq (.t 29) (oI 0))])
 (.cond (.t 30) .skip (.exit 2)))
 (.seq (.block 3 (.seq (.draw [oRM 39 0, oRM 40 6, oRM 41 10, oR 42 (.arith .add (.t 40) (.t 41)), oR 43 (.indexAddr 1 (.t 39) (.t 42)), oRD 44 43, oRM 45 0, oRM 46 6, oR 47 (.indexAddr 1 (.t 45) (.t 46)), oRD 48 47, oRM 33 0, oRM 34 6, oR 49 (.indexAddr 1 (.t 33) (.t 34)), oS 1 49 44, oRM 35 0, oRM 36 6, oRM 37 10, oR 38 (.arith .add (.t 36) (.t 37)), ⟨(some 50), .indexAddr 1 (.t 35) (.t 38), none, .read, 1, false⟩, ⟨none, .store 1 (.t 50) (.t 48), none, .write, 1, false⟩])
 (.region [oM 51 0, oM 52 7, oM 53 10, oM 54 6, oW 55 (.call (oF 199) [(.t 51), (.t 52), (.t 53), (.t 54)])])))
 (.region [oM 31 10, oW 32 (.arith .sub (.t 31) (oI 1)), oM 10 32])))
def t171k0 : DCode :=
 (.seq (.region [oM 27 8, oW 28 (.arith .sub (.t 27) (oI 1)), oM 10 28])
 (.block 2 (.loop t171l1)))
def t171 : DFunc := { ntmps := 56, results := [], mode := .full, body :=
 (.seq (.region [oM 11 1, oM 6 11])
 (.seq (.region [oW 7 (.move (oI 0))])
 (.seq (.region [oM 12 2, oM 13 1, oW 14 (.arith .sub (.t 12) (.t 13)), oM 8 14])
 (.seq (.seq (.region [oM 15 8, oW 16 (.arith .sub (.t 15) (oI 1)), oW 17 (.arith .quo (.t 16) (oI 2)), oM 9 17])
 (.block 0 (.loop t171l0)))
 t171k0)))) }
theorem c171 : compFunc Tryz.prog Tryz.f171 .full = some t171 := by kernel_rfl
def t172l0 : DCode :=
 (.seq (.seq (.region [oM 26 9, oM 27 1, oM 28 6, oW 29 (.arith .quo (.t 28) (oI 4)), oW 30 (.arith .mul (.t 29) (oI 2)), oW 31 (.arith .add (.t 27) (.t 30)), oW 32 (.arith .add (.t 31) (oI 1)), oW 33 (.arith .leq (.t 26) (.t 32))])
 (.cond (.t 33) .skip (.exit 0)))
 (.seq (.block 1 (.seq (.region [oW 36 (.call (oF 201) [(.t 7)]), oM 37 8, oW 38 (.arith .sub (.t 37) (.c (.int .u64 1))), oW 39 (.arith .and (.t 36) (.t 38)), oW 40 (.conv .i64 (.t 39)), oM 10 40])
 (.seq (.seq (.region [oM 41 10, oM 42 6, oW 43 (.arith .geq (.t 41) (.t 42))])
 (.cond (.t 43) (.region [oM 44 10, oM 45 6, oW 46 (.arith .sub (.t 44) (.t 45)), oM 10 46]) .skip))
 (.draw [oRM 53 0, oRM 54 1, oRM 55 10, oR 56 (.arith .add (.t 54) (.t 55)), oR 57 (.indexAddr 1 (.t 53) (.t 56)), oRD 58 57, oRM 59 0, oRM 60 9, oR 61 (.indexAddr 1 (.t 59) (.t 60)), oRD 62 61, oRM 47 0, oRM 48 9, oR 63 (.indexAddr 1 (.t 47) (.t 48)), oS 1 63 58, oRM 49 0, oRM 50 1, oRM 51 10, oR 52 (.arith .add (.t 50) (.t 51)), ⟨(some 64), .indexAddr 1 (.t 49) (.t 52), none, .read, 1, false⟩, ⟨none, .store 1 (.t 64) (.t 62), none, .write, 1, false⟩]))))
 (.region [oM 34 9, oW 35 (.arith .add (.t 34) (oI 1)), oM 9 35])))
def t172 : DFunc := { ntmps := 65, results := [], mode := .full, body :=
 (.seq (.region [oM 11 2, oM 12 1, oW 13 (.arith .sub (.t 11) (.t 12)), oM 6 13])
 (.seq (.region [oM 14 6, oW 15 (.arith .geq (.t 14) (oI 8))])
 (.cond (.t 15) (.seq (.region [oM 16 6, oW 17 (.conv .u64 (.t 16)), oW 7 (.alloc 231 1 (.int .u64 0)), oS 1 7 17])
 (.seq (.region [oM 18 6, oW 19 (.call (oF 200) [(.t 18)]), oM 8 19])
 (.seq (.region [oM 20 1, oM 21 6, oW 22 (.arith .quo (.t 21) (oI 4)), oW 23 (.arith .mul (.t 22) (oI 2)), oW 24 (.arith .add (.t 20) (.t 23)), oW 25 (.arith .sub (.t 24) (oI 1)), oM 9 25])
 (.block 0 (.loop t172l0))))) .skip))) }
theorem c172 : compFunc Tryz.prog Tryz.f172 .full = some t172 := by kernel_rfl
def t173 : DFunc := { ntmps := 57, results := [(.t 6), (.t 7)], mode := .full, body :=
 (.seq (.region [oW 6 (.move (oI 0)), oW 7 (.move (oI 0))])
 (.seq (.region [oM 13 2, oM 14 1, oW 15 (.arith .sub (.t 13) (.t 14)), oM 8 15])
 (.seq (.region [oW 9 (.alloc 3 1 (.int .i64 0))])
 (.seq (.region [oM 16 1, oM 17 8, oW 18 (.arith .quo (.t 17) (oI 4)), oW 19 (.arith .mul (.t 18) (oI 1)), oW 20 (.arith .add (.t 16) (.t 19)), oM 10 20])
 (.seq (.region [oM 21 1, oM 22 8, oW 23 (.arith .quo (.t 22) (oI 4)), oW 24 (.arith .mul (.t 23) (oI 2)), oW 25 (.arith .add (.t 21) (.t 24)), oM 11 25])
 (.seq (.region [oM 26 1, oM 27 8, oW 28 (.arith .quo (.t 27) (oI 4)), oW 29 (.arith .mul (.t 28) (oI 3)), oW 30 (.arith .add (.t 26) (.t 29)), oM 12 30])
 (.seq (.seq (.region [oM 31 8, oW 32 (.arith .geq (.t 31) (oI 8))])
 (.cond (.t 32) (.seq (.seq (.region [oM 33 8, oW 34 (.arith .geq (.t 33) (oI 50))])
 (.cond (.t 34) (.seq (.region [oM 35 0, oM 36 10, oW 37 (.call (oF 202) [(.t 35), (.t 36), (.t 9)]), oM 10 37])
 (.seq (.region [oM 38 0, oM 39 11, oW 40 (.call (oF 202) [(.t 38), (.t 39), (.t 9)]), oM 11 40])
 (.region [oM 41 0, oM 42 12, oW 43 (.call (oF 202) [(.t 41), (.t 42), (.t 9)]), oM 12 43]))) .skip))
 (.region [oM 44 0, oM 45 10, oM 46 11, oM 47 12, oW 48 (.call (oF 203) [(.t 44), (.t 45), (.t 46), (.t 47), (.t 9)]), oM 11 48])) .skip))
 (.seq (.region [oD 49 9])
 (.block 0 (.seq (.region [oW 52 (.arith .eql (.t 49) (oI 0)), oM 51 52])
 (.cond (.t 51) (.seq (.region [oM 53 11, oM 6 53, oW 7 (.move (oI 1))])
 .ret) (.seq (.region [oW 55 (.arith .eql (.t 49) (oI 12)), oM 54 55])
 (.cond (.t 54) (.seq (.region [oM 56 11, oM 6 56, oW 7 (.move (oI 2))])
 .ret) (.seq (.region [oM 50 11, oM 6 50, oW 7 (.move (oI 0))])
 .ret)))))))))))))) }
theorem c173 : compFunc Tryz.prog Tryz.f173 .full = some t173 := by kernel_rfl
def t174l0 : DCode :=
 (.seq (.seq (.region [oM 11 6, oM 12 7, oW 13 (.arith .lss (.t 11) (.t 12))])
 (.cond (.t 13) .skip (.exit 0)))
 (.block 1 (.seq (.draw [oRM 18 0, oRM 19 7, oR 20 (.indexAddr 1 (.t 18) (.t 19)), oRD 21 20, oRM 22 0, oRM 23 6, oR 24 (.indexAddr 1 (.t 22) (.t 23)), oRD 25 24, oRM 14 0, oRM 15 6, oR 26 (.indexAddr 1 (.t 14) (.t 15)), oS 1 26 21, oRM 16 0, oRM 17 7, ⟨(some 27), .indexAddr 1 (.t 16) (.t 17), none, .read, 1, false⟩, ⟨none, .store 1 (.t 27) (.t 25), none, .write, 1, false⟩])
 (.seq (.region [oM 28 6, oW 29 (.arith .add (.t 28) (oI 1)), oM 6 29])
 (.region [oM 30 7, oW 31 (.arith .sub (.t 30) (oI 1)), oM 7 31])))))
def t174 : DFunc := { ntmps := 32, results := [], mode := .full, body :=
 (.seq (.region [oM 8 1, oM 6 8])
 (.seq (.region [oM 9 2, oW 10 (.arith .sub (.t 9) (oI 1)), oM 7 10])
 (.block 0 (.loop t174l0)))) }
theorem c174 : compFunc Tryz.prog Tryz.f174 .full = some t174 := by kernel_rfl
def t175l0 : DCode :=
 (.seq (.seq (.draw [oRM 17 7, oRM 18 2, oR 19 (.arith .lss (.t 17) (.t 18)), oRM 20 19, ⟨(some 21), .move (.t 0), (some (20, true)), .read, 0, false⟩, ⟨(some 22), .move (.t 7), (some (20, true)), .read, 0, false⟩, ⟨(some 23), .indexAddr 1 (.t 21) (.t 22), (some (20, true)), .read, 0, false⟩, ⟨(some 24), .load none (.t 23), (some (20, true)), .read, 0, false⟩, ⟨(some 25), .move (.t 0), (some (20, true)), .read, 0, false⟩, ⟨(some 26), .move (.t 7), (some (20, true)), .read, 0, false⟩, ⟨(some 27), .arith .sub (.t 26) (oI 1), (some (20, true)), .read, 0, false⟩, ⟨(some 28), .indexAddr 1 (.t 25) (.t 27), (some (20, true)), .read, 0, false⟩, ⟨(some 29), .load none (.t 28), (some (20, true)), .read, 0, false⟩, ⟨(some 30), .call (oF 176) [(.t 24), (.t 29)], (some (20, true)), .write, 0, false⟩, ⟨(some 31), .un .not (.t 30), (some (20, true)), .read, 1, false⟩, ⟨(some 32), .pick (.t 20) (.t 31) (oB false), none, .read, 1, false⟩])
 (.cond (.t 32) .skip (.exit 2)))
 (.block 3 (.region [oM 33 7, oW 34 (.arith .add (.t 33) (oI 1)), oM 7 34])))
def t175l1 : DCode :=
 (.seq (.seq (.region [oM 64 9, oW 65 (.arith .geq (.t 64) (oI 1))])
 (.cond (.t 65) .skip (.exit 4)))
 (.seq (.block 5 (.seq (.seq (.draw [oRM 68 0, oRM 69 9, oR 70 (.indexAddr 1 (.t 68) (.t 69)), oRD 71 70, oRM 72 0, oRM 73 9, oR 74 (.arith .sub (.t 73) (oI 1)), oR 75 (.indexAddr 1 (.t 72) (.t 74)), oRD 76 75, oW 77 (.call (oF 176) [(.t 71), (.t 76)]), ⟨(some 78), .un .not (.t 77), none, .read, 1, false⟩])
 (.cond (.t 78) (.exit 4) .skip))
 (.draw [oRM 84 0, oRM 85 9, oR 86 (.arith .sub (.t 85) (oI 1)), oR 87 (.indexAddr 1 (.t 84) (.t 86)), oRD 88 87, oRM 89 0, oRM 90 9, oR 91 (.indexAddr 1 (.t 89) (.t 90)), oRD 92 91, oRM 79 0, oRM 80 9, oR 93 (.indexAddr 1 (.t 79) (.t 80)), oS 1 93 88, oRM 81 0, oRM 82 9, oR 83 (.arith .sub (.t 82) (oI 1)), ⟨(some 94), .indexAddr 1 (.t 81) (.t 83), none, .read, 1, false⟩, ⟨none, .store 1 (.t 94) (.t 92), none, .write, 1, false⟩])))
 (.region [oM 66 9, oW 67 (.arith .sub (.t 66) (oI 1)), oM 9 67])))
def t175l2 : DCode :=
 (.seq (.seq (.region [oM 101 10, oM 102 2, oW 103 (.arith .lss (.t 101) (.t 102))])
 (.cond (.t 103) .skip (.exit 6)))
 (.seq (.block 7 (.seq (.seq (.draw [oRM 106 0, oRM 107 10, oR 108 (.indexAddr 1 (.t 106) (.t 107)), oRD 109 108, oRM 110 0, oRM 111 10, oR 112 (.arith .sub (.t 111) (oI 1)), oR 113 (.indexAddr 1 (.t 110) (.t 112)), oRD 114 113, oW 115 (.call (oF 176) [(.t 109), (.t 114)]), ⟨(some 116), .un .not (.t 115), none, .read, 1, false⟩])
 (.cond (.t 116) (.exit 6) .skip))
 (.draw [oRM 122 0, oRM 123 10, oR 124 (.arith .sub (.t 123) (oI 1)), oR 125 (.indexAddr 1 (.t 122) (.t 124)), oRD 126 125, oRM 127 0, oRM 128 10, oR 129 (.indexAddr 1 (.t 127) (.t 128)), oRD 130 129, oRM 117 0, oRM 118 10, oR 131 (.indexAddr 1 (.t 117) (.t 118)), oS 1 131 126, oRM 119 0, oRM 120 10, oR 121 (.arith .sub (.t 120) (oI 1)), ⟨(some 132), .indexAddr 1 (.t 119) (.t 121), none, .read, 1, false⟩, ⟨none, .store 1 (.t 132) (.t 130), none, .write, 1, false⟩])))
 (.region [oM 104 10, oW 105 (.arith .add (.t 104) (oI 1)), oM 10 105])))
def t175k0 : DCode :=
 (.seq (.region [oM 95 2, oM 96 7, oW 97 (.arith .sub (.t 95) (.t 96)), oW 98 (.arith .geq (.t 97) (oI 2))])
 (.cond (.t 98) (.seq (.region [oM 99 7, oW 100 (.arith .add (.t 99) (oI 1)), oM 10 100])
 (.block 6 (.loop t175l2))) .skip))
def t175k1 : DCode :=
 (.seq (.seq (.region [oM 35 7, oM 36 2, oW 37 (.arith .eql (.t 35) (.t 36))])
 (.cond (.t 37) (.seq (.region [oW 6 (.move (oB true))])
 .ret) .skip))
 (.seq (.seq (.region [oM 38 2, oM 39 1, oW 40 (.arith .sub (.t 38) (.t 39)), oW 41 (.arith .lss (.t 40) (oI 50))])
 (.cond (.t 41) (.seq (.region [oW 6 (.move (oB false))])
 .ret) .skip))
 (.seq (.draw [oRM 47 0, oRM 48 7, oR 49 (.arith .sub (.t 48) (oI 1)), oR 50 (.indexAddr 1 (.t 47) (.t 49)), oRD 51 50, oRM 52 0, oRM 53 7, oR 54 (.indexAddr 1 (.t 52) (.t 53)), oRD 55 54, oRM 42 0, oRM 43 7, oR 56 (.indexAddr 1 (.t 42) (.t 43)), oS 1 56 51, oRM 44 0, oRM 45 7, oR 46 (.arith .sub (.t 45) (oI 1)), ⟨(some 57), .indexAddr 1 (.t 44) (.t 46), none, .read, 1, false⟩, ⟨none, .store 1 (.t 57) (.t 55), none, .write, 1, false⟩])
 (.seq (.seq (.region [oM 58 7, oM 59 1, oW 60 (.arith .sub (.t 58) (.t 59)), oW 61 (.arith .geq (.t 60) (oI 2))])
 (.cond (.t 61) (.seq (.region [oM 62 7, oW 63 (.arith .sub (.t 62) (oI 1)), oM 9 63])
 (.block 4 (.loop t175l1))) .skip))
 t175k0))))
def t175k2 : DCode :=
 (.region [oM 15 8, oW 16 (.arith .add (.t 15) (oI 1)), oM 8 16])
def t175l3 : DCode :=
 (.seq (.seq (.region [oM 13 8, oW 14 (.arith .lss (.t 13) (oI 5))])
 (.cond (.t 14) .skip (.exit 0)))
 (.seq (.block 1 (.seq (.block 2 (.loop t175l0))
 t175k1))
 t175k2))
def t175k3 : DCode :=
 (.seq (.region [oW 6 (.move (oB false))])
 .ret)
def t175 : DFunc := { ntmps := 133, results := [(.t 6)], mode := .full, body :=
 (.seq (.region [oW 6 (.move (oB false))])
 (.seq (.region [oM 11 1, oW 12 (.arith .add (.t 11) (oI 1)), oM 7 12])
 (.seq (.seq (.region [oW 8 (.move (oI 0))])
 (.block 0 (.loop t175l3)))
 t175k3))) }
theorem c175 : compFunc Tryz.prog Tryz.f175 .full = some t175 := by kernel_rfl
def t176 : DFunc := { ntmps := 17, results := [(.t 4)], mode := .pure, body :=
 (.seq (.region [oW 4 (.move (oB false))])
 (.seq (.region [oM 5 0, oW 6 (.call (oF 183) [(.t 5)]), oM 7 6, ⟨(some 8), .move (.t 1), (some (7, true)), .write, 0, false⟩, ⟨(some 9), .call (oF 183) [(.t 8)], (some (7, true)), .write, 0, false⟩, ⟨(some 10), .un .not (.t 9), (some (7, true)), .write, 0, false⟩, oW 11 (.pick (.t 7) (.t 10) (oB false)), oM 12 11, ⟨(some 13), .move (.t 0), (some (12, false)), .write, 0, false⟩, ⟨(some 14), .move (.t 1), (some (12, false)), .write, 0, false⟩, ⟨(some 15), .arith .lss (.t 13) (.t 14), (some (12, false)), .write, 0, false⟩, oW 16 (.pick (.t 12) (oB true) (.t 15)), oM 4 16])
 .ret)) }
theorem c176 : compFunc Tryz.prog Tryz.f176 .pure = some t176 := by kernel_rfl
def t177l0 : DCode :=
 (.seq (.seq (.draw [oRM 29 9, oRM 30 10, oR 31 (.arith .leq (.t 29) (.t 30)), oRM 32 31, ⟨(some 33), .move (.t 0), (some (32, true)), .read, 0, false⟩, ⟨(some 34), .move (.t 1), (some (32, true)), .read, 0, false⟩, ⟨(some 35), .indexAddr 1 (.t 33) (.t 34), (some (32, true)), .read, 0, false⟩, ⟨(some 36), .load none (.t 35), (some (32, true)), .read, 0, false⟩, ⟨(some 37), .move (.t 0), (some (32, true)), .read, 0, false⟩, ⟨(some 38), .move (.t 9), (some (32, true)), .read, 0, false⟩, ⟨(some 39), .indexAddr 1 (.t 37) (.t 38), (some (32, true)), .read, 0, false⟩, ⟨(some 40), .load none (.t 39), (some (32, true)), .read, 0, false⟩, ⟨(some 41), .call (oF 176) [(.t 36), (.t 40)], (some (32, true)), .write, 0, false⟩, ⟨(some 42), .un .not (.t 41), (some (32, true)), .read, 1, false⟩, ⟨(some 43), .pick (.t 32) (.t 42) (oB false), none, .read, 1, false⟩])
 (.cond (.t 43) .skip (.exit 2)))
 (.block 3 (.region [oM 44 9, oW 45 (.arith .add (.t 44) (oI 1)), oM 9 45])))
def t177l1 : DCode :=
 (.seq (.seq (.draw [oRM 46 9, oRM 47 10, oR 48 (.arith .leq (.t 46) (.t 47)), oRM 49 48, ⟨(some 50), .move (.t 0), (some (49, true)), .read, 0, false⟩, ⟨(some 51), .move (.t 1), (some (49, true)), .read, 0, false⟩, ⟨(some 52), .indexAddr 1 (.t 50) (.t 51), (some (49, true)), .read, 0, false⟩, ⟨(some 53), .load none (.t 52), (some (49, true)), .read, 0, false⟩, ⟨(some 54), .move (.t 0), (some (49, true)), .read, 0, false⟩, ⟨(some 55), .move (.t 10), (some (49, true)), .read, 0, false⟩, ⟨(some 56), .indexAddr 1 (.t 54) (.t 55), (some (49, true)), .read, 0, false⟩, ⟨(some 57), .load none (.t 56), (some (49, true)), .read, 0, false⟩, ⟨(some 58), .call (oF 176) [(.t 53), (.t 57)], (some (49, true)), .write, 0, false⟩, ⟨(some 59), .pick (.t 49) (.t 58) (oB false), none, .read, 1, false⟩])
 (.cond (.t 59) .skip (.exit 4)))
 (.block 5 (.region [oM 60 10, oW 61 (.arith .sub (.t 60) (oI 1)), oM 10 61])))
def t177k0 : DCode :=
 (.seq (.seq (.region [oM 62 9, oM 63 10, oW 64 (.arith .gtr (.t 62) (.t 63))])
 (.cond (.t 64) (.exit 0) .skip))
 (.seq (.draw [oRM 69 0, oRM 70 10, oR 71 (.indexAddr 1 (.t 69) (.t 70)), oRD 72 71, oRM 73 0, oRM 74 9, oR 75 (.indexAddr 1 (.t 73) (.t 74)), oRD 76 75, oRM 65 0, oRM 66 9, oR 77 (.indexAddr 1 (.t 65) (.t 66)), oS 1 77 72, oRM 67 0, oRM 68 10, ⟨(some 78), .indexAddr 1 (.t 67) (.t 68), none, .read, 1, false⟩, ⟨none, .store 1 (.t 78) (.t 76), none, .write, 1, false⟩])
 (.seq (.region [oM 79 9, oW 80 (.arith .add (.t 79) (oI 1)), oM 9 80])
 (.region [oM 81 10, oW 82 (.arith .sub (.t 81) (oI 1)), oM 10 82]))))
def t177k1 : DCode :=
 (.seq (.block 4 (.loop t177l1))
 t177k0)
def t177l2 : DCode :=
 (.block 1 (.seq (.block 2 (.loop t177l0))
 t177k1))
def t177k2 : DCode :=
 (.seq (.region [oM 83 9, oM 8 83])
 .ret)
def t177 : DFunc := { ntmps := 84, results := [(.t 8)], mode := .full, body :=
 (.seq (.region [oW 8 (.move (oI 0))])
 (.seq (.draw [oRM 15 0, oRM 16 3, oR 17 (.indexAddr 1 (.t 15) (.t 16)), oRD 18 17, oRM 19 0, oRM 20 1, oR 21 (.indexAddr 1 (.t 19) (.t 20)), oRD 22 21, oRM 11 0, oRM 12 1, oR 23 (.indexAddr 1 (.t 11) (.t 12)), oS 1 23 18, oRM 13 0, oRM 14 3, ⟨(some 24), .indexAddr 1 (.t 13) (.t 14), none, .read, 1, false⟩, ⟨none, .store 1 (.t 24) (.t 22), none, .write, 1, false⟩])
 (.seq (.region [oM 25 1, oW 26 (.arith .add (.t 25) (oI 1)), oM 27 2, oW 28 (.arith .sub (.t 27) (oI 1)), oM 9 26, oM 10 28])
 (.seq (.block 0 (.loop t177l2))
 t177k2)))) }
theorem c177 : compFunc Tryz.prog Tryz.f177 .full = some t177 := by kernel_rfl
def t178l0 : DCode :=
 (.seq (.seq (.draw [oRM 30 10, oRM 31 11, oR 32 (.arith .leq (.t 30) (.t 31)), oRM 33 32, ⟨(some 34), .move (.t 0), (some (33, true)), .read, 0, false⟩, ⟨(some 35), .move (.t 10), (some (33, true)), .read, 0, false⟩, ⟨(some 36), .indexAddr 1 (.t 34) (.t 35), (some (33, true)), .read, 0, false⟩, ⟨(some 37), .load none (.t 36), (some (33, true)), .read, 0, false⟩, ⟨(some 38), .move (.t 0), (some (33, true)), .read, 0, false⟩, ⟨(some 39), .move (.t 1), (some (33, true)), .read, 0, false⟩, ⟨(some 40), .indexAddr 1 (.t 38) (.t 39), (some (33, true)), .read, 0, false⟩, ⟨(some 41), .load none (.t 40), (some (33, true)), .read, 0, false⟩, ⟨(some 42), .call (oF 176) [(.t 37), (.t 41)], (some (33, true)), .write, 0, false⟩, ⟨(some 43), .pick (.t 33) (.t 42) (oB false), none, .read, 1, false⟩])
 (.cond (.t 43) .skip (.exit 0)))
 (.block 1 (.region [oM 44 10, oW 45 (.arith .add (.t 44) (oI 1)), oM 10 45])))
def t178l1 : DCode :=
 (.seq (.seq (.draw [oRM 46 10, oRM 47 11, oR 48 (.arith .leq (.t 46) (.t 47)), oRM 49 48, ⟨(some 50), .move (.t 0), (some (49, true)), .read, 0, false⟩, ⟨(some 51), .move (.t 11), (some (49, true)), .read, 0, false⟩, ⟨(some 52), .indexAddr 1 (.t 50) (.t 51), (some (49, true)), .read, 0, false⟩, ⟨(some 53), .load none (.t 52), (some (49, true)), .read, 0, false⟩, ⟨(some 54), .move (.t 0), (some (49, true)), .read, 0, false⟩, ⟨(some 55), .move (.t 1), (some (49, true)), .read, 0, false⟩, ⟨(some 56), .indexAddr 1 (.t 54) (.t 55), (some (49, true)), .read, 0, false⟩, ⟨(some 57), .load none (.t 56), (some (49, true)), .read, 0, false⟩, ⟨(some 58), .call (oF 176) [(.t 53), (.t 57)], (some (49, true)), .write, 0, false⟩, ⟨(some 59), .un .not (.t 58), (some (49, true)), .read, 1, false⟩, ⟨(some 60), .pick (.t 49) (.t 59) (oB false), none, .read, 1, false⟩])
 (.cond (.t 60) .skip (.exit 2)))
 (.block 3 (.region [oM 61 11, oW 62 (.arith .sub (.t 61) (oI 1)), oM 11 62])))
def t178l2 : DCode :=
 (.seq (.seq (.draw [oRM 99 10, oRM 100 11, oR 101 (.arith .leq (.t 99) (.t 100)), oRM 102 101, ⟨(some 103), .move (.t 0), (some (102, true)), .read, 0, false⟩, ⟨(some 104), .move (.t 10), (some (102, true)), .read, 0, false⟩, ⟨(some 105), .indexAddr 1 (.t 103) (.t 104), (some (102, true)), .read, 0, false⟩, ⟨(some 106), .load none (.t 105), (some (102, true)), .read, 0, false⟩, ⟨(some 107), .move (.t 0), (some (102, true)), .read, 0, false⟩, ⟨(some 108), .move (.t 1), (some (102, true)), .read, 0, false⟩, ⟨(some 109), .indexAddr 1 (.t 107) (.t 108), (some (102, true)), .read, 0, false⟩, ⟨(some 110), .load none (.t 109), (some (102, true)), .read, 0, false⟩, ⟨(some 111), .call (oF 176) [(.t 106), (.t 110)], (some (102, true)), .write, 0, false⟩, ⟨(some 112), .pick (.t 102) (.t 111) (oB false), none, .read, 1, false⟩])
 (.cond (.t 112) .skip (.exit 6)))
 (.block 7 (.region [oM 113 10, oW 114 (.arith .add (.t 113) (oI 1)), oM 10 114])))
def t178l3 : DCode :=
 (.seq (.seq (.draw [oRM 115 10, oRM 116 11, oR 117 (.arith .leq (.t 115) (.t 116)), oRM 118 117, ⟨(some 119), .move (.t 0), (some (118, true)), .read, 0, false⟩, ⟨(some 120), .move (.t 11), (some (118, true)), .read, 0, false⟩, ⟨(some 121), .indexAddr 1 (.t 119) (.t 120), (some (118, true)), .read, 0, false⟩, ⟨(some 122), .load none (.t 121), (some (118, true)), .read, 0, false⟩, ⟨(some 123), .move (.t 0), (some (118, true)), .read, 0, false⟩, ⟨(some 124), .move (.t 1), (some (118, true)), .read, 0, false⟩, ⟨(some 125), .indexAddr 1 (.t 123) (.t 124), (some (118, true)), .read, 0, false⟩, ⟨(some 126), .load none (.t 125), (some (118, true)), .read, 0, false⟩, ⟨(some 127), .call (oF 176) [(.t 122), (.t 126)], (some (118, true)), .write, 0, false⟩, ⟨(some 128), .un .not (.t 127), (some (118, true)), .read, 1, false⟩, ⟨(some 129), .pick (.t 118) (.t 128) (oB false), none, .read, 1, false⟩])
 (.cond (.t 129) .skip (.exit 8)))
 (.block 9 (.region [oM 130 11, oW 131 (.arith .sub (.t 130) (oI 1)), oM 11 131])))
def t178k0 : DCode :=
 (.seq (.seq (.region [oM 132 10, oM 133 11, oW 134 (.arith .gtr (.t 132) (.t 133))])
 (.cond (.t 134) (.exit 4) .skip))
 (.seq (.draw [oRM 139 0, oRM 140 11, oR 141 (.indexAddr 1 (.t 139) (.t 140)), oRD 142 141, oRM 143 0, oRM 144 10, oR 145 (.indexAddr 1 (.t 143) (.t 144)), oRD 146 145, oRM 135 0, oRM 136 10, oR 147 (.indexAddr 1 (.t 135) (.t 136)), oS 1 147 142, oRM 137 0, oRM 138 11, ⟨(some 148), .indexAddr 1 (.t 137) (.t 138), none, .read, 1, false⟩, ⟨none, .store 1 (.t 148) (.t 146), none, .write, 1, false⟩])
 (.seq (.region [oM 149 10, oW 150 (.arith .add (.t 149) (oI 1)), oM 10 150])
 (.region [oM 151 11, oW 152 (.arith .sub (.t 151) (oI 1)), oM 11 152]))))
def t178k1 : DCode :=
 (.seq (.block 8 (.loop t178l3))
 t178k0)
def t178l4 : DCode :=
 (.block 5 (.seq (.block 6 (.loop t178l2))
 t178k1))
def t178k2 : DCode :=
 (.seq (.draw [oRM 157 0, oRM 158 1, oR 159 (.indexAddr 1 (.t 157) (.t 158)), oRD 160 159, oRM 161 0, oRM 162 11, oR 163 (.indexAddr 1 (.t 161) (.t 162)), oRD 164 163, oRM 153 0, oRM 154 11, oR 165 (.indexAddr 1 (.t 153) (.t 154)), oS 1 165 160, oRM 155 0, oRM 156 1, ⟨(some 166), .indexAddr 1 (.t 155) (.t 156), none, .read, 1, false⟩, ⟨none, .store 1 (.t 166) (.t 164), none, .write, 1, false⟩])
 (.seq (.region [oM 167 11, oM 8 167, oW 9 (.move (oB false))])
 .ret))
def t178k3 : DCode :=
 (.seq (.seq (.region [oM 63 10, oM 64 11, oW 65 (.arith .gtr (.t 63) (.t 64))])
 (.cond (.t 65) (.seq (.draw [oRM 70 0, oRM 71 1, oR 72 (.indexAddr 1 (.t 70) (.t 71)), oRD 73 72, oRM 74 0, oRM 75 11, oR 76 (.indexAddr 1 (.t 74) (.t 75)), oRD 77 76, oRM 66 0, oRM 67 11, oR 78 (.indexAddr 1 (.t 66) (.t 67)), oS 1 78 73, oRM 68 0, oRM 69 1, ⟨(some 79), .indexAddr 1 (.t 68) (.t 69), none, .read, 1, false⟩, ⟨none, .store 1 (.t 79) (.t 77), none, .write, 1, false⟩])
 (.seq (.region [oM 80 11, oM 8 80, oW 9 (.move (oB true))])
 .ret)) .skip))
 (.seq (.draw [oRM 85 0, oRM 86 11, oR 87 (.indexAddr 1 (.t 85) (.t 86)), oRD 88 87, oRM 89 0, oRM 90 10, oR 91 (.indexAddr 1 (.t 89) (.t 90)), oRD 92 91, oRM 81 0, oRM 82 10, oR 93 (.indexAddr 1 (.t 81) (.t 82)), oS 1 93 88, oRM 83 0, oRM 84 11, ⟨(some 94), .indexAddr 1 (.t 83) (.t 84), none, .read, 1, false⟩, ⟨none, .store 1 (.t 94) (.t 92), none, .write, 1, false⟩])
 (.seq (.region [oM 95 10, oW 96 (.arith .add (.t 95) (oI 1)), oM 10 96])
 (.seq (.region [oM 97 11, oW 98 (.arith .sub (.t 97) (oI 1)), oM 11 98])
 (.seq (.block 4 (.loop t178l4))
 t178k2)))))
def t178k4 : DCode :=
 (.seq (.block 2 (.loop t178l1))
 t178k3)
def t178 : DFunc := { ntmps := 168, results := [(.t 8), (.t 9)], mode := .full, body :=
 (.seq (.region [oW 8 (.move (oI 0)), oW 9 (.move (oB false))])
 (.seq (.draw [oRM 16 0, oRM 17 3, oR 18 (.indexAddr 1 (.t 16) (.t 17)), oRD 19 18, oRM 20 0, oRM 21 1, oR 22 (.indexAddr 1 (.t 20) (.t 21)), oRD 23 22, oRM 12 0, oRM 13 1, oR 24 (.indexAddr 1 (.t 12) (.t 13)), oS 1 24 19, oRM 14 0, oRM 15 3, ⟨(some 25), .indexAddr 1 (.t 14) (.t 15), none, .read, 1, false⟩, ⟨none, .store 1 (.t 25) (.t 23), none, .write, 1, false⟩])
 (.seq (.region [oM 26 1, oW 27 (.arith .add (.t 26) (oI 1)), oM 28 2, oW 29 (.arith .sub (.t 28) (oI 1)), oM 10 27, oM 11 29])
 (.seq (.block 0 (.loop t178l0))
 t178k4)))) }
theorem c178 : compFunc Tryz.prog Tryz.f178 .full = some t178 := by kernel_rfl
def t179 : DFunc := { ntmps := 19, results := [(.t 2)], mode := .pure, body :=
 (.seq (.region [oW 2 (.move (oI 0))])
 (.seq (.seq (.region [oM 3 0, oW 4 (.arith .geq (.t 3) (.c (.int .u32 65536)))])
 (.cond (.t 4) (.seq (.region [oM 5 0, oW 6 (.arith .shr (.t 5) (.c (.int .u64 16))), oM 0 6])
 (.region [oW 2 (.move (oI 16))])) .skip))
 (.seq (.seq (.region [oM 7 0, oW 8 (.arith .geq (.t 7) (.c (.int .u32 256)))])
 (.cond (.t 8) (.seq (.region [oM 9 0, oW 10 (.arith .shr (.t 9) (.c (.int .u64 8))), oM 0 10])
 (.region [oM 11 2, oW 12 (.arith .add (.t 11) (oI 8)), oM 2 12])) .skip))
 (.seq (.region [oM 13 2, oM 14 0, oW 15 (.conv .u8 (.t 14)), oW 16 (.indexStr (.c (.str [0, 1, 2, 2, 3, 3, 3, 3, 4, 4, 4, 4, 4, 4, 4, 4, 5, 5, 5, 5, 5, 5, 5, 5, 5, 5, 5, 5, 5, 5, 5, 5, 6, 6, 6, 6, 6, 6, 6, 6, 6, 6, 6, 6, 6, 6, 6, 6, 6, 6, 6, 6, 6, 6, 6, 6, 6, 6, 6, 6, 6, 6, 6, 6, 7, 7, 7, 7, 7, 7, 7, 7, 7, 7, 7, 7, 7, 7, 7, 7, 7, 7, 7, 7, 7, 7, 7, 7, 7, 7, 7, 7, 7, 7, 7, 7, 7, 7, 7, 7, 7, 7, 7, 7, 7, 7, 7, 7, 7, 7, 7, 7, 7, 7, 7, 7, 7, 7, 7, 7, 7, 7, 7, 7, 7, 7, 7, 7, 8, 8, 8, 8, 8, 8, 8, 8, 8, 8, 8, 8, 8, 8, 8, 8, 8, 8, 8, 8, 8, 8, 8, 8, 8, 8, 8, 8, 8, 8, 8, 8, 8, 8, 8, 8, 8, 8, 8, 8, 8, 8, 8, 8, 8, 8, 8, 8, 8, 8, 8, 8, 8, 8, 8, 8, 8, 8, 8, 8, 8, 8, 8, 8, 8, 8, 8, 8, 8, 8, 8, 8, 8, 8, 8, 8, 8, 8, 8, 8, 8, 8, 8, 8, 8, 8, 8, 8, 8, 8, 8, 8, 8, 8, 8, 8, 8, 8, 8, 8, 8, 8, 8, 8, 8, 8, 8, 8, 8, 8, 8, 8, 8, 8, 8, 8, 8, 8, 8, 8, 8, 8, 8, 8, 8, 8, 8, 8])) (.t 15)), oW 17 (.conv .i64 (.t 16)), oW 18 (.arith .add (.t 13) (.t 17)), oM 2 18])
 .ret)))) }
theorem c179 : compFunc Tryz.prog Tryz.f179 .pure = some t179 := by kernel_rfl
def t180 : DFunc := { ntmps := 25, results := [(.t 2)], mode := .pure, body :=
 (.seq (.region [oW 2 (.move (oI 0))])
 (.seq (.seq (.region [oM 3 0, oW 4 (.arith .geq (.t 3) (.c (.int .u64 4294967296)))])
 (.cond (.t 4) (.seq (.region [oM 5 0, oW 6 (.arith .shr (.t 5) (.c (.int .u64 32))), oM 0 6])
 (.region [oW 2 (.move (oI 32))])) .skip))
 (.seq (.seq (.region [oM 7 0, oW 8 (.arith .geq (.t 7) (.c (.int .u64 65536)))])
 (.cond (.t 8) (.seq (.region [oM 9 0, oW 10 (.arith .shr (.t 9) (.c (.int .u64 16))), oM 0 10])
 (.region [oM 11 2, oW 12 (.arith .add (.t 11) (oI 16)), oM 2 12])) .skip))
 (.seq (.seq (.region [oM 13 0, oW 14 (.arith .geq (.t 13) (.c (.int .u64 256)))])
 (.cond (.t 14) (.seq (.region [oM 15 0, oW 16 (.arith .shr (.t 15) (.c (.int .u64 8))), oM 0 16])
 (.region [oM 17 2, oW 18 (.arith .add (.t 17) (oI 8)), oM 2 18])) .skip))
 (.seq (.region [oM 19 2, oM 20 0, oW 21 (.conv .u8 (.t 20)), oW 22 (.indexStr (.c (.str [0, 1, 2, 2, 3, 3, 3, 3, 4, 4, 4, 4, 4, 4, 4, 4, 5, 5, 5, 5, 5, 5, 5, 5, 5, 5, 5, 5, 5, 5, 5, 5, 6, 6, 6, 6, 6, 6, 6, 6, 6, 6, 6, 6, 6, 6, 6, 6, 6, 6, 6, 6, 6, 6, 6, 6, 6, 6, 6, 6, 6, 6, 6, 6, 7, 7, 7, 7, 7, 7, 7, 7, 7, 7, 7, 7, 7, 7, 7, 7, 7, 7, 7, 7, 7, 7, 7, 7, 7, 7, 7, 7, 7, 7, 7, 7, 7, 7, 7, 7, 7, 7, 7, 7, 7, 7, 7, 7, 7, 7, 7, 7, 7, 7, 7, 7, 7, 7, 7, 7, 7, 7, 7, 7, 7, 7, 7, 7, 8, 8, 8, 8, 8, 8, 8, 8, 8, 8, 8, 8, 8, 8, 8, 8, 8, 8, 8, 8, 8, 8, 8, 8, 8, 8, 8, 8, 8, 8, 8, 8, 8, 8, 8, 8, 8, 8, 8, 8, 8, 8, 8, 8, 8, 8, 8, 8, 8, 8, 8, 8, 8, 8, 8, 8, 8, 8, 8, 8, 8, 8, 8, 8, 8, 8, 8, 8, 8, 8, 8, 8, 8, 8, 8, 8, 8, 8, 8, 8, 8, 8, 8, 8, 8, 8, 8, 8, 8, 8, 8, 8, 8, 8, 8, 8, 8, 8, 8, 8, 8, 8, 8, 8, 8, 8, 8, 8, 8, 8, 8, 8, 8, 8, 8, 8, 8, 8, 8, 8, 8, 8, 8, 8, 8, 8, 8, 8])) (.t 21)), oW 23 (.conv .i64 (.t 22)), oW 24 (.arith .add (.t 19) (.t 23)), oM 2 24])
 .ret))))) }
theorem c180 : compFunc Tryz.prog Tryz.f180 .pure = some t180 := by kernel_rfl
def t181 : DFunc := { ntmps := 14, results := [], mode := .full, body :=
 (.seq (.region [oM 4 0, oM 5 1, oW 6 (.sliceSl 4 (.t 4) none (some (.t 5))), oW 7 (.call (oF 204) [(.t 6)])])
 (.seq (.region [oM 8 0, oM 9 1, oW 10 (.sliceSl 4 (.t 8) (some (.t 9)) none), oW 11 (.call (oF 204) [(.t 10)])])
 (.region [oM 12 0, oW 13 (.call (oF 204) [(.t 12)])]))) }
theorem c181 : compFunc Tryz.prog Tryz.f181 .full = some t181 := by kernel_rfl
def t182 : DFunc := { ntmps := 14, results := [], mode := .full, body :=
 (.seq (.region [oM 4 0, oM 5 1, oW 6 (.sliceSl 2 (.t 4) none (some (.t 5))), oW 7 (.call (oF 205) [(.t 6)])])
 (.seq (.region [oM 8 0, oM 9 1, oW 10 (.sliceSl 2 (.t 8) (some (.t 9)) none), oW 11 (.call (oF 205) [(.t 10)])])
 (.region [oM 12 0, oW 13 (.call (oF 205) [(.t 12)])]))) }
theorem c182 : compFunc Tryz.prog Tryz.f182 .full = some t182 := by kernel_rfl
def t183 : DFunc := { ntmps := 6, results := [(.t 2)], mode := .pure, body :=
 (.seq (.region [oW 2 (.move (oB false))])
 (.seq (.region [oM 3 0, oM 4 0, oW 5 (.arith .neq (.t 3) (.t 4)), oM 2 5])
 .ret)) }
theorem c183 : compFunc Tryz.prog Tryz.f183 .pure = some t183 := by kernel_rfl
def t186l0 : DCode :=
 (.seq (.region [oW 19 (.arith .lss (.t 18) (.t 17))])
 (.seq (.cond (.t 19) .skip (.exit 2))
 (.seq (.block 3 (.seq (.region [oW 20 (.indexAddr 4 (.t 16) (.t 18)), oL 21 4 20, oW 9 (.alloc 206 4 (.agg [(.str []), (.bool false), (.int .i64 0), (.str [])])), oS 4 9 21])
 (.region [oM 22 7, oM 23 22, ⟨(some 24), .fieldAddr 0 (.t 9), (some (23, false)), .write, 0, false⟩, ⟨(some 25), .load none (.t 24), (some (23, false)), .write, 0, false⟩, ⟨(some 26), .fieldAddr 0 (.t 6), (some (23, false)), .write, 0, false⟩, ⟨(some 27), .load none (.t 26), (some (23, false)), .write, 0, false⟩, ⟨(some 28), .arith .eql (.t 25) (.t 27), (some (23, false)), .write, 0, false⟩, ⟨(some 29), .move (.t 28), (some (23, false)), .write, 0, false⟩, ⟨(some 30), .load (some 5) (.t 6), (some (29, true)), .write, 0, false⟩, ⟨(some 31), .fieldAddr 1 (.t 9), (some (29, true)), .write, 0, false⟩, ⟨(some 32), .load (some 3) (.t 31), (some (29, true)), .write, 0, false⟩, ⟨(some 33), .call (oF 206) [(.t 30), (.t 32)], (some (29, true)), .write, 0, false⟩, ⟨(some 34), .pick (.t 29) (.t 33) (oB false), (some (23, false)), .write, 0, false⟩, oW 35 (.pick (.t 23) (oB true) (.t 34)), oM 7 35])))
 (.region [oW 36 (.arith .add (.t 18) (oI 1)), oM 18 36]))))
def t186k0 : DCode :=
 (.seq (.region [oM 37 7, oW 38 (.un .not (.t 37))])
 (.cond (.t 38) (.seq (.region [oW 4 (.move (oB false))])
 .ret) .skip))
def t186k1 : DCode :=
 (.region [oW 39 (.arith .add (.t 12) (oI 1)), oM 12 39])
def t186l1 : DCode :=
 (.seq (.region [oW 13 (.arith .lss (.t 12) (.t 11))])
 (.seq (.cond (.t 13) .skip (.exit 0))
 (.seq (.block 1 (.seq (.region [oW 14 (.indexAddr 5 (.t 10) (.t 12)), oL 15 5 14, oW 6 (.alloc 62 5 (.agg [(.str []), (.int .i64 0), (.int .i64 0), (.int .i64 0), (.str [])])), oS 5 6 15])
 (.seq (.region [oW 7 (.move (oB false))])
 (.seq (.seq (.region [oM 16 1, oW 17 (.len 1 (.t 16)), oW 18 (.move (oI 0))])
 (.block 2 (.loop t186l0)))
 t186k0))))
 t186k1)))
def t186k2 : DCode :=
 (.seq (.region [oW 4 (.move (oB true))])
 .ret)
def t186 : DFunc := { ntmps := 40, results := [(.t 4)], mode := .pure, body :=
 (.seq (.region [oW 4 (.move (oB false))])
 (.seq (.seq (.region [oM 10 0, oW 11 (.len 1 (.t 10)), oW 12 (.move (oI 0))])
 (.block 0 (.loop t186l1)))
 t186k2)) }
theorem c186 : compFunc Tryz.prog Tryz.f186 .pure = some t186 := by kernel_rfl
def t187 : DFunc := { ntmps := 14, results := [], mode := .full, body :=
 (.seq (.region [oM 4 0, oM 5 1, oW 6 (.sliceSl 7 (.t 4) none (some (.t 5))), oW 7 (.call (oF 207) [(.t 6)])])
 (.seq (.region [oM 8 0, oM 9 1, oW 10 (.sliceSl 7 (.t 8) (some (.t 9)) none), oW 11 (.call (oF 207) [(.t 10)])])
 (.region [oM 12 0, oW 13 (.call (oF 207) [(.t 12)])]))) }
theorem c187 : compFunc Tryz.prog Tryz.f187 .full = some t187 := by kernel_rfl
def t188 : DFunc := { ntmps := 18, results := [(.t 4)], mode := .pure, body :=
 (.seq (.region [oW 4 (.move (oB false))])
 (.seq (.region [oM 5 0, oW 6 (.len 0 (.t 5)), oM 7 1, oW 8 (.len 0 (.t 7)), oW 9 (.arith .geq (.t 6) (.t 8)), oM 10 9, ⟨(some 11), .move (.t 0), (some (10, true)), .write, 0, false⟩, ⟨(some 12), .move (.t 1), (some (10, true)), .write, 0, false⟩, ⟨(some 13), .len 0 (.t 12), (some (10, true)), .write, 0, false⟩, ⟨(some 14), .sliceStr (.t 11) none (some (.t 13)), (some (10, true)), .write, 0, false⟩, ⟨(some 15), .move (.t 1), (some (10, true)), .write, 0, false⟩, ⟨(some 16), .arith .eql (.t 14) (.t 15), (some (10, true)), .write, 0, false⟩, oW 17 (.pick (.t 10) (.t 16) (oB false)), oM 4 17])
 .ret)) }
theorem c188 : compFunc Tryz.prog Tryz.f188 .pure = some t188 := by kernel_rfl
def t189 : DFunc := { ntmps := 83, results := [(.cell 4 (some 5)), (.t 5)], mode := .pure, body :=
 (.seq (.region [oW 2 (.box 62 5 (.t 0)), oW 3 (.box 62 5 (.t 1)), oW 4 (.alloc 62 5 (.agg [(.str []), (.int .i64 0), (.int .i64 0), (.int .i64 0), (.str [])])), oW 5 (.move (oB false))])
 (.seq (.block 0 (.seq (.region [oA 7 1 2, oD 8 7, oW 9 (.arith .eql (.t 8) (oI 1)), oM 10 9, ⟨(some 11), .fieldAddr 1 (.t 3), (some (10, true)), .write, 0, false⟩, ⟨(some 12), .load none (.t 11), (some (10, true)), .write, 0, false⟩, ⟨(some 13), .arith .eql (.t 12) (oI 1), (some (10, true)), .write, 0, false⟩, oW 14 (.pick (.t 10) (.t 13) (oB false)), oM 6 14])
 (.cond (.t 6) (.seq (.draw [oRA 15 2 2, ⟨(some 16), .load none (.t 15), none, .read, 0, true⟩, oRA 17 2 3, ⟨(some 18), .load none (.t 17), none, .read, 0, true⟩, oRA 20 3 2, ⟨(some 21), .load none (.t 20), none, .read, 0, true⟩, oRA 22 3 3, oRD 23 22, oR 19 (.minmax true (.t 16) (.t 18)), oRA 25 2 2, ⟨none, .store 1 (.t 25) (.t 19), none, .create, 0, false⟩, oR 24 (.minmax false (.t 21) (.t 23)), ⟨(some 26), .fieldAddr 3 (.t 2), none, .read, 1, false⟩, ⟨none, .store 1 (.t 26) (.t 24), none, .write, 1, false⟩])
 (.seq (.draw [⟨(some 27), .load (some 5) (.t 2), none, .read, 0, true⟩, oRA 28 2 2, oRD 29 28, oRA 30 3 2, oRD 31 30, ⟨none, .store 5 (.t 4) (.t 27), none, .create, 0, false⟩, oR 32 (.arith .leq (.t 29) (.t 31)), ⟨(some 5), .move (.t 32), none, .read, 1, false⟩])
 .ret)) (.seq (.region [oA 34 1 2, oD 35 34, oW 36 (.arith .eql (.t 35) (oI 1)), oM 37 36, ⟨(some 38), .fieldAddr 1 (.t 3), (some (37, false)), .write, 0, false⟩, ⟨(some 39), .load none (.t 38), (some (37, false)), .write, 0, false⟩, ⟨(some 40), .arith .eql (.t 39) (oI 1), (some (37, false)), .write, 0, false⟩, oW 41 (.pick (.t 37) (oB true) (.t 40)), oM 33 41])
 (.cond (.t 33) (.seq (.region [oL 42 5 2, oS 5 4 42, oW 5 (.move (oB false))])
 .ret) (.seq (.region [oA 44 1 2, oD 45 44, oW 46 (.arith .eql (.t 45) (oI 2)), oM 43 46])
 (.cond (.t 43) (.seq (.draw [oRL 47 5 2, oRL 48 5 3, oRA 49 4 2, oRD 50 49, oR 51 (.build [(.bool false), (.int .i64 0), (.str [])] [(0, 1, (oB true)), (2, 1, (.t 50))]), ⟨(some 52), .call (oF 206) [(.t 48), (.t 51)], none, .create, 0, false⟩, ⟨none, .store 5 (.t 4) (.t 47), none, .write, 1, false⟩, ⟨(some 5), .move (.t 52), none, .read, 2, false⟩])
 .ret) (.seq (.region [oA 54 1 3, oD 55 54, oW 56 (.arith .eql (.t 55) (oI 2)), oM 53 56])
 (.cond (.t 53) (.seq (.draw [oRL 57 5 3, oRL 58 5 2, oRA 59 4 3, oRD 60 59, oR 61 (.build [(.bool false), (.int .i64 0), (.str [])] [(0, 1, (oB true)), (2, 1, (.t 60))]), ⟨(some 62), .call (oF 206) [(.t 58), (.t 61)], none, .create, 0, false⟩, ⟨none, .store 5 (.t 4) (.t 57), none, .write, 1, false⟩, ⟨(some 5), .move (.t 62), none, .read, 2, false⟩])
 .ret) (.seq (.region [oA 64 4 2, oD 65 64, oW 66 (.len 0 (.t 65)), oA 67 4 3, oD 68 67, oW 69 (.len 0 (.t 68)), oW 70 (.arith .geq (.t 66) (.t 69)), oM 63 70])
 (.cond (.t 63) (.seq (.draw [oRL 71 5 2, oRA 72 4 2, oRD 73 72, oRA 74 4 3, oRD 75 74, ⟨(some 76), .call (oF 188) [(.t 73), (.t 75)], none, .create, 0, false⟩, ⟨none, .store 5 (.t 4) (.t 71), none, .write, 1, false⟩, ⟨(some 5), .move (.t 76), none, .read, 2, false⟩])
 .ret) .skip)))))))))))
 (.seq (.draw [oRL 77 5 3, oRA 78 4 3, oRD 79 78, oRA 80 4 2, oRD 81 80, ⟨(some 82), .call (oF 188) [(.t 79), (.t 81)], none, .create, 0, false⟩, ⟨none, .store 5 (.t 4) (.t 77), none, .write, 1, false⟩, ⟨(some 5), .move (.t 82), none, .read, 2, false⟩])
 .ret))) }
theorem c189 : compFunc Tryz.prog Tryz.f189 .pure = some t189 := by kernel_rfl
def t198 : DFunc := { ntmps := 18, results := [(.t 4)], mode := .pure, body :=
 (.seq (.region [oW 4 (.move (oB false))])
 (.seq (.region [oM 5 0, oW 6 (.len 0 (.t 5)), oM 7 1, oW 8 (.len 0 (.t 7)), oW 9 (.arith .geq (.t 6) (.t 8)), oM 10 9, ⟨(some 11), .move (.t 0), (some (10, true)), .write, 0, false⟩, ⟨(some 12), .move (.t 1), (some (10, true)), .write, 0, false⟩, ⟨(some 13), .len 0 (.t 12), (some (10, true)), .write, 0, false⟩, ⟨(some 14), .sliceStr (.t 11) none (some (.t 13)), (some (10, true)), .write, 0, false⟩, ⟨(some 15), .move (.t 1), (some (10, true)), .write, 0, false⟩, ⟨(some 16), .arith .eql (.t 14) (.t 15), (some (10, true)), .write, 0, false⟩, oW 17 (.pick (.t 10) (.t 16) (oB false)), oM 4 17])
 .ret)) }
theorem c198 : compFunc Tryz.prog Tryz.f198 .pure = some t198 := by kernel_rfl
def t199l0 : DCode :=
 (.block 1 (.seq (.region [oM 11 8, oW 12 (.arith .mul (oI 2) (.t 11)), oW 13 (.arith .add (.t 12) (oI 1)), oM 9 13])
 (.seq (.seq (.region [oM 14 9, oM 15 2, oW 16 (.arith .geq (.t 14) (.t 15))])
 (.cond (.t 16) (.exit 0) .skip))
 (.seq (.seq (.draw [oRM 17 9, oR 18 (.arith .add (.t 17) (oI 1)), oRM 19 2, oR 20 (.arith .lss (.t 18) (.t 19)), oRM 21 20, ⟨(some 22), .move (.t 0), (some (21, true)), .read, 0, false⟩, ⟨(some 23), .move (.t 3), (some (21, true)), .read, 0, false⟩, ⟨(some 24), .move (.t 9), (some (21, true)), .read, 0, false⟩, ⟨(some 25), .arith .add (.t 23) (.t 24), (some (21, true)), .read, 0, false⟩, ⟨(some 26), .indexAddr 1 (.t 22) (.t 25), (some (21, true)), .read, 0, false⟩, ⟨(some 27), .load none (.t 26), (some (21, true)), .read, 0, false⟩, ⟨(some 28), .move (.t 0), (some (21, true)), .read, 0, false⟩, ⟨(some 29), .move (.t 3), (some (21, true)), .read, 0, false⟩, ⟨(some 30), .move (.t 9), (some (21, true)), .read, 0, false⟩, ⟨(some 31), .arith .add (.t 29) (.t 30), (some (21, true)), .read, 0, false⟩, ⟨(some 32), .arith .add (.t 31) (oI 1), (some (21, true)), .read, 0, false⟩, ⟨(some 33), .indexAddr 1 (.t 28) (.t 32), (some (21, true)), .read, 0, false⟩, ⟨(some 34), .load none (.t 33), (some (21, true)), .read, 0, false⟩, ⟨(some 35), .call (oF 176) [(.t 27), (.t 34)], (some (21, true)), .write, 0, false⟩, ⟨(some 36), .pick (.t 21) (.t 35) (oB false), none, .read, 1, false⟩])
 (.cond (.t 36) (.region [oM 37 9, oW 38 (.arith .add (.t 37) (oI 1)), oM 9 38]) .skip))
 (.seq (.seq (.draw [oRM 39 0, oRM 40 3, oRM 41 8, oR 42 (.arith .add (.t 40) (.t 41)), oR 43 (.indexAddr 1 (.t 39) (.t 42)), oRD 44 43, oRM 45 0, oRM 46 3, oRM 47 9, oR 48 (.arith .add (.t 46) (.t 47)), oR 49 (.indexAddr 1 (.t 45) (.t 48)), oRD 50 49, oW 51 (.call (oF 176) [(.t 44), (.t 50)]), ⟨(some 52), .un .not (.t 51), none, .read, 1, false⟩])
 (.cond (.t 52) .ret .skip))
 (.seq (.draw [oRM 61 0, oRM 62 3, oRM 63 9, oR 64 (.arith .add (.t 62) (.t 63)), oR 65 (.indexAddr 1 (.t 61) (.t 64)), oRD 66 65, oRM 67 0, oRM 68 3, oRM 69 8, oR 70 (.arith .add (.t 68) (.t 69)), oR 71 (.indexAddr 1 (.t 67) (.t 70)), oRD 72 71, oRM 53 0, oRM 54 3, oRM 55 8, oR 56 (.arith .add (.t 54) (.t 55)), oR 73 (.indexAddr 1 (.t 53) (.t 56)), oS 1 73 66, oRM 57 0, oRM 58 3, oRM 59 9, oR 60 (.arith .add (.t 58) (.t 59)), ⟨(some 74), .indexAddr 1 (.t 57) (.t 60), none, .read, 1, false⟩, ⟨none, .store 1 (.t 74) (.t 72), none, .write, 1, false⟩])
 (.region [oM 75 9, oM 8 75])))))))
def t199 : DFunc := { ntmps := 76, results := [], mode := .full, body :=
 (.seq (.region [oM 10 1, oM 8 10])
 (.block 0 (.loop t199l0))) }
theorem c199 : compFunc Tryz.prog Tryz.f199 .full = some t199 := by kernel_rfl
def t200 : DFunc := { ntmps := 7, results := [(.t 2)], mode := .pure, body :=
 (.seq (.region [oW 2 (.move (.c (.int .u64 0)))])
 (.seq (.region [oM 3 0, oW 4 (.conv .u64 (.t 3)), oW 5 (.call (oF 135) [(.t 4)]), oW 6 (.arith .shl (.c (.int .u64 1)) (.t 5)), oM 2 6])
 .ret)) }
theorem c200 : compFunc Tryz.prog Tryz.f200 .pure = some t200 := by kernel_rfl
end Go.Dm.Tc
