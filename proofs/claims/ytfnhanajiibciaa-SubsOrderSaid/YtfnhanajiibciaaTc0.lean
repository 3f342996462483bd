/-
The table of functions, brought into the machine's form (Tc, part 0). Written by program (wip/tools/table.lean.txt).
-/
import Derived.Test.YtfnhanajiibciaaMm3
import Derived.Test.YtfnhanajiibciaaRows
import Derived.KernelRfl
namespace Go.Dm.Tc
open Go.Proofs

def t5s0 : DCode :=
 (.region [oM 46 10, oW 47 (.arith .add (.t 46) (oI 1)), oM 10 47])

def t5l0 : DCode :=
 (.seq (.seq (.region [oM 38 10, oM 39 0, oW 40 (.len 1 (.t 39)), oW 41 (.arith .lss (.t 38) (.t 40)), oM 42 41, ⟨(some 43), .move (.t 10), (some (42, true)), .write, 0⟩, ⟨(some 44), .arith .lss (.t 43) (oI 7), (some (42, true)), .write, 0⟩, oW 45 (.pick (.t 42) (.t 44) (oB false))])
 (.cond (.t 45) .skip (.exit 0)))
 (.seq (.block 1 (.draw [oRL 49 2 5, oRM 52 0, oRM 53 10, oR 54 (.indexAddr 2 (.t 52) (.t 53)), oRL 55 2 54, ⟨(some 56), .call (oF 10) [(.t 55)], none, .create, 0⟩, oRM 48 9, oRM 50 10, oR 51 (.build [(.int .i64 0), (.int .i64 0)] [(0, 1, (oI 2)), (1, 1, (.t 50))]), ⟨(some 57), .build [(.int .i64 0), (.int .i64 0), (.int .i64 0), (.int .i64 0), .nsl, (.int .i64 0), (.bool false)] [(0, 2, (.t 49)), (2, 2, (.t 51)), (4, 1, (.t 56)), (5, 1, (oI 1))], none, .read, 1⟩, ⟨(some 58), .buildSlice 53 7 (.agg [(.int .i64 0), (.int .i64 0), (.int .i64 0), (.int .i64 0), .nsl, (.int .i64 0), (.bool false)]) 1 [(0, (.t 57))], none, .create, 0⟩, ⟨(some 59), .append 53 7 72 (.t 48) (.t 58), none, .write, 2⟩, ⟨(some 9), .move (.t 59), none, .read, 3⟩]))
 t5s0))

def t5s1 : DCode :=
 (.region [oM 72 12, oW 73 (.arith .add (.t 72) (oI 1)), oM 12 73])

def t5l1 : DCode :=
 (.seq (.seq (.region [oM 63 12, oM 64 1, oW 65 (.len 1 (.t 64)), oW 66 (.arith .lss (.t 63) (.t 65)), oM 67 66, ⟨(some 68), .move (.t 11), (some (67, true)), .write, 0⟩, ⟨(some 69), .len 1 (.t 68), (some (67, true)), .write, 0⟩, ⟨(some 70), .arith .gtr (.t 69) (oI 1), (some (67, true)), .write, 0⟩, oW 71 (.pick (.t 67) (.t 70) (oB false))])
 (.cond (.t 71) .skip (.exit 2)))
 (.seq (.block 3 (.seq (.region [oM 74 1, oM 75 12, oW 76 (.indexAddr 1 (.t 74) (.t 75)), oD 77 76, oM 78 11, oW 79 (.len 1 (.t 78)), oW 80 (.arith .sub (.t 79) (oI 1)), oW 81 (.call (oF 8) [(.t 77), (oI 0), (.t 80)]), oM 13 81])
 (.draw [oRM 83 11, oRM 84 13, oR 85 (.indexAddr 7 (.t 83) (.t 84)), oRL 86 7 85, ⟨(some 82), .buildSlice 53 7 (.agg [(.int .i64 0), (.int .i64 0), (.int .i64 0), (.int .i64 0), .nsl, (.int .i64 0), (.bool false)]) 0 [], none, .create, 0⟩, ⟨(some 87), .buildSlice 53 7 (.agg [(.int .i64 0), (.int .i64 0), (.int .i64 0), (.int .i64 0), .nsl, (.int .i64 0), (.bool false)]) 1 [(0, (.t 86))], none, .create, 0⟩, ⟨(some 88), .append 53 7 72 (.t 82) (.t 87), none, .create, 0⟩, oRM 89 11, oRM 90 13, oR 91 (.sliceSl 7 (.t 89) none (some (.t 90))), ⟨(some 92), .append 53 7 72 (.t 88) (.t 91), none, .create, 0⟩, oRM 93 11, oRM 94 13, oR 95 (.arith .add (.t 94) (oI 1)), oR 96 (.sliceSl 7 (.t 93) (some (.t 95)) none), ⟨(some 97), .append 53 7 72 (.t 92) (.t 96), none, .write, 4⟩, ⟨(some 11), .move (.t 97), none, .read, 5⟩])))
 t5s1))

def t5s2 : DCode :=
 (.region [oW 121 (.arith .add (.t 100) (oI 1)), oM 100 121])

def t5l2 : DCode :=
 (.seq (.region [oW 101 (.arith .lss (.t 100) (.t 99))])
 (.seq (.cond (.t 101) .skip (.exit 4))
 (.seq (.block 5 (.seq (.region [oM 102 100, oM 14 102])
 (.seq (.draw [oRL 104 6 6, oRM 105 9, oRM 106 14, oR 107 (.indexAddr 7 (.t 105) (.t 106)), oRL 108 7 107, oW 109 (.call (oF 17) [(.t 104), (.t 108)]), ⟨(some 103), .move (.t 109), none, .read, 1⟩, ⟨(some 110), .extract (.t 103) 0, none, .read, 1⟩, ⟨none, .store 6 (.t 6) (.t 110), none, .write, 1⟩, ⟨(some 111), .extract (.t 103) 1, none, .read, 1⟩])
 (.draw [oRL 113 6 8, oRM 114 11, oRM 115 14, oR 116 (.indexAddr 7 (.t 114) (.t 115)), oRL 117 7 116, oW 118 (.call (oF 17) [(.t 113), (.t 117)]), ⟨(some 112), .move (.t 118), none, .read, 1⟩, ⟨(some 119), .extract (.t 112) 0, none, .read, 1⟩, ⟨none, .store 6 (.t 8) (.t 119), none, .write, 1⟩, ⟨(some 120), .extract (.t 112) 1, none, .read, 1⟩]))))
 t5s2)))

def t5s3 : DCode :=
 (.region [oW 174 (.arith .add (.t 124) (oI 1)), oM 124 174])

def t5l3 : DCode :=
 (.seq (.region [oW 125 (.arith .lss (.t 124) (.t 123))])
 (.seq (.cond (.t 125) .skip (.exit 6))
 (.seq (.block 7 (.seq (.region [oW 126 (.indexAddr 7 (.t 122) (.t 124)), oL 127 7 126, oW 16 (.alloc 53 7 (.agg [(.int .i64 0), (.int .i64 0), (.int .i64 0), (.int .i64 0), .nsl, (.int .i64 0), (.bool false)])), oS 7 16 127])
 (.seq (.region [oL 129 6 6, oL 130 2 5, oA 131 2 16, oL 132 2 131, oW 133 (.call (oF 20) [(.t 129), (.t 130), (.t 132)]), oM 128 133, oX 134 128 0, oX 135 128 1, oW 17 (.alloc 53 7 (.agg [(.int .i64 0), (.int .i64 0), (.int .i64 0), (.int .i64 0), .nsl, (.int .i64 0), (.bool false)])), oS 7 17 134, oM 18 135])
 (.seq (.region [oL 137 6 8, oL 138 2 5, oA 139 2 16, oL 140 2 139, oW 141 (.call (oF 20) [(.t 137), (.t 138), (.t 140)]), oM 136 141, oX 142 136 0, oX 143 136 1, oW 19 (.alloc 53 7 (.agg [(.int .i64 0), (.int .i64 0), (.int .i64 0), (.int .i64 0), .nsl, (.int .i64 0), (.bool false)])), oS 7 19 142, oM 20 143])
 (.seq (.region [oM 144 18, oW 145 (.un .not (.t 144)), oM 146 145, ⟨(some 147), .move (.t 20), (some (146, false)), .write, 0⟩, ⟨(some 148), .un .not (.t 147), (some (146, false)), .write, 0⟩, oW 149 (.pick (.t 146) (oB true) (.t 148)), oM 150 149, ⟨(some 151), .fieldAddr 4 (.t 17), (some (150, false)), .write, 0⟩, ⟨(some 152), .load none (.t 151), (some (150, false)), .write, 0⟩, ⟨(some 153), .fieldAddr 4 (.t 19), (some (150, false)), .write, 0⟩, ⟨(some 154), .load none (.t 153), (some (150, false)), .write, 0⟩, ⟨(some 155), .call (oF 25) [(.t 152), (.t 154)], (some (150, false)), .write, 0⟩, ⟨(some 156), .un .not (.t 155), (some (150, false)), .write, 0⟩, oW 157 (.pick (.t 150) (oB true) (.t 156)), oM 158 157, ⟨(some 159), .load (some 6) (.t 6), (some (158, false)), .write, 0⟩, ⟨(some 160), .load (some 2) (.t 5), (some (158, false)), .write, 0⟩, ⟨(some 161), .fieldAddr 4 (.t 16), (some (158, false)), .write, 0⟩, ⟨(some 162), .load none (.t 161), (some (158, false)), .write, 0⟩, ⟨(some 163), .call (oF 18) [(.t 159), (.t 160), (.t 162)], (some (158, false)), .write, 0⟩, ⟨(some 164), .un .not (.t 163), (some (158, false)), .write, 0⟩, oW 165 (.pick (.t 158) (oB true) (.t 164)), oM 166 165, ⟨(some 167), .load (some 6) (.t 8), (some (166, false)), .write, 0⟩, ⟨(some 168), .load (some 2) (.t 5), (some (166, false)), .write, 0⟩, ⟨(some 169), .fieldAddr 4 (.t 16), (some (166, false)), .write, 0⟩, ⟨(some 170), .load none (.t 169), (some (166, false)), .write, 0⟩, ⟨(some 171), .call (oF 18) [(.t 167), (.t 168), (.t 170)], (some (166, false)), .write, 0⟩, ⟨(some 172), .un .not (.t 171), (some (166, false)), .write, 0⟩, oW 173 (.pick (.t 166) (oB true) (.t 172))])
 (.cond (.t 173) (.seq (.region [oW 4 (.move (oB false))])
 .ret) .skip))))))
 t5s3)))

def t5s4 : DCode :=
 (.region [oW 205 (.arith .add (.t 193) (oI 1)), oM 193 205])

def t5l4 : DCode :=
 (.seq (.region [oW 194 (.arith .lss (.t 193) (.t 192))])
 (.seq (.cond (.t 194) .skip (.exit 8))
 (.seq (.block 9 (.seq (.region [oW 195 (.indexAddr 7 (.t 191) (.t 193)), oL 196 7 195, oW 25 (.alloc 53 7 (.agg [(.int .i64 0), (.int .i64 0), (.int .i64 0), (.int .i64 0), .nsl, (.int .i64 0), (.bool false)])), oS 7 25 196])
 (.seq (.region [oL 198 6 21, oL 199 7 25, oW 200 (.call (oF 17) [(.t 198), (.t 199)]), oM 197 200, oX 201 197 0, oX 202 197 1, oW 26 (.alloc 30 6 (.agg [(.int .i64 0), .nsl, .nsl, .nsl, .nsl, .nsl])), oS 6 26 201, oM 27 202])
 (.seq (.seq (.region [oM 203 27])
 (.cond (.t 203) (.seq (.region [oW 4 (.move (oB false))])
 .ret) .skip))
 (.region [oL 204 6 26, oS 6 21 204])))))
 t5s4)))

def t5k0 : DCode :=
 (.seq (.region [oM 206 23, oM 207 206, ⟨(some 208), .load (some 6) (.t 21), (some (207, true)), .write, 0⟩, ⟨(some 209), .load (some 2) (.t 5), (some (207, true)), .write, 0⟩, ⟨(some 210), .call (oF 22) [(.t 208), (.t 209)], (some (207, true)), .write, 0⟩, ⟨(some 211), .len 1 (.t 210), (some (207, true)), .write, 0⟩, ⟨(some 212), .move (.t 9), (some (207, true)), .write, 0⟩, ⟨(some 213), .len 1 (.t 212), (some (207, true)), .write, 0⟩, ⟨(some 214), .arith .add (.t 213) (oI 1), (some (207, true)), .write, 0⟩, ⟨(some 215), .arith .eql (.t 211) (.t 214), (some (207, true)), .write, 0⟩, oW 216 (.pick (.t 207) (.t 215) (oB false)), oM 217 216, ⟨(some 218), .call (oF 24) [], (some (217, true)), .write, 0⟩, oW 219 (.pick (.t 217) (.t 218) (oB false)), oM 4 219])
 .ret)

def t5k1 : DCode :=
 (.seq (.draw [⟨(some 176), .buildSlice 3 1 (.int .i64 0) 2 [(0, (oI 0)), (1, (oI 1))], none, .create, 0⟩, ⟨(some 177), .call (oF 7) [(oI 4), (.t 176)], none, .create, 0⟩, oRL 178 2 5, oR 179 (.build [(.int .i64 0), (.int .i64 0), .nsl, (.int .i64 0)] [(0, 2, (.t 178)), (3, 1, (oI 0))]), ⟨(some 180), .call (oF 9) [(.t 177), (.t 179)], none, .write, 2⟩, ⟨(some 175), .move (.t 180), none, .read, 3⟩, ⟨(some 181), .extract (.t 175) 0, none, .read, 3⟩, ⟨(some 21), .alloc 30 6 (.agg [(.int .i64 0), .nsl, .nsl, .nsl, .nsl, .nsl]), none, .create, 0⟩, ⟨none, .store 6 (.t 21) (.t 181), none, .write, 4⟩, ⟨(some 182), .extract (.t 175) 1, none, .read, 3⟩, ⟨(some 22), .move (.t 182), none, .read, 5⟩])
 (.seq (.region [oL 184 6 21, oL 185 2 5, oW 186 (.build [(.int .i64 0), (.int .i64 0)] [(0, 1, (oI 9))]), oW 187 (.build [(.int .i64 0), (.int .i64 0), (.int .i64 0), (.int .i64 0), .nsl, (.int .i64 0), (.bool false)] [(0, 2, (.t 185)), (2, 2, (.t 186)), (5, 1, (oI 1))]), oW 188 (.call (oF 17) [(.t 184), (.t 187)]), oM 183 188, oX 189 183 0, oX 190 183 1, oS 6 21 189, oM 23 190])
 (.seq (.seq (.region [oM 191 9, oW 192 (.len 1 (.t 191)), oW 193 (.move (oI 0))])
 (.block 8 (.loop t5l4)))
 t5k0)))

def t5k2 : DCode :=
 (.seq (.seq (.region [oM 122 9, oW 123 (.len 1 (.t 122)), oW 124 (.move (oI 0))])
 (.block 6 (.loop t5l3)))
 t5k1)

def t5k3 : DCode :=
 (.seq (.seq (.region [oM 98 9, oW 99 (.len 1 (.t 98)), oW 100 (.move (oI 0))])
 (.block 4 (.loop t5l2)))
 t5k2)

def t5k4 : DCode :=
 (.seq (.region [oW 60 (.buildSlice 53 7 (.agg [(.int .i64 0), (.int .i64 0), (.int .i64 0), (.int .i64 0), .nsl, (.int .i64 0), (.bool false)]) 0 []), oM 61 9, oW 62 (.append 53 7 72 (.t 60) (.t 61)), oM 11 62])
 (.seq (.seq (.region [oW 12 (.move (oI 0))])
 (.block 2 (.loop t5l1)))
 t5k3))

/-- broadside/broadsidelaw10.SubsOrder -/
def t5 : DFunc := { ntmps := 220, results := [(.t 4)], mode := .pure, body :=
 (.seq (.region [oW 4 (.move (oB false))])
 (.seq (.region [oW 28 (.build [(.int .i64 0), (.int .i64 0)] [(0, 1, (oI 1))]), oW 5 (.alloc 35 2 (.agg [(.int .i64 0), (.int .i64 0)])), oS 2 5 28])
 (.seq (.draw [⟨(some 30), .buildSlice 3 1 (.int .i64 0) 2 [(0, (oI 0)), (1, (oI 1))], none, .create, 0⟩, ⟨(some 31), .call (oF 7) [(oI 4), (.t 30)], none, .create, 0⟩, oRL 32 2 5, oR 33 (.build [(.int .i64 0), (.int .i64 0), .nsl, (.int .i64 0)] [(0, 2, (.t 32)), (3, 1, (oI 0))]), ⟨(some 34), .call (oF 9) [(.t 31), (.t 33)], none, .write, 2⟩, ⟨(some 29), .move (.t 34), none, .read, 3⟩, ⟨(some 35), .extract (.t 29) 0, none, .read, 3⟩, ⟨(some 6), .alloc 30 6 (.agg [(.int .i64 0), .nsl, .nsl, .nsl, .nsl, .nsl]), none, .create, 0⟩, ⟨none, .store 6 (.t 6) (.t 35), none, .write, 4⟩, ⟨(some 36), .extract (.t 29) 1, none, .read, 3⟩, ⟨(some 7), .move (.t 36), none, .read, 5⟩])
 (.seq (.region [oL 37 6 6, oW 8 (.alloc 30 6 (.agg [(.int .i64 0), .nsl, .nsl, .nsl, .nsl, .nsl])), oS 6 8 37])
 (.seq (.region [oW 9 (.move (.c .nsl))])
 (.seq (.seq (.region [oW 10 (.move (oI 0))])
 (.block 0 (.loop t5l0)))
 t5k4)))))) }

theorem c5 : compFunc Try.prog Try.f5 .pure = some t5 := by kernel_rfl

/-- broadside/adverts.New -/
def t7 : DFunc := { ntmps := 14, results := [(.cell 4 (some 6))], mode := .pure, body :=
 (.seq (.region [oW 4 (.alloc 30 6 (.agg [(.int .i64 0), .nsl, .nsl, .nsl, .nsl, .nsl]))])
 (.seq (.region [oM 6 1, oW 7 (.call (oF 27) [(.t 6)]), oM 5 7])
 (.seq (.region [oM 8 5, oW 9 (.call (oF 28) [(.t 8)])])
 (.seq (.region [oM 10 0, oM 11 5, oW 12 (.call (oF 29) [(.t 11)]), oW 13 (.build [(.int .i64 0), .nsl, .nsl, .nsl, .nsl, .nsl] [(0, 1, (.t 10)), (1, 1, (.t 12))]), oS 6 4 13])
 .ret)))) }

theorem c7 : compFunc Try.prog Try.f7 .pure = some t7 := by kernel_rfl

/-- broadside/broadsidebook.Within -/
def t8 : DFunc := { ntmps := 24, results := [(.t 6)], mode := .pure, body :=
 (.seq (.region [oW 6 (.move (oI 0))])
 (.seq (.region [oM 7 0, oM 8 2, oM 9 1, oW 10 (.arith .sub (.t 8) (.t 9)), oW 11 (.arith .add (.t 10) (oI 1)), oW 12 (.arith .rem (.t 7) (.t 11)), oM 0 12])
 (.seq (.seq (.region [oM 13 0, oW 14 (.arith .lss (.t 13) (oI 0))])
 (.cond (.t 14) (.region [oM 15 0, oM 16 2, oW 17 (.arith .add (.t 15) (.t 16)), oM 18 1, oW 19 (.arith .sub (.t 17) (.t 18)), oW 20 (.arith .add (.t 19) (oI 1)), oM 0 20]) .skip))
 (.seq (.region [oM 21 1, oM 22 0, oW 23 (.arith .add (.t 21) (.t 22)), oM 6 23])
 .ret)))) }

theorem c8 : compFunc Try.prog Try.f8 .pure = some t8 := by kernel_rfl

/-- broadside/adverts.Learn -/
def t9 : DFunc := { ntmps := 44, results := [(.cell 4 (some 6)), (.t 5)], mode := .frz, body :=
 (.seq (.region [oW 2 (.box 30 6 (.t 0)), oW 3 (.box 41 4 (.t 1)), oW 4 (.alloc 30 6 (.agg [(.int .i64 0), .nsl, .nsl, .nsl, .nsl, .nsl])), oW 5 (.move (oB false))])
 (.seq (.region [oL 10 6 2, oW 11 (.call (oF 30) [(.t 10)]), oS 6 2 11])
 (.seq (.region [oL 13 6 2, oA 14 0 3, oL 15 2 14, oW 16 (.call (oF 31) [(.t 13), (.t 15)]), oM 12 16, oX 17 12 0, oX 18 12 1, oM 6 17, oM 7 18])
 (.seq (.seq (.region [oM 19 7])
 (.cond (.t 19) (.seq (.region [oL 20 6 2, oS 6 4 20, oW 5 (.move (oB false))])
 .ret) .skip))
 (.seq (.region [oL 22 6 2, oA 23 0 3, oL 24 2 23, oW 25 (.call (oF 32) [(.t 22), (.t 24)]), oM 21 25, oX 26 21 0, oX 27 21 1, oM 8 26, oM 9 27])
 (.seq (.region [oA 28 2 2, oD 29 28, oM 30 8, oL 31 4 3, oW 32 (.buildSlice 41 4 (.agg [(.int .i64 0), (.int .i64 0), .nsl, (.int .i64 0)]) 1 [(0, (.t 31))]), oW 33 (.call (oF 33) [(.t 29), (.t 30), (.t 32)]), oA 34 2 2, oS 1 34 33])
 (.seq (.region [oA 35 3 2, oD 36 35, oM 37 6, oA 38 0 3, oL 39 2 38, oW 40 (.buildSlice 35 2 (.agg [(.int .i64 0), (.int .i64 0)]) 1 [(0, (.t 39))]), oW 41 (.call (oF 34) [(.t 36), (.t 37), (.t 40)]), oA 42 3 2, oS 1 42 41])
 (.seq (.region [oL 43 6 2, oS 6 4 43, oW 5 (.move (oB true))])
 .ret)))))))) }

theorem c9 : compFunc Try.prog Try.f9 .frz = some t9 := by kernel_rfl

def t10l0 : DCode :=
 (.seq (.region [oW 9 (.arith .lss (.t 8) (.t 7))])
 (.seq (.cond (.t 9) .skip (.exit 0))
 (.seq (.block 1 (.seq (.region [oM 10 8, oW 11 (.indexAddr 1 (.t 6) (.t 8)), oD 12 11, oM 4 10, oM 5 12])
 (.seq (.region [oM 13 4, oA 14 0 1, oD 15 14, oW 16 (.len 1 (.t 15)), oW 17 (.arith .lss (.t 13) (.t 16)), oM 18 17, ⟨(some 19), .fieldAddr 0 (.t 1), (some (18, true)), .write, 0⟩, ⟨(some 20), .load none (.t 19), (some (18, true)), .write, 0⟩, ⟨(some 21), .move (.t 4), (some (18, true)), .write, 0⟩, ⟨(some 22), .indexAddr 1 (.t 20) (.t 21), (some (18, true)), .write, 0⟩, ⟨(some 23), .load none (.t 22), (some (18, true)), .write, 0⟩, ⟨(some 24), .arith .and (.t 23) (oI 1), (some (18, true)), .write, 0⟩, ⟨(some 25), .arith .eql (.t 24) (oI 1), (some (18, true)), .write, 0⟩, oW 26 (.pick (.t 18) (.t 25) (oB false)), oM 27 26, ⟨(some 28), .move (.t 3), (some (27, true)), .write, 0⟩, ⟨(some 29), .len 1 (.t 28), (some (27, true)), .write, 0⟩, ⟨(some 30), .arith .lss (.t 29) (oI 5), (some (27, true)), .write, 0⟩, oW 31 (.pick (.t 27) (.t 30) (oB false))])
 (.cond (.t 31) (.region [oM 32 3, oM 33 5, oA 34 1 1, oD 35 34, oM 36 4, oW 37 (.call (oF 37) [(.t 35), (.t 36)]), oW 38 (.call (oF 36) [(.t 33), (.t 37)]), oW 39 (.buildSlice 63 5 (.agg [(.str []), (.int .i64 0), (.int .i64 0), (.int .i64 0), (.str [])]) 1 [(0, (.t 38))]), oW 40 (.append 63 5 56 (.t 32) (.t 39)), oM 3 40]) .skip))))
 (.region [oW 41 (.arith .add (.t 8) (oI 1)), oM 8 41]))))

def t10k0 : DCode :=
 (.seq (.region [oM 42 3, oM 2 42])
 .ret)

/-- (broadside/broadsidekeep.Pred).Pred -/
def t10 : DFunc := { ntmps := 43, results := [(.t 2)], mode := .pure, body :=
 (.seq (.region [oW 1 (.box 24 2 (.t 0)), oW 2 (.move (.c .nsl))])
 (.seq (.region [oW 3 (.move (.c .nsl))])
 (.seq (.seq (.region [oW 6 (.call (oF 35) []), oW 7 (.len 1 (.t 6)), oW 8 (.move (oI 0))])
 (.block 0 (.loop t10l0)))
 t10k0))) }

theorem c10 : compFunc Try.prog Try.f10 .pure = some t10 := by kernel_rfl

/-- broadside/adverts.Find -/
def t12 : DFunc := { ntmps := 22, results := [(.cell 4 (some 4)), (.t 5)], mode := .pure, body :=
 (.seq (.region [oW 2 (.box 30 6 (.t 0)), oW 3 (.box 35 2 (.t 1)), oW 4 (.alloc 41 4 (.agg [(.int .i64 0), (.int .i64 0), .nsl, (.int .i64 0)])), oW 5 (.move (oB false))])
 (.seq (.region [oL 9 6 2, oL 10 2 3, oW 11 (.call (oF 32) [(.t 9), (.t 10)]), oM 8 11, oX 12 8 0, oX 13 8 1, oM 6 12, oM 7 13])
 (.seq (.seq (.region [oM 14 7, oW 15 (.un .not (.t 14))])
 (.cond (.t 15) (.seq (.region [oW 16 (.build [(.int .i64 0), (.int .i64 0), .nsl, (.int .i64 0)] []), oS 4 4 16, oW 5 (.move (oB false))])
 .ret) .skip))
 (.seq (.region [oA 17 2 2, oD 18 17, oM 19 6, oW 20 (.indexAddr 4 (.t 18) (.t 19)), oL 21 4 20, oS 4 4 21, oW 5 (.move (oB true))])
 .ret)))) }

theorem c12 : compFunc Try.prog Try.f12 .pure = some t12 := by kernel_rfl

/-- broadside/adverts.Less -/
def t14 : DFunc := { ntmps := 9, results := [(.t 4)], mode := .pure, body :=
 (.seq (.region [oW 2 (.box 35 2 (.t 0)), oW 3 (.box 35 2 (.t 1)), oW 4 (.move (oB false))])
 (.seq (.region [oL 5 2 2, oL 6 2 3, oW 7 (.call (oF 41) [(.t 5), (.t 6)]), oW 8 (.arith .lss (.t 7) (oI 0)), oM 4 8])
 .ret)) }

theorem c14 : compFunc Try.prog Try.f14 .pure = some t14 := by kernel_rfl

/-- broadside/subs.Add -/
def t17 : DFunc := { ntmps := 73, results := [(.cell 4 (some 6)), (.t 5)], mode := .frz, body :=
 (.seq (.region [oW 2 (.box 30 6 (.t 0)), oW 3 (.box 53 7 (.t 1)), oW 4 (.alloc 30 6 (.agg [(.int .i64 0), .nsl, .nsl, .nsl, .nsl, .nsl])), oW 5 (.move (oB false))])
 (.seq (.region [oA 11 4 2, oD 12 11, oW 13 (.call (oF 62) [(.t 12)]), oA 14 4 2, oS 1 14 13])
 (.seq (.region [oL 16 6 2, oA 17 0 3, oL 18 2 17, oW 19 (.call (oF 12) [(.t 16), (.t 18)]), oM 15 19, oX 20 15 0, oX 21 15 1, oW 6 (.alloc 41 4 (.agg [(.int .i64 0), (.int .i64 0), .nsl, (.int .i64 0)])), oS 4 6 20, oM 7 21])
 (.seq (.region [oL 23 6 2, oA 24 0 3, oL 25 2 24, oA 26 2 3, oL 27 2 26, oW 28 (.call (oF 63) [(.t 23), (.t 25), (.t 27)]), oM 22 28, oX 29 22 0, oX 30 22 1, oM 8 29, oM 9 30])
 (.seq (.region [oA 31 3 6, oD 32 31, oW 33 (.arith .eql (.t 32) (oI (-1))), oM 10 33])
 (.seq (.seq (.region [oM 34 7, oW 35 (.un .not (.t 34)), oM 36 35, ⟨(some 37), .move (.t 9), (some (36, false)), .write, 0⟩, oW 38 (.pick (.t 36) (oB true) (.t 37)), oM 39 38, ⟨(some 40), .fieldAddr 5 (.t 3), (some (39, false)), .write, 0⟩, ⟨(some 41), .load none (.t 40), (some (39, false)), .write, 0⟩, ⟨(some 42), .fieldAddr 3 (.t 6), (some (39, false)), .write, 0⟩, ⟨(some 43), .load none (.t 42), (some (39, false)), .write, 0⟩, ⟨(some 44), .arith .eql (.t 41) (.t 43), (some (39, false)), .write, 0⟩, ⟨(some 45), .move (.t 44), (some (39, false)), .write, 0⟩, ⟨(some 46), .move (.t 10), (some (45, true)), .write, 0⟩, ⟨(some 47), .un .not (.t 46), (some (45, true)), .write, 0⟩, ⟨(some 48), .pick (.t 45) (.t 47) (oB false), (some (39, false)), .write, 0⟩, oW 49 (.pick (.t 39) (oB true) (.t 48))])
 (.cond (.t 49) (.seq (.region [oL 50 6 2, oS 6 4 50, oW 5 (.move (oB false))])
 .ret) .skip))
 (.seq (.region [oM 51 10, oW 52 (.un .not (.t 51)), oM 53 52, ⟨(some 54), .load (some 6) (.t 2), (some (53, true)), .write, 0⟩, ⟨(some 55), .fieldAddr 0 (.t 3), (some (53, true)), .write, 0⟩, ⟨(some 56), .load (some 2) (.t 55), (some (53, true)), .write, 0⟩, ⟨(some 57), .fieldAddr 4 (.t 3), (some (53, true)), .write, 0⟩, ⟨(some 58), .load none (.t 57), (some (53, true)), .write, 0⟩, ⟨(some 59), .call (oF 18) [(.t 54), (.t 56), (.t 58)], (some (53, true)), .write, 0⟩, ⟨(some 60), .un .not (.t 59), (some (53, true)), .write, 0⟩, oW 61 (.pick (.t 53) (.t 60) (oB false)), oA 62 6 3, oS 1 62 61])
 (.seq (.region [oA 63 4 2, oD 64 63, oM 65 8, oL 66 7 3, oW 67 (.buildSlice 53 7 (.agg [(.int .i64 0), (.int .i64 0), (.int .i64 0), (.int .i64 0), .nsl, (.int .i64 0), (.bool false)]) 1 [(0, (.t 66))]), oW 68 (.call (oF 64) [(.t 64), (.t 65), (.t 67)]), oA 69 4 2, oS 1 69 68])
 (.seq (.draw [oRL 70 6 2, oRA 71 6 3, oRD 72 71, ⟨none, .store 6 (.t 4) (.t 70), none, .create, 0⟩, ⟨(some 5), .move (.t 72), none, .read, 1⟩])
 .ret))))))))) }

theorem c17 : compFunc Try.prog Try.f17 .frz = some t17 := by kernel_rfl

/-- broadside/subs.Covered -/
def t18 : DFunc := { ntmps := 12, results := [(.t 6)], mode := .pure, body :=
 (.seq (.region [oW 3 (.box 30 6 (.t 0)), oW 4 (.box 35 2 (.t 1)), oW 5 (.box 38 1 (.t 2)), oW 6 (.move (oB false))])
 (.seq (.region [oL 7 6 3, oL 8 2 4, oW 9 (.call (oF 22) [(.t 7), (.t 8)]), oW 10 (.makeFunc 65 [(.t 5)]), oW 11 (.call (oF 56) [(.t 9), (.t 10)]), oM 6 11])
 .ret)) }

theorem c18 : compFunc Try.prog Try.f18 .pure = some t18 := by kernel_rfl

def t19l0 : DCode :=
 (.seq (.region [oW 59 (.arith .lss (.t 58) (.t 57))])
 (.seq (.cond (.t 59) .skip (.exit 0))
 (.seq (.block 1 (.seq (.region [oM 60 58, oW 61 (.indexAddr 7 (.t 56) (.t 58)), oL 62 7 61, oW 14 (.alloc 53 7 (.agg [(.int .i64 0), (.int .i64 0), (.int .i64 0), (.int .i64 0), .nsl, (.int .i64 0), (.bool false)])), oM 13 60, oS 7 14 62])
 (.seq (.region [oA 63 0 14, oL 64 2 63, oL 65 2 5, oW 66 (.eqa false [1, 1] (.t 64) (.t 65)), oM 67 66, ⟨(some 68), .fieldAddr 6 (.t 14), (some (67, true)), .write, 0⟩, ⟨(some 69), .load none (.t 68), (some (67, true)), .write, 0⟩, ⟨(some 70), .un .not (.t 69), (some (67, true)), .write, 0⟩, oW 71 (.pick (.t 67) (.t 70) (oB false)), oM 72 71, ⟨(some 73), .load (some 6) (.t 4), (some (72, true)), .write, 0⟩, ⟨(some 74), .load (some 2) (.t 5), (some (72, true)), .write, 0⟩, ⟨(some 75), .fieldAddr 4 (.t 14), (some (72, true)), .write, 0⟩, ⟨(some 76), .load none (.t 75), (some (72, true)), .write, 0⟩, ⟨(some 77), .call (oF 18) [(.t 73), (.t 74), (.t 76)], (some (72, true)), .write, 0⟩, ⟨(some 78), .un .not (.t 77), (some (72, true)), .write, 0⟩, oW 79 (.pick (.t 72) (.t 78) (oB false))])
 (.cond (.t 79) (.seq (.region [oA 80 4 4, oD 81 80, oM 82 13, oW 83 (.indexAddr 7 (.t 81) (.t 82)), oA 84 6 83, oZ (.store 1 (.t 84) (oB true))])
 (.region [oM 85 9, oA 86 4 4, oD 87 86, oM 88 13, oW 89 (.indexAddr 7 (.t 87) (.t 88)), oL 90 7 89, oW 91 (.buildSlice 53 7 (.agg [(.int .i64 0), (.int .i64 0), (.int .i64 0), (.int .i64 0), .nsl, (.int .i64 0), (.bool false)]) 1 [(0, (.t 90))]), oW 92 (.append 53 7 72 (.t 85) (.t 91)), oM 9 92])) .skip))))
 (.region [oW 93 (.arith .add (.t 58) (oI 1)), oM 58 93]))))

def t19k0 : DCode :=
 (.seq (.region [oL 94 6 4, oM 95 9, oS 6 8 94, oM 9 95, oW 10 (.move (oB true))])
 .ret)

/-- broadside/subs.Take -/
def t19 : DFunc := { ntmps := 96, results := [(.cell 8 (some 6)), (.t 9), (.t 10)], mode := .frz, body :=
 (.seq (.region [oW 4 (.box 30 6 (.t 0)), oW 5 (.box 35 2 (.t 1)), oW 6 (.box 35 2 (.t 2)), oW 8 (.alloc 30 6 (.agg [(.int .i64 0), .nsl, .nsl, .nsl, .nsl, .nsl])), oW 9 (.move (.c .nsl)), oW 10 (.move (oB false))])
 (.seq (.region [oA 15 4 4, oD 16 15, oW 17 (.call (oF 62) [(.t 16)]), oA 18 4 4, oS 1 18 17])
 (.seq (.region [oL 20 6 4, oL 21 2 5, oL 22 2 6, oW 23 (.call (oF 63) [(.t 20), (.t 21), (.t 22)]), oM 19 23, oX 24 19 0, oX 25 19 1, oM 11 24, oM 12 25])
 (.seq (.seq (.region [oM 26 12, oW 27 (.un .not (.t 26)), oM 28 27, ⟨(some 29), .fieldAddr 4 (.t 4), (some (28, false)), .write, 0⟩, ⟨(some 30), .load none (.t 29), (some (28, false)), .write, 0⟩, ⟨(some 31), .move (.t 11), (some (28, false)), .write, 0⟩, ⟨(some 32), .indexAddr 7 (.t 30) (.t 31), (some (28, false)), .write, 0⟩, ⟨(some 33), .fieldAddr 5 (.t 32), (some (28, false)), .write, 0⟩, ⟨(some 34), .load none (.t 33), (some (28, false)), .write, 0⟩, ⟨(some 35), .move (.t 3), (some (28, false)), .write, 0⟩, ⟨(some 36), .arith .neq (.t 34) (.t 35), (some (28, false)), .write, 0⟩, oW 37 (.pick (.t 28) (oB true) (.t 36))])
 (.cond (.t 37) (.seq (.region [oL 38 6 4, oS 6 8 38, oW 9 (.move (.c .nsl)), oW 10 (.move (oB false))])
 .ret) .skip))
 (.seq (.region [oA 39 4 4, oD 40 39, oM 41 11, oW 42 (.indexAddr 7 (.t 40) (.t 41)), oA 43 6 42, oD 44 43, oM 10 44])
 (.seq (.region [oA 45 4 4, oD 46 45, oM 47 11, oM 48 11, oW 49 (.arith .add (.t 48) (oI 1)), oW 50 (.call (oF 66) [(.t 46), (.t 47), (.t 49)]), oA 51 4 4, oS 1 51 50])
 (.seq (.seq (.region [oM 52 10, oW 53 (.un .not (.t 52))])
 (.cond (.t 53) (.seq (.region [oL 54 6 4, oS 6 8 54, oW 9 (.move (.c .nsl)), oW 10 (.move (oB false))])
 .ret) .skip))
 (.seq (.seq (.region [oA 55 4 4, oD 56 55, oW 57 (.len 1 (.t 56)), oW 58 (.move (oI 0))])
 (.block 0 (.loop t19l0)))
 t19k0)))))))) }

theorem c19 : compFunc Try.prog Try.f19 .frz = some t19 := by kernel_rfl

/-- broadside/subs.Find -/
def t20 : DFunc := { ntmps := 25, results := [(.cell 6 (some 7)), (.t 7)], mode := .pure, body :=
 (.seq (.region [oW 3 (.box 30 6 (.t 0)), oW 4 (.box 35 2 (.t 1)), oW 5 (.box 35 2 (.t 2)), oW 6 (.alloc 53 7 (.agg [(.int .i64 0), (.int .i64 0), (.int .i64 0), (.int .i64 0), .nsl, (.int .i64 0), (.bool false)])), oW 7 (.move (oB false))])
 (.seq (.region [oL 11 6 3, oL 12 2 4, oL 13 2 5, oW 14 (.call (oF 63) [(.t 11), (.t 12), (.t 13)]), oM 10 14, oX 15 10 0, oX 16 10 1, oM 8 15, oM 9 16])
 (.seq (.seq (.region [oM 17 9, oW 18 (.un .not (.t 17))])
 (.cond (.t 18) (.seq (.region [oW 19 (.build [(.int .i64 0), (.int .i64 0), (.int .i64 0), (.int .i64 0), .nsl, (.int .i64 0), (.bool false)] []), oS 7 6 19, oW 7 (.move (oB false))])
 .ret) .skip))
 (.seq (.region [oA 20 4 3, oD 21 20, oM 22 8, oW 23 (.indexAddr 7 (.t 21) (.t 22)), oL 24 7 23, oS 7 6 24, oW 7 (.move (oB true))])
 .ret)))) }

theorem c20 : compFunc Try.prog Try.f20 .pure = some t20 := by kernel_rfl

def t21l0 : DCode :=
 (.seq (.region [oW 11 (.arith .lss (.t 10) (.t 9))])
 (.seq (.cond (.t 11) .skip (.exit 0))
 (.seq (.block 1 (.seq (.region [oW 12 (.indexAddr 7 (.t 8) (.t 10)), oL 13 7 12, oW 4 (.alloc 53 7 (.agg [(.int .i64 0), (.int .i64 0), (.int .i64 0), (.int .i64 0), .nsl, (.int .i64 0), (.bool false)])), oS 7 4 13])
 (.seq (.region [oL 15 6 1, oA 16 0 4, oL 17 2 16, oW 18 (.call (oF 12) [(.t 15), (.t 17)]), oM 14 18, oX 19 14 0, oX 20 14 1, oW 5 (.alloc 41 4 (.agg [(.int .i64 0), (.int .i64 0), .nsl, (.int .i64 0)])), oS 4 5 19, oM 6 20])
 (.seq (.region [oA 21 6 4, oD 22 21, oW 23 (.un .not (.t 22)), oM 24 23, ⟨(some 25), .fieldAddr 3 (.t 5), (some (24, true)), .write, 0⟩, ⟨(some 26), .load none (.t 25), (some (24, true)), .write, 0⟩, ⟨(some 27), .arith .neq (.t 26) (oI (-1)), (some (24, true)), .write, 0⟩, oW 28 (.pick (.t 24) (.t 27) (oB false)), oM 29 28, ⟨(some 30), .load (some 6) (.t 1), (some (29, true)), .write, 0⟩, ⟨(some 31), .fieldAddr 0 (.t 4), (some (29, true)), .write, 0⟩, ⟨(some 32), .load (some 2) (.t 31), (some (29, true)), .write, 0⟩, ⟨(some 33), .fieldAddr 4 (.t 4), (some (29, true)), .write, 0⟩, ⟨(some 34), .load none (.t 33), (some (29, true)), .write, 0⟩, ⟨(some 35), .call (oF 18) [(.t 30), (.t 32), (.t 34)], (some (29, true)), .write, 0⟩, ⟨(some 36), .un .not (.t 35), (some (29, true)), .write, 0⟩, oW 37 (.pick (.t 29) (.t 36) (oB false))])
 (.cond (.t 37) (.seq (.region [oW 2 (.move (oB false))])
 .ret) .skip)))))
 (.region [oW 38 (.arith .add (.t 10) (oI 1)), oM 10 38]))))

def t21k0 : DCode :=
 (.seq (.region [oW 2 (.move (oB true))])
 .ret)

/-- broadside/subs.Tight -/
def t21 : DFunc := { ntmps := 39, results := [(.t 2)], mode := .pure, body :=
 (.seq (.region [oW 1 (.box 30 6 (.t 0)), oW 2 (.move (oB false))])
 (.seq (.seq (.region [oA 7 4 1, oD 8 7, oW 9 (.len 1 (.t 8)), oW 10 (.move (oI 0))])
 (.block 0 (.loop t21l0)))
 t21k0)) }

theorem c21 : compFunc Try.prog Try.f21 .pure = some t21 := by kernel_rfl

def t22l0 : DCode :=
 (.seq (.region [oW 12 (.arith .lss (.t 11) (.t 10))])
 (.seq (.cond (.t 12) .skip (.exit 0))
 (.seq (.block 1 (.seq (.region [oW 13 (.indexAddr 7 (.t 9) (.t 11)), oL 14 7 13, oW 7 (.alloc 53 7 (.agg [(.int .i64 0), (.int .i64 0), (.int .i64 0), (.int .i64 0), .nsl, (.int .i64 0), (.bool false)])), oS 7 7 14])
 (.seq (.region [oA 15 0 7, oL 16 2 15, oL 17 2 3, oW 18 (.eqa false [1, 1] (.t 16) (.t 17))])
 (.cond (.t 18) (.region [oM 19 5, oL 20 7 7, oW 21 (.buildSlice 53 7 (.agg [(.int .i64 0), (.int .i64 0), (.int .i64 0), (.int .i64 0), .nsl, (.int .i64 0), (.bool false)]) 1 [(0, (.t 20))]), oW 22 (.append 53 7 72 (.t 19) (.t 21)), oM 5 22]) .skip))))
 (.region [oW 23 (.arith .add (.t 11) (oI 1)), oM 11 23]))))

def t22k0 : DCode :=
 (.seq (.region [oM 24 5, oM 4 24])
 .ret)

/-- broadside/subs.Of -/
def t22 : DFunc := { ntmps := 25, results := [(.t 4)], mode := .pure, body :=
 (.seq (.region [oW 2 (.box 30 6 (.t 0)), oW 3 (.box 35 2 (.t 1)), oW 4 (.move (.c .nsl))])
 (.seq (.region [oW 5 (.move (.c .nsl))])
 (.seq (.seq (.region [oA 8 4 2, oD 9 8, oW 10 (.len 1 (.t 9)), oW 11 (.move (oI 0))])
 (.block 0 (.loop t22l0)))
 t22k0))) }

theorem c22 : compFunc Try.prog Try.f22 .pure = some t22 := by kernel_rfl

def t23l0 : DCode :=
 (.seq (.region [oW 16 (.arith .lss (.t 15) (.t 14))])
 (.seq (.cond (.t 16) .skip (.exit 0))
 (.seq (.block 1 (.seq (.region [oW 17 (.indexAddr 5 (.t 13) (.t 15)), oL 18 5 17, oW 7 (.alloc 63 5 (.agg [(.str []), (.int .i64 0), (.int .i64 0), (.int .i64 0), (.str [])])), oS 5 7 18])
 (.region [oM 19 5, oA 20 0 7, oD 21 20, oL 22 5 7, oZ (.mapUpdate (.prim 2) (.t 19) (.t 21) (.t 22))])))
 (.region [oW 23 (.arith .add (.t 15) (oI 1)), oM 15 23]))))

def t23l1 : DCode :=
 (.seq (.region [oW 27 (.arith .lss (.t 26) (.t 25))])
 (.seq (.cond (.t 27) .skip (.exit 2))
 (.seq (.block 3 (.seq (.region [oW 28 (.indexAddr 5 (.t 24) (.t 26)), oL 29 5 28, oW 9 (.alloc 63 5 (.agg [(.str []), (.int .i64 0), (.int .i64 0), (.int .i64 0), (.str [])])), oS 5 9 29])
 (.seq (.region [oM 31 5, oA 32 0 9, oD 33 32, oW 34 (.lookup (.prim 2) (.agg [(.str []), (.int .i64 0), (.int .i64 0), (.int .i64 0), (.str [])]) true (.t 31) (.t 33)), oM 30 34, oX 35 30 0, oX 36 30 1, oW 10 (.alloc 63 5 (.agg [(.str []), (.int .i64 0), (.int .i64 0), (.int .i64 0), (.str [])])), oS 5 10 35, oM 11 36])
 (.seq (.region [oM 37 11, oW 38 (.un .not (.t 37)), oM 39 38, ⟨(some 40), .load (some 5) (.t 9), (some (39, false)), .write, 0⟩, ⟨(some 41), .load (some 5) (.t 10), (some (39, false)), .write, 0⟩, ⟨(some 42), .call (oF 67) [(.t 40), (.t 41)], (some (39, false)), .write, 0⟩, ⟨(some 43), .un .not (.t 42), (some (39, false)), .write, 0⟩, oW 44 (.pick (.t 39) (oB true) (.t 43))])
 (.cond (.t 44) (.seq (.region [oW 4 (.move (oB false))])
 .ret) .skip)))))
 (.region [oW 45 (.arith .add (.t 26) (oI 1)), oM 26 45]))))

def t23k0 : DCode :=
 (.seq (.region [oW 4 (.move (oB true))])
 .ret)

def t23k1 : DCode :=
 (.seq (.seq (.region [oM 24 0, oW 25 (.len 1 (.t 24)), oW 26 (.move (oI 0))])
 (.block 2 (.loop t23l1)))
 t23k0)

/-- broadside/rel.Covers -/
def t23 : DFunc := { ntmps := 46, results := [(.t 4)], mode := .pure, body :=
 (.seq (.region [oW 4 (.move (oB false))])
 (.seq (.region [oW 12 (.makeMap), oM 5 12])
 (.seq (.seq (.region [oM 13 1, oW 14 (.len 1 (.t 13)), oW 15 (.move (oI 0))])
 (.block 0 (.loop t23l0)))
 t23k1))) }

theorem c23 : compFunc Try.prog Try.f23 .pure = some t23 := by kernel_rfl

/-- broadside/broadsidelaw10.SubsRuns -/
def t24 : DFunc := { ntmps := 78, results := [(.t 0)], mode := .pure, body :=
 (.seq (.region [oW 0 (.move (oB false))])
 (.seq (.region [oW 10 (.build [(.int .i64 0), (.int .i64 0)] [(0, 1, (oI 1))]), oW 1 (.alloc 35 2 (.agg [(.int .i64 0), (.int .i64 0)])), oS 2 1 10])
 (.seq (.region [oW 2 (.move (oF 68))])
 (.seq (.draw [⟨(some 12), .buildSlice 3 1 (.int .i64 0) 2 [(0, (oI 1)), (1, (oI 2))], none, .create, 0⟩, ⟨(some 13), .call (oF 7) [(oI 0), (.t 12)], none, .create, 0⟩, oRL 14 2 1, oR 15 (.build [(.int .i64 0), (.int .i64 0), .nsl, (.int .i64 0)] [(0, 2, (.t 14)), (3, 1, (oI 1))]), ⟨(some 16), .call (oF 9) [(.t 13), (.t 15)], none, .write, 2⟩, ⟨(some 11), .move (.t 16), none, .read, 3⟩, ⟨(some 17), .extract (.t 11) 0, none, .read, 3⟩, ⟨(some 3), .alloc 30 6 (.agg [(.int .i64 0), .nsl, .nsl, .nsl, .nsl, .nsl]), none, .create, 0⟩, ⟨none, .store 6 (.t 3) (.t 17), none, .write, 4⟩, ⟨(some 18), .extract (.t 11) 1, none, .read, 3⟩, ⟨(some 4), .move (.t 18), none, .read, 5⟩])
 (.seq (.draw [oRL 20 6 3, oRL 21 2 1, oRM 23 2, ⟨(some 24), .call (.t 23) [(oI 1), (oI 9)], none, .create, 0⟩, oR 22 (.build [(.int .i64 0), (.int .i64 0)] [(0, 1, (oI 2))]), ⟨(some 25), .build [(.int .i64 0), (.int .i64 0), (.int .i64 0), (.int .i64 0), .nsl, (.int .i64 0), (.bool false)] [(0, 2, (.t 21)), (2, 2, (.t 22)), (4, 1, (.t 24)), (5, 1, (oI 2))], none, .read, 1⟩, ⟨(some 26), .call (oF 17) [(.t 20), (.t 25)], none, .write, 1⟩, ⟨(some 19), .move (.t 26), none, .read, 2⟩, ⟨(some 27), .extract (.t 19) 0, none, .read, 2⟩, ⟨none, .store 6 (.t 3) (.t 27), none, .write, 2⟩, ⟨(some 28), .extract (.t 19) 1, none, .read, 2⟩, ⟨(some 5), .move (.t 28), none, .read, 3⟩])
 (.seq (.draw [oRL 30 6 3, oRL 31 2 1, oRM 33 2, ⟨(some 34), .call (.t 33) [(oI 2), (oI 3)], none, .create, 0⟩, oR 32 (.build [(.int .i64 0), (.int .i64 0)] [(0, 1, (oI 3))]), ⟨(some 35), .build [(.int .i64 0), (.int .i64 0), (.int .i64 0), (.int .i64 0), .nsl, (.int .i64 0), (.bool false)] [(0, 2, (.t 31)), (2, 2, (.t 32)), (4, 1, (.t 34)), (5, 1, (oI 2))], none, .read, 1⟩, ⟨(some 36), .call (oF 17) [(.t 30), (.t 35)], none, .write, 1⟩, ⟨(some 29), .move (.t 36), none, .read, 2⟩, ⟨(some 37), .extract (.t 29) 0, none, .read, 2⟩, ⟨none, .store 6 (.t 3) (.t 37), none, .write, 2⟩, ⟨(some 38), .extract (.t 29) 1, none, .read, 2⟩, ⟨(some 6), .move (.t 38), none, .read, 3⟩])
 (.seq (.region [oL 40 6 3, oL 41 2 1, oW 42 (.build [(.int .i64 0), (.int .i64 0)] [(0, 1, (oI 2))]), oW 43 (.call (oF 19) [(.t 40), (.t 41), (.t 42), (oI 2)]), oM 39 43, oX 44 39 0, oX 45 39 1, oX 46 39 2, oW 7 (.alloc 30 6 (.agg [(.int .i64 0), .nsl, .nsl, .nsl, .nsl, .nsl])), oS 6 7 44, oM 8 45, oM 9 46])
 (.seq (.region [oM 47 5, oM 48 47, ⟨(some 49), .move (.t 6), (some (48, true)), .write, 0⟩, ⟨(some 50), .un .not (.t 49), (some (48, true)), .write, 0⟩, oW 51 (.pick (.t 48) (.t 50) (oB false)), oM 52 51, ⟨(some 53), .move (.t 9), (some (52, true)), .write, 0⟩, oW 54 (.pick (.t 52) (.t 53) (oB false)), oM 55 54, ⟨(some 56), .move (.t 8), (some (55, true)), .write, 0⟩, ⟨(some 57), .len 1 (.t 56), (some (55, true)), .write, 0⟩, ⟨(some 58), .arith .eql (.t 57) (oI 1), (some (55, true)), .write, 0⟩, oW 59 (.pick (.t 55) (.t 58) (oB false)), oM 60 59, ⟨(some 61), .move (.t 8), (some (60, true)), .write, 0⟩, ⟨(some 62), .indexAddr 7 (.t 61) (oI 0), (some (60, true)), .write, 0⟩, ⟨(some 63), .fieldAddr 2 (.t 62), (some (60, true)), .write, 0⟩, ⟨(some 64), .load (some 2) (.t 63), (some (60, true)), .write, 0⟩, ⟨(some 65), .build [(.int .i64 0), (.int .i64 0)] [(0, 1, (oI 3))], (some (60, true)), .write, 0⟩, ⟨(some 66), .eqa false [1, 1] (.t 64) (.t 65), (some (60, true)), .write, 0⟩, oW 67 (.pick (.t 60) (.t 66) (oB false)), oM 68 67, ⟨(some 69), .move (.t 8), (some (68, true)), .write, 0⟩, ⟨(some 70), .indexAddr 7 (.t 69) (oI 0), (some (68, true)), .write, 0⟩, ⟨(some 71), .fieldAddr 6 (.t 70), (some (68, true)), .write, 0⟩, ⟨(some 72), .load none (.t 71), (some (68, true)), .write, 0⟩, oW 73 (.pick (.t 68) (.t 72) (oB false)), oM 74 73, ⟨(some 75), .load (some 6) (.t 3), (some (74, true)), .write, 0⟩, ⟨(some 76), .call (oF 21) [(.t 75)], (some (74, true)), .write, 0⟩, oW 77 (.pick (.t 74) (.t 76) (oB false)), oM 0 77])
 .ret)))))))) }

theorem c24 : compFunc Try.prog Try.f24 .pure = some t24 := by kernel_rfl

def t25l0 : DCode :=
 (.seq (.seq (.region [oM 11 5, oM 12 0, oW 13 (.len 1 (.t 12)), oW 14 (.arith .lss (.t 11) (.t 13))])
 (.cond (.t 14) .skip (.exit 0)))
 (.seq (.block 1 (.seq (.draw [oRM 17 0, oRM 18 5, oR 19 (.indexAddr 5 (.t 17) (.t 18)), oRL 20 5 19, oRM 21 1, oRM 22 5, oR 23 (.indexAddr 5 (.t 21) (.t 22)), oRL 24 5 23, oR 25 (.eqa true [2, 1, 1, 1, 2] (.t 20) (.t 24))])
 (.cond (.t 25) (.seq (.region [oW 4 (.move (oB false))])
 .ret) .skip)))
 (.region [oM 15 5, oW 16 (.arith .add (.t 15) (oI 1)), oM 5 16])))

def t25k0 : DCode :=
 (.seq (.region [oW 4 (.move (oB true))])
 .ret)

/-- broadside/broadsidebook.Same[broadside/api.Constraint] -/
def t25 : DFunc := { ntmps := 26, results := [(.t 4)], mode := .pure, body :=
 (.seq (.region [oW 4 (.move (oB false))])
 (.seq (.seq (.region [oM 6 0, oW 7 (.len 1 (.t 6)), oM 8 1, oW 9 (.len 1 (.t 8)), oW 10 (.arith .neq (.t 7) (.t 9))])
 (.cond (.t 10) (.seq (.region [oW 4 (.move (oB false))])
 .ret) .skip))
 (.seq (.seq (.region [oW 5 (.move (oI 0))])
 (.block 0 (.loop t25l0)))
 t25k0))) }

theorem c25 : compFunc Try.prog Try.f25 .pure = some t25 := by kernel_rfl

/-- slices.Sort[[]int,int] -/
def t28 : DFunc := { ntmps := 11, results := [], mode := .full, body :=
 (.seq (.region [oM 3 0, oW 4 (.len 1 (.t 3)), oM 2 4])
 (.region [oM 5 0, oM 6 2, oM 7 2, oW 8 (.conv .u64 (.t 7)), oW 9 (.call (oF 79) [(.t 8)]), oW 10 (.call (oF 78) [(.t 5), (oI 0), (.t 6), (.t 9)])])) }

theorem c28 : compFunc Try.prog Try.f28 .full = some t28 := by kernel_rfl

def t29l0 : DCode :=
 (.seq (.seq (.region [oM 29 5, oM 30 4, oW 31 (.len 1 (.t 30)), oW 32 (.arith .lss (.t 29) (.t 31))])
 (.cond (.t 32) .skip (.exit 2)))
 (.seq (.block 3 (.seq (.draw [oRM 35 4, oRM 36 5, oR 37 (.indexAddr 1 (.t 35) (.t 36)), oRD 38 37, oRM 39 4, oRM 40 5, oR 41 (.arith .sub (.t 40) (oI 1)), oR 42 (.indexAddr 1 (.t 39) (.t 41)), oRD 43 42, oR 44 (.arith .neq (.t 38) (.t 43))])
 (.cond (.t 44) (.seq (.region [oM 45 0, oM 46 3, oM 47 4, oM 48 5, oW 49 (.indexAddr 1 (.t 47) (.t 48)), oD 50 49, oW 51 (.indexAddr 1 (.t 45) (.t 46)), oS 1 51 50])
 (.region [oM 52 3, oW 53 (.arith .add (.t 52) (oI 1)), oM 3 53])) .skip)))
 (.region [oM 33 5, oW 34 (.arith .add (.t 33) (oI 1)), oM 5 34])))

def t29k0 : DCode :=
 (.seq (.region [oM 54 0, oM 55 3, oW 56 (.sliceSl 1 (.t 54) (some (.t 55)) none), oZ (.clear 1 (.int .i64 0) (.t 56))])
 (.seq (.region [oM 57 0, oM 58 3, oW 59 (.sliceSl 1 (.t 57) none (some (.t 58))), oM 2 59])
 .ret))

def t29k1 : DCode :=
 (.region [oM 14 3, oW 15 (.arith .add (.t 14) (oI 1)), oM 3 15])

def t29l1 : DCode :=
 (.seq (.seq (.region [oM 10 3, oM 11 0, oW 12 (.len 1 (.t 11)), oW 13 (.arith .lss (.t 10) (.t 12))])
 (.cond (.t 13) .skip (.exit 0)))
 (.seq (.block 1 (.seq (.draw [oRM 16 0, oRM 17 3, oR 18 (.indexAddr 1 (.t 16) (.t 17)), oRD 19 18, oRM 20 0, oRM 21 3, oR 22 (.arith .sub (.t 21) (oI 1)), oR 23 (.indexAddr 1 (.t 20) (.t 22)), oRD 24 23, oR 25 (.arith .eql (.t 19) (.t 24))])
 (.cond (.t 25) (.seq (.region [oM 26 0, oM 27 3, oW 28 (.sliceSl 1 (.t 26) (some (.t 27)) none), oM 4 28])
 (.seq (.seq (.region [oW 5 (.move (oI 1))])
 (.block 2 (.loop t29l0)))
 t29k0)) .skip)))
 t29k1))

def t29k2 : DCode :=
 (.seq (.region [oM 60 0, oM 2 60])
 .ret)

/-- slices.Compact[[]int,int] -/
def t29 : DFunc := { ntmps := 61, results := [(.t 2)], mode := .full, body :=
 (.seq (.region [oW 2 (.move (.c .nsl))])
 (.seq (.seq (.region [oM 6 0, oW 7 (.len 1 (.t 6)), oW 8 (.arith .lss (.t 7) (oI 2))])
 (.cond (.t 8) (.seq (.region [oM 9 0, oM 2 9])
 .ret) .skip))
 (.seq (.seq (.region [oW 3 (.move (oI 1))])
 (.block 0 (.loop t29l1)))
 t29k2))) }

theorem c29 : compFunc Try.prog Try.f29 .full = some t29 := by kernel_rfl

/-- broadside/adverts.copied -/
def t30 : DFunc := { ntmps := 24, results := [(.cell 2 (some 6))], mode := .full, body :=
 (.seq (.region [oW 1 (.box 30 6 (.t 0)), oW 2 (.alloc 30 6 (.agg [(.int .i64 0), .nsl, .nsl, .nsl, .nsl, .nsl]))])
 (.seq (.draw [oRA 3 1 1, oRD 4 3, ⟨(some 5), .call (oF 27) [(.t 4)], none, .create, 0⟩, oRA 6 2 1, oRD 7 6, ⟨(some 8), .call (oF 80) [(.t 7)], none, .create, 0⟩, oRA 9 3 1, oRD 10 9, ⟨(some 11), .call (oF 81) [(.t 10)], none, .create, 0⟩, oRA 12 4 1, oRD 13 12, ⟨(some 14), .call (oF 62) [(.t 13)], none, .create, 0⟩, oRA 15 5 1, oRD 16 15, ⟨(some 17), .call (oF 82) [(.t 16)], none, .write, 4⟩, ⟨(some 18), .fieldAddr 1 (.t 1), none, .read, 1⟩, ⟨none, .store 1 (.t 18) (.t 5), none, .write, 5⟩, ⟨(some 19), .fieldAddr 2 (.t 1), none, .read, 6⟩, ⟨none, .store 1 (.t 19) (.t 8), none, .write, 6⟩, ⟨(some 20), .fieldAddr 3 (.t 1), none, .read, 7⟩, ⟨none, .store 1 (.t 20) (.t 11), none, .write, 7⟩, ⟨(some 21), .fieldAddr 4 (.t 1), none, .read, 8⟩, ⟨none, .store 1 (.t 21) (.t 14), none, .write, 8⟩, ⟨(some 22), .fieldAddr 5 (.t 1), none, .read, 9⟩, ⟨none, .store 1 (.t 22) (.t 17), none, .write, 9⟩])
 (.seq (.region [oL 23 6 1, oS 6 2 23])
 .ret))) }

theorem c30 : compFunc Try.prog Try.f30 .full = some t30 := by kernel_rfl

/-- broadside/adverts.seen -/
def t31 : DFunc := { ntmps := 12, results := [(.t 4), (.t 5)], mode := .pure, body :=
 (.seq (.region [oW 2 (.box 30 6 (.t 0)), oW 3 (.box 35 2 (.t 1)), oW 4 (.move (oI 0)), oW 5 (.move (oB false))])
 (.seq (.region [oA 6 3 2, oD 7 6, oL 8 2 3, oW 9 (.call (oF 83) [(.t 7), (.t 8), (oF 41)]), oX 10 9 0, oX 11 9 1, oM 4 10, oM 5 11])
 .ret)) }

theorem c31 : compFunc Try.prog Try.f31 .pure = some t31 := by kernel_rfl

/-- broadside/adverts.place -/
def t32 : DFunc := { ntmps := 12, results := [(.t 4), (.t 5)], mode := .pure, body :=
 (.seq (.region [oW 2 (.box 30 6 (.t 0)), oW 3 (.box 35 2 (.t 1)), oW 4 (.move (oI 0)), oW 5 (.move (oB false))])
 (.seq (.region [oA 6 2 2, oD 7 6, oL 8 2 3, oW 9 (.call (oF 84) [(.t 7), (.t 8), (oF 85)]), oX 10 9 0, oX 11 9 1, oM 4 10, oM 5 11])
 .ret)) }

theorem c32 : compFunc Try.prog Try.f32 .pure = some t32 := by kernel_rfl

/-- slices.Insert[[]broadside/api.Advert,broadside/api.Advert] -/
def t33 : DFunc := { ntmps := 95, results := [(.t 6)], mode := .split, body :=
 (.seq (.region [oW 6 (.move (.c .nsl))])
 (.seq (.region [oM 10 0, oM 11 1, oW 12 (.sliceSl 4 (.t 10) (some (.t 11)) none)])
 (.seq (.region [oM 13 2, oW 14 (.len 1 (.t 13)), oM 7 14])
 (.seq (.seq (.region [oM 15 7, oW 16 (.arith .eql (.t 15) (oI 0))])
 (.cond (.t 16) (.seq (.region [oM 17 0, oM 6 17])
 .ret) .skip))
 (.seq (.region [oM 18 0, oW 19 (.len 1 (.t 18)), oM 8 19])
 (.seq (.seq (.region [oM 20 1, oM 21 8, oW 22 (.arith .eql (.t 20) (.t 21))])
 (.cond (.t 22) (.seq (.region [oM 23 0, oM 24 2, oW 25 (.append 41 4 48 (.t 23) (.t 24)), oM 6 25])
 .ret) .skip))
 (.seq (.seq (.region [oM 26 8, oM 27 7, oW 28 (.arith .add (.t 26) (.t 27)), oM 29 0, oW 30 (.cap (.t 29)), oW 31 (.arith .gtr (.t 28) (.t 30))])
 (.cond (.t 31) (.seq (.region [oM 32 0, oM 33 1, oW 34 (.sliceSl 4 (.t 32) none (some (.t 33))), oM 35 8, oM 36 7, oW 37 (.arith .add (.t 35) (.t 36)), oM 38 1, oW 39 (.arith .sub (.t 37) (.t 38)), oW 40 (.appendZ 41 4 48 (.agg [(.int .i64 0), (.int .i64 0), .nsl, (.int .i64 0)]) (.t 34) (.t 39)), oM 9 40])
 (.seq (.region [oM 41 9, oM 42 1, oW 43 (.sliceSl 4 (.t 41) (some (.t 42)) none), oM 44 2, oW 45 (.copy 4 (.t 43) (.t 44))])
 (.seq (.draw [oRM 46 9, oRM 47 1, oRM 48 7, oR 49 (.arith .add (.t 47) (.t 48)), oR 50 (.sliceSl 4 (.t 46) (some (.t 49)) none), oRM 51 0, oRM 52 1, oR 53 (.sliceSl 4 (.t 51) (some (.t 52)) none), oW 54 (.copy 4 (.t 50) (.t 53))])
 (.seq (.region [oM 55 9, oM 6 55])
 .ret)))) .skip))
 (.seq (.region [oM 56 0, oM 57 8, oM 58 7, oW 59 (.arith .add (.t 57) (.t 58)), oW 60 (.sliceSl 4 (.t 56) none (some (.t 59))), oM 0 60])
 (.seq (.seq (.region [oM 61 2, oM 62 0, oM 63 1, oM 64 7, oW 65 (.arith .add (.t 63) (.t 64)), oW 66 (.sliceSl 4 (.t 62) (some (.t 65)) none), oW 67 (.call (oF 86) [(.t 61), (.t 66)]), oW 68 (.un .not (.t 67))])
 (.cond (.t 68) (.seq (.draw [oRM 69 0, oRM 70 1, oRM 71 7, oR 72 (.arith .add (.t 70) (.t 71)), oR 73 (.sliceSl 4 (.t 69) (some (.t 72)) none), oRM 74 0, oRM 75 1, oR 76 (.sliceSl 4 (.t 74) (some (.t 75)) none), oW 77 (.copy 4 (.t 73) (.t 76))])
 (.seq (.region [oM 78 0, oM 79 1, oW 80 (.sliceSl 4 (.t 78) (some (.t 79)) none), oM 81 2, oW 82 (.copy 4 (.t 80) (.t 81))])
 (.seq (.region [oM 83 0, oM 6 83])
 .ret))) .skip))
 (.seq (.region [oM 84 0, oM 85 8, oW 86 (.sliceSl 4 (.t 84) (some (.t 85)) none), oM 87 2, oW 88 (.copy 4 (.t 86) (.t 87))])
 (.seq (.region [oM 89 0, oM 90 1, oW 91 (.sliceSl 4 (.t 89) (some (.t 90)) none), oM 92 7, oW 93 (.call (oF 87) [(.t 91), (.t 92)])])
 (.seq (.region [oM 94 0, oM 6 94])
 .ret)))))))))))) }

theorem c33 : compFunc Try.prog Try.f33 .split = some t33 := by kernel_rfl

/-- slices.Insert[[]broadside/api.ID,broadside/api.ID] -/
def t34 : DFunc := { ntmps := 95, results := [(.t 6)], mode := .split, body :=
 (.seq (.region [oW 6 (.move (.c .nsl))])
 (.seq (.region [oM 10 0, oM 11 1, oW 12 (.sliceSl 2 (.t 10) (some (.t 11)) none)])
 (.seq (.region [oM 13 2, oW 14 (.len 1 (.t 13)), oM 7 14])
 (.seq (.seq (.region [oM 15 7, oW 16 (.arith .eql (.t 15) (oI 0))])
 (.cond (.t 16) (.seq (.region [oM 17 0, oM 6 17])
 .ret) .skip))
 (.seq (.region [oM 18 0, oW 19 (.len 1 (.t 18)), oM 8 19])
 (.seq (.seq (.region [oM 20 1, oM 21 8, oW 22 (.arith .eql (.t 20) (.t 21))])
 (.cond (.t 22) (.seq (.region [oM 23 0, oM 24 2, oW 25 (.append 35 2 16 (.t 23) (.t 24)), oM 6 25])
 .ret) .skip))
 (.seq (.seq (.region [oM 26 8, oM 27 7, oW 28 (.arith .add (.t 26) (.t 27)), oM 29 0, oW 30 (.cap (.t 29)), oW 31 (.arith .gtr (.t 28) (.t 30))])
 (.cond (.t 31) (.seq (.region [oM 32 0, oM 33 1, oW 34 (.sliceSl 2 (.t 32) none (some (.t 33))), oM 35 8, oM 36 7, oW 37 (.arith .add (.t 35) (.t 36)), oM 38 1, oW 39 (.arith .sub (.t 37) (.t 38)), oW 40 (.appendZ 35 2 16 (.agg [(.int .i64 0), (.int .i64 0)]) (.t 34) (.t 39)), oM 9 40])
 (.seq (.region [oM 41 9, oM 42 1, oW 43 (.sliceSl 2 (.t 41) (some (.t 42)) none), oM 44 2, oW 45 (.copy 2 (.t 43) (.t 44))])
 (.seq (.draw [oRM 46 9, oRM 47 1, oRM 48 7, oR 49 (.arith .add (.t 47) (.t 48)), oR 50 (.sliceSl 2 (.t 46) (some (.t 49)) none), oRM 51 0, oRM 52 1, oR 53 (.sliceSl 2 (.t 51) (some (.t 52)) none), oW 54 (.copy 2 (.t 50) (.t 53))])
 (.seq (.region [oM 55 9, oM 6 55])
 .ret)))) .skip))
 (.seq (.region [oM 56 0, oM 57 8, oM 58 7, oW 59 (.arith .add (.t 57) (.t 58)), oW 60 (.sliceSl 2 (.t 56) none (some (.t 59))), oM 0 60])
 (.seq (.seq (.region [oM 61 2, oM 62 0, oM 63 1, oM 64 7, oW 65 (.arith .add (.t 63) (.t 64)), oW 66 (.sliceSl 2 (.t 62) (some (.t 65)) none), oW 67 (.call (oF 88) [(.t 61), (.t 66)]), oW 68 (.un .not (.t 67))])
 (.cond (.t 68) (.seq (.draw [oRM 69 0, oRM 70 1, oRM 71 7, oR 72 (.arith .add (.t 70) (.t 71)), oR 73 (.sliceSl 2 (.t 69) (some (.t 72)) none), oRM 74 0, oRM 75 1, oR 76 (.sliceSl 2 (.t 74) (some (.t 75)) none), oW 77 (.copy 2 (.t 73) (.t 76))])
 (.seq (.region [oM 78 0, oM 79 1, oW 80 (.sliceSl 2 (.t 78) (some (.t 79)) none), oM 81 2, oW 82 (.copy 2 (.t 80) (.t 81))])
 (.seq (.region [oM 83 0, oM 6 83])
 .ret))) .skip))
 (.seq (.region [oM 84 0, oM 85 8, oW 86 (.sliceSl 2 (.t 84) (some (.t 85)) none), oM 87 2, oW 88 (.copy 2 (.t 86) (.t 87))])
 (.seq (.region [oM 89 0, oM 90 1, oW 91 (.sliceSl 2 (.t 89) (some (.t 90)) none), oM 92 7, oW 93 (.call (oF 89) [(.t 91), (.t 92)])])
 (.seq (.region [oM 94 0, oM 6 94])
 .ret)))))))))))) }

theorem c34 : compFunc Try.prog Try.f34 .split = some t34 := by kernel_rfl

/-- broadside/broadsidekeep.Names -/
def t35 : DFunc := { ntmps := 2, results := [(.t 0)], mode := .pure, body :=
 (.seq (.region [oW 0 (.move (.c .nsl))])
 (.seq (.region [oW 1 (.buildSlice 9 1 (.str []) 7 [(0, (.c (.str [97]))), (1, (.c (.str [98]))), (2, (.c (.str [99]))), (3, (.c (.str [100]))), (4, (.c (.str [101]))), (5, (.c (.str [102]))), (6, (.c (.str [103])))]), oM 0 1])
 .ret)) }

theorem c35 : compFunc Try.prog Try.f35 .pure = some t35 := by kernel_rfl

/-- broadside/broadsidekeep.Constraint -/
def t36 : DFunc := { ntmps := 44, results := [(.cell 4 (some 5))], mode := .pure, body :=
 (.seq (.region [oW 4 (.alloc 63 5 (.agg [(.str []), (.int .i64 0), (.int .i64 0), (.int .i64 0), (.str [])]))])
 (.seq (.region [oM 6 0, oW 7 (.build [(.str []), (.int .i64 0), (.int .i64 0), (.int .i64 0), (.str [])] [(0, 1, (.t 6))]), oW 5 (.alloc 63 5 (.agg [(.str []), (.int .i64 0), (.int .i64 0), (.int .i64 0), (.str [])])), oS 5 5 7])
 (.seq (.seq (.region [oM 8 1, oW 9 (.call (oF 8) [(.t 8), (oI 0), (oI 3)])])
 (.block 0 (.seq (.seq (.region [oW 19 (.arith .eql (.t 9) (oI 0)), oM 18 19])
 (.cond (.t 18) .skip (.region [oW 20 (.arith .eql (.t 9) (oI 1)), oM 18 20])))
 (.cond (.t 18) (.seq (.region [oM 21 1, oW 22 (.arith .quo (.t 21) (oI 4)), oW 23 (.call (oF 8) [(.t 22), (oI 0), (oI 9)]), oA 24 1 5, oZ (.store 1 (.t 24) (oI 1)), oA 25 2 5, oS 1 25 23])
 (.draw [oRA 26 2 5, oRD 27 26, oRM 28 1, oR 29 (.arith .quo (.t 28) (oI 40)), ⟨(some 30), .call (oF 8) [(.t 29), (oI 0), (oI 9)], none, .create, 0⟩, ⟨(some 31), .arith .add (.t 27) (.t 30), none, .read, 1⟩, ⟨(some 32), .fieldAddr 3 (.t 5), none, .read, 1⟩, ⟨none, .store 1 (.t 32) (.t 31), none, .write, 1⟩])) (.seq (.region [oW 34 (.arith .eql (.t 9) (oI 2)), oM 33 34])
 (.cond (.t 33) (.draw [oW 35 (.call (oF 90) []), oRM 36 1, oR 37 (.arith .quo (.t 36) (oI 4)), ⟨(some 38), .call (oF 8) [(.t 37), (oI 0), (oI 6)], none, .write, 1⟩, ⟨(some 39), .indexAddr 1 (.t 35) (.t 38), none, .read, 2⟩, ⟨(some 40), .load none (.t 39), none, .read, 2⟩, oRA 41 1 5, ⟨none, .store 1 (.t 41) (oI 2), none, .create, 2⟩, ⟨(some 42), .fieldAddr 4 (.t 5), none, .read, 3⟩, ⟨none, .store 1 (.t 42) (.t 40), none, .write, 3⟩]) (.draw [oW 10 (.call (oF 90) []), oRM 11 1, oR 12 (.arith .quo (.t 11) (oI 4)), ⟨(some 13), .call (oF 8) [(.t 12), (oI 0), (oI 6)], none, .write, 1⟩, ⟨(some 14), .indexAddr 1 (.t 10) (.t 13), none, .read, 2⟩, ⟨(some 15), .load none (.t 14), none, .read, 2⟩, oRA 16 1 5, ⟨none, .store 1 (.t 16) (oI 3), none, .create, 2⟩, ⟨(some 17), .fieldAddr 4 (.t 5), none, .read, 3⟩, ⟨none, .store 1 (.t 17) (.t 15), none, .write, 3⟩])))))))
 (.seq (.region [oL 43 5 5, oS 5 4 43])
 .ret)))) }

theorem c36 : compFunc Try.prog Try.f36 .pure = some t36 := by kernel_rfl

/-- broadside/broadsidekeep.pick -/
def t37 : DFunc := { ntmps := 15, results := [(.t 4)], mode := .pure, body :=
 (.seq (.region [oW 4 (.move (oI 0))])
 (.seq (.seq (.region [oM 5 0, oW 6 (.len 1 (.t 5)), oW 7 (.arith .eql (.t 6) (oI 0))])
 (.cond (.t 7) (.seq (.region [oW 4 (.move (oI 0))])
 .ret) .skip))
 (.seq (.region [oM 8 0, oM 9 1, oM 10 0, oW 11 (.len 1 (.t 10)), oW 12 (.arith .rem (.t 9) (.t 11)), oW 13 (.indexAddr 1 (.t 8) (.t 12)), oD 14 13, oM 4 14])
 .ret))) }

theorem c37 : compFunc Try.prog Try.f37 .pure = some t37 := by kernel_rfl

/-- broadside/adverts.compare -/
def t41 : DFunc := { ntmps := 17, results := [(.t 4)], mode := .pure, body :=
 (.seq (.region [oW 2 (.box 35 2 (.t 0)), oW 3 (.box 35 2 (.t 1)), oW 4 (.move (oI 0))])
 (.seq (.draw [oRA 5 0 2, oRD 6 5, oRA 7 0 3, oRD 8 7, ⟨(some 9), .call (oF 92) [(.t 6), (.t 8)], none, .create, 0⟩, oRA 10 1 2, oRD 11 10, oRA 12 1 3, oRD 13 12, ⟨(some 14), .call (oF 92) [(.t 11), (.t 13)], none, .write, 1⟩, ⟨(some 15), .buildSlice 3 1 (.int .i64 0) 2 [(0, (.t 9)), (1, (.t 14))], none, .create, 0⟩, ⟨(some 16), .call (oF 51) [(.t 15)], none, .write, 3⟩, ⟨(some 4), .move (.t 16), none, .read, 4⟩])
 .ret)) }

theorem c41 : compFunc Try.prog Try.f41 .pure = some t41 := by kernel_rfl

def t51l0 : DCode :=
 (.seq (.region [oW 9 (.arith .lss (.t 8) (.t 7))])
 (.seq (.cond (.t 9) .skip (.exit 0))
 (.seq (.block 1 (.seq (.region [oW 10 (.indexAddr 1 (.t 6) (.t 8)), oD 11 10, oM 5 11])
 (.seq (.region [oM 12 5, oM 13 3, oW 14 (.arith .neq (.t 12) (.t 13))])
 (.cond (.t 14) (.seq (.region [oM 15 5, oM 2 15])
 .ret) .skip))))
 (.region [oW 16 (.arith .add (.t 8) (oI 1)), oM 8 16]))))

def t51k0 : DCode :=
 (.seq (.region [oM 17 3, oM 2 17])
 .ret)

/-- cmp.Or[int] -/
def t51 : DFunc := { ntmps := 18, results := [(.t 2)], mode := .pure, body :=
 (.seq (.region [oW 2 (.move (oI 0))])
 (.seq (.region [oW 3 (.move (oI 0))])
 (.seq (.seq (.region [oM 6 0, oW 7 (.len 1 (.t 6)), oW 8 (.move (oI 0))])
 (.block 0 (.loop t51l0)))
 t51k0))) }

theorem c51 : compFunc Try.prog Try.f51 .pure = some t51 := by kernel_rfl

/-- slices.ContainsFunc[[]broadside/api.Entry,broadside/api.Entry] -/
def t56 : DFunc := { ntmps := 9, results := [(.t 4)], mode := .pure, body :=
 (.seq (.region [oW 4 (.move (oB false))])
 (.seq (.region [oM 5 0, oM 6 1, oW 7 (.call (oF 91) [(.t 5), (.t 6)]), oW 8 (.arith .geq (.t 7) (oI 0)), oM 4 8])
 .ret)) }

theorem c56 : compFunc Try.prog Try.f56 .pure = some t56 := by kernel_rfl

/-- broadside/subs.place -/
def t63 : DFunc := { ntmps := 15, results := [(.t 6), (.t 7)], mode := .pure, body :=
 (.seq (.region [oW 3 (.box 30 6 (.t 0)), oW 4 (.box 35 2 (.t 1)), oW 5 (.box 35 2 (.t 2)), oW 6 (.move (oI 0)), oW 7 (.move (oB false))])
 (.seq (.region [oA 8 4 3, oD 9 8, oL 10 2 5, oW 11 (.makeFunc 98 [(.t 4)]), oW 12 (.call (oF 97) [(.t 9), (.t 10), (.t 11)]), oX 13 12 0, oX 14 12 1, oM 6 13, oM 7 14])
 .ret)) }

theorem c63 : compFunc Try.prog Try.f63 .pure = some t63 := by kernel_rfl

/-- slices.Insert[[]broadside/api.Entry,broadside/api.Entry] -/
def t64 : DFunc := { ntmps := 95, results := [(.t 6)], mode := .split, body :=
 (.seq (.region [oW 6 (.move (.c .nsl))])
 (.seq (.region [oM 10 0, oM 11 1, oW 12 (.sliceSl 7 (.t 10) (some (.t 11)) none)])
 (.seq (.region [oM 13 2, oW 14 (.len 1 (.t 13)), oM 7 14])
 (.seq (.seq (.region [oM 15 7, oW 16 (.arith .eql (.t 15) (oI 0))])
 (.cond (.t 16) (.seq (.region [oM 17 0, oM 6 17])
 .ret) .skip))
 (.seq (.region [oM 18 0, oW 19 (.len 1 (.t 18)), oM 8 19])
 (.seq (.seq (.region [oM 20 1, oM 21 8, oW 22 (.arith .eql (.t 20) (.t 21))])
 (.cond (.t 22) (.seq (.region [oM 23 0, oM 24 2, oW 25 (.append 53 7 72 (.t 23) (.t 24)), oM 6 25])
 .ret) .skip))
 (.seq (.seq (.region [oM 26 8, oM 27 7, oW 28 (.arith .add (.t 26) (.t 27)), oM 29 0, oW 30 (.cap (.t 29)), oW 31 (.arith .gtr (.t 28) (.t 30))])
 (.cond (.t 31) (.seq (.region [oM 32 0, oM 33 1, oW 34 (.sliceSl 7 (.t 32) none (some (.t 33))), oM 35 8, oM 36 7, oW 37 (.arith .add (.t 35) (.t 36)), oM 38 1, oW 39 (.arith .sub (.t 37) (.t 38)), oW 40 (.appendZ 53 7 72 (.agg [(.int .i64 0), (.int .i64 0), (.int .i64 0), (.int .i64 0), .nsl, (.int .i64 0), (.bool false)]) (.t 34) (.t 39)), oM 9 40])
 (.seq (.region [oM 41 9, oM 42 1, oW 43 (.sliceSl 7 (.t 41) (some (.t 42)) none), oM 44 2, oW 45 (.copy 7 (.t 43) (.t 44))])
 (.seq (.draw [oRM 46 9, oRM 47 1, oRM 48 7, oR 49 (.arith .add (.t 47) (.t 48)), oR 50 (.sliceSl 7 (.t 46) (some (.t 49)) none), oRM 51 0, oRM 52 1, oR 53 (.sliceSl 7 (.t 51) (some (.t 52)) none), oW 54 (.copy 7 (.t 50) (.t 53))])
 (.seq (.region [oM 55 9, oM 6 55])
 .ret)))) .skip))
 (.seq (.region [oM 56 0, oM 57 8, oM 58 7, oW 59 (.arith .add (.t 57) (.t 58)), oW 60 (.sliceSl 7 (.t 56) none (some (.t 59))), oM 0 60])
 (.seq (.seq (.region [oM 61 2, oM 62 0, oM 63 1, oM 64 7, oW 65 (.arith .add (.t 63) (.t 64)), oW 66 (.sliceSl 7 (.t 62) (some (.t 65)) none), oW 67 (.call (oF 99) [(.t 61), (.t 66)]), oW 68 (.un .not (.t 67))])
 (.cond (.t 68) (.seq (.draw [oRM 69 0, oRM 70 1, oRM 71 7, oR 72 (.arith .add (.t 70) (.t 71)), oR 73 (.sliceSl 7 (.t 69) (some (.t 72)) none), oRM 74 0, oRM 75 1, oR 76 (.sliceSl 7 (.t 74) (some (.t 75)) none), oW 77 (.copy 7 (.t 73) (.t 76))])
 (.seq (.region [oM 78 0, oM 79 1, oW 80 (.sliceSl 7 (.t 78) (some (.t 79)) none), oM 81 2, oW 82 (.copy 7 (.t 80) (.t 81))])
 (.seq (.region [oM 83 0, oM 6 83])
 .ret))) .skip))
 (.seq (.region [oM 84 0, oM 85 8, oW 86 (.sliceSl 7 (.t 84) (some (.t 85)) none), oM 87 2, oW 88 (.copy 7 (.t 86) (.t 87))])
 (.seq (.region [oM 89 0, oM 90 1, oW 91 (.sliceSl 7 (.t 89) (some (.t 90)) none), oM 92 7, oW 93 (.call (oF 100) [(.t 91), (.t 92)])])
 (.seq (.region [oM 94 0, oM 6 94])
 .ret)))))))))))) }

theorem c64 : compFunc Try.prog Try.f64 .split = some t64 := by kernel_rfl

/-- broadside/subs.Covered$1 -/
def t65 : DFunc := { ntmps := 12, results := [(.t 3)], mode := .pure, body :=
 (.seq (.region [oW 2 (.box 53 7 (.t 0)), oW 3 (.move (oB false))])
 (.seq (.region [oA 4 6 2, oD 5 4, oM 6 5, ⟨(some 7), .fieldAddr 4 (.t 2), (some (6, true)), .write, 0⟩, ⟨(some 8), .load none (.t 7), (some (6, true)), .write, 0⟩, ⟨(some 9), .load none (.t 1), (some (6, true)), .write, 0⟩, ⟨(some 10), .call (oF 23) [(.t 8), (.t 9)], (some (6, true)), .write, 0⟩, oW 11 (.pick (.t 6) (.t 10) (oB false)), oM 3 11])
 .ret)) }

theorem c65 : compFunc Try.prog Try.f65 .pure = some t65 := by kernel_rfl

/-- slices.Delete[[]broadside/api.Entry,broadside/api.Entry] -/
def t66 : DFunc := { ntmps := 33, results := [(.t 6)], mode := .full, body :=
 (.seq (.region [oW 6 (.move (.c .nsl))])
 (.seq (.region [oM 8 0, oM 9 1, oM 10 2, oM 11 0, oW 12 (.len 1 (.t 11)), oW 13 (.slice3 (.t 8) (.t 9) (.t 10) (.t 12))])
 (.seq (.seq (.region [oM 14 1, oM 15 2, oW 16 (.arith .eql (.t 14) (.t 15))])
 (.cond (.t 16) (.seq (.region [oM 17 0, oM 6 17])
 .ret) .skip))
 (.seq (.region [oM 18 0, oW 19 (.len 1 (.t 18)), oM 7 19])
 (.seq (.draw [oRM 20 0, oRM 21 1, oR 22 (.sliceSl 7 (.t 20) none (some (.t 21))), oRM 23 0, oRM 24 2, oR 25 (.sliceSl 7 (.t 23) (some (.t 24)) none), oW 26 (.append 53 7 72 (.t 22) (.t 25)), ⟨(some 0), .move (.t 26), none, .read, 1⟩])
 (.seq (.region [oM 27 0, oM 28 0, oW 29 (.len 1 (.t 28)), oM 30 7, oW 31 (.sliceSl 7 (.t 27) (some (.t 29)) (some (.t 30))), oZ (.clear 7 (.agg [(.int .i64 0), (.int .i64 0), (.int .i64 0), (.int .i64 0), .nsl, (.int .i64 0), (.bool false)]) (.t 31))])
 (.seq (.region [oM 32 0, oM 6 32])
 .ret))))))) }

theorem c66 : compFunc Try.prog Try.f66 .full = some t66 := by kernel_rfl

/-- broadside/rel.wider -/
def t67 : DFunc := { ntmps := 45, results := [(.t 4)], mode := .pure, body :=
 (.seq (.region [oW 2 (.box 63 5 (.t 0)), oW 3 (.box 63 5 (.t 1)), oW 4 (.move (oB false))])
 (.seq (.seq (.region [oA 5 1 3, oD 6 5])
 (.block 0 (.seq (.region [oW 8 (.arith .eql (.t 6) (oI 1)), oM 7 8])
 (.cond (.t 7) (.seq (.region [oA 9 1 2, oD 10 9, oW 11 (.arith .eql (.t 10) (oI 1)), oM 12 11, ⟨(some 13), .fieldAddr 2 (.t 2), (some (12, true)), .write, 0⟩, ⟨(some 14), .load none (.t 13), (some (12, true)), .write, 0⟩, ⟨(some 15), .fieldAddr 2 (.t 3), (some (12, true)), .write, 0⟩, ⟨(some 16), .load none (.t 15), (some (12, true)), .write, 0⟩, ⟨(some 17), .arith .leq (.t 14) (.t 16), (some (12, true)), .write, 0⟩, oW 18 (.pick (.t 12) (.t 17) (oB false)), oM 19 18, ⟨(some 20), .fieldAddr 3 (.t 3), (some (19, true)), .write, 0⟩, ⟨(some 21), .load none (.t 20), (some (19, true)), .write, 0⟩, ⟨(some 22), .fieldAddr 3 (.t 2), (some (19, true)), .write, 0⟩, ⟨(some 23), .load none (.t 22), (some (19, true)), .write, 0⟩, ⟨(some 24), .arith .leq (.t 21) (.t 23), (some (19, true)), .write, 0⟩, oW 25 (.pick (.t 19) (.t 24) (oB false)), oM 4 25])
 .ret) (.seq (.region [oW 27 (.arith .eql (.t 6) (oI 3)), oM 26 27])
 (.cond (.t 26) (.seq (.region [oA 28 1 2, oD 29 28, oW 30 (.arith .eql (.t 29) (oI 3)), oM 31 30, ⟨(some 32), .fieldAddr 4 (.t 3), (some (31, true)), .write, 0⟩, ⟨(some 33), .load none (.t 32), (some (31, true)), .write, 0⟩, ⟨(some 34), .fieldAddr 4 (.t 2), (some (31, true)), .write, 0⟩, ⟨(some 35), .load none (.t 34), (some (31, true)), .write, 0⟩, ⟨(some 36), .call (oF 101) [(.t 33), (.t 35)], (some (31, true)), .write, 0⟩, oW 37 (.pick (.t 31) (.t 36) (oB false)), oM 4 37])
 .ret) (.seq (.region [oW 39 (.arith .eql (.t 6) (oI 2)), oM 38 39])
 (.cond (.t 38) (.seq (.draw [oRL 40 5 2, oRA 41 4 3, oRD 42 41, ⟨(some 43), .call (oF 103) [(.t 42)], none, .create, 0⟩, ⟨(some 44), .call (oF 102) [(.t 40), (.t 43)], none, .write, 1⟩, ⟨(some 4), .move (.t 44), none, .read, 2⟩])
 .ret) .skip))))))))
 (.seq (.region [oW 4 (.move (oB false))])
 .ret))) }

theorem c67 : compFunc Try.prog Try.f67 .pure = some t67 := by kernel_rfl

/-- broadside/broadsidelaw10.SubsRuns$1 -/
def t68 : DFunc := { ntmps := 9, results := [(.t 4)], mode := .pure, body :=
 (.seq (.region [oW 4 (.move (.c .nsl))])
 (.seq (.region [oM 5 0, oM 6 1, oW 7 (.build [(.str []), (.int .i64 0), (.int .i64 0), (.int .i64 0), (.str [])] [(0, 1, (.c (.str [97]))), (1, 1, (oI 1)), (2, 1, (.t 5)), (3, 1, (.t 6))]), oW 8 (.buildSlice 63 5 (.agg [(.str []), (.int .i64 0), (.int .i64 0), (.int .i64 0), (.str [])]) 1 [(0, (.t 7))]), oM 4 8])
 .ret)) }

theorem c68 : compFunc Try.prog Try.f68 .pure = some t68 := by kernel_rfl

def t78l0 : DCode :=
 (.block 1 (.seq (.region [oM 19 2, oM 20 1, oW 21 (.arith .sub (.t 19) (.t 20)), oM 10 21])
 (.seq (.seq (.region [oM 22 10, oW 23 (.arith .leq (.t 22) (oI 12))])
 (.cond (.t 23) (.seq (.region [oM 24 0, oM 25 1, oM 26 2, oW 27 (.call (oF 105) [(.t 24), (.t 25), (.t 26)])])
 .ret) .skip))
 (.seq (.seq (.region [oM 28 3, oW 29 (.arith .eql (.t 28) (oI 0))])
 (.cond (.t 29) (.seq (.region [oM 30 0, oM 31 1, oM 32 2, oW 33 (.call (oF 106) [(.t 30), (.t 31), (.t 32)])])
 .ret) .skip))
 (.seq (.seq (.region [oM 34 8, oW 35 (.un .not (.t 34))])
 (.cond (.t 35) (.seq (.region [oM 36 0, oM 37 1, oM 38 2, oW 39 (.call (oF 107) [(.t 36), (.t 37), (.t 38)])])
 (.region [oM 40 3, oW 41 (.arith .sub (.t 40) (oI 1)), oM 3 41])) .skip))
 (.seq (.region [oM 43 0, oM 44 1, oM 45 2, oW 46 (.call (oF 108) [(.t 43), (.t 44), (.t 45)]), oM 42 46, oX 47 42 0, oX 48 42 1, oM 11 47, oM 12 48])
 (.seq (.seq (.region [oM 49 12, oW 50 (.arith .eql (.t 49) (oI 2))])
 (.cond (.t 50) (.seq (.region [oM 51 0, oM 52 1, oM 53 2, oW 54 (.call (oF 109) [(.t 51), (.t 52), (.t 53)])])
 (.seq (.region [oM 55 2, oW 56 (.arith .sub (.t 55) (oI 1)), oM 57 11, oM 58 1, oW 59 (.arith .sub (.t 57) (.t 58)), oW 60 (.arith .sub (.t 56) (.t 59)), oM 11 60])
 (.region [oW 12 (.move (oI 1))]))) .skip))
 (.seq (.seq (.region [oM 61 8, oM 62 61, ⟨(some 63), .move (.t 9), (some (62, true)), .write, 0⟩, oW 64 (.pick (.t 62) (.t 63) (oB false)), oM 65 64, ⟨(some 66), .move (.t 12), (some (65, true)), .write, 0⟩, ⟨(some 67), .arith .eql (.t 66) (oI 1), (some (65, true)), .write, 0⟩, oW 68 (.pick (.t 65) (.t 67) (oB false))])
 (.cond (.t 68) (.seq (.region [oM 69 0, oM 70 1, oM 71 2, oW 72 (.call (oF 110) [(.t 69), (.t 70), (.t 71)])])
 (.cond (.t 72) .ret .skip)) .skip))
 (.seq (.seq (.draw [oRM 73 1, oR 74 (.arith .gtr (.t 73) (oI 0)), oRM 75 74, ⟨(some 76), .move (.t 0), (some (75, true)), .read, 0⟩, ⟨(some 77), .move (.t 1), (some (75, true)), .read, 0⟩, ⟨(some 78), .arith .sub (.t 77) (oI 1), (some (75, true)), .read, 0⟩, ⟨(some 79), .indexAddr 1 (.t 76) (.t 78), (some (75, true)), .read, 0⟩, ⟨(some 80), .load none (.t 79), (some (75, true)), .read, 0⟩, ⟨(some 81), .move (.t 0), (some (75, true)), .read, 0⟩, ⟨(some 82), .move (.t 11), (some (75, true)), .read, 0⟩, ⟨(some 83), .indexAddr 1 (.t 81) (.t 82), (some (75, true)), .read, 0⟩, ⟨(some 84), .load none (.t 83), (some (75, true)), .read, 0⟩, ⟨(some 85), .call (oF 111) [(.t 80), (.t 84)], (some (75, true)), .write, 0⟩, ⟨(some 86), .un .not (.t 85), (some (75, true)), .read, 1⟩, ⟨(some 87), .pick (.t 75) (.t 86) (oB false), none, .read, 1⟩])
 (.cond (.t 87) (.seq (.region [oM 88 0, oM 89 1, oM 90 2, oM 91 11, oW 92 (.call (oF 112) [(.t 88), (.t 89), (.t 90), (.t 91)]), oM 13 92])
 (.seq (.region [oM 93 13, oM 1 93])
 (.exit 1))) .skip))
 (.seq (.region [oM 95 0, oM 96 1, oM 97 2, oM 98 11, oW 99 (.call (oF 113) [(.t 95), (.t 96), (.t 97), (.t 98)]), oM 94 99, oX 100 94 0, oX 101 94 1, oM 14 100, oM 15 101])
 (.seq (.region [oM 102 15, oM 9 102])
 (.seq (.region [oM 103 14, oM 104 1, oW 105 (.arith .sub (.t 103) (.t 104)), oM 106 2, oM 107 14, oW 108 (.arith .sub (.t 106) (.t 107)), oM 16 105, oM 17 108])
 (.seq (.region [oM 109 10, oW 110 (.arith .quo (.t 109) (oI 8)), oM 18 110])
 (.seq (.region [oM 111 16, oM 112 17, oW 113 (.arith .lss (.t 111) (.t 112))])
 (.cond (.t 113) (.seq (.region [oM 114 16, oM 115 18, oW 116 (.arith .geq (.t 114) (.t 115)), oM 8 116])
 (.seq (.region [oM 117 0, oM 118 1, oM 119 14, oM 120 3, oW 121 (.call (oF 78) [(.t 117), (.t 118), (.t 119), (.t 120)])])
 (.region [oM 122 14, oW 123 (.arith .add (.t 122) (oI 1)), oM 1 123]))) (.seq (.region [oM 124 17, oM 125 18, oW 126 (.arith .geq (.t 124) (.t 125)), oM 8 126])
 (.seq (.region [oM 127 0, oM 128 14, oW 129 (.arith .add (.t 128) (oI 1)), oM 130 2, oM 131 3, oW 132 (.call (oF 78) [(.t 127), (.t 129), (.t 130), (.t 131)])])
 (.region [oM 133 14, oM 2 133]))))))))))))))))))

/-- slices.pdqsortOrdered[int] -/
def t78 : DFunc := { ntmps := 134, results := [], mode := .full, body :=
 (.seq (.region [oW 8 (.move (oB true))])
 (.seq (.region [oW 9 (.move (oB true))])
 (.block 0 (.loop t78l0)))) }

theorem c78 : compFunc Try.prog Try.f78 .full = some t78 := by kernel_rfl

end Go.Dm.Tc
