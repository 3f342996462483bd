/-
The table of functions, brought into the machine's form (Tc, part 0). Written by program (wip/tools/table.lean.txt).
-/
import Derived.Test.YtfnhanajiibciaaGreatMm3
import Derived.Test.YtfnhanajiibciaaGreatRows
import Derived.KernelRfl
namespace Go.Dm.Tc
open Go.Proofs
def t5 : DFunc := { ntmps := 189, results := [(.t 10)], mode := .pure, body :=
 (.seq (.region [oW 5 (.box 55 2 (.t 0)), oW 9 (.box 32 2 (.t 4)), oW 10 (.move (oB false))])
 (.seq (.region [oL 31 2 5, oW 32 (.call (oF 29) [(.t 31)]), oW 11 (.alloc 29 6 (.agg [(.int .i64 0), .nsl, .nsl, .nsl, .nsl, .nsl])), oS 6 11 32])
 (.seq (.region [oM 33 1, oW 34 (.call (oF 16) [(.t 33), (oI 0), (oI 2)]), oW 35 (.build [(.int .i64 0), (.int .i64 0)] [(0, 1, (.t 34))]), oM 36 2, oW 37 (.call (oF 16) [(.t 36), (oI 0), (oI 9)]), oW 38 (.build [(.int .i64 0), (.int .i64 0)] [(0, 1, (oI 9)), (1, 1, (.t 37))]), oW 12 (.alloc 37 2 (.agg [(.int .i64 0), (.int .i64 0)])), oW 13 (.alloc 37 2 (.agg [(.int .i64 0), (.int .i64 0)])), oS 2 12 35, oS 2 13 38])
 (.seq (.region [oL 39 6 11, oM 40 3, oW 41 (.call (oF 30) [(.t 39), (.t 40)]), oM 14 41])
 (.seq (.region [oL 43 6 11, oL 44 2 12, oW 45 (.call (oF 23) [(.t 43), (.t 44)]), oM 42 45, oX 46 42 0, oX 47 42 1, oW 15 (.alloc 42 4 (.agg [(.int .i64 0), (.int .i64 0), .nsl, (.int .i64 0)])), oS 4 15 46, oM 16 47])
 (.seq (.draw [oRL 49 6 11, oRL 50 2 12, oRL 51 2 13, oRL 52 2 9, ⟨(some 53), .call (oF 18) [(.t 52)], none, .create, 0, false⟩, oRM 54 14, ⟨(some 55), .build [(.int .i64 0), (.int .i64 0), (.int .i64 0), (.int .i64 0), .nsl, (.int .i64 0), (.bool false)] [(0, 2, (.t 50)), (2, 2, (.t 51)), (4, 1, (.t 53)), (5, 1, (.t 54))], none, .read, 1, false⟩, ⟨(some 56), .call (oF 31) [(.t 49), (.t 55)], none, .write, 1, false⟩, ⟨(some 48), .move (.t 56), none, .read, 2, false⟩, ⟨(some 57), .extract (.t 48) 0, none, .read, 2, false⟩, ⟨(some 17), .alloc 29 6 (.agg [(.int .i64 0), .nsl, .nsl, .nsl, .nsl, .nsl]), none, .create, 0, false⟩, ⟨none, .store 6 (.t 17) (.t 57), none, .write, 3, false⟩, ⟨(some 58), .extract (.t 48) 1, none, .read, 2, false⟩, ⟨(some 18), .move (.t 58), none, .read, 4, false⟩])
 (.seq (.region [oL 60 6 17, oL 61 2 12, oL 62 2 13, oW 63 (.call (oF 32) [(.t 60), (.t 61), (.t 62)]), oM 59 63, oX 64 59 0, oX 65 59 1, oW 19 (.alloc 58 7 (.agg [(.int .i64 0), (.int .i64 0), (.int .i64 0), (.int .i64 0), .nsl, (.int .i64 0), (.bool false)])), oS 7 19 64, oM 20 65])
 (.seq (.seq (.region [oM 66 20, oM 67 16, oM 68 67, ⟨(some 69), .move (.t 14), (some (68, true)), .write, 0, false⟩, ⟨(some 70), .arith .eql (.t 69) (oI (-1)), (some (68, true)), .write, 0, false⟩, ⟨(some 71), .move (.t 70), (some (68, true)), .write, 0, false⟩, ⟨(some 72), .move (.t 14), (some (71, false)), .write, 0, false⟩, ⟨(some 73), .fieldAddr 3 (.t 15), (some (71, false)), .write, 0, false⟩, ⟨(some 74), .load none (.t 73), (some (71, false)), .write, 0, false⟩, ⟨(some 75), .arith .neq (.t 72) (.t 74), (some (71, false)), .write, 0, false⟩, ⟨(some 76), .pick (.t 71) (oB true) (.t 75), (some (68, true)), .write, 0, false⟩, oW 77 (.pick (.t 68) (.t 76) (oB false)), oW 78 (.eqb true (.t 66) (.t 77)), oM 79 78, ⟨(some 80), .move (.t 18), (some (79, false)), .write, 0, false⟩, ⟨(some 81), .move (.t 80), (some (79, false)), .write, 0, false⟩, ⟨(some 82), .move (.t 20), (some (81, true)), .write, 0, false⟩, ⟨(some 83), .un .not (.t 82), (some (81, true)), .write, 0, false⟩, ⟨(some 84), .move (.t 83), (some (81, true)), .write, 0, false⟩, ⟨(some 85), .fieldAddr 3 (.t 15), (some (84, false)), .write, 0, false⟩, ⟨(some 86), .load none (.t 85), (some (84, false)), .write, 0, false⟩, ⟨(some 87), .arith .eql (.t 86) (oI (-1)), (some (84, false)), .write, 0, false⟩, ⟨(some 88), .pick (.t 84) (oB true) (.t 87), (some (81, true)), .write, 0, false⟩, ⟨(some 89), .pick (.t 81) (.t 88) (oB false), (some (79, false)), .write, 0, false⟩, oW 90 (.pick (.t 79) (oB true) (.t 89)), oM 91 90, ⟨(some 92), .move (.t 20), (some (91, false)), .write, 0, false⟩, ⟨(some 93), .un .not (.t 92), (some (91, false)), .write, 0, false⟩, ⟨(some 94), .move (.t 93), (some (91, false)), .write, 0, false⟩, ⟨(some 95), .load (some 6) (.t 17), (some (94, true)), .write, 0, false⟩, ⟨(some 96), .load (some 6) (.t 11), (some (94, true)), .write, 0, false⟩, ⟨(some 97), .call (oF 26) [(.t 95), (.t 96)], (some (94, true)), .write, 0, false⟩, ⟨(some 98), .un .not (.t 97), (some (94, true)), .write, 0, false⟩, ⟨(some 99), .pick (.t 94) (.t 98) (oB false), (some (91, false)), .write, 0, false⟩, oW 100 (.pick (.t 91) (oB true) (.t 99))])
 (.cond (.t 100) (.seq (.region [oW 10 (.move (oB false))])
 .ret) .skip))
 (.seq (.seq (.region [oM 101 20, oW 102 (.un .not (.t 101))])
 (.cond (.t 102) (.seq (.region [oW 103 (.call (oF 33) []), oM 10 103])
 .ret) .skip))
 (.seq (.region [oL 105 6 17, oL 106 2 12, oL 107 2 13, oM 108 14, oW 109 (.build [(.int .i64 0), (.int .i64 0), (.int .i64 0), (.int .i64 0), .nsl, (.int .i64 0), (.bool false)] [(0, 2, (.t 106)), (2, 2, (.t 107)), (4, 1, (.c .nsl)), (5, 1, (.t 108))]), oW 110 (.call (oF 31) [(.t 105), (.t 109)]), oM 104 110, oX 111 104 0, oX 112 104 1, oW 21 (.alloc 29 6 (.agg [(.int .i64 0), .nsl, .nsl, .nsl, .nsl, .nsl])), oS 6 21 111, oM 22 112])
 (.seq (.region [oL 114 6 17, oL 115 2 12, oL 116 2 13, oM 117 14, oW 118 (.arith .add (.t 117) (oI 7)), oW 119 (.call (oF 34) [(.t 114), (.t 115), (.t 116), (.t 118)]), oM 113 119, oX 120 113 0, oX 121 113 1, oX 122 113 2, oW 23 (.alloc 29 6 (.agg [(.int .i64 0), .nsl, .nsl, .nsl, .nsl, .nsl])), oS 6 23 120, oM 24 121, oM 25 122])
 (.seq (.region [oL 124 6 17, oL 125 2 12, oL 126 2 13, oM 127 14, oW 128 (.call (oF 34) [(.t 124), (.t 125), (.t 126), (.t 127)]), oM 123 128, oX 129 123 0, oX 130 123 1, oX 131 123 2, oW 26 (.alloc 29 6 (.agg [(.int .i64 0), .nsl, .nsl, .nsl, .nsl, .nsl])), oS 6 26 129, oM 27 130, oM 28 131])
 (.seq (.region [oL 133 6 26, oL 134 2 12, oL 135 2 13, oW 136 (.call (oF 32) [(.t 133), (.t 134), (.t 135)]), oM 132 136, oX 137 132 0, oX 138 132 1, oW 29 (.alloc 58 7 (.agg [(.int .i64 0), (.int .i64 0), (.int .i64 0), (.int .i64 0), .nsl, (.int .i64 0), (.bool false)])), oS 7 29 137, oM 30 138])
 (.seq (.region [oM 139 22, oW 140 (.un .not (.t 139)), oM 141 140, ⟨(some 142), .load (some 6) (.t 21), (some (141, true)), .write, 0, false⟩, ⟨(some 143), .load (some 6) (.t 17), (some (141, true)), .write, 0, false⟩, ⟨(some 144), .call (oF 26) [(.t 142), (.t 143)], (some (141, true)), .write, 0, false⟩, oW 145 (.pick (.t 141) (.t 144) (oB false)), oM 146 145, ⟨(some 147), .move (.t 24), (some (146, true)), .write, 0, false⟩, ⟨(some 148), .len 1 (.t 147), (some (146, true)), .write, 0, false⟩, ⟨(some 149), .arith .eql (.t 148) (oI 0), (some (146, true)), .write, 0, false⟩, oW 150 (.pick (.t 146) (.t 149) (oB false)), oM 151 150, ⟨(some 152), .move (.t 25), (some (151, true)), .write, 0, false⟩, ⟨(some 153), .un .not (.t 152), (some (151, true)), .write, 0, false⟩, oW 154 (.pick (.t 151) (.t 153) (oB false)), oM 155 154, ⟨(some 156), .load (some 6) (.t 23), (some (155, true)), .write, 0, false⟩, ⟨(some 157), .load (some 6) (.t 17), (some (155, true)), .write, 0, false⟩, ⟨(some 158), .call (oF 26) [(.t 156), (.t 157)], (some (155, true)), .write, 0, false⟩, oW 159 (.pick (.t 155) (.t 158) (oB false)), oM 160 159, ⟨(some 161), .move (.t 30), (some (160, true)), .write, 0, false⟩, ⟨(some 162), .un .not (.t 161), (some (160, true)), .write, 0, false⟩, oW 163 (.pick (.t 160) (.t 162) (oB false)), oM 164 163, ⟨(some 165), .move (.t 28), (some (164, true)), .write, 0, false⟩, ⟨(some 166), .move (.t 18), (some (164, true)), .write, 0, false⟩, ⟨(some 167), .eqb false (.t 165) (.t 166), (some (164, true)), .write, 0, false⟩, oW 168 (.pick (.t 164) (.t 167) (oB false)), oM 169 168, ⟨(some 170), .move (.t 28), (some (169, true)), .write, 0, false⟩, ⟨(some 171), .move (.t 170), (some (169, true)), .write, 0, false⟩, ⟨(some 172), .move (.t 27), (some (171, false)), .write, 0, false⟩, ⟨(some 173), .len 1 (.t 172), (some (171, false)), .write, 0, false⟩, ⟨(some 174), .arith .eql (.t 173) (oI 0), (some (171, false)), .write, 0, false⟩, ⟨(some 175), .pick (.t 171) (oB true) (.t 174), (some (169, true)), .write, 0, false⟩, oW 176 (.pick (.t 169) (.t 175) (oB false)), oM 177 176, ⟨(some 178), .fieldAddr 4 (.t 26), (some (177, true)), .write, 0, false⟩, ⟨(some 179), .load none (.t 178), (some (177, true)), .write, 0, false⟩, ⟨(some 180), .len 1 (.t 179), (some (177, true)), .write, 0, false⟩, ⟨(some 181), .fieldAddr 4 (.t 11), (some (177, true)), .write, 0, false⟩, ⟨(some 182), .load none (.t 181), (some (177, true)), .write, 0, false⟩, ⟨(some 183), .len 1 (.t 182), (some (177, true)), .write, 0, false⟩, ⟨(some 184), .arith .eql (.t 180) (.t 183), (some (177, true)), .write, 0, false⟩, oW 185 (.pick (.t 177) (.t 184) (oB false)), oM 186 185, ⟨(some 187), .call (oF 33) [], (some (186, true)), .write, 0, false⟩, oW 188 (.pick (.t 186) (.t 187) (oB false)), oM 10 188])
 .ret)))))))))))))) }
theorem c5 : compFunc Tryz.prog Tryz.f5 .pure = some t5 := by kernel_rfl
def t15 : DFunc := { ntmps := 14, results := [(.cell 4 (some 6))], mode := .pure, body :=
 (.seq (.region [oW 4 (.alloc 29 6 (.agg [(.int .i64 0), .nsl, .nsl, .nsl, .nsl, .nsl]))])
 (.seq (.region [oM 6 1, oW 7 (.call (oF 64) [(.t 6)]), oM 5 7])
 (.seq (.region [oM 8 5, oW 9 (.call (oF 65) [(.t 8)])])
 (.seq (.region [oM 10 0, oM 11 5, oW 12 (.call (oF 66) [(.t 11)]), oW 13 (.build [(.int .i64 0), .nsl, .nsl, .nsl, .nsl, .nsl] [(0, 1, (.t 10)), (1, 1, (.t 12))]), oS 6 4 13])
 .ret)))) }
theorem c15 : compFunc Tryz.prog Tryz.f15 .pure = some t15 := by kernel_rfl
def t16 : DFunc := { ntmps := 24, results := [(.t 6)], mode := .pure, body :=
 (.seq (.region [oW 6 (.move (oI 0))])
 (.seq (.region [oM 7 0, oM 8 2, oM 9 1, oW 10 (.arith .sub (.t 8) (.t 9)), oW 11 (.arith .add (.t 10) (oI 1)), oW 12 (.arith .rem (.t 7) (.t 11)), oM 0 12])
 (.seq (.seq (.region [oM 13 0, oW 14 (.arith .lss (.t 13) (oI 0))])
 (.cond (.t 14) (.region [oM 15 0, oM 16 2, oW 17 (.arith .add (.t 15) (.t 16)), oM 18 1, oW 19 (.arith .sub (.t 17) (.t 18)), oW 20 (.arith .add (.t 19) (oI 1)), oM 0 20]) .skip))
 (.seq (.region [oM 21 1, oM 22 0, oW 23 (.arith .add (.t 21) (.t 22)), oM 6 23])
 .ret)))) }
theorem c16 : compFunc Tryz.prog Tryz.f16 .pure = some t16 := by kernel_rfl
def t18l0 : DCode :=
 (.seq (.region [oW 9 (.arith .lss (.t 8) (.t 7))])
 (.seq (.cond (.t 9) .skip (.exit 0))
 (.seq (.block 1 (.seq (.region [oM 10 8, oW 11 (.indexAddr 1 (.t 6) (.t 8)), oD 12 11, oM 4 10, oM 5 12])
 (.seq (.region [oM 13 4, oA 14 0 1, oD 15 14, oW 16 (.len 1 (.t 15)), oW 17 (.arith .lss (.t 13) (.t 16)), oM 18 17, ⟨(some 19), .fieldAddr 0 (.t 1), (some (18, true)), .write, 0, false⟩, ⟨(some 20), .load none (.t 19), (some (18, true)), .write, 0, false⟩, ⟨(some 21), .move (.t 4), (some (18, true)), .write, 0, false⟩, ⟨(some 22), .indexAddr 1 (.t 20) (.t 21), (some (18, true)), .write, 0, false⟩, ⟨(some 23), .load none (.t 22), (some (18, true)), .write, 0, false⟩, ⟨(some 24), .arith .and (.t 23) (oI 1), (some (18, true)), .write, 0, false⟩, ⟨(some 25), .arith .eql (.t 24) (oI 1), (some (18, true)), .write, 0, false⟩, oW 26 (.pick (.t 18) (.t 25) (oB false)), oM 27 26, ⟨(some 28), .move (.t 3), (some (27, true)), .write, 0, false⟩, ⟨(some 29), .len 1 (.t 28), (some (27, true)), .write, 0, false⟩, ⟨(some 30), .arith .lss (.t 29) (oI 5), (some (27, true)), .write, 0, false⟩, oW 31 (.pick (.t 27) (.t 30) (oB false))])
 (.cond (.t 31) (.region [oM 32 3, oM 33 5, oA 34 1 1, oD 35 34, oM 36 4, oW 37 (.call (oF 69) [(.t 35), (.t 36)]), oW 38 (.call (oF 68) [(.t 33), (.t 37)]), oW 39 (.buildSlice 62 5 (.agg [(.str []), (.int .i64 0), (.int .i64 0), (.int .i64 0), (.str [])]) 1 [(0, (.t 38))]), oW 40 (.append 62 5 56 (.t 32) (.t 39)), oM 3 40]) .skip))))
 (.region [oW 41 (.arith .add (.t 8) (oI 1)), oM 8 41]))))
def t18k0 : DCode :=
 (.seq (.region [oM 42 3, oM 2 42])
 .ret)
def t18 : DFunc := { ntmps := 43, results := [(.t 2)], mode := .pure, body :=
 (.seq (.region [oW 1 (.box 32 2 (.t 0)), oW 2 (.move (.c .nsl))])
 (.seq (.region [oW 3 (.move (.c .nsl))])
 (.seq (.seq (.region [oW 6 (.call (oF 67) []), oW 7 (.len 1 (.t 6)), oW 8 (.move (oI 0))])
 (.block 0 (.loop t18l0)))
 t18k0))) }
theorem c18 : compFunc Tryz.prog Tryz.f18 .pure = some t18 := by kernel_rfl
def t19 : DFunc := { ntmps := 44, results := [(.cell 4 (some 6)), (.t 5)], mode := .frz, body :=
 (.seq (.region [oW 2 (.box 29 6 (.t 0)), oW 3 (.box 42 4 (.t 1)), oW 4 (.alloc 29 6 (.agg [(.int .i64 0), .nsl, .nsl, .nsl, .nsl, .nsl])), oW 5 (.move (oB false))])
 (.seq (.region [oL 10 6 2, oW 11 (.call (oF 70) [(.t 10)]), oS 6 2 11])
 (.seq (.region [oL 13 6 2, oA 14 0 3, oL 15 2 14, oW 16 (.call (oF 71) [(.t 13), (.t 15)]), oM 12 16, oX 17 12 0, oX 18 12 1, oM 6 17, oM 7 18])
 (.seq (.seq (.region [oM 19 7])
 (.cond (.t 19) (.seq (.region [oL 20 6 2, oS 6 4 20, oW 5 (.move (oB false))])
 .ret) .skip))
 (.seq (.region [oL 22 6 2, oA 23 0 3, oL 24 2 23, oW 25 (.call (oF 72) [(.t 22), (.t 24)]), oM 21 25, oX 26 21 0, oX 27 21 1, oM 8 26, oM 9 27])
 (.seq (.region [oA 28 2 2, oD 29 28, oM 30 8, oL 31 4 3, oW 32 (.buildSlice 42 4 (.agg [(.int .i64 0), (.int .i64 0), .nsl, (.int .i64 0)]) 1 [(0, (.t 31))]), oW 33 (.call (oF 73) [(.t 29), (.t 30), (.t 32)]), oA 34 2 2, oS 1 34 33])
 (.seq (.region [oA 35 3 2, oD 36 35, oM 37 6, oA 38 0 3, oL 39 2 38, oW 40 (.buildSlice 37 2 (.agg [(.int .i64 0), (.int .i64 0)]) 1 [(0, (.t 39))]), oW 41 (.call (oF 74) [(.t 36), (.t 37), (.t 40)]), oA 42 3 2, oS 1 42 41])
 (.seq (.region [oL 43 6 2, oS 6 4 43, oW 5 (.move (oB true))])
 .ret)))))))) }
theorem c19 : compFunc Tryz.prog Tryz.f19 .frz = some t19 := by kernel_rfl
def t20l0 : DCode :=
 (.seq (.seq (.draw [oRA 13 3 2, oRD 14 13, oRM 12 6, oR 15 (.len 1 (.t 14)), oR 16 (.arith .lss (.t 12) (.t 15)), oRM 17 16, ⟨(some 18), .fieldAddr 3 (.t 2), (some (17, true)), .read, 0, false⟩, ⟨(some 19), .load none (.t 18), (some (17, true)), .read, 0, false⟩, ⟨(some 20), .move (.t 6), (some (17, true)), .read, 0, false⟩, ⟨(some 21), .indexAddr 2 (.t 19) (.t 20), (some (17, true)), .read, 0, false⟩, ⟨(some 22), .load (some 2) (.t 21), (some (17, true)), .read, 0, false⟩, ⟨(some 23), .fieldAddr 0 (.t 3), (some (17, true)), .read, 0, false⟩, ⟨(some 24), .load (some 2) (.t 23), (some (17, true)), .read, 0, false⟩, ⟨(some 25), .call (oF 76) [(.t 22), (.t 24)], (some (17, true)), .write, 0, false⟩, ⟨(some 26), .pick (.t 17) (.t 25) (oB false), none, .read, 1, false⟩])
 (.cond (.t 26) .skip (.exit 0)))
 (.block 1 (.region [oM 27 6, oW 28 (.arith .add (.t 27) (oI 1)), oM 6 28])))
def t20l1 : DCode :=
 (.seq (.seq (.draw [oRA 46 2 2, oRD 47 46, oRM 45 6, oR 48 (.len 1 (.t 47)), oR 49 (.arith .lss (.t 45) (.t 48)), oRM 50 49, ⟨(some 51), .fieldAddr 2 (.t 2), (some (50, true)), .read, 0, false⟩, ⟨(some 52), .load none (.t 51), (some (50, true)), .read, 0, false⟩, ⟨(some 53), .move (.t 6), (some (50, true)), .read, 0, false⟩, ⟨(some 54), .indexAddr 4 (.t 52) (.t 53), (some (50, true)), .read, 0, false⟩, ⟨(some 55), .fieldAddr 0 (.t 54), (some (50, true)), .read, 0, false⟩, ⟨(some 56), .load (some 2) (.t 55), (some (50, true)), .read, 0, false⟩, ⟨(some 57), .fieldAddr 0 (.t 3), (some (50, true)), .read, 0, false⟩, ⟨(some 58), .load (some 2) (.t 57), (some (50, true)), .read, 0, false⟩, ⟨(some 59), .call (oF 76) [(.t 56), (.t 58)], (some (50, true)), .write, 0, false⟩, ⟨(some 60), .pick (.t 50) (.t 59) (oB false), none, .read, 1, false⟩])
 (.cond (.t 60) .skip (.exit 2)))
 (.block 3 (.region [oM 61 6, oW 62 (.arith .add (.t 61) (oI 1)), oM 6 62])))
def t20k0 : DCode :=
 (.seq (.draw [oRA 64 2 2, oRD 65 64, oRM 66 6, oR 67 (.sliceSl 4 (.t 65) none (some (.t 66))), ⟨(some 63), .buildSlice 42 4 (.agg [(.int .i64 0), (.int .i64 0), .nsl, (.int .i64 0)]) 0 [], none, .create, 0, false⟩, ⟨(some 68), .append 42 4 48 (.t 63) (.t 67), none, .create, 0, false⟩, oRL 69 4 3, ⟨(some 70), .buildSlice 42 4 (.agg [(.int .i64 0), (.int .i64 0), .nsl, (.int .i64 0)]) 1 [(0, (.t 69))], none, .create, 0, false⟩, ⟨(some 71), .append 42 4 48 (.t 68) (.t 70), none, .create, 0, false⟩, oRA 72 2 2, oRD 73 72, oRM 74 6, oR 75 (.sliceSl 4 (.t 73) (some (.t 74)) none), ⟨(some 76), .append 42 4 48 (.t 71) (.t 75), none, .write, 4, false⟩, ⟨(some 77), .fieldAddr 2 (.t 2), none, .read, 5, false⟩, ⟨none, .store 1 (.t 77) (.t 76), none, .write, 5, false⟩])
 (.seq (.region [oL 78 6 2, oS 6 4 78, oW 5 (.move (oB true))])
 .ret))
def t20k1 : DCode :=
 (.seq (.draw [oRA 30 3 2, oRD 31 30, oRM 32 6, oR 33 (.sliceSl 2 (.t 31) none (some (.t 32))), ⟨(some 29), .buildSlice 37 2 (.agg [(.int .i64 0), (.int .i64 0)]) 0 [], none, .create, 0, false⟩, ⟨(some 34), .append 37 2 16 (.t 29) (.t 33), none, .create, 0, false⟩, oRA 35 0 3, oRL 36 2 35, ⟨(some 37), .buildSlice 37 2 (.agg [(.int .i64 0), (.int .i64 0)]) 1 [(0, (.t 36))], none, .create, 0, false⟩, ⟨(some 38), .append 37 2 16 (.t 34) (.t 37), none, .create, 0, false⟩, oRA 39 3 2, oRD 40 39, oRM 41 6, oR 42 (.sliceSl 2 (.t 40) (some (.t 41)) none), ⟨(some 43), .append 37 2 16 (.t 38) (.t 42), none, .write, 4, false⟩, ⟨(some 44), .fieldAddr 3 (.t 2), none, .read, 5, false⟩, ⟨none, .store 1 (.t 44) (.t 43), none, .write, 5, false⟩])
 (.seq (.region [oW 6 (.move (oI 0))])
 (.seq (.block 2 (.loop t20l1))
 t20k0)))
def t20 : DFunc := { ntmps := 79, results := [(.cell 4 (some 6)), (.t 5)], mode := .frz, body :=
 (.seq (.region [oW 2 (.box 29 6 (.t 0)), oW 3 (.box 42 4 (.t 1)), oW 4 (.alloc 29 6 (.agg [(.int .i64 0), .nsl, .nsl, .nsl, .nsl, .nsl])), oW 5 (.move (oB false))])
 (.seq (.seq (.region [oL 7 6 2, oA 8 0 3, oL 9 2 8, oW 10 (.call (oF 75) [(.t 7), (.t 9)])])
 (.cond (.t 10) (.seq (.region [oL 11 6 2, oS 6 4 11, oW 5 (.move (oB false))])
 .ret) .skip))
 (.seq (.region [oW 6 (.move (oI 0))])
 (.seq (.block 0 (.loop t20l0))
 t20k1)))) }
theorem c20 : compFunc Tryz.prog Tryz.f20 .frz = some t20 := by kernel_rfl
def t22l0 : DCode :=
 (.seq (.region [oW 45 (.arith .lss (.t 44) (.t 43))])
 (.seq (.cond (.t 45) .skip (.exit 0))
 (.seq (.block 1 (.seq (.region [oW 46 (.indexAddr 7 (.t 42) (.t 44)), oL 47 7 46, oW 11 (.alloc 58 7 (.agg [(.int .i64 0), (.int .i64 0), (.int .i64 0), (.int .i64 0), .nsl, (.int .i64 0), (.bool false)])), oS 7 11 47])
 (.seq (.region [oA 48 0 11, oL 49 2 48, oL 50 2 4, oW 51 (.eqa true [1, 1] (.t 49) (.t 50))])
 (.cond (.t 51) (.region [oM 52 9, oL 53 7 11, oW 54 (.buildSlice 58 7 (.agg [(.int .i64 0), (.int .i64 0), (.int .i64 0), (.int .i64 0), .nsl, (.int .i64 0), (.bool false)]) 1 [(0, (.t 53))]), oW 55 (.append 58 7 72 (.t 52) (.t 54)), oM 9 55]) .skip))))
 (.region [oW 56 (.arith .add (.t 44) (oI 1)), oM 44 56]))))
def t22k0 : DCode :=
 (.seq (.region [oM 57 9, oA 58 4 3, oS 1 58 57])
 (.seq (.region [oL 59 6 3, oS 6 6 59, oW 7 (.move (oB true))])
 .ret))
def t22 : DFunc := { ntmps := 60, results := [(.cell 6 (some 6)), (.t 7)], mode := .frz, body :=
 (.seq (.region [oW 3 (.box 29 6 (.t 0)), oW 4 (.box 37 2 (.t 1)), oW 6 (.alloc 29 6 (.agg [(.int .i64 0), .nsl, .nsl, .nsl, .nsl, .nsl])), oW 7 (.move (oB false))])
 (.seq (.region [oL 12 6 3, oL 13 2 4, oW 14 (.call (oF 24) [(.t 12), (.t 13)]), oM 8 14])
 (.seq (.seq (.region [oM 15 8, oW 16 (.arith .lss (.t 15) (oI 0)), oM 17 16, ⟨(some 18), .fieldAddr 2 (.t 3), (some (17, false)), .write, 0, false⟩, ⟨(some 19), .load none (.t 18), (some (17, false)), .write, 0, false⟩, ⟨(some 20), .move (.t 8), (some (17, false)), .write, 0, false⟩, ⟨(some 21), .indexAddr 4 (.t 19) (.t 20), (some (17, false)), .write, 0, false⟩, ⟨(some 22), .fieldAddr 3 (.t 21), (some (17, false)), .write, 0, false⟩, ⟨(some 23), .load none (.t 22), (some (17, false)), .write, 0, false⟩, ⟨(some 24), .move (.t 2), (some (17, false)), .write, 0, false⟩, ⟨(some 25), .arith .neq (.t 23) (.t 24), (some (17, false)), .write, 0, false⟩, oW 26 (.pick (.t 17) (oB true) (.t 25))])
 (.cond (.t 26) (.seq (.region [oL 27 6 3, oS 6 6 27, oW 7 (.move (oB false))])
 .ret) .skip))
 (.seq (.draw [oRA 29 2 3, oRD 30 29, oRM 31 8, oR 32 (.sliceSl 4 (.t 30) none (some (.t 31))), ⟨(some 28), .buildSlice 42 4 (.agg [(.int .i64 0), (.int .i64 0), .nsl, (.int .i64 0)]) 0 [], none, .create, 0, false⟩, ⟨(some 33), .append 42 4 48 (.t 28) (.t 32), none, .create, 0, false⟩, oRA 34 2 3, oRD 35 34, oRM 36 8, oR 37 (.arith .add (.t 36) (oI 1)), oR 38 (.sliceSl 4 (.t 35) (some (.t 37)) none), ⟨(some 39), .append 42 4 48 (.t 33) (.t 38), none, .write, 2, false⟩, ⟨(some 40), .fieldAddr 2 (.t 3), none, .read, 3, false⟩, ⟨none, .store 1 (.t 40) (.t 39), none, .write, 3, false⟩])
 (.seq (.region [oW 9 (.move (.c .nsl))])
 (.seq (.seq (.region [oA 41 4 3, oD 42 41, oW 43 (.len 1 (.t 42)), oW 44 (.move (oI 0))])
 (.block 0 (.loop t22l0)))
 t22k0)))))) }
theorem c22 : compFunc Tryz.prog Tryz.f22 .frz = some t22 := by kernel_rfl
def t23 : DFunc := { ntmps := 22, results := [(.cell 4 (some 4)), (.t 5)], mode := .pure, body :=
 (.seq (.region [oW 2 (.box 29 6 (.t 0)), oW 3 (.box 37 2 (.t 1)), oW 4 (.alloc 42 4 (.agg [(.int .i64 0), (.int .i64 0), .nsl, (.int .i64 0)])), oW 5 (.move (oB false))])
 (.seq (.region [oL 9 6 2, oL 10 2 3, oW 11 (.call (oF 72) [(.t 9), (.t 10)]), oM 8 11, oX 12 8 0, oX 13 8 1, oM 6 12, oM 7 13])
 (.seq (.seq (.region [oM 14 7, oW 15 (.un .not (.t 14))])
 (.cond (.t 15) (.seq (.region [oW 16 (.build [(.int .i64 0), (.int .i64 0), .nsl, (.int .i64 0)] []), oS 4 4 16, oW 5 (.move (oB false))])
 .ret) .skip))
 (.seq (.region [oA 17 2 2, oD 18 17, oM 19 6, oW 20 (.indexAddr 4 (.t 18) (.t 19)), oL 21 4 20, oS 4 4 21, oW 5 (.move (oB true))])
 .ret)))) }
theorem c23 : compFunc Tryz.prog Tryz.f23 .pure = some t23 := by kernel_rfl
def t24l0 : DCode :=
 (.seq (.region [oW 11 (.arith .lss (.t 10) (.t 9))])
 (.seq (.cond (.t 11) .skip (.exit 0))
 (.seq (.block 1 (.seq (.region [oM 12 10, oW 13 (.indexAddr 4 (.t 8) (.t 10)), oL 14 4 13, oW 6 (.alloc 42 4 (.agg [(.int .i64 0), (.int .i64 0), .nsl, (.int .i64 0)])), oM 5 12, oS 4 6 14])
 (.seq (.region [oA 15 0 6, oL 16 2 15, oL 17 2 3, oW 18 (.eqa false [1, 1] (.t 16) (.t 17))])
 (.cond (.t 18) (.seq (.region [oM 19 5, oM 4 19])
 .ret) .skip))))
 (.region [oW 20 (.arith .add (.t 10) (oI 1)), oM 10 20]))))
def t24k0 : DCode :=
 (.seq (.region [oW 4 (.move (oI (-1)))])
 .ret)
def t24 : DFunc := { ntmps := 21, results := [(.t 4)], mode := .pure, body :=
 (.seq (.region [oW 2 (.box 29 6 (.t 0)), oW 3 (.box 37 2 (.t 1)), oW 4 (.move (oI 0))])
 (.seq (.seq (.region [oA 7 2 2, oD 8 7, oW 9 (.len 1 (.t 8)), oW 10 (.move (oI 0))])
 (.block 0 (.loop t24l0)))
 t24k0)) }
theorem c24 : compFunc Tryz.prog Tryz.f24 .pure = some t24 := by kernel_rfl
def t26 : DFunc := { ntmps := 45, results := [(.t 4)], mode := .pure, body :=
 (.seq (.region [oW 2 (.box 29 6 (.t 0)), oW 3 (.box 29 6 (.t 1)), oW 4 (.move (oB false))])
 (.seq (.region [oA 5 0 2, oD 6 5, oA 7 0 3, oD 8 7, oW 9 (.arith .eql (.t 6) (.t 8)), oM 10 9, ⟨(some 11), .fieldAddr 1 (.t 2), (some (10, true)), .write, 0, false⟩, ⟨(some 12), .load none (.t 11), (some (10, true)), .write, 0, false⟩, ⟨(some 13), .fieldAddr 1 (.t 3), (some (10, true)), .write, 0, false⟩, ⟨(some 14), .load none (.t 13), (some (10, true)), .write, 0, false⟩, ⟨(some 15), .call (oF 82) [(.t 12), (.t 14)], (some (10, true)), .write, 0, false⟩, oW 16 (.pick (.t 10) (.t 15) (oB false)), oM 17 16, ⟨(some 18), .fieldAddr 3 (.t 2), (some (17, true)), .write, 0, false⟩, ⟨(some 19), .load none (.t 18), (some (17, true)), .write, 0, false⟩, ⟨(some 20), .fieldAddr 3 (.t 3), (some (17, true)), .write, 0, false⟩, ⟨(some 21), .load none (.t 20), (some (17, true)), .write, 0, false⟩, ⟨(some 22), .call (oF 83) [(.t 19), (.t 21)], (some (17, true)), .write, 0, false⟩, oW 23 (.pick (.t 17) (.t 22) (oB false)), oM 24 23, ⟨(some 25), .fieldAddr 2 (.t 2), (some (24, true)), .write, 0, false⟩, ⟨(some 26), .load none (.t 25), (some (24, true)), .write, 0, false⟩, ⟨(some 27), .fieldAddr 2 (.t 3), (some (24, true)), .write, 0, false⟩, ⟨(some 28), .load none (.t 27), (some (24, true)), .write, 0, false⟩, ⟨(some 29), .call (oF 84) [(.t 26), (.t 28), (oF 85)], (some (24, true)), .write, 0, false⟩, oW 30 (.pick (.t 24) (.t 29) (oB false)), oM 31 30, ⟨(some 32), .fieldAddr 4 (.t 2), (some (31, true)), .write, 0, false⟩, ⟨(some 33), .load none (.t 32), (some (31, true)), .write, 0, false⟩, ⟨(some 34), .fieldAddr 4 (.t 3), (some (31, true)), .write, 0, false⟩, ⟨(some 35), .load none (.t 34), (some (31, true)), .write, 0, false⟩, ⟨(some 36), .call (oF 87) [(.t 33), (.t 35), (oF 88)], (some (31, true)), .write, 0, false⟩, oW 37 (.pick (.t 31) (.t 36) (oB false)), oM 38 37, ⟨(some 39), .fieldAddr 5 (.t 2), (some (38, true)), .write, 0, false⟩, ⟨(some 40), .load none (.t 39), (some (38, true)), .write, 0, false⟩, ⟨(some 41), .fieldAddr 5 (.t 3), (some (38, true)), .write, 0, false⟩, ⟨(some 42), .load none (.t 41), (some (38, true)), .write, 0, false⟩, ⟨(some 43), .call (oF 89) [(.t 40), (.t 42), (oF 90)], (some (38, true)), .write, 0, false⟩, oW 44 (.pick (.t 38) (.t 43) (oB false)), oM 4 44])
 .ret)) }
theorem c26 : compFunc Tryz.prog Tryz.f26 .pure = some t26 := by kernel_rfl
def t29s0 : DCode :=
 (.region [oW 25 (.arith .add (.t 15) (oI 1)), oM 15 25])
def t29l0 : DCode :=
 (.seq (.region [oW 16 (.arith .lss (.t 15) (.t 14))])
 (.seq (.cond (.t 16) .skip (.exit 0))
 (.seq (.block 1 (.seq (.region [oM 17 15, oM 4 17])
 (.region [oA 18 1 3, oD 19 18, oM 20 4, oW 21 (.arith .add (.t 20) (oI 1)), oW 22 (.buildSlice 3 1 (.int .i64 0) 1 [(0, (.t 21))]), oW 23 (.append 3 1 8 (.t 19) (.t 22)), oA 24 1 3, oS 1 24 23])))
 t29s0)))
def t29s1 : DCode :=
 (.region [oM 35 5, oW 36 (.arith .add (.t 35) (oI 1)), oM 5 36])
def t29l1 : DCode :=
 (.seq (.seq (.region [oM 26 5, oA 27 1 1, oD 28 27, oW 29 (.len 1 (.t 28)), oW 30 (.arith .lss (.t 26) (.t 29)), oM 31 30, ⟨(some 32), .move (.t 5), (some (31, true)), .write, 0, false⟩, ⟨(some 33), .arith .lss (.t 32) (oI 12), (some (31, true)), .write, 0, false⟩, oW 34 (.pick (.t 31) (.t 33) (oB false))])
 (.cond (.t 34) .skip (.exit 2)))
 (.seq (.block 3 (.seq (.region [oA 37 1 1, oD 38 37, oM 39 5, oW 40 (.indexAddr 7 (.t 38) (.t 39)), oL 41 7 40, oW 6 (.alloc 96 7 (.agg [(.int .i64 0), (.int .i64 0), (.int .i64 0), (.int .i64 0), (.int .i64 0), .nsl, .nsl])), oS 7 6 41])
 (.seq (.region [oA 42 2 6, oD 43 42, oW 44 (.call (oF 16) [(.t 43), (oI 0), (oI 2)]), oW 45 (.build [(.int .i64 0), (.int .i64 0)] [(0, 1, (.t 44))]), oW 7 (.alloc 37 2 (.agg [(.int .i64 0), (.int .i64 0)])), oS 2 7 45])
 (.seq (.draw [oRA 46 3 6, oRD 47 46, ⟨(some 48), .call (oF 16) [(.t 47), (oI 0), (oI 4)], none, .create, 0, false⟩, oRA 49 4 6, oRD 50 49, ⟨(some 51), .call (oF 16) [(.t 50), (oI 0), (oI 2)], none, .write, 1, false⟩, ⟨(some 52), .build [(.int .i64 0), (.int .i64 0)] [(0, 1, (.t 48)), (1, 1, (.t 51))], none, .read, 2, false⟩, ⟨(some 8), .alloc 37 2 (.agg [(.int .i64 0), (.int .i64 0)]), none, .create, 0, false⟩, ⟨none, .store 2 (.t 8) (.t 52), none, .write, 3, false⟩])
 (.seq (.region [oL 53 6 3, oA 54 1 6, oD 55 54, oW 56 (.call (oF 30) [(.t 53), (.t 55)]), oM 9 56])
 (.seq (.draw [oRA 57 0 6, oRD 58 57, ⟨(some 59), .call (oF 16) [(.t 58), (oI 1), (oI 7)], none, .create, 0, false⟩, oRL 60 2 7, oRL 61 2 8, oRA 62 5 6, oRL 63 2 62, ⟨(some 64), .call (oF 18) [(.t 63)], none, .create, 0, false⟩, ⟨(some 65), .build [(.int .i64 0), (.int .i64 0), (.int .i64 0), (.int .i64 0), (.int .i64 0), .nsl, .nsl] [(0, 1, (.t 59)), (1, 2, (.t 60)), (3, 2, (.t 61)), (5, 1, (.t 64))], none, .read, 2, false⟩, ⟨(some 10), .alloc 84 7 (.agg [(.int .i64 0), (.int .i64 0), (.int .i64 0), (.int .i64 0), (.int .i64 0), .nsl, .nsl]), none, .create, 0, false⟩, ⟨none, .store 7 (.t 10) (.t 65), none, .write, 3, false⟩])
 (.block 4 (.seq (.region [oA 75 0 10, oD 76 75, oW 77 (.arith .eql (.t 76) (oI 6)), oM 74 77])
 (.cond (.t 74) (.region [oL 79 6 3, oL 80 2 8, oA 81 5 10, oD 82 81, oW 83 (.call (oF 46) [(.t 79), (.t 80), (.t 82)]), oM 78 83, oX 84 78 0, oX 85 78 1, oS 6 3 84]) (.seq (.region [oA 87 0 10, oD 88 87, oW 89 (.arith .eql (.t 88) (oI 7)), oM 86 89])
 (.cond (.t 86) (.region [oL 91 6 3, oL 92 2 8, oW 93 (.call (oF 61) [(.t 91), (.t 92)]), oM 90 93, oX 94 90 0, oX 95 90 1, oS 6 3 94]) (.seq (.seq (.region [oA 97 0 10, oD 98 97, oW 99 (.arith .eql (.t 98) (oI 3)), oM 100 99, ⟨(some 101), .move (.t 9), (some (100, true)), .write, 0, false⟩, ⟨(some 102), .arith .eql (.t 101) (oI (-1)), (some (100, true)), .write, 0, false⟩, oW 103 (.pick (.t 100) (.t 102) (oB false)), oM 96 103])
 (.cond (.t 96) .skip (.seq (.region [oA 104 0 10, oD 105 104, oW 106 (.arith .eql (.t 105) (oI 4)), oM 107 106, ⟨(some 108), .move (.t 9), (some (107, true)), .write, 0, false⟩, ⟨(some 109), .arith .eql (.t 108) (oI (-1)), (some (107, true)), .write, 0, false⟩, oW 110 (.pick (.t 107) (.t 109) (oB false)), oM 96 110])
 (.cond (.t 96) .skip (.region [oA 111 0 10, oD 112 111, oW 113 (.arith .eql (.t 112) (oI 5)), oM 96 113])))))
 (.cond (.t 96) (.region [oL 115 6 3, oM 116 9, oL 117 2 7, oA 118 5 10, oD 119 118, oW 120 (.call (oF 59) [(.t 115), (.t 116), (.t 117), (.t 119)]), oM 114 120, oX 121 114 0, oX 122 114 1, oS 6 3 121]) (.region [oL 67 6 3, oM 68 9, oL 69 7 10, oW 70 (.call (oF 111) [(.t 67), (.t 68), (.t 69)]), oM 66 70, oX 71 66 0, oX 72 66 1, oX 73 66 2, oS 6 3 71]))))))))))))))
 t29s1))
def t29k0 : DCode :=
 (.seq (.region [oL 123 6 3, oS 6 2 123])
 .ret)
def t29k1 : DCode :=
 (.seq (.seq (.region [oW 5 (.move (oI 0))])
 (.block 2 (.loop t29l1)))
 t29k0)
def t29 : DFunc := { ntmps := 124, results := [(.cell 2 (some 6))], mode := .pure, body :=
 (.seq (.region [oW 1 (.box 55 2 (.t 0)), oW 2 (.alloc 29 6 (.agg [(.int .i64 0), .nsl, .nsl, .nsl, .nsl, .nsl]))])
 (.seq (.region [oW 11 (.build [(.int .i64 0), .nsl, .nsl, .nsl, .nsl, .nsl] [(0, 1, (oI 0))]), oW 3 (.alloc 29 6 (.agg [(.int .i64 0), .nsl, .nsl, .nsl, .nsl, .nsl])), oS 6 3 11])
 (.seq (.seq (.region [oA 12 0 1, oD 13 12, oW 14 (.call (oF 16) [(.t 13), (oI 1), (oI 4)]), oW 15 (.move (oI 0))])
 (.block 0 (.loop t29l0)))
 t29k1))) }
theorem c29 : compFunc Tryz.prog Tryz.f29 .pure = some t29 := by kernel_rfl
def t30 : DFunc := { ntmps := 21, results := [(.t 4)], mode := .pure, body :=
 (.seq (.region [oW 2 (.box 29 6 (.t 0)), oW 4 (.move (oI 0))])
 (.seq (.seq (.region [oM 6 1, oA 7 1 2, oD 8 7, oW 9 (.len 1 (.t 8)), oW 10 (.call (oF 16) [(.t 6), (oI 0), (.t 9)]), oM 5 10])
 (.seq (.region [oM 11 5, oA 12 1 2, oD 13 12, oW 14 (.len 1 (.t 13)), oW 15 (.arith .lss (.t 11) (.t 14))])
 (.cond (.t 15) (.seq (.region [oA 16 1 2, oD 17 16, oM 18 5, oW 19 (.indexAddr 1 (.t 17) (.t 18)), oD 20 19, oM 4 20])
 .ret) .skip)))
 (.seq (.region [oW 4 (.move (oI (-1)))])
 .ret))) }
theorem c30 : compFunc Tryz.prog Tryz.f30 .pure = some t30 := by kernel_rfl
def t31 : DFunc := { ntmps := 73, results := [(.cell 4 (some 6)), (.t 5)], mode := .frz, body :=
 (.seq (.region [oW 2 (.box 29 6 (.t 0)), oW 3 (.box 58 7 (.t 1)), oW 4 (.alloc 29 6 (.agg [(.int .i64 0), .nsl, .nsl, .nsl, .nsl, .nsl])), oW 5 (.move (oB false))])
 (.seq (.region [oA 11 4 2, oD 12 11, oW 13 (.call (oF 112) [(.t 12)]), oA 14 4 2, oS 1 14 13])
 (.seq (.region [oL 16 6 2, oA 17 0 3, oL 18 2 17, oW 19 (.call (oF 23) [(.t 16), (.t 18)]), oM 15 19, oX 20 15 0, oX 21 15 1, oW 6 (.alloc 42 4 (.agg [(.int .i64 0), (.int .i64 0), .nsl, (.int .i64 0)])), oS 4 6 20, oM 7 21])
 (.seq (.region [oL 23 6 2, oA 24 0 3, oL 25 2 24, oA 26 2 3, oL 27 2 26, oW 28 (.call (oF 113) [(.t 23), (.t 25), (.t 27)]), oM 22 28, oX 29 22 0, oX 30 22 1, oM 8 29, oM 9 30])
 (.seq (.region [oA 31 3 6, oD 32 31, oW 33 (.arith .eql (.t 32) (oI (-1))), oM 10 33])
 (.seq (.seq (.region [oM 34 7, oW 35 (.un .not (.t 34)), oM 36 35, ⟨(some 37), .move (.t 9), (some (36, false)), .write, 0, false⟩, oW 38 (.pick (.t 36) (oB true) (.t 37)), oM 39 38, ⟨(some 40), .fieldAddr 5 (.t 3), (some (39, false)), .write, 0, false⟩, ⟨(some 41), .load none (.t 40), (some (39, false)), .write, 0, false⟩, ⟨(some 42), .fieldAddr 3 (.t 6), (some (39, false)), .write, 0, false⟩, ⟨(some 43), .load none (.t 42), (some (39, false)), .write, 0, false⟩, ⟨(some 44), .arith .eql (.t 41) (.t 43), (some (39, false)), .write, 0, false⟩, ⟨(some 45), .move (.t 44), (some (39, false)), .write, 0, false⟩, ⟨(some 46), .move (.t 10), (some (45, true)), .write, 0, false⟩, ⟨(some 47), .un .not (.t 46), (some (45, true)), .write, 0, false⟩, ⟨(some 48), .pick (.t 45) (.t 47) (oB false), (some (39, false)), .write, 0, false⟩, oW 49 (.pick (.t 39) (oB true) (.t 48))])
 (.cond (.t 49) (.seq (.region [oL 50 6 2, oS 6 4 50, oW 5 (.move (oB false))])
 .ret) .skip))
 (.seq (.region [oM 51 10, oW 52 (.un .not (.t 51)), oM 53 52, ⟨(some 54), .load (some 6) (.t 2), (some (53, true)), .write, 0, false⟩, ⟨(some 55), .fieldAddr 0 (.t 3), (some (53, true)), .write, 0, false⟩, ⟨(some 56), .load (some 2) (.t 55), (some (53, true)), .write, 0, false⟩, ⟨(some 57), .fieldAddr 4 (.t 3), (some (53, true)), .write, 0, false⟩, ⟨(some 58), .load none (.t 57), (some (53, true)), .write, 0, false⟩, ⟨(some 59), .call (oF 35) [(.t 54), (.t 56), (.t 58)], (some (53, true)), .write, 0, false⟩, ⟨(some 60), .un .not (.t 59), (some (53, true)), .write, 0, false⟩, oW 61 (.pick (.t 53) (.t 60) (oB false)), oA 62 6 3, oS 1 62 61])
 (.seq (.region [oA 63 4 2, oD 64 63, oM 65 8, oL 66 7 3, oW 67 (.buildSlice 58 7 (.agg [(.int .i64 0), (.int .i64 0), (.int .i64 0), (.int .i64 0), .nsl, (.int .i64 0), (.bool false)]) 1 [(0, (.t 66))]), oW 68 (.call (oF 114) [(.t 64), (.t 65), (.t 67)]), oA 69 4 2, oS 1 69 68])
 (.seq (.draw [⟨(some 70), .load (some 6) (.t 2), none, .read, 0, true⟩, oRA 71 6 3, oRD 72 71, ⟨none, .store 6 (.t 4) (.t 70), none, .create, 0, false⟩, ⟨(some 5), .move (.t 72), none, .read, 1, false⟩])
 .ret))))))))) }
theorem c31 : compFunc Tryz.prog Tryz.f31 .frz = some t31 := by kernel_rfl
def t32 : DFunc := { ntmps := 25, results := [(.cell 6 (some 7)), (.t 7)], mode := .pure, body :=
 (.seq (.region [oW 3 (.box 29 6 (.t 0)), oW 4 (.box 37 2 (.t 1)), oW 5 (.box 37 2 (.t 2)), oW 6 (.alloc 58 7 (.agg [(.int .i64 0), (.int .i64 0), (.int .i64 0), (.int .i64 0), .nsl, (.int .i64 0), (.bool false)])), oW 7 (.move (oB false))])
 (.seq (.region [oL 11 6 3, oL 12 2 4, oL 13 2 5, oW 14 (.call (oF 113) [(.t 11), (.t 12), (.t 13)]), oM 10 14, oX 15 10 0, oX 16 10 1, oM 8 15, oM 9 16])
 (.seq (.seq (.region [oM 17 9, oW 18 (.un .not (.t 17))])
 (.cond (.t 18) (.seq (.region [oW 19 (.build [(.int .i64 0), (.int .i64 0), (.int .i64 0), (.int .i64 0), .nsl, (.int .i64 0), (.bool false)] []), oS 7 6 19, oW 7 (.move (oB false))])
 .ret) .skip))
 (.seq (.region [oA 20 4 3, oD 21 20, oM 22 8, oW 23 (.indexAddr 7 (.t 21) (.t 22)), oL 24 7 23, oS 7 6 24, oW 7 (.move (oB true))])
 .ret)))) }
theorem c32 : compFunc Tryz.prog Tryz.f32 .pure = some t32 := by kernel_rfl
def t33 : DFunc := { ntmps := 78, results := [(.t 0)], mode := .pure, body :=
 (.seq (.region [oW 0 (.move (oB false))])
 (.seq (.region [oW 10 (.build [(.int .i64 0), (.int .i64 0)] [(0, 1, (oI 1))]), oW 1 (.alloc 37 2 (.agg [(.int .i64 0), (.int .i64 0)])), oS 2 1 10])
 (.seq (.region [oW 2 (.move (oF 115))])
 (.seq (.draw [⟨(some 12), .buildSlice 3 1 (.int .i64 0) 2 [(0, (oI 1)), (1, (oI 2))], none, .create, 0, false⟩, ⟨(some 13), .call (oF 15) [(oI 0), (.t 12)], none, .create, 0, false⟩, oRL 14 2 1, oR 15 (.build [(.int .i64 0), (.int .i64 0), .nsl, (.int .i64 0)] [(0, 2, (.t 14)), (3, 1, (oI 1))]), ⟨(some 16), .call (oF 19) [(.t 13), (.t 15)], none, .write, 2, false⟩, ⟨(some 11), .move (.t 16), none, .read, 3, false⟩, ⟨(some 17), .extract (.t 11) 0, none, .read, 3, false⟩, ⟨(some 3), .alloc 29 6 (.agg [(.int .i64 0), .nsl, .nsl, .nsl, .nsl, .nsl]), none, .create, 0, false⟩, ⟨none, .store 6 (.t 3) (.t 17), none, .write, 4, false⟩, ⟨(some 18), .extract (.t 11) 1, none, .read, 3, false⟩, ⟨(some 4), .move (.t 18), none, .read, 5, false⟩])
 (.seq (.draw [oRL 20 6 3, oRL 21 2 1, oRM 23 2, ⟨(some 24), .call (.t 23) [(oI 1), (oI 9)], none, .create, 0, false⟩, oR 22 (.build [(.int .i64 0), (.int .i64 0)] [(0, 1, (oI 2))]), ⟨(some 25), .build [(.int .i64 0), (.int .i64 0), (.int .i64 0), (.int .i64 0), .nsl, (.int .i64 0), (.bool false)] [(0, 2, (.t 21)), (2, 2, (.t 22)), (4, 1, (.t 24)), (5, 1, (oI 2))], none, .read, 1, false⟩, ⟨(some 26), .call (oF 31) [(.t 20), (.t 25)], none, .write, 1, false⟩, ⟨(some 19), .move (.t 26), none, .read, 2, false⟩, ⟨(some 27), .extract (.t 19) 0, none, .read, 2, false⟩, ⟨none, .store 6 (.t 3) (.t 27), none, .write, 2, false⟩, ⟨(some 28), .extract (.t 19) 1, none, .read, 2, false⟩, ⟨(some 5), .move (.t 28), none, .read, 3, false⟩])
 (.seq (.draw [oRL 30 6 3, oRL 31 2 1, oRM 33 2, ⟨(some 34), .call (.t 33) [(oI 2), (oI 3)], none, .create, 0, false⟩, oR 32 (.build [(.int .i64 0), (.int .i64 0)] [(0, 1, (oI 3))]), ⟨(some 35), .build [(.int .i64 0), (.int .i64 0), (.int .i64 0), (.int .i64 0), .nsl, (.int .i64 0), (.bool false)] [(0, 2, (.t 31)), (2, 2, (.t 32)), (4, 1, (.t 34)), (5, 1, (oI 2))], none, .read, 1, false⟩, ⟨(some 36), .call (oF 31) [(.t 30), (.t 35)], none, .write, 1, false⟩, ⟨(some 29), .move (.t 36), none, .read, 2, false⟩, ⟨(some 37), .extract (.t 29) 0, none, .read, 2, false⟩, ⟨none, .store 6 (.t 3) (.t 37), none, .write, 2, false⟩, ⟨(some 38), .extract (.t 29) 1, none, .read, 2, false⟩, ⟨(some 6), .move (.t 38), none, .read, 3, false⟩])
 (.seq (.region [oL 40 6 3, oL 41 2 1, oW 42 (.build [(.int .i64 0), (.int .i64 0)] [(0, 1, (oI 2))]), oW 43 (.call (oF 34) [(.t 40), (.t 41), (.t 42), (oI 2)]), oM 39 43, oX 44 39 0, oX 45 39 1, oX 46 39 2, oW 7 (.alloc 29 6 (.agg [(.int .i64 0), .nsl, .nsl, .nsl, .nsl, .nsl])), oS 6 7 44, oM 8 45, oM 9 46])
 (.seq (.region [oM 47 5, oM 48 47, ⟨(some 49), .move (.t 6), (some (48, true)), .write, 0, false⟩, ⟨(some 50), .un .not (.t 49), (some (48, true)), .write, 0, false⟩, oW 51 (.pick (.t 48) (.t 50) (oB false)), oM 52 51, ⟨(some 53), .move (.t 9), (some (52, true)), .write, 0, false⟩, oW 54 (.pick (.t 52) (.t 53) (oB false)), oM 55 54, ⟨(some 56), .move (.t 8), (some (55, true)), .write, 0, false⟩, ⟨(some 57), .len 1 (.t 56), (some (55, true)), .write, 0, false⟩, ⟨(some 58), .arith .eql (.t 57) (oI 1), (some (55, true)), .write, 0, false⟩, oW 59 (.pick (.t 55) (.t 58) (oB false)), oM 60 59, ⟨(some 61), .move (.t 8), (some (60, true)), .write, 0, false⟩, ⟨(some 62), .indexAddr 7 (.t 61) (oI 0), (some (60, true)), .write, 0, false⟩, ⟨(some 63), .fieldAddr 2 (.t 62), (some (60, true)), .write, 0, false⟩, ⟨(some 64), .load (some 2) (.t 63), (some (60, true)), .write, 0, false⟩, ⟨(some 65), .build [(.int .i64 0), (.int .i64 0)] [(0, 1, (oI 3))], (some (60, true)), .write, 0, false⟩, ⟨(some 66), .eqa false [1, 1] (.t 64) (.t 65), (some (60, true)), .write, 0, false⟩, oW 67 (.pick (.t 60) (.t 66) (oB false)), oM 68 67, ⟨(some 69), .move (.t 8), (some (68, true)), .write, 0, false⟩, ⟨(some 70), .indexAddr 7 (.t 69) (oI 0), (some (68, true)), .write, 0, false⟩, ⟨(some 71), .fieldAddr 6 (.t 70), (some (68, true)), .write, 0, false⟩, ⟨(some 72), .load none (.t 71), (some (68, true)), .write, 0, false⟩, oW 73 (.pick (.t 68) (.t 72) (oB false)), oM 74 73, ⟨(some 75), .load (some 6) (.t 3), (some (74, true)), .write, 0, false⟩, ⟨(some 76), .call (oF 41) [(.t 75)], (some (74, true)), .write, 0, false⟩, oW 77 (.pick (.t 74) (.t 76) (oB false)), oM 0 77])
 .ret)))))))) }
theorem c33 : compFunc Tryz.prog Tryz.f33 .pure = some t33 := by kernel_rfl
def t34l0 : DCode :=
 (.seq (.region [oW 59 (.arith .lss (.t 58) (.t 57))])
 (.seq (.cond (.t 59) .skip (.exit 0))
 (.seq (.block 1 (.seq (.region [oM 60 58, oW 61 (.indexAddr 7 (.t 56) (.t 58)), oL 62 7 61, oW 14 (.alloc 58 7 (.agg [(.int .i64 0), (.int .i64 0), (.int .i64 0), (.int .i64 0), .nsl, (.int .i64 0), (.bool false)])), oM 13 60, oS 7 14 62])
 (.seq (.region [oA 63 0 14, oL 64 2 63, oL 65 2 5, oW 66 (.eqa false [1, 1] (.t 64) (.t 65)), oM 67 66, ⟨(some 68), .fieldAddr 6 (.t 14), (some (67, true)), .write, 0, false⟩, ⟨(some 69), .load none (.t 68), (some (67, true)), .write, 0, false⟩, ⟨(some 70), .un .not (.t 69), (some (67, true)), .write, 0, false⟩, oW 71 (.pick (.t 67) (.t 70) (oB false)), oM 72 71, ⟨(some 73), .load (some 6) (.t 4), (some (72, true)), .write, 0, false⟩, ⟨(some 74), .load (some 2) (.t 5), (some (72, true)), .write, 0, false⟩, ⟨(some 75), .fieldAddr 4 (.t 14), (some (72, true)), .write, 0, false⟩, ⟨(some 76), .load none (.t 75), (some (72, true)), .write, 0, false⟩, ⟨(some 77), .call (oF 35) [(.t 73), (.t 74), (.t 76)], (some (72, true)), .write, 0, false⟩, ⟨(some 78), .un .not (.t 77), (some (72, true)), .write, 0, false⟩, oW 79 (.pick (.t 72) (.t 78) (oB false))])
 (.cond (.t 79) (.seq (.region [oA 80 4 4, oD 81 80, oM 82 13, oW 83 (.indexAddr 7 (.t 81) (.t 82)), oA 84 6 83, oZ (.store 1 (.t 84) (oB true))])
 (.region [oM 85 9, oA 86 4 4, oD 87 86, oM 88 13, oW 89 (.indexAddr 7 (.t 87) (.t 88)), oL 90 7 89, oW 91 (.buildSlice 58 7 (.agg [(.int .i64 0), (.int .i64 0), (.int .i64 0), (.int .i64 0), .nsl, (.int .i64 0), (.bool false)]) 1 [(0, (.t 90))]), oW 92 (.append 58 7 72 (.t 85) (.t 91)), oM 9 92])) .skip))))
 (.region [oW 93 (.arith .add (.t 58) (oI 1)), oM 58 93]))))
def t34k0 : DCode :=
 (.seq (.region [oL 94 6 4, oM 95 9, oS 6 8 94, oM 9 95, oW 10 (.move (oB true))])
 .ret)
def t34 : DFunc := { ntmps := 96, results := [(.cell 8 (some 6)), (.t 9), (.t 10)], mode := .frz, body :=
 (.seq (.region [oW 4 (.box 29 6 (.t 0)), oW 5 (.box 37 2 (.t 1)), oW 6 (.box 37 2 (.t 2)), oW 8 (.alloc 29 6 (.agg [(.int .i64 0), .nsl, .nsl, .nsl, .nsl, .nsl])), oW 9 (.move (.c .nsl)), oW 10 (.move (oB false))])
 (.seq (.region [oA 15 4 4, oD 16 15, oW 17 (.call (oF 112) [(.t 16)]), oA 18 4 4, oS 1 18 17])
 (.seq (.region [oL 20 6 4, oL 21 2 5, oL 22 2 6, oW 23 (.call (oF 113) [(.t 20), (.t 21), (.t 22)]), oM 19 23, oX 24 19 0, oX 25 19 1, oM 11 24, oM 12 25])
 (.seq (.seq (.region [oM 26 12, oW 27 (.un .not (.t 26)), oM 28 27, ⟨(some 29), .fieldAddr 4 (.t 4), (some (28, false)), .write, 0, false⟩, ⟨(some 30), .load none (.t 29), (some (28, false)), .write, 0, false⟩, ⟨(some 31), .move (.t 11), (some (28, false)), .write, 0, false⟩, ⟨(some 32), .indexAddr 7 (.t 30) (.t 31), (some (28, false)), .write, 0, false⟩, ⟨(some 33), .fieldAddr 5 (.t 32), (some (28, false)), .write, 0, false⟩, ⟨(some 34), .load none (.t 33), (some (28, false)), .write, 0, false⟩, ⟨(some 35), .move (.t 3), (some (28, false)), .write, 0, false⟩, ⟨(some 36), .arith .neq (.t 34) (.t 35), (some (28, false)), .write, 0, false⟩, oW 37 (.pick (.t 28) (oB true) (.t 36))])
 (.cond (.t 37) (.seq (.region [oL 38 6 4, oS 6 8 38, oW 9 (.move (.c .nsl)), oW 10 (.move (oB false))])
 .ret) .skip))
 (.seq (.region [oA 39 4 4, oD 40 39, oM 41 11, oW 42 (.indexAddr 7 (.t 40) (.t 41)), oA 43 6 42, oD 44 43, oM 10 44])
 (.seq (.region [oA 45 4 4, oD 46 45, oM 47 11, oM 48 11, oW 49 (.arith .add (.t 48) (oI 1)), oW 50 (.call (oF 116) [(.t 46), (.t 47), (.t 49)]), oA 51 4 4, oS 1 51 50])
 (.seq (.seq (.region [oM 52 10, oW 53 (.un .not (.t 52))])
 (.cond (.t 53) (.seq (.region [oL 54 6 4, oS 6 8 54, oW 9 (.move (.c .nsl)), oW 10 (.move (oB false))])
 .ret) .skip))
 (.seq (.seq (.region [oA 55 4 4, oD 56 55, oW 57 (.len 1 (.t 56)), oW 58 (.move (oI 0))])
 (.block 0 (.loop t34l0)))
 t34k0)))))))) }
theorem c34 : compFunc Tryz.prog Tryz.f34 .frz = some t34 := by kernel_rfl
def t35 : DFunc := { ntmps := 12, results := [(.t 6)], mode := .pure, body :=
 (.seq (.region [oW 3 (.box 29 6 (.t 0)), oW 4 (.box 37 2 (.t 1)), oW 5 (.box 39 1 (.t 2)), oW 6 (.move (oB false))])
 (.seq (.region [oL 7 6 3, oL 8 2 4, oW 9 (.call (oF 40) [(.t 7), (.t 8)]), oW 10 (.makeFunc 117 [(.t 5)]), oW 11 (.call (oF 106) [(.t 9), (.t 10)]), oM 6 11])
 .ret)) }
theorem c35 : compFunc Tryz.prog Tryz.f35 .pure = some t35 := by kernel_rfl
def t36l0 : DCode :=
 (.seq (.region [oW 13 (.arith .lss (.t 12) (.t 11))])
 (.seq (.cond (.t 13) .skip (.exit 0))
 (.seq (.block 1 (.seq (.region [oW 14 (.indexAddr 7 (.t 10) (.t 12)), oL 15 7 14, oW 8 (.alloc 58 7 (.agg [(.int .i64 0), (.int .i64 0), (.int .i64 0), (.int .i64 0), .nsl, (.int .i64 0), (.bool false)])), oS 7 8 15])
 (.seq (.region [oA 16 0 8, oL 17 2 16, oL 18 2 4, oW 19 (.eqa false [1, 1] (.t 17) (.t 18)), oM 20 19, ⟨(some 21), .fieldAddr 6 (.t 8), (some (20, true)), .write, 0, false⟩, ⟨(some 22), .load none (.t 21), (some (20, true)), .write, 0, false⟩, oW 23 (.pick (.t 20) (.t 22) (oB false)), oM 24 23, ⟨(some 25), .fieldAddr 4 (.t 8), (some (24, true)), .write, 0, false⟩, ⟨(some 26), .load none (.t 25), (some (24, true)), .write, 0, false⟩, ⟨(some 27), .move (.t 2), (some (24, true)), .write, 0, false⟩, ⟨(some 28), .call (oF 118) [(.t 26), (.t 27)], (some (24, true)), .write, 0, false⟩, oW 29 (.pick (.t 24) (.t 28) (oB false))])
 (.cond (.t 29) (.seq (.region [oW 6 (.move (oB true))])
 .ret) .skip))))
 (.region [oW 30 (.arith .add (.t 12) (oI 1)), oM 12 30]))))
def t36k0 : DCode :=
 (.seq (.region [oW 6 (.move (oB false))])
 .ret)
def t36 : DFunc := { ntmps := 31, results := [(.t 6)], mode := .pure, body :=
 (.seq (.region [oW 3 (.box 29 6 (.t 0)), oW 4 (.box 37 2 (.t 1)), oW 6 (.move (oB false))])
 (.seq (.seq (.region [oA 9 4 3, oD 10 9, oW 11 (.len 1 (.t 10)), oW 12 (.move (oI 0))])
 (.block 0 (.loop t36l0)))
 t36k0)) }
theorem c36 : compFunc Tryz.prog Tryz.f36 .pure = some t36 := by kernel_rfl
def t37l0 : DCode :=
 (.seq (.seq (.draw [oRA 58 4 2, oRD 59 58, oRM 57 7, oR 60 (.len 1 (.t 59)), oR 61 (.arith .lss (.t 57) (.t 60)), oRM 62 61, ⟨(some 63), .fieldAddr 4 (.t 2), (some (62, true)), .read, 0, false⟩, ⟨(some 64), .load none (.t 63), (some (62, true)), .read, 0, false⟩, ⟨(some 65), .move (.t 7), (some (62, true)), .read, 0, false⟩, ⟨(some 66), .indexAddr 7 (.t 64) (.t 65), (some (62, true)), .read, 0, false⟩, ⟨(some 67), .fieldAddr 0 (.t 66), (some (62, true)), .read, 0, false⟩, ⟨(some 68), .load (some 2) (.t 67), (some (62, true)), .read, 0, false⟩, ⟨(some 69), .fieldAddr 0 (.t 3), (some (62, true)), .read, 0, false⟩, ⟨(some 70), .load (some 2) (.t 69), (some (62, true)), .read, 0, false⟩, ⟨(some 71), .call (oF 76) [(.t 68), (.t 70)], (some (62, true)), .write, 0, false⟩, ⟨(some 72), .move (.t 71), (some (62, true)), .read, 1, false⟩, ⟨(some 73), .fieldAddr 4 (.t 2), (some (72, false)), .read, 1, false⟩, ⟨(some 74), .load none (.t 73), (some (72, false)), .read, 1, false⟩, ⟨(some 75), .move (.t 7), (some (72, false)), .read, 1, false⟩, ⟨(some 76), .indexAddr 7 (.t 74) (.t 75), (some (72, false)), .read, 1, false⟩, ⟨(some 77), .fieldAddr 0 (.t 76), (some (72, false)), .read, 1, false⟩, ⟨(some 78), .load (some 2) (.t 77), (some (72, false)), .read, 1, false⟩, ⟨(some 79), .fieldAddr 0 (.t 3), (some (72, false)), .read, 1, false⟩, ⟨(some 80), .load (some 2) (.t 79), (some (72, false)), .read, 1, false⟩, ⟨(some 81), .eqa false [1, 1] (.t 78) (.t 80), (some (72, false)), .read, 1, false⟩, ⟨(some 82), .move (.t 81), (some (72, false)), .read, 1, false⟩, ⟨(some 83), .fieldAddr 4 (.t 2), (some (82, true)), .read, 1, false⟩, ⟨(some 84), .load none (.t 83), (some (82, true)), .read, 1, false⟩, ⟨(some 85), .move (.t 7), (some (82, true)), .read, 1, false⟩, ⟨(some 86), .indexAddr 7 (.t 84) (.t 85), (some (82, true)), .read, 1, false⟩, ⟨(some 87), .fieldAddr 2 (.t 86), (some (82, true)), .read, 1, false⟩, ⟨(some 88), .load (some 2) (.t 87), (some (82, true)), .read, 1, false⟩, ⟨(some 89), .fieldAddr 2 (.t 3), (some (82, true)), .read, 1, false⟩, ⟨(some 90), .load (some 2) (.t 89), (some (82, true)), .read, 1, false⟩, ⟨(some 91), .call (oF 76) [(.t 88), (.t 90)], (some (82, true)), .write, 1, false⟩, ⟨(some 92), .pick (.t 82) (.t 91) (oB false), (some (72, false)), .read, 2, false⟩, ⟨(some 93), .pick (.t 72) (oB true) (.t 92), (some (62, true)), .read, 2, false⟩, ⟨(some 94), .pick (.t 62) (.t 93) (oB false), none, .read, 2, false⟩])
 (.cond (.t 94) .skip (.exit 0)))
 (.block 1 (.region [oM 95 7, oW 96 (.arith .add (.t 95) (oI 1)), oM 7 96])))
def t37k0 : DCode :=
 (.seq (.draw [oRA 98 4 2, oRD 99 98, oRM 100 7, oR 101 (.sliceSl 7 (.t 99) none (some (.t 100))), ⟨(some 97), .buildSlice 58 7 (.agg [(.int .i64 0), (.int .i64 0), (.int .i64 0), (.int .i64 0), .nsl, (.int .i64 0), (.bool false)]) 0 [], none, .create, 0, false⟩, ⟨(some 102), .append 58 7 72 (.t 97) (.t 101), none, .create, 0, false⟩, oRL 103 7 3, ⟨(some 104), .buildSlice 58 7 (.agg [(.int .i64 0), (.int .i64 0), (.int .i64 0), (.int .i64 0), .nsl, (.int .i64 0), (.bool false)]) 1 [(0, (.t 103))], none, .create, 0, false⟩, ⟨(some 105), .append 58 7 72 (.t 102) (.t 104), none, .create, 0, false⟩, oRA 106 4 2, oRD 107 106, oRM 108 7, oR 109 (.sliceSl 7 (.t 107) (some (.t 108)) none), ⟨(some 110), .append 58 7 72 (.t 105) (.t 109), none, .write, 4, false⟩, ⟨(some 111), .fieldAddr 4 (.t 2), none, .read, 5, false⟩, ⟨none, .store 1 (.t 111) (.t 110), none, .write, 5, false⟩])
 (.seq (.draw [⟨(some 112), .load (some 6) (.t 2), none, .read, 0, true⟩, oRA 113 6 3, oRD 114 113, ⟨none, .store 6 (.t 4) (.t 112), none, .create, 0, false⟩, ⟨(some 5), .move (.t 114), none, .read, 1, false⟩])
 .ret))
def t37 : DFunc := { ntmps := 115, results := [(.cell 4 (some 6)), (.t 5)], mode := .frz, body :=
 (.seq (.region [oW 2 (.box 29 6 (.t 0)), oW 3 (.box 58 7 (.t 1)), oW 4 (.alloc 29 6 (.agg [(.int .i64 0), .nsl, .nsl, .nsl, .nsl, .nsl])), oW 5 (.move (oB false))])
 (.seq (.region [oL 8 6 2, oA 9 0 3, oL 10 2 9, oW 11 (.call (oF 24) [(.t 8), (.t 10)]), oM 6 11])
 (.seq (.seq (.draw [oRM 12 6, oR 13 (.arith .lss (.t 12) (oI 0)), oRM 14 13, ⟨(some 15), .load (some 6) (.t 2), (some (14, false)), .read, 0, false⟩, ⟨(some 16), .fieldAddr 0 (.t 3), (some (14, false)), .read, 0, false⟩, ⟨(some 17), .load (some 2) (.t 16), (some (14, false)), .read, 0, false⟩, ⟨(some 18), .fieldAddr 2 (.t 3), (some (14, false)), .read, 0, false⟩, ⟨(some 19), .load (some 2) (.t 18), (some (14, false)), .read, 0, false⟩, ⟨(some 20), .call (oF 119) [(.t 15), (.t 17), (.t 19)], (some (14, false)), .write, 0, false⟩, ⟨(some 21), .arith .geq (.t 20) (oI 0), (some (14, false)), .read, 1, false⟩, ⟨(some 22), .pick (.t 14) (oB true) (.t 21), none, .read, 1, false⟩, ⟨(some 23), .move (.t 22), none, .read, 1, false⟩, ⟨(some 24), .fieldAddr 5 (.t 3), (some (23, false)), .read, 1, false⟩, ⟨(some 25), .load none (.t 24), (some (23, false)), .read, 1, false⟩, ⟨(some 26), .arith .neq (.t 25) (oI (-1)), (some (23, false)), .read, 1, false⟩, ⟨(some 27), .move (.t 26), (some (23, false)), .read, 1, false⟩, ⟨(some 28), .fieldAddr 5 (.t 3), (some (27, true)), .read, 1, false⟩, ⟨(some 29), .load none (.t 28), (some (27, true)), .read, 1, false⟩, ⟨(some 30), .fieldAddr 2 (.t 2), (some (27, true)), .read, 1, false⟩, ⟨(some 31), .load none (.t 30), (some (27, true)), .read, 1, false⟩, ⟨(some 32), .move (.t 6), (some (27, true)), .read, 1, false⟩, ⟨(some 33), .indexAddr 4 (.t 31) (.t 32), (some (27, true)), .read, 1, false⟩, ⟨(some 34), .fieldAddr 3 (.t 33), (some (27, true)), .read, 1, false⟩, ⟨(some 35), .load none (.t 34), (some (27, true)), .read, 1, false⟩, ⟨(some 36), .arith .eql (.t 29) (.t 35), (some (27, true)), .read, 1, false⟩, ⟨(some 37), .pick (.t 27) (.t 36) (oB false), (some (23, false)), .read, 1, false⟩, ⟨(some 38), .pick (.t 23) (oB true) (.t 37), none, .read, 1, false⟩])
 (.cond (.t 38) (.seq (.region [oL 39 6 2, oS 6 4 39, oW 5 (.move (oB false))])
 .ret) .skip))
 (.seq (.region [oA 40 2 2, oD 41 40, oM 42 6, oW 43 (.indexAddr 4 (.t 41) (.t 42)), oA 44 3 43, oD 45 44, oW 46 (.arith .neq (.t 45) (oI (-1))), oM 47 46, ⟨(some 48), .load (some 6) (.t 2), (some (47, true)), .write, 0, false⟩, ⟨(some 49), .fieldAddr 0 (.t 3), (some (47, true)), .write, 0, false⟩, ⟨(some 50), .load (some 2) (.t 49), (some (47, true)), .write, 0, false⟩, ⟨(some 51), .fieldAddr 4 (.t 3), (some (47, true)), .write, 0, false⟩, ⟨(some 52), .load none (.t 51), (some (47, true)), .write, 0, false⟩, ⟨(some 53), .call (oF 36) [(.t 48), (.t 50), (.t 52)], (some (47, true)), .write, 0, false⟩, ⟨(some 54), .un .not (.t 53), (some (47, true)), .write, 0, false⟩, oW 55 (.pick (.t 47) (.t 54) (oB false)), oA 56 6 3, oS 1 56 55])
 (.seq (.region [oW 7 (.move (oI 0))])
 (.seq (.block 0 (.loop t37l0))
 t37k0)))))) }
theorem c37 : compFunc Tryz.prog Tryz.f37 .frz = some t37 := by kernel_rfl
def t38l0 : DCode :=
 (.seq (.region [oW 59 (.arith .lss (.t 58) (.t 57))])
 (.seq (.cond (.t 59) .skip (.exit 0))
 (.seq (.block 1 (.seq (.region [oM 60 58, oM 14 60])
 (.seq (.region [oA 61 4 4, oD 62 61, oM 63 14, oW 64 (.indexAddr 7 (.t 62) (.t 63)), oL 65 7 64, oW 15 (.alloc 58 7 (.agg [(.int .i64 0), (.int .i64 0), (.int .i64 0), (.int .i64 0), .nsl, (.int .i64 0), (.bool false)])), oS 7 15 65])
 (.seq (.region [oA 66 0 15, oL 67 2 66, oL 68 2 5, oW 69 (.eqa false [1, 1] (.t 67) (.t 68)), oM 70 69, ⟨(some 71), .fieldAddr 6 (.t 15), (some (70, true)), .write, 0, false⟩, ⟨(some 72), .load none (.t 71), (some (70, true)), .write, 0, false⟩, ⟨(some 73), .un .not (.t 72), (some (70, true)), .write, 0, false⟩, oW 74 (.pick (.t 70) (.t 73) (oB false)), oM 75 74, ⟨(some 76), .load (some 6) (.t 4), (some (75, true)), .write, 0, false⟩, ⟨(some 77), .load (some 2) (.t 5), (some (75, true)), .write, 0, false⟩, ⟨(some 78), .fieldAddr 4 (.t 15), (some (75, true)), .write, 0, false⟩, ⟨(some 79), .load none (.t 78), (some (75, true)), .write, 0, false⟩, ⟨(some 80), .call (oF 36) [(.t 76), (.t 77), (.t 79)], (some (75, true)), .write, 0, false⟩, ⟨(some 81), .un .not (.t 80), (some (75, true)), .write, 0, false⟩, oW 82 (.pick (.t 75) (.t 81) (oB false))])
 (.cond (.t 82) (.seq (.region [oW 83 (.buildSlice 58 7 (.agg [(.int .i64 0), (.int .i64 0), (.int .i64 0), (.int .i64 0), .nsl, (.int .i64 0), (.bool false)]) 0 []), oA 84 4 4, oD 85 84, oW 86 (.append 58 7 72 (.t 83) (.t 85)), oA 87 4 4, oS 1 87 86])
 (.seq (.region [oA 88 4 4, oD 89 88, oM 90 14, oW 91 (.indexAddr 7 (.t 89) (.t 90)), oA 92 6 91, oZ (.store 1 (.t 92) (oB true))])
 (.region [oM 93 13, oA 94 4 4, oD 95 94, oM 96 14, oW 97 (.indexAddr 7 (.t 95) (.t 96)), oL 98 7 97, oW 99 (.buildSlice 58 7 (.agg [(.int .i64 0), (.int .i64 0), (.int .i64 0), (.int .i64 0), .nsl, (.int .i64 0), (.bool false)]) 1 [(0, (.t 98))]), oW 100 (.append 58 7 72 (.t 93) (.t 99)), oM 13 100]))) .skip)))))
 (.region [oW 101 (.arith .add (.t 58) (oI 1)), oM 58 101]))))
def t38k0 : DCode :=
 (.seq (.region [oL 102 6 4, oM 103 13, oS 6 8 102, oM 9 103, oW 10 (.move (oB true))])
 .ret)
def t38 : DFunc := { ntmps := 104, results := [(.cell 8 (some 6)), (.t 9), (.t 10)], mode := .frz, body :=
 (.seq (.region [oW 4 (.box 29 6 (.t 0)), oW 5 (.box 37 2 (.t 1)), oW 6 (.box 37 2 (.t 2)), oW 8 (.alloc 29 6 (.agg [(.int .i64 0), .nsl, .nsl, .nsl, .nsl, .nsl])), oW 9 (.move (.c .nsl)), oW 10 (.move (oB false))])
 (.seq (.region [oL 16 6 4, oL 17 2 5, oL 18 2 6, oW 19 (.call (oF 119) [(.t 16), (.t 17), (.t 18)]), oM 11 19])
 (.seq (.seq (.region [oM 20 11, oW 21 (.arith .lss (.t 20) (oI 0)), oM 22 21, ⟨(some 23), .fieldAddr 4 (.t 4), (some (22, false)), .write, 0, false⟩, ⟨(some 24), .load none (.t 23), (some (22, false)), .write, 0, false⟩, ⟨(some 25), .move (.t 11), (some (22, false)), .write, 0, false⟩, ⟨(some 26), .indexAddr 7 (.t 24) (.t 25), (some (22, false)), .write, 0, false⟩, ⟨(some 27), .fieldAddr 5 (.t 26), (some (22, false)), .write, 0, false⟩, ⟨(some 28), .load none (.t 27), (some (22, false)), .write, 0, false⟩, ⟨(some 29), .move (.t 3), (some (22, false)), .write, 0, false⟩, ⟨(some 30), .arith .neq (.t 28) (.t 29), (some (22, false)), .write, 0, false⟩, oW 31 (.pick (.t 22) (oB true) (.t 30))])
 (.cond (.t 31) (.seq (.region [oL 32 6 4, oS 6 8 32, oW 9 (.move (.c .nsl)), oW 10 (.move (oB false))])
 .ret) .skip))
 (.seq (.region [oA 33 4 4, oD 34 33, oM 35 11, oW 36 (.indexAddr 7 (.t 34) (.t 35)), oA 37 6 36, oD 38 37, oM 12 38])
 (.seq (.draw [oRA 40 4 4, oRD 41 40, oRM 42 11, oR 43 (.sliceSl 7 (.t 41) none (some (.t 42))), ⟨(some 39), .buildSlice 58 7 (.agg [(.int .i64 0), (.int .i64 0), (.int .i64 0), (.int .i64 0), .nsl, (.int .i64 0), (.bool false)]) 0 [], none, .create, 0, false⟩, ⟨(some 44), .append 58 7 72 (.t 39) (.t 43), none, .create, 0, false⟩, oRA 45 4 4, oRD 46 45, oRM 47 11, oR 48 (.arith .add (.t 47) (oI 1)), oR 49 (.sliceSl 7 (.t 46) (some (.t 48)) none), ⟨(some 50), .append 58 7 72 (.t 44) (.t 49), none, .write, 2, false⟩, ⟨(some 51), .fieldAddr 4 (.t 4), none, .read, 3, false⟩, ⟨none, .store 1 (.t 51) (.t 50), none, .write, 3, false⟩])
 (.seq (.seq (.region [oM 52 12, oW 53 (.un .not (.t 52))])
 (.cond (.t 53) (.seq (.region [oL 54 6 4, oS 6 8 54, oW 9 (.move (.c .nsl)), oW 10 (.move (oB false))])
 .ret) .skip))
 (.seq (.region [oW 13 (.move (.c .nsl))])
 (.seq (.seq (.region [oA 55 4 4, oD 56 55, oW 57 (.len 1 (.t 56)), oW 58 (.move (oI 0))])
 (.block 0 (.loop t38l0)))
 t38k0)))))))) }
theorem c38 : compFunc Tryz.prog Tryz.f38 .frz = some t38 := by kernel_rfl
def t40l0 : DCode :=
 (.seq (.region [oW 12 (.arith .lss (.t 11) (.t 10))])
 (.seq (.cond (.t 12) .skip (.exit 0))
 (.seq (.block 1 (.seq (.region [oW 13 (.indexAddr 7 (.t 9) (.t 11)), oL 14 7 13, oW 7 (.alloc 58 7 (.agg [(.int .i64 0), (.int .i64 0), (.int .i64 0), (.int .i64 0), .nsl, (.int .i64 0), (.bool false)])), oS 7 7 14])
 (.seq (.region [oA 15 0 7, oL 16 2 15, oL 17 2 3, oW 18 (.eqa false [1, 1] (.t 16) (.t 17))])
 (.cond (.t 18) (.region [oM 19 5, oL 20 7 7, oW 21 (.buildSlice 58 7 (.agg [(.int .i64 0), (.int .i64 0), (.int .i64 0), (.int .i64 0), .nsl, (.int .i64 0), (.bool false)]) 1 [(0, (.t 20))]), oW 22 (.append 58 7 72 (.t 19) (.t 21)), oM 5 22]) .skip))))
 (.region [oW 23 (.arith .add (.t 11) (oI 1)), oM 11 23]))))
def t40k0 : DCode :=
 (.seq (.region [oM 24 5, oM 4 24])
 .ret)
def t40 : DFunc := { ntmps := 25, results := [(.t 4)], mode := .pure, body :=
 (.seq (.region [oW 2 (.box 29 6 (.t 0)), oW 3 (.box 37 2 (.t 1)), oW 4 (.move (.c .nsl))])
 (.seq (.region [oW 5 (.move (.c .nsl))])
 (.seq (.seq (.region [oA 8 4 2, oD 9 8, oW 10 (.len 1 (.t 9)), oW 11 (.move (oI 0))])
 (.block 0 (.loop t40l0)))
 t40k0))) }
theorem c40 : compFunc Tryz.prog Tryz.f40 .pure = some t40 := by kernel_rfl
def t41l0 : DCode :=
 (.seq (.region [oW 11 (.arith .lss (.t 10) (.t 9))])
 (.seq (.cond (.t 11) .skip (.exit 0))
 (.seq (.block 1 (.seq (.region [oW 12 (.indexAddr 7 (.t 8) (.t 10)), oL 13 7 12, oW 4 (.alloc 58 7 (.agg [(.int .i64 0), (.int .i64 0), (.int .i64 0), (.int .i64 0), .nsl, (.int .i64 0), (.bool false)])), oS 7 4 13])
 (.seq (.region [oL 15 6 1, oA 16 0 4, oL 17 2 16, oW 18 (.call (oF 23) [(.t 15), (.t 17)]), oM 14 18, oX 19 14 0, oX 20 14 1, oW 5 (.alloc 42 4 (.agg [(.int .i64 0), (.int .i64 0), .nsl, (.int .i64 0)])), oS 4 5 19, oM 6 20])
 (.seq (.region [oA 21 6 4, oD 22 21, oW 23 (.un .not (.t 22)), oM 24 23, ⟨(some 25), .fieldAddr 3 (.t 5), (some (24, true)), .write, 0, false⟩, ⟨(some 26), .load none (.t 25), (some (24, true)), .write, 0, false⟩, ⟨(some 27), .arith .neq (.t 26) (oI (-1)), (some (24, true)), .write, 0, false⟩, oW 28 (.pick (.t 24) (.t 27) (oB false)), oM 29 28, ⟨(some 30), .load (some 6) (.t 1), (some (29, true)), .write, 0, false⟩, ⟨(some 31), .fieldAddr 0 (.t 4), (some (29, true)), .write, 0, false⟩, ⟨(some 32), .load (some 2) (.t 31), (some (29, true)), .write, 0, false⟩, ⟨(some 33), .fieldAddr 4 (.t 4), (some (29, true)), .write, 0, false⟩, ⟨(some 34), .load none (.t 33), (some (29, true)), .write, 0, false⟩, ⟨(some 35), .call (oF 35) [(.t 30), (.t 32), (.t 34)], (some (29, true)), .write, 0, false⟩, ⟨(some 36), .un .not (.t 35), (some (29, true)), .write, 0, false⟩, oW 37 (.pick (.t 29) (.t 36) (oB false))])
 (.cond (.t 37) (.seq (.region [oW 2 (.move (oB false))])
 .ret) .skip)))))
 (.region [oW 38 (.arith .add (.t 10) (oI 1)), oM 10 38]))))
def t41k0 : DCode :=
 (.seq (.region [oW 2 (.move (oB true))])
 .ret)
def t41 : DFunc := { ntmps := 39, results := [(.t 2)], mode := .pure, body :=
 (.seq (.region [oW 1 (.box 29 6 (.t 0)), oW 2 (.move (oB false))])
 (.seq (.seq (.region [oA 7 4 1, oD 8 7, oW 9 (.len 1 (.t 8)), oW 10 (.move (oI 0))])
 (.block 0 (.loop t41l0)))
 t41k0)) }
theorem c41 : compFunc Tryz.prog Tryz.f41 .pure = some t41 := by kernel_rfl
def t46l0 : DCode :=
 (.seq (.seq (.draw [oRA 15 5 3, oRD 16 15, oRM 14 8, oR 17 (.len 1 (.t 16)), oR 18 (.arith .lss (.t 14) (.t 17)), oRM 19 18, ⟨(some 20), .fieldAddr 5 (.t 3), (some (19, true)), .read, 0, false⟩, ⟨(some 21), .load none (.t 20), (some (19, true)), .read, 0, false⟩, ⟨(some 22), .move (.t 8), (some (19, true)), .read, 0, false⟩, ⟨(some 23), .indexAddr 3 (.t 21) (.t 22), (some (19, true)), .read, 0, false⟩, ⟨(some 24), .fieldAddr 0 (.t 23), (some (19, true)), .read, 0, false⟩, ⟨(some 25), .load (some 2) (.t 24), (some (19, true)), .read, 0, false⟩, ⟨(some 26), .load (some 2) (.t 4), (some (19, true)), .read, 0, false⟩, ⟨(some 27), .call (oF 76) [(.t 25), (.t 26)], (some (19, true)), .write, 0, false⟩, ⟨(some 28), .pick (.t 19) (.t 27) (oB false), none, .read, 1, false⟩])
 (.cond (.t 28) .skip (.exit 0)))
 (.block 1 (.region [oM 29 8, oW 30 (.arith .add (.t 29) (oI 1)), oM 8 30])))
def t46l1 : DCode :=
 (.seq (.region [oW 68 (.arith .lss (.t 67) (.t 66))])
 (.seq (.cond (.t 68) .skip (.exit 2))
 (.seq (.block 3 (.seq (.region [oW 69 (.indexAddr 4 (.t 65) (.t 67)), oL 70 4 69, oW 11 (.alloc 42 4 (.agg [(.int .i64 0), (.int .i64 0), .nsl, (.int .i64 0)])), oS 4 11 70])
 (.seq (.seq (.region [oM 71 2, oA 72 2 11, oD 73 72, oW 74 (.call (oF 121) [(.t 71), (.t 73)]), oW 75 (.un .not (.t 74))])
 (.cond (.t 75) (.exit 3) .skip))
 (.seq (.region [oA 76 0 11, oL 77 2 76, oL 78 2 4, oM 79 2, oW 80 (.build [(.int .i64 0), (.int .i64 0), (.int .i64 0), (.int .i64 0), .nsl, (.int .i64 0), (.bool false)] [(0, 2, (.t 77)), (2, 2, (.t 78)), (4, 1, (.t 79)), (5, 1, (oI (-1)))]), oW 12 (.alloc 58 7 (.agg [(.int .i64 0), (.int .i64 0), (.int .i64 0), (.int .i64 0), .nsl, (.int .i64 0), (.bool false)])), oS 7 12 80])
 (.seq (.region [oW 13 (.move (oB false))])
 (.seq (.region [oL 82 6 3, oL 83 7 12, oW 84 (.call (oF 37) [(.t 82), (.t 83)]), oM 81 84, oX 85 81 0, oX 86 81 1, oS 6 3 85, oM 13 86])
 (.seq (.region [oM 87 13])
 (.cond (.t 87) (.draw [oRA 89 3 11, oRD 90 89, oRL 91 7 12, ⟨(some 92), .call (oF 122) [(.t 91)], none, .create, 0, false⟩, oRM 88 9, ⟨(some 93), .build [(.int .i64 0), (.int .i64 0), (.int .i64 0), (.int .i64 0), (.int .i64 0), (.int .i64 0), .nsl, .nsl] [(0, 1, (.t 90)), (1, 7, (.t 92))], none, .read, 1, false⟩, ⟨(some 94), .buildSlice 86 8 (.agg [(.int .i64 0), (.int .i64 0), (.int .i64 0), (.int .i64 0), (.int .i64 0), (.int .i64 0), .nsl, .nsl]) 1 [(0, (.t 93))], none, .create, 0, false⟩, ⟨(some 95), .append 86 8 96 (.t 88) (.t 94), none, .write, 2, false⟩, ⟨(some 9), .move (.t 95), none, .read, 3, false⟩]) .skip))))))))
 (.region [oW 96 (.arith .add (.t 67) (oI 1)), oM 67 96]))))
def t46k0 : DCode :=
 (.seq (.region [oL 97 6 3, oM 98 9, oS 6 6 97, oM 7 98])
 .ret)
def t46k1 : DCode :=
 (.seq (.seq (.draw [oRA 32 5 3, oRD 33 32, oRM 31 8, oR 34 (.len 1 (.t 33)), oR 35 (.arith .lss (.t 31) (.t 34)), oRM 36 35, ⟨(some 37), .fieldAddr 5 (.t 3), (some (36, true)), .read, 0, false⟩, ⟨(some 38), .load none (.t 37), (some (36, true)), .read, 0, false⟩, ⟨(some 39), .move (.t 8), (some (36, true)), .read, 0, false⟩, ⟨(some 40), .indexAddr 3 (.t 38) (.t 39), (some (36, true)), .read, 0, false⟩, ⟨(some 41), .fieldAddr 0 (.t 40), (some (36, true)), .read, 0, false⟩, ⟨(some 42), .load (some 2) (.t 41), (some (36, true)), .read, 0, false⟩, ⟨(some 43), .load (some 2) (.t 4), (some (36, true)), .read, 0, false⟩, ⟨(some 44), .eqa false [1, 1] (.t 42) (.t 43), (some (36, true)), .read, 0, false⟩, oR 45 (.pick (.t 36) (.t 44) (oB false))])
 (.cond (.t 45) (.seq (.region [oL 46 6 3, oS 6 6 46, oW 7 (.move (.c .nsl))])
 .ret) .skip))
 (.seq (.draw [oRA 48 5 3, oRD 49 48, oRM 50 8, oR 51 (.sliceSl 3 (.t 49) none (some (.t 50))), ⟨(some 47), .buildSlice 60 3 (.agg [(.int .i64 0), (.int .i64 0), .nsl]) 0 [], none, .create, 0, false⟩, ⟨(some 52), .append 60 3 40 (.t 47) (.t 51), none, .create, 0, false⟩, oRL 53 2 4, oRM 54 2, oR 55 (.build [(.int .i64 0), (.int .i64 0), .nsl] [(0, 2, (.t 53)), (2, 1, (.t 54))]), ⟨(some 56), .buildSlice 60 3 (.agg [(.int .i64 0), (.int .i64 0), .nsl]) 1 [(0, (.t 55))], none, .create, 0, false⟩, ⟨(some 57), .append 60 3 40 (.t 52) (.t 56), none, .create, 0, false⟩, oRA 58 5 3, oRD 59 58, oRM 60 8, oR 61 (.sliceSl 3 (.t 59) (some (.t 60)) none), ⟨(some 62), .append 60 3 40 (.t 57) (.t 61), none, .write, 4, false⟩, ⟨(some 63), .fieldAddr 5 (.t 3), none, .read, 5, false⟩, ⟨none, .store 1 (.t 63) (.t 62), none, .write, 5, false⟩])
 (.seq (.region [oW 9 (.move (.c .nsl))])
 (.seq (.seq (.region [oA 64 2 3, oD 65 64, oW 66 (.len 1 (.t 65)), oW 67 (.move (oI 0))])
 (.block 2 (.loop t46l1)))
 t46k0))))
def t46 : DFunc := { ntmps := 99, results := [(.cell 6 (some 6)), (.t 7)], mode := .frz, body :=
 (.seq (.region [oW 3 (.box 29 6 (.t 0)), oW 4 (.box 37 2 (.t 1)), oW 6 (.alloc 29 6 (.agg [(.int .i64 0), .nsl, .nsl, .nsl, .nsl, .nsl])), oW 7 (.move (.c .nsl))])
 (.seq (.region [oW 8 (.move (oI 0))])
 (.seq (.block 0 (.loop t46l0))
 t46k1))) }
theorem c46 : compFunc Tryz.prog Tryz.f46 .frz = some t46 := by kernel_rfl
def t54l0 : DCode :=
 (.seq (.region [oW 16 (.arith .lss (.t 15) (.t 14))])
 (.seq (.cond (.t 16) .skip (.exit 0))
 (.seq (.block 1 (.seq (.region [oW 17 (.indexAddr 5 (.t 13) (.t 15)), oL 18 5 17, oW 7 (.alloc 62 5 (.agg [(.str []), (.int .i64 0), (.int .i64 0), (.int .i64 0), (.str [])])), oS 5 7 18])
 (.region [oM 19 5, oA 20 0 7, oD 21 20, oL 22 5 7, oZ (.mapUpdate (.prim 2) (.t 19) (.t 21) (.t 22))])))
 (.region [oW 23 (.arith .add (.t 15) (oI 1)), oM 15 23]))))
def t54l1 : DCode :=
 (.seq (.region [oW 27 (.arith .lss (.t 26) (.t 25))])
 (.seq (.cond (.t 27) .skip (.exit 2))
 (.seq (.block 3 (.seq (.region [oW 28 (.indexAddr 5 (.t 24) (.t 26)), oL 29 5 28, oW 9 (.alloc 62 5 (.agg [(.str []), (.int .i64 0), (.int .i64 0), (.int .i64 0), (.str [])])), oS 5 9 29])
 (.seq (.region [oM 31 5, oA 32 0 9, oD 33 32, oW 34 (.lookup (.prim 2) (.agg [(.str []), (.int .i64 0), (.int .i64 0), (.int .i64 0), (.str [])]) true (.t 31) (.t 33)), oM 30 34, oX 35 30 0, oX 36 30 1, oW 10 (.alloc 62 5 (.agg [(.str []), (.int .i64 0), (.int .i64 0), (.int .i64 0), (.str [])])), oS 5 10 35, oM 11 36])
 (.seq (.region [oM 37 11, oW 38 (.un .not (.t 37)), oM 39 38, ⟨(some 40), .load (some 5) (.t 9), (some (39, false)), .write, 0, false⟩, ⟨(some 41), .load (some 5) (.t 10), (some (39, false)), .write, 0, false⟩, ⟨(some 42), .call (oF 130) [(.t 40), (.t 41)], (some (39, false)), .write, 0, false⟩, ⟨(some 43), .un .not (.t 42), (some (39, false)), .write, 0, false⟩, oW 44 (.pick (.t 39) (oB true) (.t 43))])
 (.cond (.t 44) (.seq (.region [oW 4 (.move (oB false))])
 .ret) .skip)))))
 (.region [oW 45 (.arith .add (.t 26) (oI 1)), oM 26 45]))))
def t54k0 : DCode :=
 (.seq (.region [oW 4 (.move (oB true))])
 .ret)
def t54k1 : DCode :=
 (.seq (.seq (.region [oM 24 0, oW 25 (.len 1 (.t 24)), oW 26 (.move (oI 0))])
 (.block 2 (.loop t54l1)))
 t54k0)
def t54 : DFunc := { ntmps := 46, results := [(.t 4)], mode := .pure, body :=
 (.seq (.region [oW 4 (.move (oB false))])
 (.seq (.region [oW 12 (.makeMap), oM 5 12])
 (.seq (.seq (.region [oM 13 1, oW 14 (.len 1 (.t 13)), oW 15 (.move (oI 0))])
 (.block 0 (.loop t54l0)))
 t54k1))) }
theorem c54 : compFunc Tryz.prog Tryz.f54 .pure = some t54 := by kernel_rfl
def t56 : DFunc := { ntmps := 9, results := [(.t 4)], mode := .pure, body :=
 (.seq (.region [oW 2 (.box 37 2 (.t 0)), oW 3 (.box 37 2 (.t 1)), oW 4 (.move (oB false))])
 (.seq (.region [oL 5 2 2, oL 6 2 3, oW 7 (.call (oF 101) [(.t 5), (.t 6)]), oW 8 (.arith .lss (.t 7) (oI 0)), oM 4 8])
 .ret)) }
theorem c56 : compFunc Tryz.prog Tryz.f56 .pure = some t56 := by kernel_rfl
def t58 : DFunc := { ntmps := 25, results := [(.cell 6 (some 6)), (.t 7)], mode := .frz, body :=
 (.seq (.region [oW 3 (.box 29 6 (.t 0)), oW 5 (.box 37 2 (.t 2)), oW 6 (.alloc 29 6 (.agg [(.int .i64 0), .nsl, .nsl, .nsl, .nsl, .nsl])), oW 7 (.move (.c .nsl))])
 (.seq (.region [oL 10 6 3, oL 11 2 5, oM 12 1, oW 13 (.call (oF 22) [(.t 10), (.t 11), (.t 12)]), oM 9 13, oX 14 9 0, oX 15 9 1, oS 6 3 14, oM 8 15])
 (.seq (.seq (.region [oM 16 8, oW 17 (.un .not (.t 16))])
 (.cond (.t 17) (.seq (.region [oL 18 6 3, oS 6 6 18, oW 7 (.move (.c .nsl))])
 .ret) .skip))
 (.seq (.draw [oRL 19 6 3, oRL 20 6 3, oRL 22 2 5, oRM 21 1, oR 23 (.build [(.int .i64 0), (.int .i64 0), (.int .i64 0), (.int .i64 0), (.int .i64 0), .nsl, .nsl] [(0, 1, (oI 2)), (1, 2, (.t 22))]), ⟨(some 24), .call (oF 131) [(.t 20), (.t 21), (.t 23)], none, .create, 0, false⟩, ⟨none, .store 6 (.t 6) (.t 19), none, .write, 1, false⟩, ⟨(some 7), .move (.t 24), none, .read, 2, false⟩])
 .ret)))) }
theorem c58 : compFunc Tryz.prog Tryz.f58 .frz = some t58 := by kernel_rfl
def t59l0 : DCode :=
 (.seq (.region [oW 38 (.arith .lss (.t 37) (.t 36))])
 (.seq (.cond (.t 38) .skip (.exit 0))
 (.seq (.block 1 (.seq (.region [oW 39 (.indexAddr 3 (.t 35) (.t 37)), oL 40 3 39, oW 13 (.alloc 60 3 (.agg [(.int .i64 0), (.int .i64 0), .nsl])), oS 3 13 40])
 (.seq (.seq (.region [oA 41 2 13, oD 42 41, oM 43 3, oW 44 (.call (oF 121) [(.t 42), (.t 43)]), oW 45 (.un .not (.t 44))])
 (.cond (.t 45) (.exit 1) .skip))
 (.seq (.region [oL 46 2 6, oA 47 0 13, oL 48 2 47, oA 49 2 13, oD 50 49, oW 51 (.build [(.int .i64 0), (.int .i64 0), (.int .i64 0), (.int .i64 0), .nsl, (.int .i64 0), (.bool false)] [(0, 2, (.t 46)), (2, 2, (.t 48)), (4, 1, (.t 50)), (5, 1, (oI (-1)))]), oW 14 (.alloc 58 7 (.agg [(.int .i64 0), (.int .i64 0), (.int .i64 0), (.int .i64 0), .nsl, (.int .i64 0), (.bool false)])), oS 7 14 51])
 (.seq (.region [oW 15 (.move (oB false))])
 (.seq (.region [oL 53 6 4, oL 54 7 14, oW 55 (.call (oF 37) [(.t 53), (.t 54)]), oM 52 55, oX 56 52 0, oX 57 52 1, oS 6 4 56, oM 15 57])
 (.seq (.region [oM 58 15])
 (.cond (.t 58) (.region [oM 59 11, oM 60 1, oL 61 7 14, oW 62 (.call (oF 122) [(.t 61)]), oW 63 (.build [(.int .i64 0), (.int .i64 0), (.int .i64 0), (.int .i64 0), (.int .i64 0), (.int .i64 0), .nsl, .nsl] [(0, 1, (.t 60)), (1, 7, (.t 62))]), oW 64 (.buildSlice 86 8 (.agg [(.int .i64 0), (.int .i64 0), (.int .i64 0), (.int .i64 0), (.int .i64 0), (.int .i64 0), .nsl, .nsl]) 1 [(0, (.t 63))]), oW 65 (.append 86 8 96 (.t 59) (.t 64)), oM 11 65]) .skip))))))))
 (.region [oW 66 (.arith .add (.t 37) (oI 1)), oM 37 66]))))
def t59k0 : DCode :=
 (.seq (.region [oL 67 6 4, oM 68 11, oS 6 8 67, oM 9 68])
 .ret)
def t59 : DFunc := { ntmps := 69, results := [(.cell 8 (some 6)), (.t 9)], mode := .frz, body :=
 (.seq (.region [oW 4 (.box 29 6 (.t 0)), oW 6 (.box 37 2 (.t 2)), oW 8 (.alloc 29 6 (.agg [(.int .i64 0), .nsl, .nsl, .nsl, .nsl, .nsl])), oW 9 (.move (.c .nsl))])
 (.seq (.region [oL 17 6 4, oL 18 2 6, oM 19 3, oM 20 1, oW 21 (.build [(.int .i64 0), (.int .i64 0), .nsl, (.int .i64 0)] [(0, 2, (.t 18)), (2, 1, (.t 19)), (3, 1, (.t 20))]), oW 22 (.call (oF 20) [(.t 17), (.t 21)]), oM 16 22, oX 23 16 0, oX 24 16 1, oS 6 4 23, oM 10 24])
 (.seq (.seq (.region [oM 25 10, oW 26 (.un .not (.t 25))])
 (.cond (.t 26) (.seq (.region [oL 27 6 4, oS 6 8 27, oW 9 (.move (.c .nsl))])
 .ret) .skip))
 (.seq (.region [oL 28 6 4, oM 29 1, oL 30 2 6, oM 31 3, oW 32 (.build [(.int .i64 0), (.int .i64 0), (.int .i64 0), (.int .i64 0), (.int .i64 0), .nsl, .nsl] [(0, 1, (oI 1)), (1, 2, (.t 30)), (5, 1, (.t 31))]), oW 33 (.call (oF 131) [(.t 28), (.t 29), (.t 32)]), oM 11 33])
 (.seq (.seq (.region [oA 34 5 4, oD 35 34, oW 36 (.len 1 (.t 35)), oW 37 (.move (oI 0))])
 (.block 0 (.loop t59l0)))
 t59k0))))) }
theorem c59 : compFunc Tryz.prog Tryz.f59 .frz = some t59 := by kernel_rfl
def t61l0 : DCode :=
 (.seq (.region [oW 18 (.arith .lss (.t 17) (.t 16))])
 (.seq (.cond (.t 18) .skip (.exit 0))
 (.seq (.block 1 (.seq (.region [oW 19 (.indexAddr 3 (.t 15) (.t 17)), oL 20 3 19, oW 8 (.alloc 60 3 (.agg [(.int .i64 0), (.int .i64 0), .nsl])), oS 3 8 20])
 (.seq (.region [oA 21 0 8, oL 22 2 21, oL 23 2 3, oW 24 (.eqa true [1, 1] (.t 22) (.t 23))])
 (.cond (.t 24) (.region [oM 25 6, oL 26 3 8, oW 27 (.buildSlice 60 3 (.agg [(.int .i64 0), (.int .i64 0), .nsl]) 1 [(0, (.t 26))]), oW 28 (.append 60 3 40 (.t 25) (.t 27)), oM 6 28]) .skip))))
 (.region [oW 29 (.arith .add (.t 17) (oI 1)), oM 17 29]))))
def t61l1 : DCode :=
 (.seq (.region [oW 43 (.arith .lss (.t 42) (.t 41))])
 (.seq (.cond (.t 43) .skip (.exit 2))
 (.seq (.block 3 (.seq (.region [oW 44 (.indexAddr 4 (.t 40) (.t 42)), oL 45 4 44, oW 11 (.alloc 42 4 (.agg [(.int .i64 0), (.int .i64 0), .nsl, (.int .i64 0)])), oS 4 11 45])
 (.seq (.region [oL 47 6 2, oA 48 0 11, oL 49 2 48, oL 50 2 3, oW 51 (.call (oF 133) [(.t 47), (.t 49), (.t 50), (oI (-1))]), oM 46 51, oX 52 46 0, oX 53 46 1, oW 12 (.alloc 29 6 (.agg [(.int .i64 0), .nsl, .nsl, .nsl, .nsl, .nsl])), oS 6 12 52, oM 13 53])
 (.draw [oRL 54 6 12, ⟨(some 55), .buildSlice 86 8 (.agg [(.int .i64 0), (.int .i64 0), (.int .i64 0), (.int .i64 0), (.int .i64 0), (.int .i64 0), .nsl, .nsl]) 0 [], none, .create, 0, false⟩, oRM 56 9, ⟨(some 57), .append 86 8 96 (.t 55) (.t 56), none, .create, 0, false⟩, oRM 58 13, ⟨(some 59), .append 86 8 96 (.t 57) (.t 58), none, .create, 0, false⟩, ⟨none, .store 6 (.t 2) (.t 54), none, .write, 3, false⟩, ⟨(some 9), .move (.t 59), none, .read, 4, false⟩]))))
 (.region [oW 60 (.arith .add (.t 42) (oI 1)), oM 42 60]))))
def t61k0 : DCode :=
 (.seq (.region [oL 61 6 2, oM 62 9, oS 6 4 61, oM 5 62])
 .ret)
def t61k1 : DCode :=
 (.seq (.seq (.region [oM 30 6, oW 31 (.len 1 (.t 30)), oA 32 5 2, oD 33 32, oW 34 (.len 1 (.t 33)), oW 35 (.arith .eql (.t 31) (.t 34))])
 (.cond (.t 35) (.seq (.region [oL 36 6 2, oS 6 4 36, oW 5 (.move (.c .nsl))])
 .ret) .skip))
 (.seq (.region [oM 37 6, oA 38 5 2, oS 1 38 37])
 (.seq (.region [oW 9 (.move (.c .nsl))])
 (.seq (.seq (.region [oA 39 2 2, oD 40 39, oW 41 (.len 1 (.t 40)), oW 42 (.move (oI 0))])
 (.block 2 (.loop t61l1)))
 t61k0))))
def t61 : DFunc := { ntmps := 63, results := [(.cell 4 (some 6)), (.t 5)], mode := .frz, body :=
 (.seq (.region [oW 2 (.box 29 6 (.t 0)), oW 3 (.box 37 2 (.t 1)), oW 4 (.alloc 29 6 (.agg [(.int .i64 0), .nsl, .nsl, .nsl, .nsl, .nsl])), oW 5 (.move (.c .nsl))])
 (.seq (.region [oW 6 (.move (.c .nsl))])
 (.seq (.seq (.region [oA 14 5 2, oD 15 14, oW 16 (.len 1 (.t 15)), oW 17 (.move (oI 0))])
 (.block 0 (.loop t61l0)))
 t61k1))) }
theorem c61 : compFunc Tryz.prog Tryz.f61 .frz = some t61 := by kernel_rfl
def t62 : DFunc := { ntmps := 41, results := [(.cell 6 (some 6)), (.t 7)], mode := .frz, body :=
 (.seq (.region [oW 3 (.box 29 6 (.t 0)), oW 5 (.box 84 7 (.t 2)), oW 6 (.alloc 29 6 (.agg [(.int .i64 0), .nsl, .nsl, .nsl, .nsl, .nsl])), oW 7 (.move (.c .nsl))])
 (.seq (.region [oA 10 1 5, oL 11 2 10, oA 12 3 5, oL 13 2 12, oA 14 5 5, oD 15 14, oM 16 1, oW 17 (.build [(.int .i64 0), (.int .i64 0), (.int .i64 0), (.int .i64 0), .nsl, (.int .i64 0), (.bool false)] [(0, 2, (.t 11)), (2, 2, (.t 13)), (4, 1, (.t 15)), (5, 1, (.t 16))]), oW 8 (.alloc 58 7 (.agg [(.int .i64 0), (.int .i64 0), (.int .i64 0), (.int .i64 0), .nsl, (.int .i64 0), (.bool false)])), oS 7 8 17])
 (.seq (.region [oL 19 6 3, oL 20 7 8, oW 21 (.call (oF 37) [(.t 19), (.t 20)]), oM 18 21, oX 22 18 0, oX 23 18 1, oS 6 3 22, oM 9 23])
 (.seq (.seq (.region [oM 24 9, oW 25 (.un .not (.t 24))])
 (.cond (.t 25) (.seq (.region [oL 26 6 3, oS 6 6 26, oW 7 (.move (.c .nsl))])
 .ret) .skip))
 (.seq (.draw [oRL 27 6 3, oRA 28 2 3, oRD 29 28, ⟨(some 30), .load (some 6) (.t 3), none, .read, 0, true⟩, oRA 31 1 5, ⟨(some 32), .load (some 2) (.t 31), none, .read, 0, true⟩, ⟨(some 33), .call (oF 24) [(.t 30), (.t 32)], none, .create, 0, false⟩, ⟨(some 34), .indexAddr 4 (.t 29) (.t 33), none, .read, 1, false⟩, ⟨(some 35), .fieldAddr 3 (.t 34), none, .read, 1, false⟩, ⟨(some 36), .load none (.t 35), none, .read, 1, false⟩, oRL 37 7 8, ⟨(some 38), .call (oF 122) [(.t 37)], none, .create, 1, false⟩, ⟨none, .store 6 (.t 6) (.t 27), none, .create, 1, false⟩, ⟨(some 39), .build [(.int .i64 0), (.int .i64 0), (.int .i64 0), (.int .i64 0), (.int .i64 0), (.int .i64 0), .nsl, .nsl] [(0, 1, (.t 36)), (1, 7, (.t 38))], none, .read, 2, false⟩, ⟨(some 40), .buildSlice 86 8 (.agg [(.int .i64 0), (.int .i64 0), (.int .i64 0), (.int .i64 0), (.int .i64 0), (.int .i64 0), .nsl, .nsl]) 1 [(0, (.t 39))], none, .create, 0, false⟩, ⟨(some 7), .move (.t 40), none, .read, 4, false⟩])
 .ret))))) }
theorem c62 : compFunc Tryz.prog Tryz.f62 .frz = some t62 := by kernel_rfl
def t63 : DFunc := { ntmps := 17, results := [(.cell 6 (some 6)), (.t 7)], mode := .frz, body :=
 (.seq (.region [oW 3 (.box 29 6 (.t 0)), oW 5 (.box 84 7 (.t 2)), oW 6 (.alloc 29 6 (.agg [(.int .i64 0), .nsl, .nsl, .nsl, .nsl, .nsl])), oW 7 (.move (.c .nsl))])
 (.seq (.region [oL 8 6 3, oA 9 1 5, oL 10 2 9, oA 11 3 5, oL 12 2 11, oM 13 1, oW 14 (.call (oF 133) [(.t 8), (.t 10), (.t 12), (.t 13)]), oX 15 14 0, oX 16 14 1, oS 6 6 15, oM 7 16])
 .ret)) }
theorem c63 : compFunc Tryz.prog Tryz.f63 .frz = some t63 := by kernel_rfl
def t65 : DFunc := { ntmps := 11, results := [], mode := .full, body :=
 (.seq (.region [oM 3 0, oW 4 (.len 1 (.t 3)), oM 2 4])
 (.region [oM 5 0, oM 6 2, oM 7 2, oW 8 (.conv .u64 (.t 7)), oW 9 (.call (oF 135) [(.t 8)]), oW 10 (.call (oF 134) [(.t 5), (oI 0), (.t 6), (.t 9)])])) }
theorem c65 : compFunc Tryz.prog Tryz.f65 .full = some t65 := by kernel_rfl
def t66l0 : DCode :=
 (.seq (.seq (.region [oM 29 5, oM 30 4, oW 31 (.len 1 (.t 30)), oW 32 (.arith .lss (.t 29) (.t 31))])
 (.cond (.t 32) .skip (.exit 2)))
 (.seq (.block 3 (.seq (.draw [oRM 35 4, oRM 36 5, oR 37 (.indexAddr 1 (.t 35) (.t 36)), oRD 38 37, oRM 39 4, oRM 40 5, oR 41 (.arith .sub (.t 40) (oI 1)), oR 42 (.indexAddr 1 (.t 39) (.t 41)), oRD 43 42, oR 44 (.arith .neq (.t 38) (.t 43))])
 (.cond (.t 44) (.seq (.region [oM 45 0, oM 46 3, oM 47 4, oM 48 5, oW 49 (.indexAddr 1 (.t 47) (.t 48)), oD 50 49, oW 51 (.indexAddr 1 (.t 45) (.t 46)), oS 1 51 50])
 (.region [oM 52 3, oW 53 (.arith .add (.t 52) (oI 1)), oM 3 53])) .skip)))
 (.region [oM 33 5, oW 34 (.arith .add (.t 33) (oI 1)), oM 5 34])))
def t66k0 : DCode :=
 (.seq (.region [oM 54 0, oM 55 3, oW 56 (.sliceSl 1 (.t 54) (some (.t 55)) none), oZ (.clear 1 (.int .i64 0) (.t 56))])
 (.seq (.region [oM 57 0, oM 58 3, oW 59 (.sliceSl 1 (.t 57) none (some (.t 58))), oM 2 59])
 .ret))
def t66k1 : DCode :=
 (.region [oM 14 3, oW 15 (.arith .add (.t 14) (oI 1)), oM 3 15])
def t66l1 : DCode :=
 (.seq (.seq (.region [oM 10 3, oM 11 0, oW 12 (.len 1 (.t 11)), oW 13 (.arith .lss (.t 10) (.t 12))])
 (.cond (.t 13) .skip (.exit 0)))
 (.seq (.block 1 (.seq (.draw [oRM 16 0, oRM 17 3, oR 18 (.indexAddr 1 (.t 16) (.t 17)), oRD 19 18, oRM 20 0, oRM 21 3, oR 22 (.arith .sub (.t 21) (oI 1)), oR 23 (.indexAddr 1 (.t 20) (.t 22)), oRD 24 23, oR 25 (.arith .eql (.t 19) (.t 24))])
 (.cond (.t 25) (.seq (.region [oM 26 0, oM 27 3, oW 28 (.sliceSl 1 (.t 26) (some (.t 27)) none), oM 4 28])
 (.seq (.seq (.region [oW 5 (.move (oI 1))])
 (.block 2 (.loop t66l0)))
 t66k0)) .skip)))
 t66k1))
def t66k2 : DCode :=
 (.seq (.region [oM 60 0, oM 2 60])
 .ret)
def t66 : DFunc := { ntmps := 61, results := [(.t 2)], mode := .full, body :=
 (.seq (.region [oW 2 (.move (.c .nsl))])
 (.seq (.seq (.region [oM 6 0, oW 7 (.len 1 (.t 6)), oW 8 (.arith .lss (.t 7) (oI 2))])
 (.cond (.t 8) (.seq (.region [oM 9 0, oM 2 9])
 .ret) .skip))
 (.seq (.seq (.region [oW 3 (.move (oI 1))])
 (.block 0 (.loop t66l1)))
 t66k2))) }
theorem c66 : compFunc Tryz.prog Tryz.f66 .full = some t66 := by kernel_rfl
def t67 : DFunc := { ntmps := 2, results := [(.t 0)], mode := .pure, body :=
 (.seq (.region [oW 0 (.move (.c .nsl))])
 (.seq (.region [oW 1 (.buildSlice 9 1 (.str []) 7 [(0, (.c (.str [97]))), (1, (.c (.str [98]))), (2, (.c (.str [99]))), (3, (.c (.str [100]))), (4, (.c (.str [101]))), (5, (.c (.str [102]))), (6, (.c (.str [103])))]), oM 0 1])
 .ret)) }
theorem c67 : compFunc Tryz.prog Tryz.f67 .pure = some t67 := by kernel_rfl
def t68 : DFunc := { ntmps := 44, results := [(.cell 4 (some 5))], mode := .pure, body :=
 (.seq (.region [oW 4 (.alloc 62 5 (.agg [(.str []), (.int .i64 0), (.int .i64 0), (.int .i64 0), (.str [])]))])
 (.seq (.region [oM 6 0, oW 7 (.build [(.str []), (.int .i64 0), (.int .i64 0), (.int .i64 0), (.str [])] [(0, 1, (.t 6))]), oW 5 (.alloc 62 5 (.agg [(.str []), (.int .i64 0), (.int .i64 0), (.int .i64 0), (.str [])])), oS 5 5 7])
 (.seq (.seq (.region [oM 8 1, oW 9 (.call (oF 16) [(.t 8), (oI 0), (oI 3)])])
 (.block 0 (.seq (.seq (.region [oW 19 (.arith .eql (.t 9) (oI 0)), oM 18 19])
 (.cond (.t 18) .skip (.region [oW 20 (.arith .eql (.t 9) (oI 1)), oM 18 20])))
 (.cond (.t 18) (.seq (.region [oM 21 1, oW 22 (.arith .quo (.t 21) (oI 4)), oW 23 (.call (oF 16) [(.t 22), (oI 0), (oI 9)]), oA 24 1 5, oZ (.store 1 (.t 24) (oI 1)), oA 25 2 5, oS 1 25 23])
 (.draw [oRA 26 2 5, oRD 27 26, oRM 28 1, oR 29 (.arith .quo (.t 28) (oI 40)), ⟨(some 30), .call (oF 16) [(.t 29), (oI 0), (oI 9)], none, .create, 0, false⟩, ⟨(some 31), .arith .add (.t 27) (.t 30), none, .read, 1, false⟩, ⟨(some 32), .fieldAddr 3 (.t 5), none, .read, 1, false⟩, ⟨none, .store 1 (.t 32) (.t 31), none, .write, 1, false⟩])) (.seq (.region [oW 34 (.arith .eql (.t 9) (oI 2)), oM 33 34])
 (.cond (.t 33) (.draw [oW 35 (.call (oF 136) []), oRM 36 1, oR 37 (.arith .quo (.t 36) (oI 4)), ⟨(some 38), .call (oF 16) [(.t 37), (oI 0), (oI 6)], none, .write, 1, false⟩, ⟨(some 39), .indexAddr 1 (.t 35) (.t 38), none, .read, 2, false⟩, ⟨(some 40), .load none (.t 39), none, .read, 2, false⟩, oRA 41 1 5, ⟨none, .store 1 (.t 41) (oI 2), none, .create, 2, false⟩, ⟨(some 42), .fieldAddr 4 (.t 5), none, .read, 3, false⟩, ⟨none, .store 1 (.t 42) (.t 40), none, .write, 3, false⟩]) (.draw [oW 10 (.call (oF 136) []), oRM 11 1, oR 12 (.arith .quo (.t 11) (oI 4)), ⟨(some 13), .call (oF 16) [(.t 12), (oI 0), (oI 6)], none, .write, 1, false⟩, ⟨(some 14), .indexAddr 1 (.t 10) (.t 13), none, .read, 2, false⟩, ⟨(some 15), .load none (.t 14), none, .read, 2, false⟩, oRA 16 1 5, ⟨none, .store 1 (.t 16) (oI 3), none, .create, 2, false⟩, ⟨(some 17), .fieldAddr 4 (.t 5), none, .read, 3, false⟩, ⟨none, .store 1 (.t 17) (.t 15), none, .write, 3, false⟩])))))))
 (.seq (.region [oL 43 5 5, oS 5 4 43])
 .ret)))) }
theorem c68 : compFunc Tryz.prog Tryz.f68 .pure = some t68 := by kernel_rfl
def t69 : DFunc := { ntmps := 15, results := [(.t 4)], mode := .pure, body :=
 (.seq (.region [oW 4 (.move (oI 0))])
 (.seq (.seq (.region [oM 5 0, oW 6 (.len 1 (.t 5)), oW 7 (.arith .eql (.t 6) (oI 0))])
 (.cond (.t 7) (.seq (.region [oW 4 (.move (oI 0))])
 .ret) .skip))
 (.seq (.region [oM 8 0, oM 9 1, oM 10 0, oW 11 (.len 1 (.t 10)), oW 12 (.arith .rem (.t 9) (.t 11)), oW 13 (.indexAddr 1 (.t 8) (.t 12)), oD 14 13, oM 4 14])
 .ret))) }
theorem c69 : compFunc Tryz.prog Tryz.f69 .pure = some t69 := by kernel_rfl
def t70 : DFunc := { ntmps := 24, results := [(.cell 2 (some 6))], mode := .full, body :=
 (.seq (.region [oW 1 (.box 29 6 (.t 0)), oW 2 (.alloc 29 6 (.agg [(.int .i64 0), .nsl, .nsl, .nsl, .nsl, .nsl]))])
 (.seq (.draw [oRA 3 1 1, oRD 4 3, ⟨(some 5), .call (oF 64) [(.t 4)], none, .create, 0, false⟩, oRA 6 2 1, oRD 7 6, ⟨(some 8), .call (oF 137) [(.t 7)], none, .create, 0, false⟩, oRA 9 3 1, oRD 10 9, ⟨(some 11), .call (oF 138) [(.t 10)], none, .create, 0, false⟩, oRA 12 4 1, oRD 13 12, ⟨(some 14), .call (oF 112) [(.t 13)], none, .create, 0, false⟩, oRA 15 5 1, oRD 16 15, ⟨(some 17), .call (oF 126) [(.t 16)], none, .write, 4, false⟩, ⟨(some 18), .fieldAddr 1 (.t 1), none, .read, 1, false⟩, ⟨none, .store 1 (.t 18) (.t 5), none, .write, 5, false⟩, ⟨(some 19), .fieldAddr 2 (.t 1), none, .read, 6, false⟩, ⟨none, .store 1 (.t 19) (.t 8), none, .write, 6, false⟩, ⟨(some 20), .fieldAddr 3 (.t 1), none, .read, 7, false⟩, ⟨none, .store 1 (.t 20) (.t 11), none, .write, 7, false⟩, ⟨(some 21), .fieldAddr 4 (.t 1), none, .read, 8, false⟩, ⟨none, .store 1 (.t 21) (.t 14), none, .write, 8, false⟩, ⟨(some 22), .fieldAddr 5 (.t 1), none, .read, 9, false⟩, ⟨none, .store 1 (.t 22) (.t 17), none, .write, 9, false⟩])
 (.seq (.region [oL 23 6 1, oS 6 2 23])
 .ret))) }
theorem c70 : compFunc Tryz.prog Tryz.f70 .full = some t70 := by kernel_rfl
end Go.Dm.Tc
