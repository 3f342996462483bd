/-
The table of functions, brought into the machine's form (Tc, part 0). Written by program (wip/tools/table.lean.txt).
-/
import Derived.Test.YtfnhanajiibciaaGreatMm3
import Derived.Test.YtfnhanajiibciaaGreatRows
import Derived.KernelRfl
namespace Go.Dm.Tc
open Go.Proofs

def t6s0 : DCode :=
 (.region [oW 182 (.arith .add (.t 168) (oI 1)), oW 168 (.move (.t 182))])

def t6l0 : DCode :=
 (.seq (.region [oW 169 (.arith .lss (.t 168) (.t 167))])
 (.seq (.cond (.t 169) .skip (.exit 3))
 (.seq (.block 4 (.seq (.region [oW 170 (.indexAddr 7 (.t 166) (.t 168)), oW 171 (.load (some 7) (.t 170)), oW 23 (.alloc 58 7 (.agg [(.int .i64 0), (.int .i64 0), (.int .i64 0), (.int .i64 0), .nsl, (.int .i64 0), (.bool false)])), oZ (.store 7 (.t 23) (.t 171))])
 (.seq (.seq (.region [oW 172 (.fieldAddr 0 (.t 23)), oW 173 (.load (some 2) (.t 172)), oW 174 (.load (some 2) (.t 7)), oW 175 (.eqa true [1, 1] (.t 173) (.t 174))])
 (.cond (.t 175) (.seq (.region [oW 2 (.move (oB false))])
 .ret) .skip))
 (.seq (.region [oW 176 (.fieldAddr 2 (.t 23)), oW 177 (.load (some 2) (.t 176)), oW 178 (.load (some 2) (.t 8)), oW 179 (.eqa false [1, 1] (.t 177) (.t 178))])
 (.cond (.t 179) (.region [oW 180 (.move (.t 21)), oW 181 (.arith .add (.t 180) (oI 1)), oW 21 (.move (.t 181))]) .skip)))))
 t6s0)))

def t6k0 : DCode :=
 (.seq (.region [oW 183 (.load (some 6) (.t 3)), oW 184 (.load (some 6) (.t 4)), oW 185 (.call (oF 25) [(.t 183), (.t 184)]), oW 186 (.un .not (.t 185)), oW 187 (.move (.t 186)), ⟨(some 188), .load (some 6) (.t 3), (some (187, false)), .write, 0⟩, ⟨(some 189), .call (oF 27) [(.t 188)], (some (187, false)), .write, 0⟩, ⟨(some 190), .un .not (.t 189), (some (187, false)), .write, 0⟩, oW 191 (.pick (.t 187) (oB true) (.t 190)), oW 192 (.move (.t 191)), ⟨(some 193), .load (some 6) (.t 3), (some (192, false)), .write, 0⟩, ⟨(some 194), .call (oF 41) [(.t 193)], (some (192, false)), .write, 0⟩, ⟨(some 195), .un .not (.t 194), (some (192, false)), .write, 0⟩, oW 196 (.pick (.t 192) (oB true) (.t 195)), oW 197 (.move (.t 196)), ⟨(some 198), .move (.t 20), (some (197, false)), .write, 0⟩, ⟨(some 199), .move (.t 21), (some (197, false)), .write, 0⟩, ⟨(some 200), .arith .eql (.t 199) (oI 1), (some (197, false)), .write, 0⟩, ⟨(some 201), .eqb true (.t 198) (.t 200), (some (197, false)), .write, 0⟩, oW 202 (.pick (.t 197) (oB true) (.t 201)), oW 203 (.move (.t 202)), ⟨(some 204), .move (.t 21), (some (203, false)), .write, 0⟩, ⟨(some 205), .arith .gtr (.t 204) (oI 1), (some (203, false)), .write, 0⟩, oW 206 (.pick (.t 203) (oB true) (.t 205)), oW 207 (.move (.t 206)), ⟨(some 208), .move (.t 20), (some (207, false)), .write, 0⟩, ⟨(some 209), .move (.t 208), (some (207, false)), .write, 0⟩, ⟨(some 210), .fieldAddr 2 (.t 19), (some (209, true)), .write, 0⟩, ⟨(some 211), .load (some 2) (.t 210), (some (209, true)), .write, 0⟩, ⟨(some 212), .load (some 2) (.t 8), (some (209, true)), .write, 0⟩, ⟨(some 213), .eqa true [1, 1] (.t 211) (.t 212), (some (209, true)), .write, 0⟩, ⟨(some 214), .move (.t 213), (some (209, true)), .write, 0⟩, ⟨(some 215), .fieldAddr 0 (.t 19), (some (214, false)), .write, 0⟩, ⟨(some 216), .load (some 2) (.t 215), (some (214, false)), .write, 0⟩, ⟨(some 217), .load (some 2) (.t 7), (some (214, false)), .write, 0⟩, ⟨(some 218), .eqa true [1, 1] (.t 216) (.t 217), (some (214, false)), .write, 0⟩, ⟨(some 219), .pick (.t 214) (oB true) (.t 218), (some (209, true)), .write, 0⟩, ⟨(some 220), .pick (.t 209) (.t 219) (oB false), (some (207, false)), .write, 0⟩, oW 221 (.pick (.t 207) (oB true) (.t 220))])
 (.cond (.t 221) (.seq (.region [oW 2 (.move (oB false))])
 .ret) .skip))

def t6s1 : DCode :=
 (.seq (.region [oW 158 (.load (some 6) (.t 3)), oW 159 (.load (some 2) (.t 7)), oW 160 (.load (some 2) (.t 8)), oW 161 (.call (oF 32) [(.t 158), (.t 159), (.t 160)]), oW 157 (.move (.t 161)), oW 162 (.extract (.t 157) 0), oW 163 (.extract (.t 157) 1), oW 19 (.alloc 58 7 (.agg [(.int .i64 0), (.int .i64 0), (.int .i64 0), (.int .i64 0), .nsl, (.int .i64 0), (.bool false)])), oZ (.store 7 (.t 19) (.t 162)), oW 20 (.move (.t 163))])
 (.seq (.region [oW 21 (.move (oI 0))])
 (.seq (.seq (.region [oW 164 (.load (some 6) (.t 3)), oW 165 (.load (some 2) (.t 7)), oW 166 (.call (oF 40) [(.t 164), (.t 165)]), oW 167 (.len 1 (.t 166)), oW 168 (.move (oI 0))])
 (.block 3 (.loop t6l0)))
 t6k0)))

def t6k1 : DCode :=
 (.region [oW 36 (.move (.t 5)), oW 37 (.arith .add (.t 36) (oI 1)), oW 5 (.move (.t 37))])

def t6l1 : DCode :=
 (.seq (.seq (.region [oW 28 (.move (.t 5)), oW 29 (.move (.t 0)), oW 30 (.len 1 (.t 29)), oW 31 (.arith .lss (.t 28) (.t 30)), oW 32 (.move (.t 31)), ⟨(some 33), .move (.t 5), (some (32, true)), .write, 0⟩, ⟨(some 34), .arith .lss (.t 33) (oI 30), (some (32, true)), .write, 0⟩, oW 35 (.pick (.t 32) (.t 34) (oB false))])
 (.cond (.t 35) .skip (.exit 0)))
 (.seq (.block 1 (.seq (.region [oW 38 (.move (.t 0)), oW 39 (.move (.t 5)), oW 40 (.indexAddr 7 (.t 38) (.t 39)), oW 41 (.load (some 7) (.t 40)), oW 6 (.alloc 73 7 (.agg [(.int .i64 0), (.int .i64 0), (.int .i64 0), (.int .i64 0), (.int .i64 0), .nsl, .nsl])), oZ (.store 7 (.t 6) (.t 41))])
 (.seq (.region [oW 42 (.fieldAddr 1 (.t 6)), oW 43 (.load none (.t 42)), oW 44 (.call (oF 16) [(.t 43), (oI 0), (oI 1)]), oW 45 (.build [(.int .i64 0), (.int .i64 0)] [(0, 1, (.t 44))]), oW 7 (.alloc 37 2 (.agg [(.int .i64 0), (.int .i64 0)])), oZ (.store 2 (.t 7) (.t 45))])
 (.seq (.draw [oR 46 (.fieldAddr 2 (.t 6)), oR 47 (.load none (.t 46)), ⟨(some 48), .call (oF 16) [(.t 47), (oI 0), (oI 3)], none, .create, 0⟩, oR 49 (.fieldAddr 3 (.t 6)), oR 50 (.load none (.t 49)), ⟨(some 51), .call (oF 16) [(.t 50), (oI 0), (oI 1)], none, .write, 1⟩, ⟨(some 52), .build [(.int .i64 0), (.int .i64 0)] [(0, 1, (.t 48)), (1, 1, (.t 51))], none, .read, 2⟩, ⟨(some 8), .alloc 37 2 (.agg [(.int .i64 0), (.int .i64 0)]), none, .create, 0⟩, ⟨none, .store 2 (.t 8) (.t 52), none, .write, 3⟩])
 (.seq (.region [oW 53 (.fieldAddr 4 (.t 6)), oW 54 (.load none (.t 53)), oW 55 (.call (oF 16) [(.t 54), (oI (-1)), (oI 3)]), oW 9 (.move (.t 55))])
 (.seq (.seq (.region [oW 56 (.move (.t 9)), oW 57 (.arith .eql (.t 56) (oI 0))])
 (.cond (.t 57) (.region [oW 9 (.move (oI (-1)))]) .skip))
 (.seq (.region [oW 58 (.fieldAddr 5 (.t 6)), oW 59 (.load (some 2) (.t 58)), oW 60 (.call (oF 18) [(.t 59)]), oW 10 (.move (.t 60))])
 (.seq (.seq (.draw [oR 61 (.load (some 6) (.t 3)), oR 62 (.load (some 2) (.t 7)), oR 63 (.move (.t 10)), ⟨(some 64), .call (oF 35) [(.t 61), (.t 62), (.t 63)], none, .create, 0⟩, oR 65 (.load (some 6) (.t 4)), oR 66 (.load (some 2) (.t 7)), oR 67 (.move (.t 10)), ⟨(some 68), .call (oF 36) [(.t 65), (.t 66), (.t 67)], none, .write, 1⟩, ⟨(some 69), .eqb true (.t 64) (.t 68), none, .read, 2⟩])
 (.cond (.t 69) (.seq (.region [oW 2 (.move (oB false))])
 .ret) .skip))
 (.seq (.seq (.region [oW 70 (.fieldAddr 0 (.t 6)), oW 71 (.load none (.t 70))])
 (.block 2 (.seq (.region [oW 73 (.arith .eql (.t 71) (oI 1)), oW 72 (.move (.t 73))])
 (.cond (.t 72) (.seq (.region [oW 11 (.move (oB false)), oW 12 (.move (oB false))])
 (.seq (.region [oW 74 (.load (some 2) (.t 7)), oW 75 (.load (some 2) (.t 8)), oW 76 (.move (.t 10)), oW 77 (.move (.t 9)), oW 78 (.build [(.int .i64 0), (.int .i64 0), (.int .i64 0), (.int .i64 0), .nsl, (.int .i64 0), (.bool false)] [(0, 2, (.t 74)), (2, 2, (.t 75)), (4, 1, (.t 76)), (5, 1, (.t 77))]), oW 13 (.alloc 58 7 (.agg [(.int .i64 0), (.int .i64 0), (.int .i64 0), (.int .i64 0), .nsl, (.int .i64 0), (.bool false)])), oZ (.store 7 (.t 13) (.t 78))])
 (.seq (.region [oW 80 (.load (some 6) (.t 3)), oW 81 (.load (some 7) (.t 13)), oW 82 (.call (oF 31) [(.t 80), (.t 81)]), oW 79 (.move (.t 82)), oW 83 (.extract (.t 79) 0), oW 84 (.extract (.t 79) 1), oZ (.store 6 (.t 3) (.t 83)), oW 11 (.move (.t 84))])
 (.seq (.region [oW 86 (.load (some 6) (.t 4)), oW 87 (.load (some 7) (.t 13)), oW 88 (.call (oF 37) [(.t 86), (.t 87)]), oW 85 (.move (.t 88)), oW 89 (.extract (.t 85) 0), oW 90 (.extract (.t 85) 1), oZ (.store 6 (.t 4) (.t 89)), oW 12 (.move (.t 90))])
 (.seq (.region [oW 91 (.move (.t 11)), oW 92 (.move (.t 12)), oW 93 (.eqb true (.t 91) (.t 92))])
 (.cond (.t 93) (.seq (.region [oW 2 (.move (oB false))])
 .ret) .skip)))))) (.seq (.region [oW 95 (.arith .eql (.t 71) (oI 2)), oW 94 (.move (.t 95))])
 (.cond (.t 94) (.seq (.region [oW 14 (.move (.c .nsl)), oW 15 (.move (.c .nsl))])
 (.seq (.region [oW 16 (.move (oB false)), oW 17 (.move (oB false))])
 (.seq (.region [oW 97 (.load (some 6) (.t 3)), oW 98 (.load (some 2) (.t 7)), oW 99 (.load (some 2) (.t 8)), oW 100 (.move (.t 9)), oW 101 (.call (oF 34) [(.t 97), (.t 98), (.t 99), (.t 100)]), oW 96 (.move (.t 101)), oW 102 (.extract (.t 96) 0), oW 103 (.extract (.t 96) 1), oW 104 (.extract (.t 96) 2), oZ (.store 6 (.t 3) (.t 102)), oW 14 (.move (.t 103)), oW 16 (.move (.t 104))])
 (.seq (.region [oW 106 (.load (some 6) (.t 4)), oW 107 (.load (some 2) (.t 7)), oW 108 (.load (some 2) (.t 8)), oW 109 (.move (.t 9)), oW 110 (.call (oF 38) [(.t 106), (.t 107), (.t 108), (.t 109)]), oW 105 (.move (.t 110)), oW 111 (.extract (.t 105) 0), oW 112 (.extract (.t 105) 1), oW 113 (.extract (.t 105) 2), oZ (.store 6 (.t 4) (.t 111)), oW 15 (.move (.t 112)), oW 17 (.move (.t 113))])
 (.seq (.region [oW 114 (.move (.t 16)), oW 115 (.move (.t 17)), oW 116 (.eqb true (.t 114) (.t 115)), oW 117 (.move (.t 116)), ⟨(some 118), .move (.t 14), (some (117, false)), .write, 0⟩, ⟨(some 119), .move (.t 15), (some (117, false)), .write, 0⟩, ⟨(some 120), .call (oF 39) [(.t 118), (.t 119)], (some (117, false)), .write, 0⟩, ⟨(some 121), .un .not (.t 120), (some (117, false)), .write, 0⟩, oW 122 (.pick (.t 117) (oB true) (.t 121))])
 (.cond (.t 122) (.seq (.region [oW 2 (.move (oB false))])
 .ret) .skip)))))) (.seq (.region [oW 124 (.arith .eql (.t 71) (oI 3)), oW 123 (.move (.t 124))])
 (.cond (.t 123) (.seq (.region [oW 125 (.load (some 2) (.t 7)), oW 126 (.move (.t 10)), oW 127 (.move (.t 9)), oW 128 (.build [(.int .i64 0), (.int .i64 0), .nsl, (.int .i64 0)] [(0, 2, (.t 125)), (2, 1, (.t 126)), (3, 1, (.t 127))]), oW 18 (.alloc 42 4 (.agg [(.int .i64 0), (.int .i64 0), .nsl, (.int .i64 0)])), oZ (.store 4 (.t 18) (.t 128))])
 (.seq (.region [oW 130 (.load (some 6) (.t 3)), oW 131 (.load (some 4) (.t 18)), oW 132 (.call (oF 19) [(.t 130), (.t 131)]), oW 129 (.move (.t 132)), oW 133 (.extract (.t 129) 0), oW 134 (.extract (.t 129) 1), oZ (.store 6 (.t 3) (.t 133))])
 (.region [oW 136 (.load (some 6) (.t 4)), oW 137 (.load (some 4) (.t 18)), oW 138 (.call (oF 20) [(.t 136), (.t 137)]), oW 135 (.move (.t 138)), oW 139 (.extract (.t 135) 0), oW 140 (.extract (.t 135) 1), oZ (.store 6 (.t 4) (.t 139))]))) (.seq (.region [oW 142 (.arith .eql (.t 71) (oI 4)), oW 141 (.move (.t 142))])
 (.cond (.t 141) (.seq (.region [oW 144 (.load (some 6) (.t 3)), oW 145 (.load (some 2) (.t 7)), oW 146 (.move (.t 9)), oW 147 (.call (oF 21) [(.t 144), (.t 145), (.t 146)]), oW 143 (.move (.t 147)), oW 148 (.extract (.t 143) 0), oW 149 (.extract (.t 143) 1), oZ (.store 6 (.t 3) (.t 148))])
 (.region [oW 151 (.load (some 6) (.t 4)), oW 152 (.load (some 2) (.t 7)), oW 153 (.move (.t 9)), oW 154 (.call (oF 22) [(.t 151), (.t 152), (.t 153)]), oW 150 (.move (.t 154)), oW 155 (.extract (.t 150) 0), oW 156 (.extract (.t 150) 1), oZ (.store 6 (.t 4) (.t 155))])) .skip))))))))))
 t6s1)))))))))
 t6k1))

def t6k2 : DCode :=
 (.seq (.region [oW 222 (.call (oF 33) []), oW 2 (.move (.t 222))])
 .ret)

/-- broadside/broadsidelaw10.SubsPlays -/
def t6 : DFunc := { ntmps := 223, results := [(.t 2)], mode := .pure, body :=
 (.seq (.region [oW 2 (.move (oB false))])
 (.seq (.region [oW 24 (.buildSlice 3 1 (.int .i64 0) 3 [(0, (oI 1)), (1, (oI 2)), (2, (oI 3))]), oW 25 (.call (oF 15) [(oI 0), (.t 24)]), oW 26 (.buildSlice 3 1 (.int .i64 0) 3 [(0, (oI 1)), (1, (oI 2)), (2, (oI 3))]), oW 27 (.build [(.int .i64 0), .nsl, .nsl, .nsl, .nsl, .nsl] [(1, 1, (.t 26))]), oW 3 (.alloc 29 6 (.agg [(.int .i64 0), .nsl, .nsl, .nsl, .nsl, .nsl])), oW 4 (.alloc 29 6 (.agg [(.int .i64 0), .nsl, .nsl, .nsl, .nsl, .nsl])), oZ (.store 6 (.t 3) (.t 25)), oZ (.store 6 (.t 4) (.t 27))])
 (.seq (.seq (.region [oW 5 (.move (oI 0))])
 (.block 0 (.loop t6l1)))
 t6k2))) }

theorem c6 : compFunc Tryz.prog Tryz.f6 .pure = some t6 := by kernel_rfl

/-- broadside/adverts.New -/
def t15 : DFunc := { ntmps := 14, results := [(.cell 4 (some 6))], mode := .pure, body :=
 (.seq (.region [oW 4 (.alloc 29 6 (.agg [(.int .i64 0), .nsl, .nsl, .nsl, .nsl, .nsl]))])
 (.seq (.region [oW 6 (.move (.t 1)), oW 7 (.call (oF 64) [(.t 6)]), oW 5 (.move (.t 7))])
 (.seq (.region [oW 8 (.move (.t 5)), oW 9 (.call (oF 65) [(.t 8)])])
 (.seq (.region [oW 10 (.move (.t 0)), oW 11 (.move (.t 5)), oW 12 (.call (oF 66) [(.t 11)]), oW 13 (.build [(.int .i64 0), .nsl, .nsl, .nsl, .nsl, .nsl] [(0, 1, (.t 10)), (1, 1, (.t 12))]), oZ (.store 6 (.t 4) (.t 13))])
 .ret)))) }

theorem c15 : compFunc Tryz.prog Tryz.f15 .pure = some t15 := by kernel_rfl

/-- broadside/broadsidebook.Within -/
def t16 : DFunc := { ntmps := 24, results := [(.t 6)], mode := .pure, body :=
 (.seq (.region [oW 6 (.move (oI 0))])
 (.seq (.region [oW 7 (.move (.t 0)), oW 8 (.move (.t 2)), oW 9 (.move (.t 1)), oW 10 (.arith .sub (.t 8) (.t 9)), oW 11 (.arith .add (.t 10) (oI 1)), oW 12 (.arith .rem (.t 7) (.t 11)), oW 0 (.move (.t 12))])
 (.seq (.seq (.region [oW 13 (.move (.t 0)), oW 14 (.arith .lss (.t 13) (oI 0))])
 (.cond (.t 14) (.region [oW 15 (.move (.t 0)), oW 16 (.move (.t 2)), oW 17 (.arith .add (.t 15) (.t 16)), oW 18 (.move (.t 1)), oW 19 (.arith .sub (.t 17) (.t 18)), oW 20 (.arith .add (.t 19) (oI 1)), oW 0 (.move (.t 20))]) .skip))
 (.seq (.region [oW 21 (.move (.t 1)), oW 22 (.move (.t 0)), oW 23 (.arith .add (.t 21) (.t 22)), oW 6 (.move (.t 23))])
 .ret)))) }

theorem c16 : compFunc Tryz.prog Tryz.f16 .pure = some t16 := by kernel_rfl

def t18l0 : DCode :=
 (.seq (.region [oW 9 (.arith .lss (.t 8) (.t 7))])
 (.seq (.cond (.t 9) .skip (.exit 0))
 (.seq (.block 1 (.seq (.region [oW 10 (.move (.t 8)), oW 11 (.indexAddr 1 (.t 6) (.t 8)), oW 12 (.load none (.t 11)), oW 4 (.move (.t 10)), oW 5 (.move (.t 12))])
 (.seq (.region [oW 13 (.move (.t 4)), oW 14 (.fieldAddr 0 (.t 1)), oW 15 (.load none (.t 14)), oW 16 (.len 1 (.t 15)), oW 17 (.arith .lss (.t 13) (.t 16)), oW 18 (.move (.t 17)), ⟨(some 19), .fieldAddr 0 (.t 1), (some (18, true)), .write, 0⟩, ⟨(some 20), .load none (.t 19), (some (18, true)), .write, 0⟩, ⟨(some 21), .move (.t 4), (some (18, true)), .write, 0⟩, ⟨(some 22), .indexAddr 1 (.t 20) (.t 21), (some (18, true)), .write, 0⟩, ⟨(some 23), .load none (.t 22), (some (18, true)), .write, 0⟩, ⟨(some 24), .arith .and (.t 23) (oI 1), (some (18, true)), .write, 0⟩, ⟨(some 25), .arith .eql (.t 24) (oI 1), (some (18, true)), .write, 0⟩, oW 26 (.pick (.t 18) (.t 25) (oB false)), oW 27 (.move (.t 26)), ⟨(some 28), .move (.t 3), (some (27, true)), .write, 0⟩, ⟨(some 29), .len 1 (.t 28), (some (27, true)), .write, 0⟩, ⟨(some 30), .arith .lss (.t 29) (oI 5), (some (27, true)), .write, 0⟩, oW 31 (.pick (.t 27) (.t 30) (oB false))])
 (.cond (.t 31) (.region [oW 32 (.move (.t 3)), oW 33 (.move (.t 5)), oW 34 (.fieldAddr 1 (.t 1)), oW 35 (.load none (.t 34)), oW 36 (.move (.t 4)), oW 37 (.call (oF 69) [(.t 35), (.t 36)]), oW 38 (.call (oF 68) [(.t 33), (.t 37)]), oW 39 (.buildSlice 62 5 (.agg [(.str []), (.int .i64 0), (.int .i64 0), (.int .i64 0), (.str [])]) 1 [(0, (.t 38))]), oW 40 (.append 62 5 56 (.t 32) (.t 39)), oW 3 (.move (.t 40))]) .skip))))
 (.region [oW 41 (.arith .add (.t 8) (oI 1)), oW 8 (.move (.t 41))]))))

def t18k0 : DCode :=
 (.seq (.region [oW 42 (.move (.t 3)), oW 2 (.move (.t 42))])
 .ret)

/-- (broadside/broadsidekeep.Pred).Pred -/
def t18 : DFunc := { ntmps := 43, results := [(.t 2)], mode := .pure, body :=
 (.seq (.region [oW 1 (.box 32 2 (.t 0)), oW 2 (.move (.c .nsl))])
 (.seq (.region [oW 3 (.move (.c .nsl))])
 (.seq (.seq (.region [oW 6 (.call (oF 67) []), oW 7 (.len 1 (.t 6)), oW 8 (.move (oI 0))])
 (.block 0 (.loop t18l0)))
 t18k0))) }

theorem c18 : compFunc Tryz.prog Tryz.f18 .pure = some t18 := by kernel_rfl

/-- broadside/adverts.Learn -/
def t19 : DFunc := { ntmps := 44, results := [(.cell 4 (some 6)), (.t 5)], mode := .frz, body :=
 (.seq (.region [oW 2 (.box 29 6 (.t 0)), oW 3 (.box 42 4 (.t 1)), oW 4 (.alloc 29 6 (.agg [(.int .i64 0), .nsl, .nsl, .nsl, .nsl, .nsl])), oW 5 (.move (oB false))])
 (.seq (.region [oW 10 (.load (some 6) (.t 2)), oW 11 (.call (oF 70) [(.t 10)]), oZ (.store 6 (.t 2) (.t 11))])
 (.seq (.region [oW 13 (.load (some 6) (.t 2)), oW 14 (.fieldAddr 0 (.t 3)), oW 15 (.load (some 2) (.t 14)), oW 16 (.call (oF 71) [(.t 13), (.t 15)]), oW 12 (.move (.t 16)), oW 17 (.extract (.t 12) 0), oW 18 (.extract (.t 12) 1), oW 6 (.move (.t 17)), oW 7 (.move (.t 18))])
 (.seq (.seq (.region [oW 19 (.move (.t 7))])
 (.cond (.t 19) (.seq (.region [oW 20 (.load (some 6) (.t 2)), oZ (.store 6 (.t 4) (.t 20)), oW 5 (.move (oB false))])
 .ret) .skip))
 (.seq (.region [oW 22 (.load (some 6) (.t 2)), oW 23 (.fieldAddr 0 (.t 3)), oW 24 (.load (some 2) (.t 23)), oW 25 (.call (oF 72) [(.t 22), (.t 24)]), oW 21 (.move (.t 25)), oW 26 (.extract (.t 21) 0), oW 27 (.extract (.t 21) 1), oW 8 (.move (.t 26)), oW 9 (.move (.t 27))])
 (.seq (.region [oW 28 (.fieldAddr 2 (.t 2)), oW 29 (.load none (.t 28)), oW 30 (.move (.t 8)), oW 31 (.load (some 4) (.t 3)), oW 32 (.buildSlice 42 4 (.agg [(.int .i64 0), (.int .i64 0), .nsl, (.int .i64 0)]) 1 [(0, (.t 31))]), oW 33 (.call (oF 73) [(.t 29), (.t 30), (.t 32)]), oW 34 (.fieldAddr 2 (.t 2)), oZ (.store 1 (.t 34) (.t 33))])
 (.seq (.region [oW 35 (.fieldAddr 3 (.t 2)), oW 36 (.load none (.t 35)), oW 37 (.move (.t 6)), oW 38 (.fieldAddr 0 (.t 3)), oW 39 (.load (some 2) (.t 38)), oW 40 (.buildSlice 37 2 (.agg [(.int .i64 0), (.int .i64 0)]) 1 [(0, (.t 39))]), oW 41 (.call (oF 74) [(.t 36), (.t 37), (.t 40)]), oW 42 (.fieldAddr 3 (.t 2)), oZ (.store 1 (.t 42) (.t 41))])
 (.seq (.region [oW 43 (.load (some 6) (.t 2)), oZ (.store 6 (.t 4) (.t 43)), oW 5 (.move (oB true))])
 .ret)))))))) }

theorem c19 : compFunc Tryz.prog Tryz.f19 .frz = some t19 := by kernel_rfl

def t20l0 : DCode :=
 (.seq (.seq (.draw [oR 13 (.fieldAddr 3 (.t 2)), oR 14 (.load none (.t 13)), oR 12 (.move (.t 6)), oR 15 (.len 1 (.t 14)), oR 16 (.arith .lss (.t 12) (.t 15)), oR 17 (.move (.t 16)), ⟨(some 18), .fieldAddr 3 (.t 2), (some (17, true)), .read, 0⟩, ⟨(some 19), .load none (.t 18), (some (17, true)), .read, 0⟩, ⟨(some 20), .move (.t 6), (some (17, true)), .read, 0⟩, ⟨(some 21), .indexAddr 2 (.t 19) (.t 20), (some (17, true)), .read, 0⟩, ⟨(some 22), .load (some 2) (.t 21), (some (17, true)), .read, 0⟩, ⟨(some 23), .fieldAddr 0 (.t 3), (some (17, true)), .read, 0⟩, ⟨(some 24), .load (some 2) (.t 23), (some (17, true)), .read, 0⟩, ⟨(some 25), .call (oF 76) [(.t 22), (.t 24)], (some (17, true)), .write, 0⟩, ⟨(some 26), .pick (.t 17) (.t 25) (oB false), none, .read, 1⟩])
 (.cond (.t 26) .skip (.exit 0)))
 (.block 1 (.region [oW 27 (.move (.t 6)), oW 28 (.arith .add (.t 27) (oI 1)), oW 6 (.move (.t 28))])))

def t20l1 : DCode :=
 (.seq (.seq (.draw [oR 46 (.fieldAddr 2 (.t 2)), oR 47 (.load none (.t 46)), oR 45 (.move (.t 6)), oR 48 (.len 1 (.t 47)), oR 49 (.arith .lss (.t 45) (.t 48)), oR 50 (.move (.t 49)), ⟨(some 51), .fieldAddr 2 (.t 2), (some (50, true)), .read, 0⟩, ⟨(some 52), .load none (.t 51), (some (50, true)), .read, 0⟩, ⟨(some 53), .move (.t 6), (some (50, true)), .read, 0⟩, ⟨(some 54), .indexAddr 4 (.t 52) (.t 53), (some (50, true)), .read, 0⟩, ⟨(some 55), .fieldAddr 0 (.t 54), (some (50, true)), .read, 0⟩, ⟨(some 56), .load (some 2) (.t 55), (some (50, true)), .read, 0⟩, ⟨(some 57), .fieldAddr 0 (.t 3), (some (50, true)), .read, 0⟩, ⟨(some 58), .load (some 2) (.t 57), (some (50, true)), .read, 0⟩, ⟨(some 59), .call (oF 76) [(.t 56), (.t 58)], (some (50, true)), .write, 0⟩, ⟨(some 60), .pick (.t 50) (.t 59) (oB false), none, .read, 1⟩])
 (.cond (.t 60) .skip (.exit 2)))
 (.block 3 (.region [oW 61 (.move (.t 6)), oW 62 (.arith .add (.t 61) (oI 1)), oW 6 (.move (.t 62))])))

def t20k0 : DCode :=
 (.seq (.draw [oR 64 (.fieldAddr 2 (.t 2)), oR 65 (.load none (.t 64)), oR 66 (.move (.t 6)), oR 67 (.sliceSl 4 (.t 65) none (some (.t 66))), ⟨(some 63), .buildSlice 42 4 (.agg [(.int .i64 0), (.int .i64 0), .nsl, (.int .i64 0)]) 0 [], none, .create, 0⟩, ⟨(some 68), .append 42 4 48 (.t 63) (.t 67), none, .create, 0⟩, oR 69 (.load (some 4) (.t 3)), ⟨(some 70), .buildSlice 42 4 (.agg [(.int .i64 0), (.int .i64 0), .nsl, (.int .i64 0)]) 1 [(0, (.t 69))], none, .create, 0⟩, ⟨(some 71), .append 42 4 48 (.t 68) (.t 70), none, .create, 0⟩, oR 72 (.fieldAddr 2 (.t 2)), oR 73 (.load none (.t 72)), oR 74 (.move (.t 6)), oR 75 (.sliceSl 4 (.t 73) (some (.t 74)) none), ⟨(some 76), .append 42 4 48 (.t 71) (.t 75), none, .write, 4⟩, ⟨(some 77), .fieldAddr 2 (.t 2), none, .read, 5⟩, ⟨none, .store 1 (.t 77) (.t 76), none, .write, 5⟩])
 (.seq (.region [oW 78 (.load (some 6) (.t 2)), oZ (.store 6 (.t 4) (.t 78)), oW 5 (.move (oB true))])
 .ret))

def t20k1 : DCode :=
 (.seq (.draw [oR 30 (.fieldAddr 3 (.t 2)), oR 31 (.load none (.t 30)), oR 32 (.move (.t 6)), oR 33 (.sliceSl 2 (.t 31) none (some (.t 32))), ⟨(some 29), .buildSlice 37 2 (.agg [(.int .i64 0), (.int .i64 0)]) 0 [], none, .create, 0⟩, ⟨(some 34), .append 37 2 16 (.t 29) (.t 33), none, .create, 0⟩, oR 35 (.fieldAddr 0 (.t 3)), oR 36 (.load (some 2) (.t 35)), ⟨(some 37), .buildSlice 37 2 (.agg [(.int .i64 0), (.int .i64 0)]) 1 [(0, (.t 36))], none, .create, 0⟩, ⟨(some 38), .append 37 2 16 (.t 34) (.t 37), none, .create, 0⟩, oR 39 (.fieldAddr 3 (.t 2)), oR 40 (.load none (.t 39)), oR 41 (.move (.t 6)), oR 42 (.sliceSl 2 (.t 40) (some (.t 41)) none), ⟨(some 43), .append 37 2 16 (.t 38) (.t 42), none, .write, 4⟩, ⟨(some 44), .fieldAddr 3 (.t 2), none, .read, 5⟩, ⟨none, .store 1 (.t 44) (.t 43), none, .write, 5⟩])
 (.seq (.region [oW 6 (.move (oI 0))])
 (.seq (.block 2 (.loop t20l1))
 t20k0)))

/-- broadside/broadsideref9.Learn -/
def t20 : DFunc := { ntmps := 79, results := [(.cell 4 (some 6)), (.t 5)], mode := .frz, body :=
 (.seq (.region [oW 2 (.box 29 6 (.t 0)), oW 3 (.box 42 4 (.t 1)), oW 4 (.alloc 29 6 (.agg [(.int .i64 0), .nsl, .nsl, .nsl, .nsl, .nsl])), oW 5 (.move (oB false))])
 (.seq (.seq (.region [oW 7 (.load (some 6) (.t 2)), oW 8 (.fieldAddr 0 (.t 3)), oW 9 (.load (some 2) (.t 8)), oW 10 (.call (oF 75) [(.t 7), (.t 9)])])
 (.cond (.t 10) (.seq (.region [oW 11 (.load (some 6) (.t 2)), oZ (.store 6 (.t 4) (.t 11)), oW 5 (.move (oB false))])
 .ret) .skip))
 (.seq (.region [oW 6 (.move (oI 0))])
 (.seq (.block 0 (.loop t20l0))
 t20k1)))) }

theorem c20 : compFunc Tryz.prog Tryz.f20 .frz = some t20 := by kernel_rfl

/-- broadside/adverts.Forget -/
def t21 : DFunc := { ntmps := 44, results := [(.cell 6 (some 6)), (.t 7)], mode := .frz, body :=
 (.seq (.region [oW 3 (.box 29 6 (.t 0)), oW 4 (.box 37 2 (.t 1)), oW 6 (.alloc 29 6 (.agg [(.int .i64 0), .nsl, .nsl, .nsl, .nsl, .nsl])), oW 7 (.move (oB false))])
 (.seq (.region [oW 10 (.load (some 6) (.t 3)), oW 11 (.call (oF 70) [(.t 10)]), oZ (.store 6 (.t 3) (.t 11))])
 (.seq (.region [oW 13 (.load (some 6) (.t 3)), oW 14 (.load (some 2) (.t 4)), oW 15 (.call (oF 72) [(.t 13), (.t 14)]), oW 12 (.move (.t 15)), oW 16 (.extract (.t 12) 0), oW 17 (.extract (.t 12) 1), oW 8 (.move (.t 16)), oW 9 (.move (.t 17))])
 (.seq (.seq (.region [oW 18 (.move (.t 9)), oW 19 (.un .not (.t 18)), oW 20 (.move (.t 19)), ⟨(some 21), .fieldAddr 2 (.t 3), (some (20, false)), .write, 0⟩, ⟨(some 22), .load none (.t 21), (some (20, false)), .write, 0⟩, ⟨(some 23), .move (.t 8), (some (20, false)), .write, 0⟩, ⟨(some 24), .indexAddr 4 (.t 22) (.t 23), (some (20, false)), .write, 0⟩, ⟨(some 25), .fieldAddr 3 (.t 24), (some (20, false)), .write, 0⟩, ⟨(some 26), .load none (.t 25), (some (20, false)), .write, 0⟩, ⟨(some 27), .move (.t 2), (some (20, false)), .write, 0⟩, ⟨(some 28), .arith .neq (.t 26) (.t 27), (some (20, false)), .write, 0⟩, oW 29 (.pick (.t 20) (oB true) (.t 28))])
 (.cond (.t 29) (.seq (.region [oW 30 (.load (some 6) (.t 3)), oZ (.store 6 (.t 6) (.t 30)), oW 7 (.move (oB false))])
 .ret) .skip))
 (.seq (.region [oW 31 (.fieldAddr 2 (.t 3)), oW 32 (.load none (.t 31)), oW 33 (.move (.t 8)), oW 34 (.move (.t 8)), oW 35 (.arith .add (.t 34) (oI 1)), oW 36 (.call (oF 77) [(.t 32), (.t 33), (.t 35)]), oW 37 (.fieldAddr 2 (.t 3)), oZ (.store 1 (.t 37) (.t 36))])
 (.seq (.region [oW 38 (.fieldAddr 4 (.t 3)), oW 39 (.load none (.t 38)), oW 40 (.makeFunc 79 [(.t 4)]), oW 41 (.call (oF 78) [(.t 39), (.t 40)]), oW 42 (.fieldAddr 4 (.t 3)), oZ (.store 1 (.t 42) (.t 41))])
 (.seq (.region [oW 43 (.load (some 6) (.t 3)), oZ (.store 6 (.t 6) (.t 43)), oW 7 (.move (oB true))])
 .ret))))))) }

theorem c21 : compFunc Tryz.prog Tryz.f21 .frz = some t21 := by kernel_rfl

def t22l0 : DCode :=
 (.seq (.region [oW 45 (.arith .lss (.t 44) (.t 43))])
 (.seq (.cond (.t 45) .skip (.exit 0))
 (.seq (.block 1 (.seq (.region [oW 46 (.indexAddr 7 (.t 42) (.t 44)), oW 47 (.load (some 7) (.t 46)), oW 11 (.alloc 58 7 (.agg [(.int .i64 0), (.int .i64 0), (.int .i64 0), (.int .i64 0), .nsl, (.int .i64 0), (.bool false)])), oZ (.store 7 (.t 11) (.t 47))])
 (.seq (.region [oW 48 (.fieldAddr 0 (.t 11)), oW 49 (.load (some 2) (.t 48)), oW 50 (.load (some 2) (.t 4)), oW 51 (.eqa true [1, 1] (.t 49) (.t 50))])
 (.cond (.t 51) (.region [oW 52 (.move (.t 9)), oW 53 (.load (some 7) (.t 11)), oW 54 (.buildSlice 58 7 (.agg [(.int .i64 0), (.int .i64 0), (.int .i64 0), (.int .i64 0), .nsl, (.int .i64 0), (.bool false)]) 1 [(0, (.t 53))]), oW 55 (.append 58 7 72 (.t 52) (.t 54)), oW 9 (.move (.t 55))]) .skip))))
 (.region [oW 56 (.arith .add (.t 44) (oI 1)), oW 44 (.move (.t 56))]))))

def t22k0 : DCode :=
 (.seq (.region [oW 57 (.move (.t 9)), oW 58 (.fieldAddr 4 (.t 3)), oZ (.store 1 (.t 58) (.t 57))])
 (.seq (.region [oW 59 (.load (some 6) (.t 3)), oZ (.store 6 (.t 6) (.t 59)), oW 7 (.move (oB true))])
 .ret))

/-- broadside/broadsideref9.Forget -/
def t22 : DFunc := { ntmps := 60, results := [(.cell 6 (some 6)), (.t 7)], mode := .frz, body :=
 (.seq (.region [oW 3 (.box 29 6 (.t 0)), oW 4 (.box 37 2 (.t 1)), oW 6 (.alloc 29 6 (.agg [(.int .i64 0), .nsl, .nsl, .nsl, .nsl, .nsl])), oW 7 (.move (oB false))])
 (.seq (.region [oW 12 (.load (some 6) (.t 3)), oW 13 (.load (some 2) (.t 4)), oW 14 (.call (oF 24) [(.t 12), (.t 13)]), oW 8 (.move (.t 14))])
 (.seq (.seq (.region [oW 15 (.move (.t 8)), oW 16 (.arith .lss (.t 15) (oI 0)), oW 17 (.move (.t 16)), ⟨(some 18), .fieldAddr 2 (.t 3), (some (17, false)), .write, 0⟩, ⟨(some 19), .load none (.t 18), (some (17, false)), .write, 0⟩, ⟨(some 20), .move (.t 8), (some (17, false)), .write, 0⟩, ⟨(some 21), .indexAddr 4 (.t 19) (.t 20), (some (17, false)), .write, 0⟩, ⟨(some 22), .fieldAddr 3 (.t 21), (some (17, false)), .write, 0⟩, ⟨(some 23), .load none (.t 22), (some (17, false)), .write, 0⟩, ⟨(some 24), .move (.t 2), (some (17, false)), .write, 0⟩, ⟨(some 25), .arith .neq (.t 23) (.t 24), (some (17, false)), .write, 0⟩, oW 26 (.pick (.t 17) (oB true) (.t 25))])
 (.cond (.t 26) (.seq (.region [oW 27 (.load (some 6) (.t 3)), oZ (.store 6 (.t 6) (.t 27)), oW 7 (.move (oB false))])
 .ret) .skip))
 (.seq (.draw [oR 29 (.fieldAddr 2 (.t 3)), oR 30 (.load none (.t 29)), oR 31 (.move (.t 8)), oR 32 (.sliceSl 4 (.t 30) none (some (.t 31))), ⟨(some 28), .buildSlice 42 4 (.agg [(.int .i64 0), (.int .i64 0), .nsl, (.int .i64 0)]) 0 [], none, .create, 0⟩, ⟨(some 33), .append 42 4 48 (.t 28) (.t 32), none, .create, 0⟩, oR 34 (.fieldAddr 2 (.t 3)), oR 35 (.load none (.t 34)), oR 36 (.move (.t 8)), oR 37 (.arith .add (.t 36) (oI 1)), oR 38 (.sliceSl 4 (.t 35) (some (.t 37)) none), ⟨(some 39), .append 42 4 48 (.t 33) (.t 38), none, .write, 2⟩, ⟨(some 40), .fieldAddr 2 (.t 3), none, .read, 3⟩, ⟨none, .store 1 (.t 40) (.t 39), none, .write, 3⟩])
 (.seq (.region [oW 9 (.move (.c .nsl))])
 (.seq (.seq (.region [oW 41 (.fieldAddr 4 (.t 3)), oW 42 (.load none (.t 41)), oW 43 (.len 1 (.t 42)), oW 44 (.move (oI 0))])
 (.block 0 (.loop t22l0)))
 t22k0)))))) }

theorem c22 : compFunc Tryz.prog Tryz.f22 .frz = some t22 := by kernel_rfl

/-- broadside/adverts.Find -/
def t23 : DFunc := { ntmps := 22, results := [(.cell 4 (some 4)), (.t 5)], mode := .pure, body :=
 (.seq (.region [oW 2 (.box 29 6 (.t 0)), oW 3 (.box 37 2 (.t 1)), oW 4 (.alloc 42 4 (.agg [(.int .i64 0), (.int .i64 0), .nsl, (.int .i64 0)])), oW 5 (.move (oB false))])
 (.seq (.region [oW 9 (.load (some 6) (.t 2)), oW 10 (.load (some 2) (.t 3)), oW 11 (.call (oF 72) [(.t 9), (.t 10)]), oW 8 (.move (.t 11)), oW 12 (.extract (.t 8) 0), oW 13 (.extract (.t 8) 1), oW 6 (.move (.t 12)), oW 7 (.move (.t 13))])
 (.seq (.seq (.region [oW 14 (.move (.t 7)), oW 15 (.un .not (.t 14))])
 (.cond (.t 15) (.seq (.region [oW 16 (.build [(.int .i64 0), (.int .i64 0), .nsl, (.int .i64 0)] []), oZ (.store 4 (.t 4) (.t 16)), oW 5 (.move (oB false))])
 .ret) .skip))
 (.seq (.region [oW 17 (.fieldAddr 2 (.t 2)), oW 18 (.load none (.t 17)), oW 19 (.move (.t 6)), oW 20 (.indexAddr 4 (.t 18) (.t 19)), oW 21 (.load (some 4) (.t 20)), oZ (.store 4 (.t 4) (.t 21)), oW 5 (.move (oB true))])
 .ret)))) }

theorem c23 : compFunc Tryz.prog Tryz.f23 .pure = some t23 := by kernel_rfl

def t24l0 : DCode :=
 (.seq (.region [oW 11 (.arith .lss (.t 10) (.t 9))])
 (.seq (.cond (.t 11) .skip (.exit 0))
 (.seq (.block 1 (.seq (.region [oW 12 (.move (.t 10)), oW 13 (.indexAddr 4 (.t 8) (.t 10)), oW 14 (.load (some 4) (.t 13)), oW 6 (.alloc 42 4 (.agg [(.int .i64 0), (.int .i64 0), .nsl, (.int .i64 0)])), oW 5 (.move (.t 12)), oZ (.store 4 (.t 6) (.t 14))])
 (.seq (.region [oW 15 (.fieldAddr 0 (.t 6)), oW 16 (.load (some 2) (.t 15)), oW 17 (.load (some 2) (.t 3)), oW 18 (.eqa false [1, 1] (.t 16) (.t 17))])
 (.cond (.t 18) (.seq (.region [oW 19 (.move (.t 5)), oW 4 (.move (.t 19))])
 .ret) .skip))))
 (.region [oW 20 (.arith .add (.t 10) (oI 1)), oW 10 (.move (.t 20))]))))

def t24k0 : DCode :=
 (.seq (.region [oW 4 (.move (oI (-1)))])
 .ret)

/-- broadside/broadsideref9.Find -/
def t24 : DFunc := { ntmps := 21, results := [(.t 4)], mode := .pure, body :=
 (.seq (.region [oW 2 (.box 29 6 (.t 0)), oW 3 (.box 37 2 (.t 1)), oW 4 (.move (oI 0))])
 (.seq (.seq (.region [oW 7 (.fieldAddr 2 (.t 2)), oW 8 (.load none (.t 7)), oW 9 (.len 1 (.t 8)), oW 10 (.move (oI 0))])
 (.block 0 (.loop t24l0)))
 t24k0)) }

theorem c24 : compFunc Tryz.prog Tryz.f24 .pure = some t24 := by kernel_rfl

def t25l0 : DCode :=
 (.seq (.region [oW 58 (.arith .lss (.t 57) (.t 56))])
 (.seq (.cond (.t 58) .skip (.exit 0))
 (.seq (.block 1 (.seq (.region [oW 59 (.move (.t 57)), oW 5 (.move (.t 59))])
 (.seq (.draw [oR 60 (.fieldAddr 2 (.t 2)), oR 61 (.load none (.t 60)), oR 62 (.move (.t 5)), oR 63 (.indexAddr 4 (.t 61) (.t 62)), oR 64 (.fieldAddr 0 (.t 63)), oR 65 (.load (some 2) (.t 64)), oR 66 (.fieldAddr 2 (.t 3)), oR 67 (.load none (.t 66)), oR 68 (.move (.t 5)), oR 69 (.indexAddr 4 (.t 67) (.t 68)), oR 70 (.fieldAddr 0 (.t 69)), oR 71 (.load (some 2) (.t 70)), oR 72 (.eqa true [1, 1] (.t 65) (.t 71)), oR 73 (.move (.t 72)), ⟨(some 74), .fieldAddr 2 (.t 2), (some (73, false)), .read, 0⟩, ⟨(some 75), .load none (.t 74), (some (73, false)), .read, 0⟩, ⟨(some 76), .move (.t 5), (some (73, false)), .read, 0⟩, ⟨(some 77), .indexAddr 4 (.t 75) (.t 76), (some (73, false)), .read, 0⟩, ⟨(some 78), .fieldAddr 3 (.t 77), (some (73, false)), .read, 0⟩, ⟨(some 79), .load none (.t 78), (some (73, false)), .read, 0⟩, ⟨(some 80), .fieldAddr 2 (.t 3), (some (73, false)), .read, 0⟩, ⟨(some 81), .load none (.t 80), (some (73, false)), .read, 0⟩, ⟨(some 82), .move (.t 5), (some (73, false)), .read, 0⟩, ⟨(some 83), .indexAddr 4 (.t 81) (.t 82), (some (73, false)), .read, 0⟩, ⟨(some 84), .fieldAddr 3 (.t 83), (some (73, false)), .read, 0⟩, ⟨(some 85), .load none (.t 84), (some (73, false)), .read, 0⟩, ⟨(some 86), .arith .neq (.t 79) (.t 85), (some (73, false)), .read, 0⟩, oR 87 (.pick (.t 73) (oB true) (.t 86)), oR 88 (.move (.t 87)), ⟨(some 89), .fieldAddr 2 (.t 2), (some (88, false)), .read, 0⟩, ⟨(some 90), .load none (.t 89), (some (88, false)), .read, 0⟩, ⟨(some 91), .move (.t 5), (some (88, false)), .read, 0⟩, ⟨(some 92), .indexAddr 4 (.t 90) (.t 91), (some (88, false)), .read, 0⟩, ⟨(some 93), .fieldAddr 2 (.t 92), (some (88, false)), .read, 0⟩, ⟨(some 94), .load none (.t 93), (some (88, false)), .read, 0⟩, ⟨(some 95), .fieldAddr 2 (.t 3), (some (88, false)), .read, 0⟩, ⟨(some 96), .load none (.t 95), (some (88, false)), .read, 0⟩, ⟨(some 97), .move (.t 5), (some (88, false)), .read, 0⟩, ⟨(some 98), .indexAddr 4 (.t 96) (.t 97), (some (88, false)), .read, 0⟩, ⟨(some 99), .fieldAddr 2 (.t 98), (some (88, false)), .read, 0⟩, ⟨(some 100), .load none (.t 99), (some (88, false)), .read, 0⟩, ⟨(some 101), .call (oF 48) [(.t 94), (.t 100)], (some (88, false)), .write, 0⟩, ⟨(some 102), .un .not (.t 101), (some (88, false)), .read, 1⟩, ⟨(some 103), .pick (.t 88) (oB true) (.t 102), none, .read, 1⟩])
 (.cond (.t 103) (.seq (.region [oW 4 (.move (oB false))])
 .ret) .skip))))
 (.region [oW 104 (.arith .add (.t 57) (oI 1)), oW 57 (.move (.t 104))]))))

def t25l1 : DCode :=
 (.seq (.region [oW 109 (.arith .lss (.t 108) (.t 107))])
 (.seq (.cond (.t 109) .skip (.exit 2))
 (.seq (.block 3 (.seq (.region [oW 110 (.move (.t 108)), oW 6 (.move (.t 110))])
 (.seq (.draw [oR 111 (.fieldAddr 5 (.t 2)), oR 112 (.load none (.t 111)), oR 113 (.move (.t 6)), oR 114 (.indexAddr 3 (.t 112) (.t 113)), oR 115 (.fieldAddr 0 (.t 114)), oR 116 (.load (some 2) (.t 115)), oR 117 (.fieldAddr 5 (.t 3)), oR 118 (.load none (.t 117)), oR 119 (.move (.t 6)), oR 120 (.indexAddr 3 (.t 118) (.t 119)), oR 121 (.fieldAddr 0 (.t 120)), oR 122 (.load (some 2) (.t 121)), oR 123 (.eqa true [1, 1] (.t 116) (.t 122)), oR 124 (.move (.t 123)), ⟨(some 125), .fieldAddr 5 (.t 2), (some (124, false)), .read, 0⟩, ⟨(some 126), .load none (.t 125), (some (124, false)), .read, 0⟩, ⟨(some 127), .move (.t 6), (some (124, false)), .read, 0⟩, ⟨(some 128), .indexAddr 3 (.t 126) (.t 127), (some (124, false)), .read, 0⟩, ⟨(some 129), .fieldAddr 2 (.t 128), (some (124, false)), .read, 0⟩, ⟨(some 130), .load none (.t 129), (some (124, false)), .read, 0⟩, ⟨(some 131), .fieldAddr 5 (.t 3), (some (124, false)), .read, 0⟩, ⟨(some 132), .load none (.t 131), (some (124, false)), .read, 0⟩, ⟨(some 133), .move (.t 6), (some (124, false)), .read, 0⟩, ⟨(some 134), .indexAddr 3 (.t 132) (.t 133), (some (124, false)), .read, 0⟩, ⟨(some 135), .fieldAddr 2 (.t 134), (some (124, false)), .read, 0⟩, ⟨(some 136), .load none (.t 135), (some (124, false)), .read, 0⟩, ⟨(some 137), .call (oF 48) [(.t 130), (.t 136)], (some (124, false)), .write, 0⟩, ⟨(some 138), .un .not (.t 137), (some (124, false)), .read, 1⟩, ⟨(some 139), .pick (.t 124) (oB true) (.t 138), none, .read, 1⟩])
 (.cond (.t 139) (.seq (.region [oW 4 (.move (oB false))])
 .ret) .skip))))
 (.region [oW 140 (.arith .add (.t 108) (oI 1)), oW 108 (.move (.t 140))]))))

def t25k0 : DCode :=
 (.seq (.region [oW 4 (.move (oB true))])
 .ret)

def t25k1 : DCode :=
 (.seq (.seq (.region [oW 105 (.fieldAddr 5 (.t 2)), oW 106 (.load none (.t 105)), oW 107 (.len 1 (.t 106)), oW 108 (.move (oI 0))])
 (.block 2 (.loop t25l1)))
 t25k0)

/-- broadside/broadsidekeep.Brokers -/
def t25 : DFunc := { ntmps := 141, results := [(.t 4)], mode := .pure, body :=
 (.seq (.region [oW 2 (.box 29 6 (.t 0)), oW 3 (.box 29 6 (.t 1)), oW 4 (.move (oB false))])
 (.seq (.seq (.region [oW 7 (.fieldAddr 0 (.t 2)), oW 8 (.load none (.t 7)), oW 9 (.fieldAddr 0 (.t 3)), oW 10 (.load none (.t 9)), oW 11 (.arith .neq (.t 8) (.t 10)), oW 12 (.move (.t 11)), ⟨(some 13), .fieldAddr 1 (.t 2), (some (12, false)), .write, 0⟩, ⟨(some 14), .load none (.t 13), (some (12, false)), .write, 0⟩, ⟨(some 15), .fieldAddr 1 (.t 3), (some (12, false)), .write, 0⟩, ⟨(some 16), .load none (.t 15), (some (12, false)), .write, 0⟩, ⟨(some 17), .call (oF 80) [(.t 14), (.t 16)], (some (12, false)), .write, 0⟩, ⟨(some 18), .un .not (.t 17), (some (12, false)), .write, 0⟩, oW 19 (.pick (.t 12) (oB true) (.t 18)), oW 20 (.move (.t 19)), ⟨(some 21), .fieldAddr 3 (.t 2), (some (20, false)), .write, 0⟩, ⟨(some 22), .load none (.t 21), (some (20, false)), .write, 0⟩, ⟨(some 23), .fieldAddr 3 (.t 3), (some (20, false)), .write, 0⟩, ⟨(some 24), .load none (.t 23), (some (20, false)), .write, 0⟩, ⟨(some 25), .call (oF 81) [(.t 22), (.t 24)], (some (20, false)), .write, 0⟩, ⟨(some 26), .un .not (.t 25), (some (20, false)), .write, 0⟩, oW 27 (.pick (.t 20) (oB true) (.t 26)), oW 28 (.move (.t 27)), ⟨(some 29), .fieldAddr 2 (.t 2), (some (28, false)), .write, 0⟩, ⟨(some 30), .load none (.t 29), (some (28, false)), .write, 0⟩, ⟨(some 31), .len 1 (.t 30), (some (28, false)), .write, 0⟩, ⟨(some 32), .fieldAddr 2 (.t 3), (some (28, false)), .write, 0⟩, ⟨(some 33), .load none (.t 32), (some (28, false)), .write, 0⟩, ⟨(some 34), .len 1 (.t 33), (some (28, false)), .write, 0⟩, ⟨(some 35), .arith .neq (.t 31) (.t 34), (some (28, false)), .write, 0⟩, oW 36 (.pick (.t 28) (oB true) (.t 35)), oW 37 (.move (.t 36)), ⟨(some 38), .fieldAddr 5 (.t 2), (some (37, false)), .write, 0⟩, ⟨(some 39), .load none (.t 38), (some (37, false)), .write, 0⟩, ⟨(some 40), .len 1 (.t 39), (some (37, false)), .write, 0⟩, ⟨(some 41), .fieldAddr 5 (.t 3), (some (37, false)), .write, 0⟩, ⟨(some 42), .load none (.t 41), (some (37, false)), .write, 0⟩, ⟨(some 43), .len 1 (.t 42), (some (37, false)), .write, 0⟩, ⟨(some 44), .arith .neq (.t 40) (.t 43), (some (37, false)), .write, 0⟩, oW 45 (.pick (.t 37) (oB true) (.t 44)), oW 46 (.move (.t 45)), ⟨(some 47), .fieldAddr 4 (.t 2), (some (46, false)), .write, 0⟩, ⟨(some 48), .load none (.t 47), (some (46, false)), .write, 0⟩, ⟨(some 49), .fieldAddr 4 (.t 3), (some (46, false)), .write, 0⟩, ⟨(some 50), .load none (.t 49), (some (46, false)), .write, 0⟩, ⟨(some 51), .call (oF 39) [(.t 48), (.t 50)], (some (46, false)), .write, 0⟩, ⟨(some 52), .un .not (.t 51), (some (46, false)), .write, 0⟩, oW 53 (.pick (.t 46) (oB true) (.t 52))])
 (.cond (.t 53) (.seq (.region [oW 4 (.move (oB false))])
 .ret) .skip))
 (.seq (.seq (.region [oW 54 (.fieldAddr 2 (.t 2)), oW 55 (.load none (.t 54)), oW 56 (.len 1 (.t 55)), oW 57 (.move (oI 0))])
 (.block 0 (.loop t25l0)))
 t25k1))) }

theorem c25 : compFunc Tryz.prog Tryz.f25 .pure = some t25 := by kernel_rfl

/-- broadside/adverts.Right -/
def t27 : DFunc := { ntmps := 48, results := [(.t 2)], mode := .pure, body :=
 (.seq (.region [oW 1 (.box 29 6 (.t 0)), oW 2 (.move (oB false))])
 (.seq (.region [oW 4 (.fieldAddr 1 (.t 1)), oW 5 (.load none (.t 4)), oW 6 (.call (oF 91) [(.t 5), (oF 92)]), oW 7 (.move (.t 6)), ⟨(some 8), .fieldAddr 3 (.t 1), (some (7, true)), .write, 0⟩, ⟨(some 9), .load none (.t 8), (some (7, true)), .write, 0⟩, ⟨(some 10), .call (oF 93) [(.t 9), (oF 56)], (some (7, true)), .write, 0⟩, oW 11 (.pick (.t 7) (.t 10) (oB false)), oW 12 (.move (.t 11)), ⟨(some 13), .fieldAddr 2 (.t 1), (some (12, true)), .write, 0⟩, ⟨(some 14), .load none (.t 13), (some (12, true)), .write, 0⟩, ⟨(some 15), .call (oF 94) [(.t 14), (oF 95)], (some (12, true)), .write, 0⟩, oW 16 (.pick (.t 12) (.t 15) (oB false)), oW 17 (.move (.t 16)), ⟨(some 18), .fieldAddr 5 (.t 1), (some (17, true)), .write, 0⟩, ⟨(some 19), .load none (.t 18), (some (17, true)), .write, 0⟩, ⟨(some 20), .call (oF 96) [(.t 19), (oF 97)], (some (17, true)), .write, 0⟩, oW 21 (.pick (.t 17) (.t 20) (oB false)), oW 22 (.move (.t 21)), ⟨(some 23), .fieldAddr 4 (.t 1), (some (22, true)), .write, 0⟩, ⟨(some 24), .load none (.t 23), (some (22, true)), .write, 0⟩, ⟨(some 25), .call (oF 98) [(.t 24), (oF 99)], (some (22, true)), .write, 0⟩, oW 26 (.pick (.t 22) (.t 25) (oB false)), oW 3 (.move (.t 26))])
 (.seq (.region [oW 27 (.move (.t 3)), oW 28 (.move (.t 27)), ⟨(some 29), .fieldAddr 2 (.t 1), (some (28, true)), .write, 0⟩, ⟨(some 30), .load none (.t 29), (some (28, true)), .write, 0⟩, ⟨(some 31), .makeFunc 103 [(.t 1)], (some (28, true)), .write, 0⟩, ⟨(some 32), .call (oF 102) [(.t 30), (.t 31)], (some (28, true)), .write, 0⟩, ⟨(some 33), .un .not (.t 32), (some (28, true)), .write, 0⟩, oW 34 (.pick (.t 28) (.t 33) (oB false)), oW 35 (.move (.t 34)), ⟨(some 36), .fieldAddr 4 (.t 1), (some (35, true)), .write, 0⟩, ⟨(some 37), .load none (.t 36), (some (35, true)), .write, 0⟩, ⟨(some 38), .makeFunc 107 [(.t 1)], (some (35, true)), .write, 0⟩, ⟨(some 39), .call (oF 106) [(.t 37), (.t 38)], (some (35, true)), .write, 0⟩, ⟨(some 40), .un .not (.t 39), (some (35, true)), .write, 0⟩, oW 41 (.pick (.t 35) (.t 40) (oB false)), oW 42 (.move (.t 41)), ⟨(some 43), .fieldAddr 5 (.t 1), (some (42, true)), .write, 0⟩, ⟨(some 44), .load none (.t 43), (some (42, true)), .write, 0⟩, ⟨(some 45), .call (oF 109) [(.t 44), (oF 110)], (some (42, true)), .write, 0⟩, ⟨(some 46), .un .not (.t 45), (some (42, true)), .write, 0⟩, oW 47 (.pick (.t 42) (.t 46) (oB false)), oW 2 (.move (.t 47))])
 .ret))) }

theorem c27 : compFunc Tryz.prog Tryz.f27 .pure = some t27 := by kernel_rfl

/-- broadside/subs.Add -/
def t31 : DFunc := { ntmps := 73, results := [(.cell 4 (some 6)), (.t 5)], mode := .frz, body :=
 (.seq (.region [oW 2 (.box 29 6 (.t 0)), oW 3 (.box 58 7 (.t 1)), oW 4 (.alloc 29 6 (.agg [(.int .i64 0), .nsl, .nsl, .nsl, .nsl, .nsl])), oW 5 (.move (oB false))])
 (.seq (.region [oW 11 (.fieldAddr 4 (.t 2)), oW 12 (.load none (.t 11)), oW 13 (.call (oF 112) [(.t 12)]), oW 14 (.fieldAddr 4 (.t 2)), oZ (.store 1 (.t 14) (.t 13))])
 (.seq (.region [oW 16 (.load (some 6) (.t 2)), oW 17 (.fieldAddr 0 (.t 3)), oW 18 (.load (some 2) (.t 17)), oW 19 (.call (oF 23) [(.t 16), (.t 18)]), oW 15 (.move (.t 19)), oW 20 (.extract (.t 15) 0), oW 21 (.extract (.t 15) 1), oW 6 (.alloc 42 4 (.agg [(.int .i64 0), (.int .i64 0), .nsl, (.int .i64 0)])), oZ (.store 4 (.t 6) (.t 20)), oW 7 (.move (.t 21))])
 (.seq (.region [oW 23 (.load (some 6) (.t 2)), oW 24 (.fieldAddr 0 (.t 3)), oW 25 (.load (some 2) (.t 24)), oW 26 (.fieldAddr 2 (.t 3)), oW 27 (.load (some 2) (.t 26)), oW 28 (.call (oF 113) [(.t 23), (.t 25), (.t 27)]), oW 22 (.move (.t 28)), oW 29 (.extract (.t 22) 0), oW 30 (.extract (.t 22) 1), oW 8 (.move (.t 29)), oW 9 (.move (.t 30))])
 (.seq (.region [oW 31 (.fieldAddr 3 (.t 6)), oW 32 (.load none (.t 31)), oW 33 (.arith .eql (.t 32) (oI (-1))), oW 10 (.move (.t 33))])
 (.seq (.seq (.region [oW 34 (.move (.t 7)), oW 35 (.un .not (.t 34)), oW 36 (.move (.t 35)), ⟨(some 37), .move (.t 9), (some (36, false)), .write, 0⟩, oW 38 (.pick (.t 36) (oB true) (.t 37)), oW 39 (.move (.t 38)), ⟨(some 40), .fieldAddr 5 (.t 3), (some (39, false)), .write, 0⟩, ⟨(some 41), .load none (.t 40), (some (39, false)), .write, 0⟩, ⟨(some 42), .fieldAddr 3 (.t 6), (some (39, false)), .write, 0⟩, ⟨(some 43), .load none (.t 42), (some (39, false)), .write, 0⟩, ⟨(some 44), .arith .eql (.t 41) (.t 43), (some (39, false)), .write, 0⟩, ⟨(some 45), .move (.t 44), (some (39, false)), .write, 0⟩, ⟨(some 46), .move (.t 10), (some (45, true)), .write, 0⟩, ⟨(some 47), .un .not (.t 46), (some (45, true)), .write, 0⟩, ⟨(some 48), .pick (.t 45) (.t 47) (oB false), (some (39, false)), .write, 0⟩, oW 49 (.pick (.t 39) (oB true) (.t 48))])
 (.cond (.t 49) (.seq (.region [oW 50 (.load (some 6) (.t 2)), oZ (.store 6 (.t 4) (.t 50)), oW 5 (.move (oB false))])
 .ret) .skip))
 (.seq (.region [oW 51 (.move (.t 10)), oW 52 (.un .not (.t 51)), oW 53 (.move (.t 52)), ⟨(some 54), .load (some 6) (.t 2), (some (53, true)), .write, 0⟩, ⟨(some 55), .fieldAddr 0 (.t 3), (some (53, true)), .write, 0⟩, ⟨(some 56), .load (some 2) (.t 55), (some (53, true)), .write, 0⟩, ⟨(some 57), .fieldAddr 4 (.t 3), (some (53, true)), .write, 0⟩, ⟨(some 58), .load none (.t 57), (some (53, true)), .write, 0⟩, ⟨(some 59), .call (oF 35) [(.t 54), (.t 56), (.t 58)], (some (53, true)), .write, 0⟩, ⟨(some 60), .un .not (.t 59), (some (53, true)), .write, 0⟩, oW 61 (.pick (.t 53) (.t 60) (oB false)), oW 62 (.fieldAddr 6 (.t 3)), oZ (.store 1 (.t 62) (.t 61))])
 (.seq (.region [oW 63 (.fieldAddr 4 (.t 2)), oW 64 (.load none (.t 63)), oW 65 (.move (.t 8)), oW 66 (.load (some 7) (.t 3)), oW 67 (.buildSlice 58 7 (.agg [(.int .i64 0), (.int .i64 0), (.int .i64 0), (.int .i64 0), .nsl, (.int .i64 0), (.bool false)]) 1 [(0, (.t 66))]), oW 68 (.call (oF 114) [(.t 64), (.t 65), (.t 67)]), oW 69 (.fieldAddr 4 (.t 2)), oZ (.store 1 (.t 69) (.t 68))])
 (.seq (.draw [oR 70 (.load (some 6) (.t 2)), oR 71 (.fieldAddr 6 (.t 3)), oR 72 (.load none (.t 71)), ⟨none, .store 6 (.t 4) (.t 70), none, .create, 0⟩, ⟨(some 5), .move (.t 72), none, .read, 1⟩])
 .ret))))))))) }

theorem c31 : compFunc Tryz.prog Tryz.f31 .frz = some t31 := by kernel_rfl

/-- broadside/subs.Find -/
def t32 : DFunc := { ntmps := 25, results := [(.cell 6 (some 7)), (.t 7)], mode := .pure, body :=
 (.seq (.region [oW 3 (.box 29 6 (.t 0)), oW 4 (.box 37 2 (.t 1)), oW 5 (.box 37 2 (.t 2)), oW 6 (.alloc 58 7 (.agg [(.int .i64 0), (.int .i64 0), (.int .i64 0), (.int .i64 0), .nsl, (.int .i64 0), (.bool false)])), oW 7 (.move (oB false))])
 (.seq (.region [oW 11 (.load (some 6) (.t 3)), oW 12 (.load (some 2) (.t 4)), oW 13 (.load (some 2) (.t 5)), oW 14 (.call (oF 113) [(.t 11), (.t 12), (.t 13)]), oW 10 (.move (.t 14)), oW 15 (.extract (.t 10) 0), oW 16 (.extract (.t 10) 1), oW 8 (.move (.t 15)), oW 9 (.move (.t 16))])
 (.seq (.seq (.region [oW 17 (.move (.t 9)), oW 18 (.un .not (.t 17))])
 (.cond (.t 18) (.seq (.region [oW 19 (.build [(.int .i64 0), (.int .i64 0), (.int .i64 0), (.int .i64 0), .nsl, (.int .i64 0), (.bool false)] []), oZ (.store 7 (.t 6) (.t 19)), oW 7 (.move (oB false))])
 .ret) .skip))
 (.seq (.region [oW 20 (.fieldAddr 4 (.t 3)), oW 21 (.load none (.t 20)), oW 22 (.move (.t 8)), oW 23 (.indexAddr 7 (.t 21) (.t 22)), oW 24 (.load (some 7) (.t 23)), oZ (.store 7 (.t 6) (.t 24)), oW 7 (.move (oB true))])
 .ret)))) }

theorem c32 : compFunc Tryz.prog Tryz.f32 .pure = some t32 := by kernel_rfl

/-- broadside/broadsidelaw10.SubsRuns -/
def t33 : DFunc := { ntmps := 78, results := [(.t 0)], mode := .pure, body :=
 (.seq (.region [oW 0 (.move (oB false))])
 (.seq (.region [oW 10 (.build [(.int .i64 0), (.int .i64 0)] [(0, 1, (oI 1))]), oW 1 (.alloc 37 2 (.agg [(.int .i64 0), (.int .i64 0)])), oZ (.store 2 (.t 1) (.t 10))])
 (.seq (.region [oW 2 (.move (oF 115))])
 (.seq (.draw [⟨(some 12), .buildSlice 3 1 (.int .i64 0) 2 [(0, (oI 1)), (1, (oI 2))], none, .create, 0⟩, ⟨(some 13), .call (oF 15) [(oI 0), (.t 12)], none, .create, 0⟩, oR 14 (.load (some 2) (.t 1)), oR 15 (.build [(.int .i64 0), (.int .i64 0), .nsl, (.int .i64 0)] [(0, 2, (.t 14)), (3, 1, (oI 1))]), ⟨(some 16), .call (oF 19) [(.t 13), (.t 15)], none, .write, 2⟩, ⟨(some 11), .move (.t 16), none, .read, 3⟩, ⟨(some 17), .extract (.t 11) 0, none, .read, 3⟩, ⟨(some 3), .alloc 29 6 (.agg [(.int .i64 0), .nsl, .nsl, .nsl, .nsl, .nsl]), none, .create, 0⟩, ⟨none, .store 6 (.t 3) (.t 17), none, .write, 4⟩, ⟨(some 18), .extract (.t 11) 1, none, .read, 3⟩, ⟨(some 4), .move (.t 18), none, .read, 5⟩])
 (.seq (.draw [oR 20 (.load (some 6) (.t 3)), oR 21 (.load (some 2) (.t 1)), oR 23 (.move (.t 2)), ⟨(some 24), .call (.t 23) [(oI 1), (oI 9)], none, .create, 0⟩, oR 22 (.build [(.int .i64 0), (.int .i64 0)] [(0, 1, (oI 2))]), ⟨(some 25), .build [(.int .i64 0), (.int .i64 0), (.int .i64 0), (.int .i64 0), .nsl, (.int .i64 0), (.bool false)] [(0, 2, (.t 21)), (2, 2, (.t 22)), (4, 1, (.t 24)), (5, 1, (oI 2))], none, .read, 1⟩, ⟨(some 26), .call (oF 31) [(.t 20), (.t 25)], none, .write, 1⟩, ⟨(some 19), .move (.t 26), none, .read, 2⟩, ⟨(some 27), .extract (.t 19) 0, none, .read, 2⟩, ⟨none, .store 6 (.t 3) (.t 27), none, .write, 2⟩, ⟨(some 28), .extract (.t 19) 1, none, .read, 2⟩, ⟨(some 5), .move (.t 28), none, .read, 3⟩])
 (.seq (.draw [oR 30 (.load (some 6) (.t 3)), oR 31 (.load (some 2) (.t 1)), oR 33 (.move (.t 2)), ⟨(some 34), .call (.t 33) [(oI 2), (oI 3)], none, .create, 0⟩, oR 32 (.build [(.int .i64 0), (.int .i64 0)] [(0, 1, (oI 3))]), ⟨(some 35), .build [(.int .i64 0), (.int .i64 0), (.int .i64 0), (.int .i64 0), .nsl, (.int .i64 0), (.bool false)] [(0, 2, (.t 31)), (2, 2, (.t 32)), (4, 1, (.t 34)), (5, 1, (oI 2))], none, .read, 1⟩, ⟨(some 36), .call (oF 31) [(.t 30), (.t 35)], none, .write, 1⟩, ⟨(some 29), .move (.t 36), none, .read, 2⟩, ⟨(some 37), .extract (.t 29) 0, none, .read, 2⟩, ⟨none, .store 6 (.t 3) (.t 37), none, .write, 2⟩, ⟨(some 38), .extract (.t 29) 1, none, .read, 2⟩, ⟨(some 6), .move (.t 38), none, .read, 3⟩])
 (.seq (.region [oW 40 (.load (some 6) (.t 3)), oW 41 (.load (some 2) (.t 1)), oW 42 (.build [(.int .i64 0), (.int .i64 0)] [(0, 1, (oI 2))]), oW 43 (.call (oF 34) [(.t 40), (.t 41), (.t 42), (oI 2)]), oW 39 (.move (.t 43)), oW 44 (.extract (.t 39) 0), oW 45 (.extract (.t 39) 1), oW 46 (.extract (.t 39) 2), oW 7 (.alloc 29 6 (.agg [(.int .i64 0), .nsl, .nsl, .nsl, .nsl, .nsl])), oZ (.store 6 (.t 7) (.t 44)), oW 8 (.move (.t 45)), oW 9 (.move (.t 46))])
 (.seq (.region [oW 47 (.move (.t 5)), oW 48 (.move (.t 47)), ⟨(some 49), .move (.t 6), (some (48, true)), .write, 0⟩, ⟨(some 50), .un .not (.t 49), (some (48, true)), .write, 0⟩, oW 51 (.pick (.t 48) (.t 50) (oB false)), oW 52 (.move (.t 51)), ⟨(some 53), .move (.t 9), (some (52, true)), .write, 0⟩, oW 54 (.pick (.t 52) (.t 53) (oB false)), oW 55 (.move (.t 54)), ⟨(some 56), .move (.t 8), (some (55, true)), .write, 0⟩, ⟨(some 57), .len 1 (.t 56), (some (55, true)), .write, 0⟩, ⟨(some 58), .arith .eql (.t 57) (oI 1), (some (55, true)), .write, 0⟩, oW 59 (.pick (.t 55) (.t 58) (oB false)), oW 60 (.move (.t 59)), ⟨(some 61), .move (.t 8), (some (60, true)), .write, 0⟩, ⟨(some 62), .indexAddr 7 (.t 61) (oI 0), (some (60, true)), .write, 0⟩, ⟨(some 63), .fieldAddr 2 (.t 62), (some (60, true)), .write, 0⟩, ⟨(some 64), .load (some 2) (.t 63), (some (60, true)), .write, 0⟩, ⟨(some 65), .build [(.int .i64 0), (.int .i64 0)] [(0, 1, (oI 3))], (some (60, true)), .write, 0⟩, ⟨(some 66), .eqa false [1, 1] (.t 64) (.t 65), (some (60, true)), .write, 0⟩, oW 67 (.pick (.t 60) (.t 66) (oB false)), oW 68 (.move (.t 67)), ⟨(some 69), .move (.t 8), (some (68, true)), .write, 0⟩, ⟨(some 70), .indexAddr 7 (.t 69) (oI 0), (some (68, true)), .write, 0⟩, ⟨(some 71), .fieldAddr 6 (.t 70), (some (68, true)), .write, 0⟩, ⟨(some 72), .load none (.t 71), (some (68, true)), .write, 0⟩, oW 73 (.pick (.t 68) (.t 72) (oB false)), oW 74 (.move (.t 73)), ⟨(some 75), .load (some 6) (.t 3), (some (74, true)), .write, 0⟩, ⟨(some 76), .call (oF 41) [(.t 75)], (some (74, true)), .write, 0⟩, oW 77 (.pick (.t 74) (.t 76) (oB false)), oW 0 (.move (.t 77))])
 .ret)))))))) }

theorem c33 : compFunc Tryz.prog Tryz.f33 .pure = some t33 := by kernel_rfl

def t34l0 : DCode :=
 (.seq (.region [oW 59 (.arith .lss (.t 58) (.t 57))])
 (.seq (.cond (.t 59) .skip (.exit 0))
 (.seq (.block 1 (.seq (.region [oW 60 (.move (.t 58)), oW 61 (.indexAddr 7 (.t 56) (.t 58)), oW 62 (.load (some 7) (.t 61)), oW 14 (.alloc 58 7 (.agg [(.int .i64 0), (.int .i64 0), (.int .i64 0), (.int .i64 0), .nsl, (.int .i64 0), (.bool false)])), oW 13 (.move (.t 60)), oZ (.store 7 (.t 14) (.t 62))])
 (.seq (.region [oW 63 (.fieldAddr 0 (.t 14)), oW 64 (.load (some 2) (.t 63)), oW 65 (.load (some 2) (.t 5)), oW 66 (.eqa false [1, 1] (.t 64) (.t 65)), oW 67 (.move (.t 66)), ⟨(some 68), .fieldAddr 6 (.t 14), (some (67, true)), .write, 0⟩, ⟨(some 69), .load none (.t 68), (some (67, true)), .write, 0⟩, ⟨(some 70), .un .not (.t 69), (some (67, true)), .write, 0⟩, oW 71 (.pick (.t 67) (.t 70) (oB false)), oW 72 (.move (.t 71)), ⟨(some 73), .load (some 6) (.t 4), (some (72, true)), .write, 0⟩, ⟨(some 74), .load (some 2) (.t 5), (some (72, true)), .write, 0⟩, ⟨(some 75), .fieldAddr 4 (.t 14), (some (72, true)), .write, 0⟩, ⟨(some 76), .load none (.t 75), (some (72, true)), .write, 0⟩, ⟨(some 77), .call (oF 35) [(.t 73), (.t 74), (.t 76)], (some (72, true)), .write, 0⟩, ⟨(some 78), .un .not (.t 77), (some (72, true)), .write, 0⟩, oW 79 (.pick (.t 72) (.t 78) (oB false))])
 (.cond (.t 79) (.seq (.region [oW 80 (.fieldAddr 4 (.t 4)), oW 81 (.load none (.t 80)), oW 82 (.move (.t 13)), oW 83 (.indexAddr 7 (.t 81) (.t 82)), oW 84 (.fieldAddr 6 (.t 83)), oZ (.store 1 (.t 84) (oB true))])
 (.region [oW 85 (.move (.t 9)), oW 86 (.fieldAddr 4 (.t 4)), oW 87 (.load none (.t 86)), oW 88 (.move (.t 13)), oW 89 (.indexAddr 7 (.t 87) (.t 88)), oW 90 (.load (some 7) (.t 89)), oW 91 (.buildSlice 58 7 (.agg [(.int .i64 0), (.int .i64 0), (.int .i64 0), (.int .i64 0), .nsl, (.int .i64 0), (.bool false)]) 1 [(0, (.t 90))]), oW 92 (.append 58 7 72 (.t 85) (.t 91)), oW 9 (.move (.t 92))])) .skip))))
 (.region [oW 93 (.arith .add (.t 58) (oI 1)), oW 58 (.move (.t 93))]))))

def t34k0 : DCode :=
 (.seq (.region [oW 94 (.load (some 6) (.t 4)), oW 95 (.move (.t 9)), oZ (.store 6 (.t 8) (.t 94)), oW 9 (.move (.t 95)), oW 10 (.move (oB true))])
 .ret)

/-- broadside/subs.Take -/
def t34 : DFunc := { ntmps := 96, results := [(.cell 8 (some 6)), (.t 9), (.t 10)], mode := .frz, body :=
 (.seq (.region [oW 4 (.box 29 6 (.t 0)), oW 5 (.box 37 2 (.t 1)), oW 6 (.box 37 2 (.t 2)), oW 8 (.alloc 29 6 (.agg [(.int .i64 0), .nsl, .nsl, .nsl, .nsl, .nsl])), oW 9 (.move (.c .nsl)), oW 10 (.move (oB false))])
 (.seq (.region [oW 15 (.fieldAddr 4 (.t 4)), oW 16 (.load none (.t 15)), oW 17 (.call (oF 112) [(.t 16)]), oW 18 (.fieldAddr 4 (.t 4)), oZ (.store 1 (.t 18) (.t 17))])
 (.seq (.region [oW 20 (.load (some 6) (.t 4)), oW 21 (.load (some 2) (.t 5)), oW 22 (.load (some 2) (.t 6)), oW 23 (.call (oF 113) [(.t 20), (.t 21), (.t 22)]), oW 19 (.move (.t 23)), oW 24 (.extract (.t 19) 0), oW 25 (.extract (.t 19) 1), oW 11 (.move (.t 24)), oW 12 (.move (.t 25))])
 (.seq (.seq (.region [oW 26 (.move (.t 12)), oW 27 (.un .not (.t 26)), oW 28 (.move (.t 27)), ⟨(some 29), .fieldAddr 4 (.t 4), (some (28, false)), .write, 0⟩, ⟨(some 30), .load none (.t 29), (some (28, false)), .write, 0⟩, ⟨(some 31), .move (.t 11), (some (28, false)), .write, 0⟩, ⟨(some 32), .indexAddr 7 (.t 30) (.t 31), (some (28, false)), .write, 0⟩, ⟨(some 33), .fieldAddr 5 (.t 32), (some (28, false)), .write, 0⟩, ⟨(some 34), .load none (.t 33), (some (28, false)), .write, 0⟩, ⟨(some 35), .move (.t 3), (some (28, false)), .write, 0⟩, ⟨(some 36), .arith .neq (.t 34) (.t 35), (some (28, false)), .write, 0⟩, oW 37 (.pick (.t 28) (oB true) (.t 36))])
 (.cond (.t 37) (.seq (.region [oW 38 (.load (some 6) (.t 4)), oZ (.store 6 (.t 8) (.t 38)), oW 9 (.move (.c .nsl)), oW 10 (.move (oB false))])
 .ret) .skip))
 (.seq (.region [oW 39 (.fieldAddr 4 (.t 4)), oW 40 (.load none (.t 39)), oW 41 (.move (.t 11)), oW 42 (.indexAddr 7 (.t 40) (.t 41)), oW 43 (.fieldAddr 6 (.t 42)), oW 44 (.load none (.t 43)), oW 10 (.move (.t 44))])
 (.seq (.region [oW 45 (.fieldAddr 4 (.t 4)), oW 46 (.load none (.t 45)), oW 47 (.move (.t 11)), oW 48 (.move (.t 11)), oW 49 (.arith .add (.t 48) (oI 1)), oW 50 (.call (oF 116) [(.t 46), (.t 47), (.t 49)]), oW 51 (.fieldAddr 4 (.t 4)), oZ (.store 1 (.t 51) (.t 50))])
 (.seq (.seq (.region [oW 52 (.move (.t 10)), oW 53 (.un .not (.t 52))])
 (.cond (.t 53) (.seq (.region [oW 54 (.load (some 6) (.t 4)), oZ (.store 6 (.t 8) (.t 54)), oW 9 (.move (.c .nsl)), oW 10 (.move (oB false))])
 .ret) .skip))
 (.seq (.seq (.region [oW 55 (.fieldAddr 4 (.t 4)), oW 56 (.load none (.t 55)), oW 57 (.len 1 (.t 56)), oW 58 (.move (oI 0))])
 (.block 0 (.loop t34l0)))
 t34k0)))))))) }

theorem c34 : compFunc Tryz.prog Tryz.f34 .frz = some t34 := by kernel_rfl

/-- broadside/subs.Covered -/
def t35 : DFunc := { ntmps := 12, results := [(.t 6)], mode := .pure, body :=
 (.seq (.region [oW 3 (.box 29 6 (.t 0)), oW 4 (.box 37 2 (.t 1)), oW 5 (.box 39 1 (.t 2)), oW 6 (.move (oB false))])
 (.seq (.region [oW 7 (.load (some 6) (.t 3)), oW 8 (.load (some 2) (.t 4)), oW 9 (.call (oF 40) [(.t 7), (.t 8)]), oW 10 (.makeFunc 117 [(.t 5)]), oW 11 (.call (oF 106) [(.t 9), (.t 10)]), oW 6 (.move (.t 11))])
 .ret)) }

theorem c35 : compFunc Tryz.prog Tryz.f35 .pure = some t35 := by kernel_rfl

def t36l0 : DCode :=
 (.seq (.region [oW 13 (.arith .lss (.t 12) (.t 11))])
 (.seq (.cond (.t 13) .skip (.exit 0))
 (.seq (.block 1 (.seq (.region [oW 14 (.indexAddr 7 (.t 10) (.t 12)), oW 15 (.load (some 7) (.t 14)), oW 8 (.alloc 58 7 (.agg [(.int .i64 0), (.int .i64 0), (.int .i64 0), (.int .i64 0), .nsl, (.int .i64 0), (.bool false)])), oZ (.store 7 (.t 8) (.t 15))])
 (.seq (.region [oW 16 (.fieldAddr 0 (.t 8)), oW 17 (.load (some 2) (.t 16)), oW 18 (.load (some 2) (.t 4)), oW 19 (.eqa false [1, 1] (.t 17) (.t 18)), oW 20 (.move (.t 19)), ⟨(some 21), .fieldAddr 6 (.t 8), (some (20, true)), .write, 0⟩, ⟨(some 22), .load none (.t 21), (some (20, true)), .write, 0⟩, oW 23 (.pick (.t 20) (.t 22) (oB false)), oW 24 (.move (.t 23)), ⟨(some 25), .fieldAddr 4 (.t 8), (some (24, true)), .write, 0⟩, ⟨(some 26), .load none (.t 25), (some (24, true)), .write, 0⟩, ⟨(some 27), .move (.t 2), (some (24, true)), .write, 0⟩, ⟨(some 28), .call (oF 118) [(.t 26), (.t 27)], (some (24, true)), .write, 0⟩, oW 29 (.pick (.t 24) (.t 28) (oB false))])
 (.cond (.t 29) (.seq (.region [oW 6 (.move (oB true))])
 .ret) .skip))))
 (.region [oW 30 (.arith .add (.t 12) (oI 1)), oW 12 (.move (.t 30))]))))

def t36k0 : DCode :=
 (.seq (.region [oW 6 (.move (oB false))])
 .ret)

/-- broadside/broadsideref9.Covered -/
def t36 : DFunc := { ntmps := 31, results := [(.t 6)], mode := .pure, body :=
 (.seq (.region [oW 3 (.box 29 6 (.t 0)), oW 4 (.box 37 2 (.t 1)), oW 6 (.move (oB false))])
 (.seq (.seq (.region [oW 9 (.fieldAddr 4 (.t 3)), oW 10 (.load none (.t 9)), oW 11 (.len 1 (.t 10)), oW 12 (.move (oI 0))])
 (.block 0 (.loop t36l0)))
 t36k0)) }

theorem c36 : compFunc Tryz.prog Tryz.f36 .pure = some t36 := by kernel_rfl

def t37l0 : DCode :=
 (.seq (.seq (.draw [oR 58 (.fieldAddr 4 (.t 2)), oR 59 (.load none (.t 58)), oR 57 (.move (.t 7)), oR 60 (.len 1 (.t 59)), oR 61 (.arith .lss (.t 57) (.t 60)), oR 62 (.move (.t 61)), ⟨(some 63), .fieldAddr 4 (.t 2), (some (62, true)), .read, 0⟩, ⟨(some 64), .load none (.t 63), (some (62, true)), .read, 0⟩, ⟨(some 65), .move (.t 7), (some (62, true)), .read, 0⟩, ⟨(some 66), .indexAddr 7 (.t 64) (.t 65), (some (62, true)), .read, 0⟩, ⟨(some 67), .fieldAddr 0 (.t 66), (some (62, true)), .read, 0⟩, ⟨(some 68), .load (some 2) (.t 67), (some (62, true)), .read, 0⟩, ⟨(some 69), .fieldAddr 0 (.t 3), (some (62, true)), .read, 0⟩, ⟨(some 70), .load (some 2) (.t 69), (some (62, true)), .read, 0⟩, ⟨(some 71), .call (oF 76) [(.t 68), (.t 70)], (some (62, true)), .write, 0⟩, ⟨(some 72), .move (.t 71), (some (62, true)), .read, 1⟩, ⟨(some 73), .fieldAddr 4 (.t 2), (some (72, false)), .read, 1⟩, ⟨(some 74), .load none (.t 73), (some (72, false)), .read, 1⟩, ⟨(some 75), .move (.t 7), (some (72, false)), .read, 1⟩, ⟨(some 76), .indexAddr 7 (.t 74) (.t 75), (some (72, false)), .read, 1⟩, ⟨(some 77), .fieldAddr 0 (.t 76), (some (72, false)), .read, 1⟩, ⟨(some 78), .load (some 2) (.t 77), (some (72, false)), .read, 1⟩, ⟨(some 79), .fieldAddr 0 (.t 3), (some (72, false)), .read, 1⟩, ⟨(some 80), .load (some 2) (.t 79), (some (72, false)), .read, 1⟩, ⟨(some 81), .eqa false [1, 1] (.t 78) (.t 80), (some (72, false)), .read, 1⟩, ⟨(some 82), .move (.t 81), (some (72, false)), .read, 1⟩, ⟨(some 83), .fieldAddr 4 (.t 2), (some (82, true)), .read, 1⟩, ⟨(some 84), .load none (.t 83), (some (82, true)), .read, 1⟩, ⟨(some 85), .move (.t 7), (some (82, true)), .read, 1⟩, ⟨(some 86), .indexAddr 7 (.t 84) (.t 85), (some (82, true)), .read, 1⟩, ⟨(some 87), .fieldAddr 2 (.t 86), (some (82, true)), .read, 1⟩, ⟨(some 88), .load (some 2) (.t 87), (some (82, true)), .read, 1⟩, ⟨(some 89), .fieldAddr 2 (.t 3), (some (82, true)), .read, 1⟩, ⟨(some 90), .load (some 2) (.t 89), (some (82, true)), .read, 1⟩, ⟨(some 91), .call (oF 76) [(.t 88), (.t 90)], (some (82, true)), .write, 1⟩, ⟨(some 92), .pick (.t 82) (.t 91) (oB false), (some (72, false)), .read, 2⟩, ⟨(some 93), .pick (.t 72) (oB true) (.t 92), (some (62, true)), .read, 2⟩, ⟨(some 94), .pick (.t 62) (.t 93) (oB false), none, .read, 2⟩])
 (.cond (.t 94) .skip (.exit 0)))
 (.block 1 (.region [oW 95 (.move (.t 7)), oW 96 (.arith .add (.t 95) (oI 1)), oW 7 (.move (.t 96))])))

def t37k0 : DCode :=
 (.seq (.draw [oR 98 (.fieldAddr 4 (.t 2)), oR 99 (.load none (.t 98)), oR 100 (.move (.t 7)), oR 101 (.sliceSl 7 (.t 99) none (some (.t 100))), ⟨(some 97), .buildSlice 58 7 (.agg [(.int .i64 0), (.int .i64 0), (.int .i64 0), (.int .i64 0), .nsl, (.int .i64 0), (.bool false)]) 0 [], none, .create, 0⟩, ⟨(some 102), .append 58 7 72 (.t 97) (.t 101), none, .create, 0⟩, oR 103 (.load (some 7) (.t 3)), ⟨(some 104), .buildSlice 58 7 (.agg [(.int .i64 0), (.int .i64 0), (.int .i64 0), (.int .i64 0), .nsl, (.int .i64 0), (.bool false)]) 1 [(0, (.t 103))], none, .create, 0⟩, ⟨(some 105), .append 58 7 72 (.t 102) (.t 104), none, .create, 0⟩, oR 106 (.fieldAddr 4 (.t 2)), oR 107 (.load none (.t 106)), oR 108 (.move (.t 7)), oR 109 (.sliceSl 7 (.t 107) (some (.t 108)) none), ⟨(some 110), .append 58 7 72 (.t 105) (.t 109), none, .write, 4⟩, ⟨(some 111), .fieldAddr 4 (.t 2), none, .read, 5⟩, ⟨none, .store 1 (.t 111) (.t 110), none, .write, 5⟩])
 (.seq (.draw [oR 112 (.load (some 6) (.t 2)), oR 113 (.fieldAddr 6 (.t 3)), oR 114 (.load none (.t 113)), ⟨none, .store 6 (.t 4) (.t 112), none, .create, 0⟩, ⟨(some 5), .move (.t 114), none, .read, 1⟩])
 .ret))

/-- broadside/broadsideref9.Add -/
def t37 : DFunc := { ntmps := 115, results := [(.cell 4 (some 6)), (.t 5)], mode := .frz, body :=
 (.seq (.region [oW 2 (.box 29 6 (.t 0)), oW 3 (.box 58 7 (.t 1)), oW 4 (.alloc 29 6 (.agg [(.int .i64 0), .nsl, .nsl, .nsl, .nsl, .nsl])), oW 5 (.move (oB false))])
 (.seq (.region [oW 8 (.load (some 6) (.t 2)), oW 9 (.fieldAddr 0 (.t 3)), oW 10 (.load (some 2) (.t 9)), oW 11 (.call (oF 24) [(.t 8), (.t 10)]), oW 6 (.move (.t 11))])
 (.seq (.seq (.draw [oR 12 (.move (.t 6)), oR 13 (.arith .lss (.t 12) (oI 0)), oR 14 (.move (.t 13)), ⟨(some 15), .load (some 6) (.t 2), (some (14, false)), .read, 0⟩, ⟨(some 16), .fieldAddr 0 (.t 3), (some (14, false)), .read, 0⟩, ⟨(some 17), .load (some 2) (.t 16), (some (14, false)), .read, 0⟩, ⟨(some 18), .fieldAddr 2 (.t 3), (some (14, false)), .read, 0⟩, ⟨(some 19), .load (some 2) (.t 18), (some (14, false)), .read, 0⟩, ⟨(some 20), .call (oF 119) [(.t 15), (.t 17), (.t 19)], (some (14, false)), .write, 0⟩, ⟨(some 21), .arith .geq (.t 20) (oI 0), (some (14, false)), .read, 1⟩, ⟨(some 22), .pick (.t 14) (oB true) (.t 21), none, .read, 1⟩, ⟨(some 23), .move (.t 22), none, .read, 1⟩, ⟨(some 24), .fieldAddr 5 (.t 3), (some (23, false)), .read, 1⟩, ⟨(some 25), .load none (.t 24), (some (23, false)), .read, 1⟩, ⟨(some 26), .arith .neq (.t 25) (oI (-1)), (some (23, false)), .read, 1⟩, ⟨(some 27), .move (.t 26), (some (23, false)), .read, 1⟩, ⟨(some 28), .fieldAddr 5 (.t 3), (some (27, true)), .read, 1⟩, ⟨(some 29), .load none (.t 28), (some (27, true)), .read, 1⟩, ⟨(some 30), .fieldAddr 2 (.t 2), (some (27, true)), .read, 1⟩, ⟨(some 31), .load none (.t 30), (some (27, true)), .read, 1⟩, ⟨(some 32), .move (.t 6), (some (27, true)), .read, 1⟩, ⟨(some 33), .indexAddr 4 (.t 31) (.t 32), (some (27, true)), .read, 1⟩, ⟨(some 34), .fieldAddr 3 (.t 33), (some (27, true)), .read, 1⟩, ⟨(some 35), .load none (.t 34), (some (27, true)), .read, 1⟩, ⟨(some 36), .arith .eql (.t 29) (.t 35), (some (27, true)), .read, 1⟩, ⟨(some 37), .pick (.t 27) (.t 36) (oB false), (some (23, false)), .read, 1⟩, ⟨(some 38), .pick (.t 23) (oB true) (.t 37), none, .read, 1⟩])
 (.cond (.t 38) (.seq (.region [oW 39 (.load (some 6) (.t 2)), oZ (.store 6 (.t 4) (.t 39)), oW 5 (.move (oB false))])
 .ret) .skip))
 (.seq (.region [oW 40 (.fieldAddr 2 (.t 2)), oW 41 (.load none (.t 40)), oW 42 (.move (.t 6)), oW 43 (.indexAddr 4 (.t 41) (.t 42)), oW 44 (.fieldAddr 3 (.t 43)), oW 45 (.load none (.t 44)), oW 46 (.arith .neq (.t 45) (oI (-1))), oW 47 (.move (.t 46)), ⟨(some 48), .load (some 6) (.t 2), (some (47, true)), .write, 0⟩, ⟨(some 49), .fieldAddr 0 (.t 3), (some (47, true)), .write, 0⟩, ⟨(some 50), .load (some 2) (.t 49), (some (47, true)), .write, 0⟩, ⟨(some 51), .fieldAddr 4 (.t 3), (some (47, true)), .write, 0⟩, ⟨(some 52), .load none (.t 51), (some (47, true)), .write, 0⟩, ⟨(some 53), .call (oF 36) [(.t 48), (.t 50), (.t 52)], (some (47, true)), .write, 0⟩, ⟨(some 54), .un .not (.t 53), (some (47, true)), .write, 0⟩, oW 55 (.pick (.t 47) (.t 54) (oB false)), oW 56 (.fieldAddr 6 (.t 3)), oZ (.store 1 (.t 56) (.t 55))])
 (.seq (.region [oW 7 (.move (oI 0))])
 (.seq (.block 0 (.loop t37l0))
 t37k0)))))) }

theorem c37 : compFunc Tryz.prog Tryz.f37 .frz = some t37 := by kernel_rfl

def t38l0 : DCode :=
 (.seq (.region [oW 59 (.arith .lss (.t 58) (.t 57))])
 (.seq (.cond (.t 59) .skip (.exit 0))
 (.seq (.block 1 (.seq (.region [oW 60 (.move (.t 58)), oW 14 (.move (.t 60))])
 (.seq (.region [oW 61 (.fieldAddr 4 (.t 4)), oW 62 (.load none (.t 61)), oW 63 (.move (.t 14)), oW 64 (.indexAddr 7 (.t 62) (.t 63)), oW 65 (.load (some 7) (.t 64)), oW 15 (.alloc 58 7 (.agg [(.int .i64 0), (.int .i64 0), (.int .i64 0), (.int .i64 0), .nsl, (.int .i64 0), (.bool false)])), oZ (.store 7 (.t 15) (.t 65))])
 (.seq (.region [oW 66 (.fieldAddr 0 (.t 15)), oW 67 (.load (some 2) (.t 66)), oW 68 (.load (some 2) (.t 5)), oW 69 (.eqa false [1, 1] (.t 67) (.t 68)), oW 70 (.move (.t 69)), ⟨(some 71), .fieldAddr 6 (.t 15), (some (70, true)), .write, 0⟩, ⟨(some 72), .load none (.t 71), (some (70, true)), .write, 0⟩, ⟨(some 73), .un .not (.t 72), (some (70, true)), .write, 0⟩, oW 74 (.pick (.t 70) (.t 73) (oB false)), oW 75 (.move (.t 74)), ⟨(some 76), .load (some 6) (.t 4), (some (75, true)), .write, 0⟩, ⟨(some 77), .load (some 2) (.t 5), (some (75, true)), .write, 0⟩, ⟨(some 78), .fieldAddr 4 (.t 15), (some (75, true)), .write, 0⟩, ⟨(some 79), .load none (.t 78), (some (75, true)), .write, 0⟩, ⟨(some 80), .call (oF 36) [(.t 76), (.t 77), (.t 79)], (some (75, true)), .write, 0⟩, ⟨(some 81), .un .not (.t 80), (some (75, true)), .write, 0⟩, oW 82 (.pick (.t 75) (.t 81) (oB false))])
 (.cond (.t 82) (.seq (.region [oW 83 (.buildSlice 58 7 (.agg [(.int .i64 0), (.int .i64 0), (.int .i64 0), (.int .i64 0), .nsl, (.int .i64 0), (.bool false)]) 0 []), oW 84 (.fieldAddr 4 (.t 4)), oW 85 (.load none (.t 84)), oW 86 (.append 58 7 72 (.t 83) (.t 85)), oW 87 (.fieldAddr 4 (.t 4)), oZ (.store 1 (.t 87) (.t 86))])
 (.seq (.region [oW 88 (.fieldAddr 4 (.t 4)), oW 89 (.load none (.t 88)), oW 90 (.move (.t 14)), oW 91 (.indexAddr 7 (.t 89) (.t 90)), oW 92 (.fieldAddr 6 (.t 91)), oZ (.store 1 (.t 92) (oB true))])
 (.region [oW 93 (.move (.t 13)), oW 94 (.fieldAddr 4 (.t 4)), oW 95 (.load none (.t 94)), oW 96 (.move (.t 14)), oW 97 (.indexAddr 7 (.t 95) (.t 96)), oW 98 (.load (some 7) (.t 97)), oW 99 (.buildSlice 58 7 (.agg [(.int .i64 0), (.int .i64 0), (.int .i64 0), (.int .i64 0), .nsl, (.int .i64 0), (.bool false)]) 1 [(0, (.t 98))]), oW 100 (.append 58 7 72 (.t 93) (.t 99)), oW 13 (.move (.t 100))]))) .skip)))))
 (.region [oW 101 (.arith .add (.t 58) (oI 1)), oW 58 (.move (.t 101))]))))

def t38k0 : DCode :=
 (.seq (.region [oW 102 (.load (some 6) (.t 4)), oW 103 (.move (.t 13)), oZ (.store 6 (.t 8) (.t 102)), oW 9 (.move (.t 103)), oW 10 (.move (oB true))])
 .ret)

/-- broadside/broadsideref9.Take -/
def t38 : DFunc := { ntmps := 104, results := [(.cell 8 (some 6)), (.t 9), (.t 10)], mode := .frz, body :=
 (.seq (.region [oW 4 (.box 29 6 (.t 0)), oW 5 (.box 37 2 (.t 1)), oW 6 (.box 37 2 (.t 2)), oW 8 (.alloc 29 6 (.agg [(.int .i64 0), .nsl, .nsl, .nsl, .nsl, .nsl])), oW 9 (.move (.c .nsl)), oW 10 (.move (oB false))])
 (.seq (.region [oW 16 (.load (some 6) (.t 4)), oW 17 (.load (some 2) (.t 5)), oW 18 (.load (some 2) (.t 6)), oW 19 (.call (oF 119) [(.t 16), (.t 17), (.t 18)]), oW 11 (.move (.t 19))])
 (.seq (.seq (.region [oW 20 (.move (.t 11)), oW 21 (.arith .lss (.t 20) (oI 0)), oW 22 (.move (.t 21)), ⟨(some 23), .fieldAddr 4 (.t 4), (some (22, false)), .write, 0⟩, ⟨(some 24), .load none (.t 23), (some (22, false)), .write, 0⟩, ⟨(some 25), .move (.t 11), (some (22, false)), .write, 0⟩, ⟨(some 26), .indexAddr 7 (.t 24) (.t 25), (some (22, false)), .write, 0⟩, ⟨(some 27), .fieldAddr 5 (.t 26), (some (22, false)), .write, 0⟩, ⟨(some 28), .load none (.t 27), (some (22, false)), .write, 0⟩, ⟨(some 29), .move (.t 3), (some (22, false)), .write, 0⟩, ⟨(some 30), .arith .neq (.t 28) (.t 29), (some (22, false)), .write, 0⟩, oW 31 (.pick (.t 22) (oB true) (.t 30))])
 (.cond (.t 31) (.seq (.region [oW 32 (.load (some 6) (.t 4)), oZ (.store 6 (.t 8) (.t 32)), oW 9 (.move (.c .nsl)), oW 10 (.move (oB false))])
 .ret) .skip))
 (.seq (.region [oW 33 (.fieldAddr 4 (.t 4)), oW 34 (.load none (.t 33)), oW 35 (.move (.t 11)), oW 36 (.indexAddr 7 (.t 34) (.t 35)), oW 37 (.fieldAddr 6 (.t 36)), oW 38 (.load none (.t 37)), oW 12 (.move (.t 38))])
 (.seq (.draw [oR 40 (.fieldAddr 4 (.t 4)), oR 41 (.load none (.t 40)), oR 42 (.move (.t 11)), oR 43 (.sliceSl 7 (.t 41) none (some (.t 42))), ⟨(some 39), .buildSlice 58 7 (.agg [(.int .i64 0), (.int .i64 0), (.int .i64 0), (.int .i64 0), .nsl, (.int .i64 0), (.bool false)]) 0 [], none, .create, 0⟩, ⟨(some 44), .append 58 7 72 (.t 39) (.t 43), none, .create, 0⟩, oR 45 (.fieldAddr 4 (.t 4)), oR 46 (.load none (.t 45)), oR 47 (.move (.t 11)), oR 48 (.arith .add (.t 47) (oI 1)), oR 49 (.sliceSl 7 (.t 46) (some (.t 48)) none), ⟨(some 50), .append 58 7 72 (.t 44) (.t 49), none, .write, 2⟩, ⟨(some 51), .fieldAddr 4 (.t 4), none, .read, 3⟩, ⟨none, .store 1 (.t 51) (.t 50), none, .write, 3⟩])
 (.seq (.seq (.region [oW 52 (.move (.t 12)), oW 53 (.un .not (.t 52))])
 (.cond (.t 53) (.seq (.region [oW 54 (.load (some 6) (.t 4)), oZ (.store 6 (.t 8) (.t 54)), oW 9 (.move (.c .nsl)), oW 10 (.move (oB false))])
 .ret) .skip))
 (.seq (.region [oW 13 (.move (.c .nsl))])
 (.seq (.seq (.region [oW 55 (.fieldAddr 4 (.t 4)), oW 56 (.load none (.t 55)), oW 57 (.len 1 (.t 56)), oW 58 (.move (oI 0))])
 (.block 0 (.loop t38l0)))
 t38k0)))))))) }

theorem c38 : compFunc Tryz.prog Tryz.f38 .frz = some t38 := by kernel_rfl

def t39l0 : DCode :=
 (.seq (.region [oW 14 (.arith .lss (.t 13) (.t 12))])
 (.seq (.cond (.t 14) .skip (.exit 0))
 (.seq (.block 1 (.seq (.region [oW 15 (.move (.t 13)), oW 5 (.move (.t 15))])
 (.seq (.draw [oR 16 (.move (.t 0)), oR 17 (.move (.t 5)), oR 18 (.indexAddr 7 (.t 16) (.t 17)), oR 19 (.fieldAddr 0 (.t 18)), oR 20 (.load (some 2) (.t 19)), oR 21 (.move (.t 1)), oR 22 (.move (.t 5)), oR 23 (.indexAddr 7 (.t 21) (.t 22)), oR 24 (.fieldAddr 0 (.t 23)), oR 25 (.load (some 2) (.t 24)), oR 26 (.eqa true [1, 1] (.t 20) (.t 25)), oR 27 (.move (.t 26)), ⟨(some 28), .move (.t 0), (some (27, false)), .read, 0⟩, ⟨(some 29), .move (.t 5), (some (27, false)), .read, 0⟩, ⟨(some 30), .indexAddr 7 (.t 28) (.t 29), (some (27, false)), .read, 0⟩, ⟨(some 31), .fieldAddr 2 (.t 30), (some (27, false)), .read, 0⟩, ⟨(some 32), .load (some 2) (.t 31), (some (27, false)), .read, 0⟩, ⟨(some 33), .move (.t 1), (some (27, false)), .read, 0⟩, ⟨(some 34), .move (.t 5), (some (27, false)), .read, 0⟩, ⟨(some 35), .indexAddr 7 (.t 33) (.t 34), (some (27, false)), .read, 0⟩, ⟨(some 36), .fieldAddr 2 (.t 35), (some (27, false)), .read, 0⟩, ⟨(some 37), .load (some 2) (.t 36), (some (27, false)), .read, 0⟩, ⟨(some 38), .eqa true [1, 1] (.t 32) (.t 37), (some (27, false)), .read, 0⟩, oR 39 (.pick (.t 27) (oB true) (.t 38)), oR 40 (.move (.t 39)), ⟨(some 41), .move (.t 0), (some (40, false)), .read, 0⟩, ⟨(some 42), .move (.t 5), (some (40, false)), .read, 0⟩, ⟨(some 43), .indexAddr 7 (.t 41) (.t 42), (some (40, false)), .read, 0⟩, ⟨(some 44), .fieldAddr 5 (.t 43), (some (40, false)), .read, 0⟩, ⟨(some 45), .load none (.t 44), (some (40, false)), .read, 0⟩, ⟨(some 46), .move (.t 1), (some (40, false)), .read, 0⟩, ⟨(some 47), .move (.t 5), (some (40, false)), .read, 0⟩, ⟨(some 48), .indexAddr 7 (.t 46) (.t 47), (some (40, false)), .read, 0⟩, ⟨(some 49), .fieldAddr 5 (.t 48), (some (40, false)), .read, 0⟩, ⟨(some 50), .load none (.t 49), (some (40, false)), .read, 0⟩, ⟨(some 51), .arith .neq (.t 45) (.t 50), (some (40, false)), .read, 0⟩, oR 52 (.pick (.t 40) (oB true) (.t 51)), oR 53 (.move (.t 52)), ⟨(some 54), .move (.t 0), (some (53, false)), .read, 0⟩, ⟨(some 55), .move (.t 5), (some (53, false)), .read, 0⟩, ⟨(some 56), .indexAddr 7 (.t 54) (.t 55), (some (53, false)), .read, 0⟩, ⟨(some 57), .fieldAddr 6 (.t 56), (some (53, false)), .read, 0⟩, ⟨(some 58), .load none (.t 57), (some (53, false)), .read, 0⟩, ⟨(some 59), .move (.t 1), (some (53, false)), .read, 0⟩, ⟨(some 60), .move (.t 5), (some (53, false)), .read, 0⟩, ⟨(some 61), .indexAddr 7 (.t 59) (.t 60), (some (53, false)), .read, 0⟩, ⟨(some 62), .fieldAddr 6 (.t 61), (some (53, false)), .read, 0⟩, ⟨(some 63), .load none (.t 62), (some (53, false)), .read, 0⟩, ⟨(some 64), .eqb true (.t 58) (.t 63), (some (53, false)), .read, 0⟩, oR 65 (.pick (.t 53) (oB true) (.t 64)), oR 66 (.move (.t 65)), ⟨(some 67), .move (.t 0), (some (66, false)), .read, 0⟩, ⟨(some 68), .move (.t 5), (some (66, false)), .read, 0⟩, ⟨(some 69), .indexAddr 7 (.t 67) (.t 68), (some (66, false)), .read, 0⟩, ⟨(some 70), .fieldAddr 4 (.t 69), (some (66, false)), .read, 0⟩, ⟨(some 71), .load none (.t 70), (some (66, false)), .read, 0⟩, ⟨(some 72), .move (.t 1), (some (66, false)), .read, 0⟩, ⟨(some 73), .move (.t 5), (some (66, false)), .read, 0⟩, ⟨(some 74), .indexAddr 7 (.t 72) (.t 73), (some (66, false)), .read, 0⟩, ⟨(some 75), .fieldAddr 4 (.t 74), (some (66, false)), .read, 0⟩, ⟨(some 76), .load none (.t 75), (some (66, false)), .read, 0⟩, ⟨(some 77), .call (oF 48) [(.t 71), (.t 76)], (some (66, false)), .write, 0⟩, ⟨(some 78), .un .not (.t 77), (some (66, false)), .read, 1⟩, ⟨(some 79), .pick (.t 66) (oB true) (.t 78), none, .read, 1⟩])
 (.cond (.t 79) (.seq (.region [oW 4 (.move (oB false))])
 .ret) .skip))))
 (.region [oW 80 (.arith .add (.t 13) (oI 1)), oW 13 (.move (.t 80))]))))

def t39k0 : DCode :=
 (.seq (.region [oW 4 (.move (oB true))])
 .ret)

/-- broadside/broadsidekeep.Entries -/
def t39 : DFunc := { ntmps := 81, results := [(.t 4)], mode := .pure, body :=
 (.seq (.region [oW 4 (.move (oB false))])
 (.seq (.seq (.region [oW 6 (.move (.t 0)), oW 7 (.len 1 (.t 6)), oW 8 (.move (.t 1)), oW 9 (.len 1 (.t 8)), oW 10 (.arith .neq (.t 7) (.t 9))])
 (.cond (.t 10) (.seq (.region [oW 4 (.move (oB false))])
 .ret) .skip))
 (.seq (.seq (.region [oW 11 (.move (.t 0)), oW 12 (.len 1 (.t 11)), oW 13 (.move (oI 0))])
 (.block 0 (.loop t39l0)))
 t39k0))) }

theorem c39 : compFunc Tryz.prog Tryz.f39 .pure = some t39 := by kernel_rfl

def t40l0 : DCode :=
 (.seq (.region [oW 12 (.arith .lss (.t 11) (.t 10))])
 (.seq (.cond (.t 12) .skip (.exit 0))
 (.seq (.block 1 (.seq (.region [oW 13 (.indexAddr 7 (.t 9) (.t 11)), oW 14 (.load (some 7) (.t 13)), oW 7 (.alloc 58 7 (.agg [(.int .i64 0), (.int .i64 0), (.int .i64 0), (.int .i64 0), .nsl, (.int .i64 0), (.bool false)])), oZ (.store 7 (.t 7) (.t 14))])
 (.seq (.region [oW 15 (.fieldAddr 0 (.t 7)), oW 16 (.load (some 2) (.t 15)), oW 17 (.load (some 2) (.t 3)), oW 18 (.eqa false [1, 1] (.t 16) (.t 17))])
 (.cond (.t 18) (.region [oW 19 (.move (.t 5)), oW 20 (.load (some 7) (.t 7)), oW 21 (.buildSlice 58 7 (.agg [(.int .i64 0), (.int .i64 0), (.int .i64 0), (.int .i64 0), .nsl, (.int .i64 0), (.bool false)]) 1 [(0, (.t 20))]), oW 22 (.append 58 7 72 (.t 19) (.t 21)), oW 5 (.move (.t 22))]) .skip))))
 (.region [oW 23 (.arith .add (.t 11) (oI 1)), oW 11 (.move (.t 23))]))))

def t40k0 : DCode :=
 (.seq (.region [oW 24 (.move (.t 5)), oW 4 (.move (.t 24))])
 .ret)

/-- broadside/subs.Of -/
def t40 : DFunc := { ntmps := 25, results := [(.t 4)], mode := .pure, body :=
 (.seq (.region [oW 2 (.box 29 6 (.t 0)), oW 3 (.box 37 2 (.t 1)), oW 4 (.move (.c .nsl))])
 (.seq (.region [oW 5 (.move (.c .nsl))])
 (.seq (.seq (.region [oW 8 (.fieldAddr 4 (.t 2)), oW 9 (.load none (.t 8)), oW 10 (.len 1 (.t 9)), oW 11 (.move (oI 0))])
 (.block 0 (.loop t40l0)))
 t40k0))) }

theorem c40 : compFunc Tryz.prog Tryz.f40 .pure = some t40 := by kernel_rfl

def t41l0 : DCode :=
 (.seq (.region [oW 11 (.arith .lss (.t 10) (.t 9))])
 (.seq (.cond (.t 11) .skip (.exit 0))
 (.seq (.block 1 (.seq (.region [oW 12 (.indexAddr 7 (.t 8) (.t 10)), oW 13 (.load (some 7) (.t 12)), oW 4 (.alloc 58 7 (.agg [(.int .i64 0), (.int .i64 0), (.int .i64 0), (.int .i64 0), .nsl, (.int .i64 0), (.bool false)])), oZ (.store 7 (.t 4) (.t 13))])
 (.seq (.region [oW 15 (.load (some 6) (.t 1)), oW 16 (.fieldAddr 0 (.t 4)), oW 17 (.load (some 2) (.t 16)), oW 18 (.call (oF 23) [(.t 15), (.t 17)]), oW 14 (.move (.t 18)), oW 19 (.extract (.t 14) 0), oW 20 (.extract (.t 14) 1), oW 5 (.alloc 42 4 (.agg [(.int .i64 0), (.int .i64 0), .nsl, (.int .i64 0)])), oZ (.store 4 (.t 5) (.t 19)), oW 6 (.move (.t 20))])
 (.seq (.region [oW 21 (.fieldAddr 6 (.t 4)), oW 22 (.load none (.t 21)), oW 23 (.un .not (.t 22)), oW 24 (.move (.t 23)), ⟨(some 25), .fieldAddr 3 (.t 5), (some (24, true)), .write, 0⟩, ⟨(some 26), .load none (.t 25), (some (24, true)), .write, 0⟩, ⟨(some 27), .arith .neq (.t 26) (oI (-1)), (some (24, true)), .write, 0⟩, oW 28 (.pick (.t 24) (.t 27) (oB false)), oW 29 (.move (.t 28)), ⟨(some 30), .load (some 6) (.t 1), (some (29, true)), .write, 0⟩, ⟨(some 31), .fieldAddr 0 (.t 4), (some (29, true)), .write, 0⟩, ⟨(some 32), .load (some 2) (.t 31), (some (29, true)), .write, 0⟩, ⟨(some 33), .fieldAddr 4 (.t 4), (some (29, true)), .write, 0⟩, ⟨(some 34), .load none (.t 33), (some (29, true)), .write, 0⟩, ⟨(some 35), .call (oF 35) [(.t 30), (.t 32), (.t 34)], (some (29, true)), .write, 0⟩, ⟨(some 36), .un .not (.t 35), (some (29, true)), .write, 0⟩, oW 37 (.pick (.t 29) (.t 36) (oB false))])
 (.cond (.t 37) (.seq (.region [oW 2 (.move (oB false))])
 .ret) .skip)))))
 (.region [oW 38 (.arith .add (.t 10) (oI 1)), oW 10 (.move (.t 38))]))))

def t41k0 : DCode :=
 (.seq (.region [oW 2 (.move (oB true))])
 .ret)

/-- broadside/subs.Tight -/
def t41 : DFunc := { ntmps := 39, results := [(.t 2)], mode := .pure, body :=
 (.seq (.region [oW 1 (.box 29 6 (.t 0)), oW 2 (.move (oB false))])
 (.seq (.seq (.region [oW 7 (.fieldAddr 4 (.t 1)), oW 8 (.load none (.t 7)), oW 9 (.len 1 (.t 8)), oW 10 (.move (oI 0))])
 (.block 0 (.loop t41l0)))
 t41k0)) }

theorem c41 : compFunc Tryz.prog Tryz.f41 .pure = some t41 := by kernel_rfl

def t48l0 : DCode :=
 (.seq (.seq (.region [oW 11 (.move (.t 5)), oW 12 (.move (.t 0)), oW 13 (.len 1 (.t 12)), oW 14 (.arith .lss (.t 11) (.t 13))])
 (.cond (.t 14) .skip (.exit 0)))
 (.seq (.block 1 (.seq (.draw [oR 17 (.move (.t 0)), oR 18 (.move (.t 5)), oR 19 (.indexAddr 5 (.t 17) (.t 18)), oR 20 (.load (some 5) (.t 19)), oR 21 (.move (.t 1)), oR 22 (.move (.t 5)), oR 23 (.indexAddr 5 (.t 21) (.t 22)), oR 24 (.load (some 5) (.t 23)), oR 25 (.eqa true [2, 1, 1, 1, 2] (.t 20) (.t 24))])
 (.cond (.t 25) (.seq (.region [oW 4 (.move (oB false))])
 .ret) .skip)))
 (.region [oW 15 (.move (.t 5)), oW 16 (.arith .add (.t 15) (oI 1)), oW 5 (.move (.t 16))])))

def t48k0 : DCode :=
 (.seq (.region [oW 4 (.move (oB true))])
 .ret)

/-- broadside/broadsidebook.Same[broadside/api.Constraint] -/
def t48 : DFunc := { ntmps := 26, results := [(.t 4)], mode := .pure, body :=
 (.seq (.region [oW 4 (.move (oB false))])
 (.seq (.seq (.region [oW 6 (.move (.t 0)), oW 7 (.len 1 (.t 6)), oW 8 (.move (.t 1)), oW 9 (.len 1 (.t 8)), oW 10 (.arith .neq (.t 7) (.t 9))])
 (.cond (.t 10) (.seq (.region [oW 4 (.move (oB false))])
 .ret) .skip))
 (.seq (.seq (.region [oW 5 (.move (oI 0))])
 (.block 0 (.loop t48l0)))
 t48k0))) }

theorem c48 : compFunc Tryz.prog Tryz.f48 .pure = some t48 := by kernel_rfl

def t54l0 : DCode :=
 (.seq (.region [oW 16 (.arith .lss (.t 15) (.t 14))])
 (.seq (.cond (.t 16) .skip (.exit 0))
 (.seq (.block 1 (.seq (.region [oW 17 (.indexAddr 5 (.t 13) (.t 15)), oW 18 (.load (some 5) (.t 17)), oW 7 (.alloc 62 5 (.agg [(.str []), (.int .i64 0), (.int .i64 0), (.int .i64 0), (.str [])])), oZ (.store 5 (.t 7) (.t 18))])
 (.region [oW 19 (.move (.t 5)), oW 20 (.fieldAddr 0 (.t 7)), oW 21 (.load none (.t 20)), oW 22 (.load (some 5) (.t 7)), oZ (.mapUpdate (.prim 2) (.t 19) (.t 21) (.t 22))])))
 (.region [oW 23 (.arith .add (.t 15) (oI 1)), oW 15 (.move (.t 23))]))))

def t54l1 : DCode :=
 (.seq (.region [oW 27 (.arith .lss (.t 26) (.t 25))])
 (.seq (.cond (.t 27) .skip (.exit 2))
 (.seq (.block 3 (.seq (.region [oW 28 (.indexAddr 5 (.t 24) (.t 26)), oW 29 (.load (some 5) (.t 28)), oW 9 (.alloc 62 5 (.agg [(.str []), (.int .i64 0), (.int .i64 0), (.int .i64 0), (.str [])])), oZ (.store 5 (.t 9) (.t 29))])
 (.seq (.region [oW 31 (.move (.t 5)), oW 32 (.fieldAddr 0 (.t 9)), oW 33 (.load none (.t 32)), oW 34 (.lookup (.prim 2) (.agg [(.str []), (.int .i64 0), (.int .i64 0), (.int .i64 0), (.str [])]) true (.t 31) (.t 33)), oW 30 (.move (.t 34)), oW 35 (.extract (.t 30) 0), oW 36 (.extract (.t 30) 1), oW 10 (.alloc 62 5 (.agg [(.str []), (.int .i64 0), (.int .i64 0), (.int .i64 0), (.str [])])), oZ (.store 5 (.t 10) (.t 35)), oW 11 (.move (.t 36))])
 (.seq (.region [oW 37 (.move (.t 11)), oW 38 (.un .not (.t 37)), oW 39 (.move (.t 38)), ⟨(some 40), .load (some 5) (.t 9), (some (39, false)), .write, 0⟩, ⟨(some 41), .load (some 5) (.t 10), (some (39, false)), .write, 0⟩, ⟨(some 42), .call (oF 130) [(.t 40), (.t 41)], (some (39, false)), .write, 0⟩, ⟨(some 43), .un .not (.t 42), (some (39, false)), .write, 0⟩, oW 44 (.pick (.t 39) (oB true) (.t 43))])
 (.cond (.t 44) (.seq (.region [oW 4 (.move (oB false))])
 .ret) .skip)))))
 (.region [oW 45 (.arith .add (.t 26) (oI 1)), oW 26 (.move (.t 45))]))))

def t54k0 : DCode :=
 (.seq (.region [oW 4 (.move (oB true))])
 .ret)

def t54k1 : DCode :=
 (.seq (.seq (.region [oW 24 (.move (.t 0)), oW 25 (.len 1 (.t 24)), oW 26 (.move (oI 0))])
 (.block 2 (.loop t54l1)))
 t54k0)

/-- broadside/rel.Covers -/
def t54 : DFunc := { ntmps := 46, results := [(.t 4)], mode := .pure, body :=
 (.seq (.region [oW 4 (.move (oB false))])
 (.seq (.region [oW 12 (.makeMap), oW 5 (.move (.t 12))])
 (.seq (.seq (.region [oW 13 (.move (.t 1)), oW 14 (.len 1 (.t 13)), oW 15 (.move (oI 0))])
 (.block 0 (.loop t54l0)))
 t54k1))) }

theorem c54 : compFunc Tryz.prog Tryz.f54 .pure = some t54 := by kernel_rfl

/-- broadside/adverts.Less -/
def t56 : DFunc := { ntmps := 9, results := [(.t 4)], mode := .pure, body :=
 (.seq (.region [oW 2 (.box 37 2 (.t 0)), oW 3 (.box 37 2 (.t 1)), oW 4 (.move (oB false))])
 (.seq (.region [oW 5 (.load (some 2) (.t 2)), oW 6 (.load (some 2) (.t 3)), oW 7 (.call (oF 101) [(.t 5), (.t 6)]), oW 8 (.arith .lss (.t 7) (oI 0)), oW 4 (.move (.t 8))])
 .ret)) }

theorem c56 : compFunc Tryz.prog Tryz.f56 .pure = some t56 := by kernel_rfl

/-- broadside/adverts.Seen -/
def t57 : DFunc := { ntmps := 14, results := [(.t 4)], mode := .pure, body :=
 (.seq (.region [oW 2 (.box 29 6 (.t 0)), oW 3 (.box 37 2 (.t 1)), oW 4 (.move (oB false))])
 (.seq (.region [oW 8 (.load (some 6) (.t 2)), oW 9 (.load (some 2) (.t 3)), oW 10 (.call (oF 71) [(.t 8), (.t 9)]), oW 7 (.move (.t 10)), oW 11 (.extract (.t 7) 0), oW 12 (.extract (.t 7) 1), oW 5 (.move (.t 11)), oW 6 (.move (.t 12))])
 (.seq (.region [oW 13 (.move (.t 6)), oW 4 (.move (.t 13))])
 .ret))) }

theorem c57 : compFunc Tryz.prog Tryz.f57 .pure = some t57 := by kernel_rfl

/-- slices.Sort[[]int,int] -/
def t65 : DFunc := { ntmps := 11, results := [], mode := .full, body :=
 (.seq (.region [oW 3 (.move (.t 0)), oW 4 (.len 1 (.t 3)), oW 2 (.move (.t 4))])
 (.region [oW 5 (.move (.t 0)), oW 6 (.move (.t 2)), oW 7 (.move (.t 2)), oW 8 (.conv .u64 (.t 7)), oW 9 (.call (oF 135) [(.t 8)]), oW 10 (.call (oF 134) [(.t 5), (oI 0), (.t 6), (.t 9)])])) }

theorem c65 : compFunc Tryz.prog Tryz.f65 .full = some t65 := by kernel_rfl

def t66l0 : DCode :=
 (.seq (.seq (.region [oW 29 (.move (.t 5)), oW 30 (.move (.t 4)), oW 31 (.len 1 (.t 30)), oW 32 (.arith .lss (.t 29) (.t 31))])
 (.cond (.t 32) .skip (.exit 2)))
 (.seq (.block 3 (.seq (.draw [oR 35 (.move (.t 4)), oR 36 (.move (.t 5)), oR 37 (.indexAddr 1 (.t 35) (.t 36)), oR 38 (.load none (.t 37)), oR 39 (.move (.t 4)), oR 40 (.move (.t 5)), oR 41 (.arith .sub (.t 40) (oI 1)), oR 42 (.indexAddr 1 (.t 39) (.t 41)), oR 43 (.load none (.t 42)), oR 44 (.arith .neq (.t 38) (.t 43))])
 (.cond (.t 44) (.seq (.region [oW 45 (.move (.t 0)), oW 46 (.move (.t 3)), oW 47 (.move (.t 4)), oW 48 (.move (.t 5)), oW 49 (.indexAddr 1 (.t 47) (.t 48)), oW 50 (.load none (.t 49)), oW 51 (.indexAddr 1 (.t 45) (.t 46)), oZ (.store 1 (.t 51) (.t 50))])
 (.region [oW 52 (.move (.t 3)), oW 53 (.arith .add (.t 52) (oI 1)), oW 3 (.move (.t 53))])) .skip)))
 (.region [oW 33 (.move (.t 5)), oW 34 (.arith .add (.t 33) (oI 1)), oW 5 (.move (.t 34))])))

def t66k0 : DCode :=
 (.seq (.region [oW 54 (.move (.t 0)), oW 55 (.move (.t 3)), oW 56 (.sliceSl 1 (.t 54) (some (.t 55)) none), oZ (.clear 1 (.int .i64 0) (.t 56))])
 (.seq (.region [oW 57 (.move (.t 0)), oW 58 (.move (.t 3)), oW 59 (.sliceSl 1 (.t 57) none (some (.t 58))), oW 2 (.move (.t 59))])
 .ret))

def t66k1 : DCode :=
 (.region [oW 14 (.move (.t 3)), oW 15 (.arith .add (.t 14) (oI 1)), oW 3 (.move (.t 15))])

def t66l1 : DCode :=
 (.seq (.seq (.region [oW 10 (.move (.t 3)), oW 11 (.move (.t 0)), oW 12 (.len 1 (.t 11)), oW 13 (.arith .lss (.t 10) (.t 12))])
 (.cond (.t 13) .skip (.exit 0)))
 (.seq (.block 1 (.seq (.draw [oR 16 (.move (.t 0)), oR 17 (.move (.t 3)), oR 18 (.indexAddr 1 (.t 16) (.t 17)), oR 19 (.load none (.t 18)), oR 20 (.move (.t 0)), oR 21 (.move (.t 3)), oR 22 (.arith .sub (.t 21) (oI 1)), oR 23 (.indexAddr 1 (.t 20) (.t 22)), oR 24 (.load none (.t 23)), oR 25 (.arith .eql (.t 19) (.t 24))])
 (.cond (.t 25) (.seq (.region [oW 26 (.move (.t 0)), oW 27 (.move (.t 3)), oW 28 (.sliceSl 1 (.t 26) (some (.t 27)) none), oW 4 (.move (.t 28))])
 (.seq (.seq (.region [oW 5 (.move (oI 1))])
 (.block 2 (.loop t66l0)))
 t66k0)) .skip)))
 t66k1))

def t66k2 : DCode :=
 (.seq (.region [oW 60 (.move (.t 0)), oW 2 (.move (.t 60))])
 .ret)

/-- slices.Compact[[]int,int] -/
def t66 : DFunc := { ntmps := 61, results := [(.t 2)], mode := .full, body :=
 (.seq (.region [oW 2 (.move (.c .nsl))])
 (.seq (.seq (.region [oW 6 (.move (.t 0)), oW 7 (.len 1 (.t 6)), oW 8 (.arith .lss (.t 7) (oI 2))])
 (.cond (.t 8) (.seq (.region [oW 9 (.move (.t 0)), oW 2 (.move (.t 9))])
 .ret) .skip))
 (.seq (.seq (.region [oW 3 (.move (oI 1))])
 (.block 0 (.loop t66l1)))
 t66k2))) }

theorem c66 : compFunc Tryz.prog Tryz.f66 .full = some t66 := by kernel_rfl

/-- broadside/broadsidekeep.Names -/
def t67 : DFunc := { ntmps := 2, results := [(.t 0)], mode := .pure, body :=
 (.seq (.region [oW 0 (.move (.c .nsl))])
 (.seq (.region [oW 1 (.buildSlice 9 1 (.str []) 7 [(0, (.c (.str [97]))), (1, (.c (.str [98]))), (2, (.c (.str [99]))), (3, (.c (.str [100]))), (4, (.c (.str [101]))), (5, (.c (.str [102]))), (6, (.c (.str [103])))]), oW 0 (.move (.t 1))])
 .ret)) }

theorem c67 : compFunc Tryz.prog Tryz.f67 .pure = some t67 := by kernel_rfl

/-- broadside/broadsidekeep.Constraint -/
def t68 : DFunc := { ntmps := 44, results := [(.cell 4 (some 5))], mode := .pure, body :=
 (.seq (.region [oW 4 (.alloc 62 5 (.agg [(.str []), (.int .i64 0), (.int .i64 0), (.int .i64 0), (.str [])]))])
 (.seq (.region [oW 6 (.move (.t 0)), oW 7 (.build [(.str []), (.int .i64 0), (.int .i64 0), (.int .i64 0), (.str [])] [(0, 1, (.t 6))]), oW 5 (.alloc 62 5 (.agg [(.str []), (.int .i64 0), (.int .i64 0), (.int .i64 0), (.str [])])), oZ (.store 5 (.t 5) (.t 7))])
 (.seq (.seq (.region [oW 8 (.move (.t 1)), oW 9 (.call (oF 16) [(.t 8), (oI 0), (oI 3)])])
 (.block 0 (.seq (.seq (.region [oW 19 (.arith .eql (.t 9) (oI 0)), oW 18 (.move (.t 19))])
 (.cond (.t 18) .skip (.region [oW 20 (.arith .eql (.t 9) (oI 1)), oW 18 (.move (.t 20))])))
 (.cond (.t 18) (.seq (.region [oW 21 (.move (.t 1)), oW 22 (.arith .quo (.t 21) (oI 4)), oW 23 (.call (oF 16) [(.t 22), (oI 0), (oI 9)]), oW 24 (.fieldAddr 1 (.t 5)), oZ (.store 1 (.t 24) (oI 1)), oW 25 (.fieldAddr 2 (.t 5)), oZ (.store 1 (.t 25) (.t 23))])
 (.draw [oR 26 (.fieldAddr 2 (.t 5)), oR 27 (.load none (.t 26)), oR 28 (.move (.t 1)), oR 29 (.arith .quo (.t 28) (oI 40)), ⟨(some 30), .call (oF 16) [(.t 29), (oI 0), (oI 9)], none, .create, 0⟩, ⟨(some 31), .arith .add (.t 27) (.t 30), none, .read, 1⟩, ⟨(some 32), .fieldAddr 3 (.t 5), none, .read, 1⟩, ⟨none, .store 1 (.t 32) (.t 31), none, .write, 1⟩])) (.seq (.region [oW 34 (.arith .eql (.t 9) (oI 2)), oW 33 (.move (.t 34))])
 (.cond (.t 33) (.draw [oW 35 (.call (oF 136) []), oR 36 (.move (.t 1)), oR 37 (.arith .quo (.t 36) (oI 4)), ⟨(some 38), .call (oF 16) [(.t 37), (oI 0), (oI 6)], none, .write, 1⟩, ⟨(some 39), .indexAddr 1 (.t 35) (.t 38), none, .read, 2⟩, ⟨(some 40), .load none (.t 39), none, .read, 2⟩, oR 41 (.fieldAddr 1 (.t 5)), ⟨none, .store 1 (.t 41) (oI 2), none, .create, 2⟩, ⟨(some 42), .fieldAddr 4 (.t 5), none, .read, 3⟩, ⟨none, .store 1 (.t 42) (.t 40), none, .write, 3⟩]) (.draw [oW 10 (.call (oF 136) []), oR 11 (.move (.t 1)), oR 12 (.arith .quo (.t 11) (oI 4)), ⟨(some 13), .call (oF 16) [(.t 12), (oI 0), (oI 6)], none, .write, 1⟩, ⟨(some 14), .indexAddr 1 (.t 10) (.t 13), none, .read, 2⟩, ⟨(some 15), .load none (.t 14), none, .read, 2⟩, oR 16 (.fieldAddr 1 (.t 5)), ⟨none, .store 1 (.t 16) (oI 3), none, .create, 2⟩, ⟨(some 17), .fieldAddr 4 (.t 5), none, .read, 3⟩, ⟨none, .store 1 (.t 17) (.t 15), none, .write, 3⟩])))))))
 (.seq (.region [oW 43 (.load (some 5) (.t 5)), oZ (.store 5 (.t 4) (.t 43))])
 .ret)))) }

theorem c68 : compFunc Tryz.prog Tryz.f68 .pure = some t68 := by kernel_rfl

/-- broadside/broadsidekeep.pick -/
def t69 : DFunc := { ntmps := 15, results := [(.t 4)], mode := .pure, body :=
 (.seq (.region [oW 4 (.move (oI 0))])
 (.seq (.seq (.region [oW 5 (.move (.t 0)), oW 6 (.len 1 (.t 5)), oW 7 (.arith .eql (.t 6) (oI 0))])
 (.cond (.t 7) (.seq (.region [oW 4 (.move (oI 0))])
 .ret) .skip))
 (.seq (.region [oW 8 (.move (.t 0)), oW 9 (.move (.t 1)), oW 10 (.move (.t 0)), oW 11 (.len 1 (.t 10)), oW 12 (.arith .rem (.t 9) (.t 11)), oW 13 (.indexAddr 1 (.t 8) (.t 12)), oW 14 (.load none (.t 13)), oW 4 (.move (.t 14))])
 .ret))) }

theorem c69 : compFunc Tryz.prog Tryz.f69 .pure = some t69 := by kernel_rfl

/-- broadside/adverts.copied -/
def t70 : DFunc := { ntmps := 24, results := [(.cell 2 (some 6))], mode := .full, body :=
 (.seq (.region [oW 1 (.box 29 6 (.t 0)), oW 2 (.alloc 29 6 (.agg [(.int .i64 0), .nsl, .nsl, .nsl, .nsl, .nsl]))])
 (.seq (.draw [oR 3 (.fieldAddr 1 (.t 1)), oR 4 (.load none (.t 3)), ⟨(some 5), .call (oF 64) [(.t 4)], none, .create, 0⟩, oR 6 (.fieldAddr 2 (.t 1)), oR 7 (.load none (.t 6)), ⟨(some 8), .call (oF 137) [(.t 7)], none, .create, 0⟩, oR 9 (.fieldAddr 3 (.t 1)), oR 10 (.load none (.t 9)), ⟨(some 11), .call (oF 138) [(.t 10)], none, .create, 0⟩, oR 12 (.fieldAddr 4 (.t 1)), oR 13 (.load none (.t 12)), ⟨(some 14), .call (oF 112) [(.t 13)], none, .create, 0⟩, oR 15 (.fieldAddr 5 (.t 1)), oR 16 (.load none (.t 15)), ⟨(some 17), .call (oF 126) [(.t 16)], none, .write, 4⟩, ⟨(some 18), .fieldAddr 1 (.t 1), none, .read, 1⟩, ⟨none, .store 1 (.t 18) (.t 5), none, .write, 5⟩, ⟨(some 19), .fieldAddr 2 (.t 1), none, .read, 6⟩, ⟨none, .store 1 (.t 19) (.t 8), none, .write, 6⟩, ⟨(some 20), .fieldAddr 3 (.t 1), none, .read, 7⟩, ⟨none, .store 1 (.t 20) (.t 11), none, .write, 7⟩, ⟨(some 21), .fieldAddr 4 (.t 1), none, .read, 8⟩, ⟨none, .store 1 (.t 21) (.t 14), none, .write, 8⟩, ⟨(some 22), .fieldAddr 5 (.t 1), none, .read, 9⟩, ⟨none, .store 1 (.t 22) (.t 17), none, .write, 9⟩])
 (.seq (.region [oW 23 (.load (some 6) (.t 1)), oZ (.store 6 (.t 2) (.t 23))])
 .ret))) }

theorem c70 : compFunc Tryz.prog Tryz.f70 .full = some t70 := by kernel_rfl

/-- broadside/adverts.seen -/
def t71 : DFunc := { ntmps := 12, results := [(.t 4), (.t 5)], mode := .pure, body :=
 (.seq (.region [oW 2 (.box 29 6 (.t 0)), oW 3 (.box 37 2 (.t 1)), oW 4 (.move (oI 0)), oW 5 (.move (oB false))])
 (.seq (.region [oW 6 (.fieldAddr 3 (.t 2)), oW 7 (.load none (.t 6)), oW 8 (.load (some 2) (.t 3)), oW 9 (.call (oF 139) [(.t 7), (.t 8), (oF 101)]), oW 10 (.extract (.t 9) 0), oW 11 (.extract (.t 9) 1), oW 4 (.move (.t 10)), oW 5 (.move (.t 11))])
 .ret)) }

theorem c71 : compFunc Tryz.prog Tryz.f71 .pure = some t71 := by kernel_rfl

/-- broadside/adverts.place -/
def t72 : DFunc := { ntmps := 12, results := [(.t 4), (.t 5)], mode := .pure, body :=
 (.seq (.region [oW 2 (.box 29 6 (.t 0)), oW 3 (.box 37 2 (.t 1)), oW 4 (.move (oI 0)), oW 5 (.move (oB false))])
 (.seq (.region [oW 6 (.fieldAddr 2 (.t 2)), oW 7 (.load none (.t 6)), oW 8 (.load (some 2) (.t 3)), oW 9 (.call (oF 140) [(.t 7), (.t 8), (oF 141)]), oW 10 (.extract (.t 9) 0), oW 11 (.extract (.t 9) 1), oW 4 (.move (.t 10)), oW 5 (.move (.t 11))])
 .ret)) }

theorem c72 : compFunc Tryz.prog Tryz.f72 .pure = some t72 := by kernel_rfl

/-- slices.Insert[[]broadside/api.Advert,broadside/api.Advert] -/
def t73 : DFunc := { ntmps := 95, results := [(.t 6)], mode := .split, body :=
 (.seq (.region [oW 6 (.move (.c .nsl))])
 (.seq (.region [oW 10 (.move (.t 0)), oW 11 (.move (.t 1)), oW 12 (.sliceSl 4 (.t 10) (some (.t 11)) none)])
 (.seq (.region [oW 13 (.move (.t 2)), oW 14 (.len 1 (.t 13)), oW 7 (.move (.t 14))])
 (.seq (.seq (.region [oW 15 (.move (.t 7)), oW 16 (.arith .eql (.t 15) (oI 0))])
 (.cond (.t 16) (.seq (.region [oW 17 (.move (.t 0)), oW 6 (.move (.t 17))])
 .ret) .skip))
 (.seq (.region [oW 18 (.move (.t 0)), oW 19 (.len 1 (.t 18)), oW 8 (.move (.t 19))])
 (.seq (.seq (.region [oW 20 (.move (.t 1)), oW 21 (.move (.t 8)), oW 22 (.arith .eql (.t 20) (.t 21))])
 (.cond (.t 22) (.seq (.region [oW 23 (.move (.t 0)), oW 24 (.move (.t 2)), oW 25 (.append 42 4 48 (.t 23) (.t 24)), oW 6 (.move (.t 25))])
 .ret) .skip))
 (.seq (.seq (.region [oW 26 (.move (.t 8)), oW 27 (.move (.t 7)), oW 28 (.arith .add (.t 26) (.t 27)), oW 29 (.move (.t 0)), oW 30 (.cap (.t 29)), oW 31 (.arith .gtr (.t 28) (.t 30))])
 (.cond (.t 31) (.seq (.region [oW 32 (.move (.t 0)), oW 33 (.move (.t 1)), oW 34 (.sliceSl 4 (.t 32) none (some (.t 33))), oW 35 (.move (.t 8)), oW 36 (.move (.t 7)), oW 37 (.arith .add (.t 35) (.t 36)), oW 38 (.move (.t 1)), oW 39 (.arith .sub (.t 37) (.t 38)), oW 40 (.appendZ 42 4 48 (.agg [(.int .i64 0), (.int .i64 0), .nsl, (.int .i64 0)]) (.t 34) (.t 39)), oW 9 (.move (.t 40))])
 (.seq (.region [oW 41 (.move (.t 9)), oW 42 (.move (.t 1)), oW 43 (.sliceSl 4 (.t 41) (some (.t 42)) none), oW 44 (.move (.t 2)), oW 45 (.copy 4 (.t 43) (.t 44))])
 (.seq (.draw [oR 46 (.move (.t 9)), oR 47 (.move (.t 1)), oR 48 (.move (.t 7)), oR 49 (.arith .add (.t 47) (.t 48)), oR 50 (.sliceSl 4 (.t 46) (some (.t 49)) none), oR 51 (.move (.t 0)), oR 52 (.move (.t 1)), oR 53 (.sliceSl 4 (.t 51) (some (.t 52)) none), oW 54 (.copy 4 (.t 50) (.t 53))])
 (.seq (.region [oW 55 (.move (.t 9)), oW 6 (.move (.t 55))])
 .ret)))) .skip))
 (.seq (.region [oW 56 (.move (.t 0)), oW 57 (.move (.t 8)), oW 58 (.move (.t 7)), oW 59 (.arith .add (.t 57) (.t 58)), oW 60 (.sliceSl 4 (.t 56) none (some (.t 59))), oW 0 (.move (.t 60))])
 (.seq (.seq (.region [oW 61 (.move (.t 2)), oW 62 (.move (.t 0)), oW 63 (.move (.t 1)), oW 64 (.move (.t 7)), oW 65 (.arith .add (.t 63) (.t 64)), oW 66 (.sliceSl 4 (.t 62) (some (.t 65)) none), oW 67 (.call (oF 142) [(.t 61), (.t 66)]), oW 68 (.un .not (.t 67))])
 (.cond (.t 68) (.seq (.draw [oR 69 (.move (.t 0)), oR 70 (.move (.t 1)), oR 71 (.move (.t 7)), oR 72 (.arith .add (.t 70) (.t 71)), oR 73 (.sliceSl 4 (.t 69) (some (.t 72)) none), oR 74 (.move (.t 0)), oR 75 (.move (.t 1)), oR 76 (.sliceSl 4 (.t 74) (some (.t 75)) none), oW 77 (.copy 4 (.t 73) (.t 76))])
 (.seq (.region [oW 78 (.move (.t 0)), oW 79 (.move (.t 1)), oW 80 (.sliceSl 4 (.t 78) (some (.t 79)) none), oW 81 (.move (.t 2)), oW 82 (.copy 4 (.t 80) (.t 81))])
 (.seq (.region [oW 83 (.move (.t 0)), oW 6 (.move (.t 83))])
 .ret))) .skip))
 (.seq (.region [oW 84 (.move (.t 0)), oW 85 (.move (.t 8)), oW 86 (.sliceSl 4 (.t 84) (some (.t 85)) none), oW 87 (.move (.t 2)), oW 88 (.copy 4 (.t 86) (.t 87))])
 (.seq (.region [oW 89 (.move (.t 0)), oW 90 (.move (.t 1)), oW 91 (.sliceSl 4 (.t 89) (some (.t 90)) none), oW 92 (.move (.t 7)), oW 93 (.call (oF 143) [(.t 91), (.t 92)])])
 (.seq (.region [oW 94 (.move (.t 0)), oW 6 (.move (.t 94))])
 .ret)))))))))))) }

theorem c73 : compFunc Tryz.prog Tryz.f73 .split = some t73 := by kernel_rfl

end Go.Dm.Tc
