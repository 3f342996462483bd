/-
The table of functions, brought into the machine's form (Tc, part 2). Written by program (wip/tools/table.lean.txt).
-/
import Derived.Test.YtfnhanajiibciaaGreatMm3
import Derived.Test.YtfnhanajiibciaaGreatRows
import Derived.KernelRfl
namespace Go.Dm.Tc
open Go.Proofs

def t134l0 : DCode :=
 (.block 1 (.seq (.region [oW 19 (.move (.t 2)), oW 20 (.move (.t 1)), oW 21 (.arith .sub (.t 19) (.t 20)), oW 10 (.move (.t 21))])
 (.seq (.seq (.region [oW 22 (.move (.t 10)), oW 23 (.arith .leq (.t 22) (oI 12))])
 (.cond (.t 23) (.seq (.region [oW 24 (.move (.t 0)), oW 25 (.move (.t 1)), oW 26 (.move (.t 2)), oW 27 (.call (oF 170) [(.t 24), (.t 25), (.t 26)])])
 .ret) .skip))
 (.seq (.seq (.region [oW 28 (.move (.t 3)), oW 29 (.arith .eql (.t 28) (oI 0))])
 (.cond (.t 29) (.seq (.region [oW 30 (.move (.t 0)), oW 31 (.move (.t 1)), oW 32 (.move (.t 2)), oW 33 (.call (oF 171) [(.t 30), (.t 31), (.t 32)])])
 .ret) .skip))
 (.seq (.seq (.region [oW 34 (.move (.t 8)), oW 35 (.un .not (.t 34))])
 (.cond (.t 35) (.seq (.region [oW 36 (.move (.t 0)), oW 37 (.move (.t 1)), oW 38 (.move (.t 2)), oW 39 (.call (oF 172) [(.t 36), (.t 37), (.t 38)])])
 (.region [oW 40 (.move (.t 3)), oW 41 (.arith .sub (.t 40) (oI 1)), oW 3 (.move (.t 41))])) .skip))
 (.seq (.region [oW 43 (.move (.t 0)), oW 44 (.move (.t 1)), oW 45 (.move (.t 2)), oW 46 (.call (oF 173) [(.t 43), (.t 44), (.t 45)]), oW 42 (.move (.t 46)), oW 47 (.extract (.t 42) 0), oW 48 (.extract (.t 42) 1), oW 11 (.move (.t 47)), oW 12 (.move (.t 48))])
 (.seq (.seq (.region [oW 49 (.move (.t 12)), oW 50 (.arith .eql (.t 49) (oI 2))])
 (.cond (.t 50) (.seq (.region [oW 51 (.move (.t 0)), oW 52 (.move (.t 1)), oW 53 (.move (.t 2)), oW 54 (.call (oF 174) [(.t 51), (.t 52), (.t 53)])])
 (.seq (.region [oW 55 (.move (.t 2)), oW 56 (.arith .sub (.t 55) (oI 1)), oW 57 (.move (.t 11)), oW 58 (.move (.t 1)), oW 59 (.arith .sub (.t 57) (.t 58)), oW 60 (.arith .sub (.t 56) (.t 59)), oW 11 (.move (.t 60))])
 (.region [oW 12 (.move (oI 1))]))) .skip))
 (.seq (.seq (.region [oW 61 (.move (.t 8)), oW 62 (.move (.t 61)), ⟨(some 63), .move (.t 9), (some (62, true)), .write, 0⟩, oW 64 (.pick (.t 62) (.t 63) (oB false)), oW 65 (.move (.t 64)), ⟨(some 66), .move (.t 12), (some (65, true)), .write, 0⟩, ⟨(some 67), .arith .eql (.t 66) (oI 1), (some (65, true)), .write, 0⟩, oW 68 (.pick (.t 65) (.t 67) (oB false))])
 (.cond (.t 68) (.seq (.region [oW 69 (.move (.t 0)), oW 70 (.move (.t 1)), oW 71 (.move (.t 2)), oW 72 (.call (oF 175) [(.t 69), (.t 70), (.t 71)])])
 (.cond (.t 72) .ret .skip)) .skip))
 (.seq (.seq (.draw [oR 73 (.move (.t 1)), oR 74 (.arith .gtr (.t 73) (oI 0)), oR 75 (.move (.t 74)), ⟨(some 76), .move (.t 0), (some (75, true)), .read, 0⟩, ⟨(some 77), .move (.t 1), (some (75, true)), .read, 0⟩, ⟨(some 78), .arith .sub (.t 77) (oI 1), (some (75, true)), .read, 0⟩, ⟨(some 79), .indexAddr 1 (.t 76) (.t 78), (some (75, true)), .read, 0⟩, ⟨(some 80), .load none (.t 79), (some (75, true)), .read, 0⟩, ⟨(some 81), .move (.t 0), (some (75, true)), .read, 0⟩, ⟨(some 82), .move (.t 11), (some (75, true)), .read, 0⟩, ⟨(some 83), .indexAddr 1 (.t 81) (.t 82), (some (75, true)), .read, 0⟩, ⟨(some 84), .load none (.t 83), (some (75, true)), .read, 0⟩, ⟨(some 85), .call (oF 176) [(.t 80), (.t 84)], (some (75, true)), .write, 0⟩, ⟨(some 86), .un .not (.t 85), (some (75, true)), .read, 1⟩, ⟨(some 87), .pick (.t 75) (.t 86) (oB false), none, .read, 1⟩])
 (.cond (.t 87) (.seq (.region [oW 88 (.move (.t 0)), oW 89 (.move (.t 1)), oW 90 (.move (.t 2)), oW 91 (.move (.t 11)), oW 92 (.call (oF 177) [(.t 88), (.t 89), (.t 90), (.t 91)]), oW 13 (.move (.t 92))])
 (.seq (.region [oW 93 (.move (.t 13)), oW 1 (.move (.t 93))])
 (.exit 1))) .skip))
 (.seq (.region [oW 95 (.move (.t 0)), oW 96 (.move (.t 1)), oW 97 (.move (.t 2)), oW 98 (.move (.t 11)), oW 99 (.call (oF 178) [(.t 95), (.t 96), (.t 97), (.t 98)]), oW 94 (.move (.t 99)), oW 100 (.extract (.t 94) 0), oW 101 (.extract (.t 94) 1), oW 14 (.move (.t 100)), oW 15 (.move (.t 101))])
 (.seq (.region [oW 102 (.move (.t 15)), oW 9 (.move (.t 102))])
 (.seq (.region [oW 103 (.move (.t 14)), oW 104 (.move (.t 1)), oW 105 (.arith .sub (.t 103) (.t 104)), oW 106 (.move (.t 2)), oW 107 (.move (.t 14)), oW 108 (.arith .sub (.t 106) (.t 107)), oW 16 (.move (.t 105)), oW 17 (.move (.t 108))])
 (.seq (.region [oW 109 (.move (.t 10)), oW 110 (.arith .quo (.t 109) (oI 8)), oW 18 (.move (.t 110))])
 (.seq (.region [oW 111 (.move (.t 16)), oW 112 (.move (.t 17)), oW 113 (.arith .lss (.t 111) (.t 112))])
 (.cond (.t 113) (.seq (.region [oW 114 (.move (.t 16)), oW 115 (.move (.t 18)), oW 116 (.arith .geq (.t 114) (.t 115)), oW 8 (.move (.t 116))])
 (.seq (.region [oW 117 (.move (.t 0)), oW 118 (.move (.t 1)), oW 119 (.move (.t 14)), oW 120 (.move (.t 3)), oW 121 (.call (oF 134) [(.t 117), (.t 118), (.t 119), (.t 120)])])
 (.region [oW 122 (.move (.t 14)), oW 123 (.arith .add (.t 122) (oI 1)), oW 1 (.move (.t 123))]))) (.seq (.region [oW 124 (.move (.t 17)), oW 125 (.move (.t 18)), oW 126 (.arith .geq (.t 124) (.t 125)), oW 8 (.move (.t 126))])
 (.seq (.region [oW 127 (.move (.t 0)), oW 128 (.move (.t 14)), oW 129 (.arith .add (.t 128) (oI 1)), oW 130 (.move (.t 2)), oW 131 (.move (.t 3)), oW 132 (.call (oF 134) [(.t 127), (.t 129), (.t 130), (.t 131)])])
 (.region [oW 133 (.move (.t 14)), oW 2 (.move (.t 133))]))))))))))))))))))

/-- slices.pdqsortOrdered[int] -/
def t134 : DFunc := { ntmps := 134, results := [], mode := .full, body :=
 (.seq (.region [oW 8 (.move (oB true))])
 (.seq (.region [oW 9 (.move (oB true))])
 (.block 0 (.loop t134l0)))) }

theorem c134 : compFunc Tryz.prog Tryz.f134 .full = some t134 := by kernel_rfl

/-- math/bits.Len -/
def t135 : DFunc := { ntmps := 8, results := [(.t 2)], mode := .pure, body :=
 (.seq (.region [oW 2 (.move (oI 0))])
 (.seq (.cond (oB false) (.seq (.region [oW 3 (.move (.t 0)), oW 4 (.conv .u32 (.t 3)), oW 5 (.call (oF 179) [(.t 4)]), oW 2 (.move (.t 5))])
 .ret) .skip)
 (.seq (.region [oW 6 (.move (.t 0)), oW 7 (.call (oF 180) [(.t 6)]), oW 2 (.move (.t 7))])
 .ret))) }

theorem c135 : compFunc Tryz.prog Tryz.f135 .pure = some t135 := by kernel_rfl

/-- broadside/broadsidekeep.texts -/
def t136 : DFunc := { ntmps := 2, results := [(.t 0)], mode := .pure, body :=
 (.seq (.region [oW 0 (.move (.c .nsl))])
 (.seq (.region [oW 1 (.buildSlice 9 1 (.str []) 7 [(0, (.c (.str []))), (1, (.c (.str [120]))), (2, (.c (.str [120, 121]))), (3, (.c (.str [120, 121, 122]))), (4, (.c (.str [120, 122]))), (5, (.c (.str [121]))), (6, (.c (.str [121, 121])))]), oW 0 (.move (.t 1))])
 .ret)) }

theorem c136 : compFunc Tryz.prog Tryz.f136 .pure = some t136 := by kernel_rfl

def t139l0 : DCode :=
 (.seq (.seq (.region [oW 15 (.move (.t 9)), oW 16 (.move (.t 10)), oW 17 (.arith .lss (.t 15) (.t 16))])
 (.cond (.t 17) .skip (.exit 0)))
 (.block 1 (.seq (.region [oW 18 (.move (.t 9)), oW 19 (.move (.t 10)), oW 20 (.arith .add (.t 18) (.t 19)), oW 21 (.conv .u64 (.t 20)), oW 22 (.arith .shr (.t 21) (.c (.int .u64 1))), oW 23 (.conv .i64 (.t 22)), oW 11 (.move (.t 23))])
 (.seq (.draw [oR 25 (.move (.t 0)), oR 26 (.move (.t 11)), oR 27 (.indexAddr 2 (.t 25) (.t 26)), oR 28 (.load (some 2) (.t 27)), oR 29 (.load (some 2) (.t 4)), oR 24 (.move (.t 2)), oW 30 (.call (.t 24) [(.t 28), (.t 29)]), ⟨(some 31), .arith .lss (.t 30) (oI 0), none, .read, 1⟩])
 (.cond (.t 31) (.region [oW 32 (.move (.t 11)), oW 33 (.arith .add (.t 32) (oI 1)), oW 9 (.move (.t 33))]) (.region [oW 34 (.move (.t 11)), oW 10 (.move (.t 34))]))))))

def t139k0 : DCode :=
 (.seq (.draw [oR 36 (.move (.t 9)), oR 37 (.move (.t 8)), oR 38 (.arith .lss (.t 36) (.t 37)), oR 39 (.move (.t 38)), ⟨(some 41), .move (.t 0), (some (39, true)), .read, 0⟩, ⟨(some 42), .move (.t 9), (some (39, true)), .read, 0⟩, ⟨(some 43), .indexAddr 2 (.t 41) (.t 42), (some (39, true)), .read, 0⟩, ⟨(some 44), .load (some 2) (.t 43), (some (39, true)), .read, 0⟩, ⟨(some 45), .load (some 2) (.t 4), (some (39, true)), .read, 0⟩, ⟨(some 40), .move (.t 2), (some (39, true)), .read, 0⟩, ⟨(some 46), .call (.t 40) [(.t 44), (.t 45)], (some (39, true)), .write, 0⟩, oR 35 (.move (.t 9)), ⟨(some 47), .arith .eql (.t 46) (oI 0), (some (39, true)), .read, 1⟩, ⟨(some 48), .pick (.t 39) (.t 47) (oB false), none, .read, 1⟩, ⟨(some 6), .move (.t 35), none, .read, 1⟩, ⟨(some 7), .move (.t 48), none, .read, 1⟩])
 .ret)

/-- slices.BinarySearchFunc[[]broadside/api.ID,broadside/api.ID,broadside/api.ID] -/
def t139 : DFunc := { ntmps := 49, results := [(.t 6), (.t 7)], mode := .pure, body :=
 (.seq (.region [oW 4 (.box 37 2 (.t 1)), oW 6 (.move (oI 0)), oW 7 (.move (oB false))])
 (.seq (.region [oW 12 (.move (.t 0)), oW 13 (.len 1 (.t 12)), oW 8 (.move (.t 13))])
 (.seq (.region [oW 14 (.move (.t 8)), oW 9 (.move (oI 0)), oW 10 (.move (.t 14))])
 (.seq (.block 0 (.loop t139l0))
 t139k0)))) }

theorem c139 : compFunc Tryz.prog Tryz.f139 .pure = some t139 := by kernel_rfl

def t140l0 : DCode :=
 (.seq (.seq (.region [oW 15 (.move (.t 9)), oW 16 (.move (.t 10)), oW 17 (.arith .lss (.t 15) (.t 16))])
 (.cond (.t 17) .skip (.exit 0)))
 (.block 1 (.seq (.region [oW 18 (.move (.t 9)), oW 19 (.move (.t 10)), oW 20 (.arith .add (.t 18) (.t 19)), oW 21 (.conv .u64 (.t 20)), oW 22 (.arith .shr (.t 21) (.c (.int .u64 1))), oW 23 (.conv .i64 (.t 22)), oW 11 (.move (.t 23))])
 (.seq (.draw [oR 25 (.move (.t 0)), oR 26 (.move (.t 11)), oR 27 (.indexAddr 4 (.t 25) (.t 26)), oR 28 (.load (some 4) (.t 27)), oR 29 (.load (some 2) (.t 4)), oR 24 (.move (.t 2)), oW 30 (.call (.t 24) [(.t 28), (.t 29)]), ⟨(some 31), .arith .lss (.t 30) (oI 0), none, .read, 1⟩])
 (.cond (.t 31) (.region [oW 32 (.move (.t 11)), oW 33 (.arith .add (.t 32) (oI 1)), oW 9 (.move (.t 33))]) (.region [oW 34 (.move (.t 11)), oW 10 (.move (.t 34))]))))))

def t140k0 : DCode :=
 (.seq (.draw [oR 36 (.move (.t 9)), oR 37 (.move (.t 8)), oR 38 (.arith .lss (.t 36) (.t 37)), oR 39 (.move (.t 38)), ⟨(some 41), .move (.t 0), (some (39, true)), .read, 0⟩, ⟨(some 42), .move (.t 9), (some (39, true)), .read, 0⟩, ⟨(some 43), .indexAddr 4 (.t 41) (.t 42), (some (39, true)), .read, 0⟩, ⟨(some 44), .load (some 4) (.t 43), (some (39, true)), .read, 0⟩, ⟨(some 45), .load (some 2) (.t 4), (some (39, true)), .read, 0⟩, ⟨(some 40), .move (.t 2), (some (39, true)), .read, 0⟩, ⟨(some 46), .call (.t 40) [(.t 44), (.t 45)], (some (39, true)), .write, 0⟩, oR 35 (.move (.t 9)), ⟨(some 47), .arith .eql (.t 46) (oI 0), (some (39, true)), .read, 1⟩, ⟨(some 48), .pick (.t 39) (.t 47) (oB false), none, .read, 1⟩, ⟨(some 6), .move (.t 35), none, .read, 1⟩, ⟨(some 7), .move (.t 48), none, .read, 1⟩])
 .ret)

/-- slices.BinarySearchFunc[[]broadside/api.Advert,broadside/api.Advert,broadside/api.ID] -/
def t140 : DFunc := { ntmps := 49, results := [(.t 6), (.t 7)], mode := .pure, body :=
 (.seq (.region [oW 4 (.box 37 2 (.t 1)), oW 6 (.move (oI 0)), oW 7 (.move (oB false))])
 (.seq (.region [oW 12 (.move (.t 0)), oW 13 (.len 1 (.t 12)), oW 8 (.move (.t 13))])
 (.seq (.region [oW 14 (.move (.t 8)), oW 9 (.move (oI 0)), oW 10 (.move (.t 14))])
 (.seq (.block 0 (.loop t140l0))
 t140k0)))) }

theorem c140 : compFunc Tryz.prog Tryz.f140 .pure = some t140 := by kernel_rfl

/-- broadside/adverts.place$1 -/
def t141 : DFunc := { ntmps := 9, results := [(.t 4)], mode := .pure, body :=
 (.seq (.region [oW 2 (.box 42 4 (.t 0)), oW 3 (.box 37 2 (.t 1)), oW 4 (.move (oI 0))])
 (.seq (.region [oW 5 (.fieldAddr 0 (.t 2)), oW 6 (.load (some 2) (.t 5)), oW 7 (.load (some 2) (.t 3)), oW 8 (.call (oF 101) [(.t 6), (.t 7)]), oW 4 (.move (.t 8))])
 .ret)) }

theorem c141 : compFunc Tryz.prog Tryz.f141 .pure = some t141 := by kernel_rfl

/-- slices.rotateRight[broadside/api.Advert] -/
def t143 : DFunc := { ntmps := 10, results := [], mode := .full, body :=
 (.region [oW 4 (.move (.t 0)), oW 5 (.move (.t 0)), oW 6 (.len 1 (.t 5)), oW 7 (.move (.t 1)), oW 8 (.arith .sub (.t 6) (.t 7)), oW 9 (.call (oF 181) [(.t 4), (.t 8)])]) }

theorem c143 : compFunc Tryz.prog Tryz.f143 .full = some t143 := by kernel_rfl

/-- slices.rotateRight[broadside/api.ID] -/
def t145 : DFunc := { ntmps := 10, results := [], mode := .full, body :=
 (.region [oW 4 (.move (.t 0)), oW 5 (.move (.t 0)), oW 6 (.len 1 (.t 5)), oW 7 (.move (.t 1)), oW 8 (.arith .sub (.t 6) (.t 7)), oW 9 (.call (oF 182) [(.t 4), (.t 8)])]) }

theorem c145 : compFunc Tryz.prog Tryz.f145 .full = some t145 := by kernel_rfl

def t146l0 : DCode :=
 (.seq (.region [oW 9 (.arith .lss (.t 8) (.t 7))])
 (.seq (.cond (.t 9) .skip (.exit 0))
 (.seq (.block 1 (.seq (.region [oW 10 (.move (.t 8)), oW 5 (.move (.t 10))])
 (.seq (.region [oW 11 (.move (.t 1)), oW 12 (.move (.t 0)), oW 13 (.move (.t 5)), oW 14 (.indexAddr 7 (.t 12) (.t 13)), oW 15 (.load (some 7) (.t 14)), oW 16 (.call (.t 11) [(.t 15)])])
 (.cond (.t 16) (.seq (.region [oW 17 (.move (.t 5)), oW 4 (.move (.t 17))])
 .ret) .skip))))
 (.region [oW 18 (.arith .add (.t 8) (oI 1)), oW 8 (.move (.t 18))]))))

def t146k0 : DCode :=
 (.seq (.region [oW 4 (.move (oI (-1)))])
 .ret)

/-- slices.IndexFunc[[]broadside/api.Entry,broadside/api.Entry] -/
def t146 : DFunc := { ntmps := 19, results := [(.t 4)], mode := .pure, body :=
 (.seq (.region [oW 4 (.move (oI 0))])
 (.seq (.seq (.region [oW 6 (.move (.t 0)), oW 7 (.len 1 (.t 6)), oW 8 (.move (oI 0))])
 (.block 0 (.loop t146l0)))
 t146k0)) }

theorem c146 : compFunc Tryz.prog Tryz.f146 .pure = some t146 := by kernel_rfl

/-- cmp.Compare[int] -/
def t148 : DFunc := { ntmps := 20, results := [(.t 4)], mode := .pure, body :=
 (.seq (.region [oW 4 (.move (oI 0))])
 (.seq (.region [oW 7 (.move (.t 0)), oW 8 (.call (oF 183) [(.t 7)]), oW 5 (.move (.t 8))])
 (.seq (.region [oW 9 (.move (.t 1)), oW 10 (.call (oF 183) [(.t 9)]), oW 6 (.move (.t 10))])
 (.seq (.seq (.region [oW 11 (.move (.t 5))])
 (.cond (.t 11) (.seq (.seq (.region [oW 12 (.move (.t 6))])
 (.cond (.t 12) (.seq (.region [oW 4 (.move (oI 0))])
 .ret) .skip))
 (.seq (.region [oW 4 (.move (oI (-1)))])
 .ret)) .skip))
 (.seq (.seq (.region [oW 13 (.move (.t 6))])
 (.cond (.t 13) (.seq (.region [oW 4 (.move (oI 1))])
 .ret) .skip))
 (.seq (.seq (.region [oW 14 (.move (.t 0)), oW 15 (.move (.t 1)), oW 16 (.arith .lss (.t 14) (.t 15))])
 (.cond (.t 16) (.seq (.region [oW 4 (.move (oI (-1)))])
 .ret) .skip))
 (.seq (.seq (.region [oW 17 (.move (.t 0)), oW 18 (.move (.t 1)), oW 19 (.arith .gtr (.t 17) (.t 18))])
 (.cond (.t 19) (.seq (.region [oW 4 (.move (oI 1))])
 .ret) .skip))
 (.seq (.region [oW 4 (.move (oI 0))])
 .ret)))))))) }

theorem c148 : compFunc Tryz.prog Tryz.f148 .pure = some t148 := by kernel_rfl

def t149l0 : DCode :=
 (.seq (.region [oW 9 (.arith .lss (.t 8) (.t 7))])
 (.seq (.cond (.t 9) .skip (.exit 0))
 (.seq (.block 1 (.seq (.region [oW 10 (.move (.t 8)), oW 5 (.move (.t 10))])
 (.seq (.region [oW 11 (.move (.t 1)), oW 12 (.move (.t 0)), oW 13 (.move (.t 5)), oW 14 (.indexAddr 4 (.t 12) (.t 13)), oW 15 (.load (some 4) (.t 14)), oW 16 (.call (.t 11) [(.t 15)])])
 (.cond (.t 16) (.seq (.region [oW 17 (.move (.t 5)), oW 4 (.move (.t 17))])
 .ret) .skip))))
 (.region [oW 18 (.arith .add (.t 8) (oI 1)), oW 8 (.move (.t 18))]))))

def t149k0 : DCode :=
 (.seq (.region [oW 4 (.move (oI (-1)))])
 .ret)

/-- slices.IndexFunc[[]broadside/api.Advert,broadside/api.Advert] -/
def t149 : DFunc := { ntmps := 19, results := [(.t 4)], mode := .pure, body :=
 (.seq (.region [oW 4 (.move (oI 0))])
 (.seq (.seq (.region [oW 6 (.move (.t 0)), oW 7 (.len 1 (.t 6)), oW 8 (.move (oI 0))])
 (.block 0 (.loop t149l0)))
 t149k0)) }

theorem c149 : compFunc Tryz.prog Tryz.f149 .pure = some t149 := by kernel_rfl

/-- slices.Contains[[]int,int] -/
def t150 : DFunc := { ntmps := 9, results := [(.t 4)], mode := .pure, body :=
 (.seq (.region [oW 4 (.move (oB false))])
 (.seq (.region [oW 5 (.move (.t 0)), oW 6 (.move (.t 1)), oW 7 (.call (oF 184) [(.t 5), (.t 6)]), oW 8 (.arith .geq (.t 7) (oI 0)), oW 4 (.move (.t 8))])
 .ret)) }

theorem c150 : compFunc Tryz.prog Tryz.f150 .pure = some t150 := by kernel_rfl

/-- broadside/pred.RightOne -/
def t151 : DFunc := { ntmps := 43, results := [(.t 2)], mode := .pure, body :=
 (.seq (.region [oW 1 (.box 62 5 (.t 0)), oW 2 (.move (oB false))])
 (.seq (.seq (.region [oW 3 (.fieldAddr 0 (.t 1)), oW 4 (.load none (.t 3)), oW 5 (.call (oF 185) [(.t 4)]), oW 6 (.un .not (.t 5))])
 (.cond (.t 6) (.seq (.region [oW 2 (.move (oB false))])
 .ret) .skip))
 (.seq (.seq (.region [oW 7 (.fieldAddr 1 (.t 1)), oW 8 (.load none (.t 7))])
 (.block 0 (.seq (.block 3 (.seq (.block 2 (.seq (.block 1 (.seq (.seq (.seq (.region [oW 10 (.arith .eql (.t 8) (oI 1)), oW 9 (.move (.t 10))])
 (.cond (.t 9) (.exit 1) .skip))
 (.seq (.seq (.region [oW 12 (.arith .eql (.t 8) (oI 3)), oW 11 (.move (.t 12))])
 (.cond (.t 11) (.exit 2) .skip))
 (.seq (.region [oW 14 (.arith .eql (.t 8) (oI 2)), oW 13 (.move (.t 14))])
 (.cond (.t 13) (.exit 3) .skip))))
 (.exit 0)))
 (.seq (.seq (.region [oW 15 (.fieldAddr 2 (.t 1)), oW 16 (.load none (.t 15)), oW 17 (.fieldAddr 3 (.t 1)), oW 18 (.load none (.t 17)), oW 19 (.arith .leq (.t 16) (.t 18)), oW 20 (.move (.t 19)), ⟨(some 21), .fieldAddr 4 (.t 1), (some (20, true)), .write, 0⟩, ⟨(some 22), .load none (.t 21), (some (20, true)), .write, 0⟩, ⟨(some 23), .arith .eql (.t 22) (.c (.str [])), (some (20, true)), .write, 0⟩, oW 24 (.pick (.t 20) (.t 23) (oB false)), oW 2 (.move (.t 24))])
 .ret)
 (.exit 0))))
 (.seq (.region [oW 25 (.fieldAddr 4 (.t 1)), oW 26 (.load none (.t 25)), oW 27 (.len 0 (.t 26)), oW 28 (.arith .eql (.t 27) (oI 12))])
 (.cond (.t 28) (.seq (.region [oW 2 (.move (oB false))])
 .ret) .skip))))
 (.seq (.seq (.region [oW 29 (.fieldAddr 2 (.t 1)), oW 30 (.load none (.t 29)), oW 31 (.arith .eql (.t 30) (oI 0)), oW 32 (.move (.t 31)), ⟨(some 33), .fieldAddr 3 (.t 1), (some (32, true)), .write, 0⟩, ⟨(some 34), .load none (.t 33), (some (32, true)), .write, 0⟩, ⟨(some 35), .arith .eql (.t 34) (oI 0), (some (32, true)), .write, 0⟩, oW 36 (.pick (.t 32) (.t 35) (oB false)), oW 37 (.move (.t 36)), ⟨(some 38), .fieldAddr 4 (.t 1), (some (37, true)), .write, 0⟩, ⟨(some 39), .load none (.t 38), (some (37, true)), .write, 0⟩, ⟨(some 40), .len 0 (.t 39), (some (37, true)), .write, 0⟩, ⟨(some 41), .arith .leq (.t 40) (oI 12), (some (37, true)), .write, 0⟩, oW 42 (.pick (.t 37) (.t 41) (oB false)), oW 2 (.move (.t 42))])
 .ret)
 (.exit 0)))))
 (.seq (.region [oW 2 (.move (oB false))])
 .ret)))) }

theorem c151 : compFunc Tryz.prog Tryz.f151 .pure = some t151 := by kernel_rfl

def t152l0 : DCode :=
 (.seq (.region [oW 9 (.arith .lss (.t 8) (.t 7))])
 (.seq (.cond (.t 9) .skip (.exit 0))
 (.seq (.block 1 (.seq (.region [oW 10 (.move (.t 8)), oW 5 (.move (.t 10))])
 (.seq (.region [oW 11 (.move (.t 1)), oW 12 (.move (.t 0)), oW 13 (.move (.t 5)), oW 14 (.indexAddr 3 (.t 12) (.t 13)), oW 15 (.load (some 3) (.t 14)), oW 16 (.call (.t 11) [(.t 15)])])
 (.cond (.t 16) (.seq (.region [oW 17 (.move (.t 5)), oW 4 (.move (.t 17))])
 .ret) .skip))))
 (.region [oW 18 (.arith .add (.t 8) (oI 1)), oW 8 (.move (.t 18))]))))

def t152k0 : DCode :=
 (.seq (.region [oW 4 (.move (oI (-1)))])
 .ret)

/-- slices.IndexFunc[[]broadside/api.Own,broadside/api.Own] -/
def t152 : DFunc := { ntmps := 19, results := [(.t 4)], mode := .pure, body :=
 (.seq (.region [oW 4 (.move (oI 0))])
 (.seq (.seq (.region [oW 6 (.move (.t 0)), oW 7 (.len 1 (.t 6)), oW 8 (.move (oI 0))])
 (.block 0 (.loop t152l0)))
 t152k0)) }

theorem c152 : compFunc Tryz.prog Tryz.f152 .pure = some t152 := by kernel_rfl

def t154l0 : DCode :=
 (.seq (.seq (.region [oW 15 (.move (.t 9)), oW 16 (.move (.t 10)), oW 17 (.arith .lss (.t 15) (.t 16))])
 (.cond (.t 17) .skip (.exit 0)))
 (.block 1 (.seq (.region [oW 18 (.move (.t 9)), oW 19 (.move (.t 10)), oW 20 (.arith .add (.t 18) (.t 19)), oW 21 (.conv .u64 (.t 20)), oW 22 (.arith .shr (.t 21) (.c (.int .u64 1))), oW 23 (.conv .i64 (.t 22)), oW 11 (.move (.t 23))])
 (.seq (.draw [oR 25 (.move (.t 0)), oR 26 (.move (.t 11)), oR 27 (.indexAddr 7 (.t 25) (.t 26)), oR 28 (.load (some 7) (.t 27)), oR 29 (.load (some 2) (.t 4)), oR 24 (.move (.t 2)), oW 30 (.call (.t 24) [(.t 28), (.t 29)]), ⟨(some 31), .arith .lss (.t 30) (oI 0), none, .read, 1⟩])
 (.cond (.t 31) (.region [oW 32 (.move (.t 11)), oW 33 (.arith .add (.t 32) (oI 1)), oW 9 (.move (.t 33))]) (.region [oW 34 (.move (.t 11)), oW 10 (.move (.t 34))]))))))

def t154k0 : DCode :=
 (.seq (.draw [oR 36 (.move (.t 9)), oR 37 (.move (.t 8)), oR 38 (.arith .lss (.t 36) (.t 37)), oR 39 (.move (.t 38)), ⟨(some 41), .move (.t 0), (some (39, true)), .read, 0⟩, ⟨(some 42), .move (.t 9), (some (39, true)), .read, 0⟩, ⟨(some 43), .indexAddr 7 (.t 41) (.t 42), (some (39, true)), .read, 0⟩, ⟨(some 44), .load (some 7) (.t 43), (some (39, true)), .read, 0⟩, ⟨(some 45), .load (some 2) (.t 4), (some (39, true)), .read, 0⟩, ⟨(some 40), .move (.t 2), (some (39, true)), .read, 0⟩, ⟨(some 46), .call (.t 40) [(.t 44), (.t 45)], (some (39, true)), .write, 0⟩, oR 35 (.move (.t 9)), ⟨(some 47), .arith .eql (.t 46) (oI 0), (some (39, true)), .read, 1⟩, ⟨(some 48), .pick (.t 39) (.t 47) (oB false), none, .read, 1⟩, ⟨(some 6), .move (.t 35), none, .read, 1⟩, ⟨(some 7), .move (.t 48), none, .read, 1⟩])
 .ret)

/-- slices.BinarySearchFunc[[]broadside/api.Entry,broadside/api.Entry,broadside/api.ID] -/
def t154 : DFunc := { ntmps := 49, results := [(.t 6), (.t 7)], mode := .pure, body :=
 (.seq (.region [oW 4 (.box 37 2 (.t 1)), oW 6 (.move (oI 0)), oW 7 (.move (oB false))])
 (.seq (.region [oW 12 (.move (.t 0)), oW 13 (.len 1 (.t 12)), oW 8 (.move (.t 13))])
 (.seq (.region [oW 14 (.move (.t 8)), oW 9 (.move (oI 0)), oW 10 (.move (.t 14))])
 (.seq (.block 0 (.loop t154l0))
 t154k0)))) }

theorem c154 : compFunc Tryz.prog Tryz.f154 .pure = some t154 := by kernel_rfl

/-- broadside/subs.place$1 -/
def t155 : DFunc := { ntmps := 34, results := [(.t 5)], mode := .pure, body :=
 (.seq (.region [oW 3 (.box 58 7 (.t 0)), oW 4 (.box 37 2 (.t 1)), oW 5 (.move (oI 0))])
 (.seq (.block 0 (.seq (.region [oW 7 (.fieldAddr 0 (.t 3)), oW 8 (.load (some 2) (.t 7)), oW 9 (.load (some 2) (.t 2)), oW 10 (.eqa false [1, 1] (.t 8) (.t 9)), oW 11 (.move (.t 10)), ⟨(some 12), .fieldAddr 2 (.t 3), (some (11, true)), .write, 0⟩, ⟨(some 13), .load (some 2) (.t 12), (some (11, true)), .write, 0⟩, ⟨(some 14), .load (some 2) (.t 4), (some (11, true)), .write, 0⟩, ⟨(some 15), .eqa false [1, 1] (.t 13) (.t 14), (some (11, true)), .write, 0⟩, oW 16 (.pick (.t 11) (.t 15) (oB false)), oW 6 (.move (.t 16))])
 (.cond (.t 6) (.seq (.region [oW 5 (.move (oI 0))])
 .ret) (.seq (.region [oW 18 (.fieldAddr 0 (.t 3)), oW 19 (.load (some 2) (.t 18)), oW 20 (.load (some 2) (.t 2)), oW 21 (.call (oF 56) [(.t 19), (.t 20)]), oW 22 (.move (.t 21)), ⟨(some 23), .fieldAddr 0 (.t 3), (some (22, false)), .write, 0⟩, ⟨(some 24), .load (some 2) (.t 23), (some (22, false)), .write, 0⟩, ⟨(some 25), .load (some 2) (.t 2), (some (22, false)), .write, 0⟩, ⟨(some 26), .eqa false [1, 1] (.t 24) (.t 25), (some (22, false)), .write, 0⟩, ⟨(some 27), .move (.t 26), (some (22, false)), .write, 0⟩, ⟨(some 28), .fieldAddr 2 (.t 3), (some (27, true)), .write, 0⟩, ⟨(some 29), .load (some 2) (.t 28), (some (27, true)), .write, 0⟩, ⟨(some 30), .load (some 2) (.t 4), (some (27, true)), .write, 0⟩, ⟨(some 31), .call (oF 56) [(.t 29), (.t 30)], (some (27, true)), .write, 0⟩, ⟨(some 32), .pick (.t 27) (.t 31) (oB false), (some (22, false)), .write, 0⟩, oW 33 (.pick (.t 22) (oB true) (.t 32)), oW 17 (.move (.t 33))])
 (.cond (.t 17) (.seq (.region [oW 5 (.move (oI (-1)))])
 .ret) .skip)))))
 (.seq (.region [oW 5 (.move (oI 1))])
 .ret))) }

theorem c155 : compFunc Tryz.prog Tryz.f155 .pure = some t155 := by kernel_rfl

/-- slices.rotateRight[broadside/api.Entry] -/
def t157 : DFunc := { ntmps := 10, results := [], mode := .full, body :=
 (.region [oW 4 (.move (.t 0)), oW 5 (.move (.t 0)), oW 6 (.len 1 (.t 5)), oW 7 (.move (.t 1)), oW 8 (.arith .sub (.t 6) (.t 7)), oW 9 (.call (oF 187) [(.t 4), (.t 8)])]) }

theorem c157 : compFunc Tryz.prog Tryz.f157 .full = some t157 := by kernel_rfl

/-- broadside/broadsideref1.Implies -/
def t158 : DFunc := { ntmps := 50, results := [(.t 4)], mode := .pure, body :=
 (.seq (.region [oW 2 (.box 62 5 (.t 0)), oW 3 (.box 62 5 (.t 1)), oW 4 (.move (oB false))])
 (.seq (.block 0 (.seq (.region [oW 6 (.fieldAddr 1 (.t 2)), oW 7 (.load none (.t 6)), oW 8 (.arith .eql (.t 7) (oI 1)), oW 5 (.move (.t 8))])
 (.cond (.t 5) (.seq (.region [oW 9 (.fieldAddr 1 (.t 3)), oW 10 (.load none (.t 9)), oW 11 (.arith .eql (.t 10) (oI 1)), oW 12 (.move (.t 11)), ⟨(some 13), .fieldAddr 2 (.t 2), (some (12, true)), .write, 0⟩, ⟨(some 14), .load none (.t 13), (some (12, true)), .write, 0⟩, ⟨(some 15), .fieldAddr 2 (.t 3), (some (12, true)), .write, 0⟩, ⟨(some 16), .load none (.t 15), (some (12, true)), .write, 0⟩, ⟨(some 17), .arith .geq (.t 14) (.t 16), (some (12, true)), .write, 0⟩, oW 18 (.pick (.t 12) (.t 17) (oB false)), oW 19 (.move (.t 18)), ⟨(some 20), .fieldAddr 3 (.t 2), (some (19, true)), .write, 0⟩, ⟨(some 21), .load none (.t 20), (some (19, true)), .write, 0⟩, ⟨(some 22), .fieldAddr 3 (.t 3), (some (19, true)), .write, 0⟩, ⟨(some 23), .load none (.t 22), (some (19, true)), .write, 0⟩, ⟨(some 24), .arith .leq (.t 21) (.t 23), (some (19, true)), .write, 0⟩, oW 25 (.pick (.t 19) (.t 24) (oB false)), oW 4 (.move (.t 25))])
 .ret) (.seq (.region [oW 27 (.fieldAddr 1 (.t 3)), oW 28 (.load none (.t 27)), oW 29 (.arith .eql (.t 28) (oI 2)), oW 26 (.move (.t 29))])
 (.cond (.t 26) (.seq (.region [oW 30 (.fieldAddr 1 (.t 2)), oW 31 (.load none (.t 30)), oW 32 (.arith .eql (.t 31) (oI 2)), oW 33 (.move (.t 32)), ⟨(some 34), .fieldAddr 4 (.t 2), (some (33, true)), .write, 0⟩, ⟨(some 35), .load none (.t 34), (some (33, true)), .write, 0⟩, ⟨(some 36), .fieldAddr 4 (.t 3), (some (33, true)), .write, 0⟩, ⟨(some 37), .load none (.t 36), (some (33, true)), .write, 0⟩, ⟨(some 38), .arith .eql (.t 35) (.t 37), (some (33, true)), .write, 0⟩, oW 39 (.pick (.t 33) (.t 38) (oB false)), oW 4 (.move (.t 39))])
 .ret) .skip)))))
 (.seq (.region [oW 40 (.fieldAddr 1 (.t 3)), oW 41 (.load none (.t 40)), oW 42 (.arith .eql (.t 41) (oI 3)), oW 43 (.move (.t 42)), ⟨(some 44), .fieldAddr 4 (.t 2), (some (43, true)), .write, 0⟩, ⟨(some 45), .load none (.t 44), (some (43, true)), .write, 0⟩, ⟨(some 46), .fieldAddr 4 (.t 3), (some (43, true)), .write, 0⟩, ⟨(some 47), .load none (.t 46), (some (43, true)), .write, 0⟩, ⟨(some 48), .call (oF 188) [(.t 45), (.t 47)], (some (43, true)), .write, 0⟩, oW 49 (.pick (.t 43) (.t 48) (oB false)), oW 4 (.move (.t 49))])
 .ret))) }

theorem c158 : compFunc Tryz.prog Tryz.f158 .pure = some t158 := by kernel_rfl

/-- strings.HasPrefix -/
def t166 : DFunc := { ntmps := 8, results := [(.t 4)], mode := .pure, body :=
 (.seq (.region [oW 4 (.move (oB false))])
 (.seq (.region [oW 5 (.move (.t 0)), oW 6 (.move (.t 1)), oW 7 (.call (oF 198) [(.t 5), (.t 6)]), oW 4 (.move (.t 7))])
 .ret)) }

theorem c166 : compFunc Tryz.prog Tryz.f166 .pure = some t166 := by kernel_rfl

/-- broadside/pred.Holds -/
def t167 : DFunc := { ntmps := 48, results := [(.t 4)], mode := .pure, body :=
 (.seq (.region [oW 2 (.box 62 5 (.t 0)), oW 3 (.box 202 3 (.t 1)), oW 4 (.move (oB false))])
 (.seq (.seq (.region [oW 5 (.fieldAddr 1 (.t 2)), oW 6 (.load none (.t 5))])
 (.block 0 (.seq (.region [oW 8 (.arith .eql (.t 6) (oI 1)), oW 7 (.move (.t 8))])
 (.cond (.t 7) (.seq (.region [oW 9 (.fieldAddr 0 (.t 3)), oW 10 (.load none (.t 9)), oW 11 (.un .not (.t 10)), oW 12 (.move (.t 11)), ⟨(some 13), .fieldAddr 2 (.t 2), (some (12, true)), .write, 0⟩, ⟨(some 14), .load none (.t 13), (some (12, true)), .write, 0⟩, ⟨(some 15), .fieldAddr 1 (.t 3), (some (12, true)), .write, 0⟩, ⟨(some 16), .load none (.t 15), (some (12, true)), .write, 0⟩, ⟨(some 17), .arith .leq (.t 14) (.t 16), (some (12, true)), .write, 0⟩, oW 18 (.pick (.t 12) (.t 17) (oB false)), oW 19 (.move (.t 18)), ⟨(some 20), .fieldAddr 1 (.t 3), (some (19, true)), .write, 0⟩, ⟨(some 21), .load none (.t 20), (some (19, true)), .write, 0⟩, ⟨(some 22), .fieldAddr 3 (.t 2), (some (19, true)), .write, 0⟩, ⟨(some 23), .load none (.t 22), (some (19, true)), .write, 0⟩, ⟨(some 24), .arith .leq (.t 21) (.t 23), (some (19, true)), .write, 0⟩, oW 25 (.pick (.t 19) (.t 24) (oB false)), oW 4 (.move (.t 25))])
 .ret) (.seq (.region [oW 27 (.arith .eql (.t 6) (oI 2)), oW 26 (.move (.t 27))])
 (.cond (.t 26) (.seq (.region [oW 28 (.fieldAddr 0 (.t 3)), oW 29 (.load none (.t 28)), oW 30 (.move (.t 29)), ⟨(some 31), .fieldAddr 2 (.t 3), (some (30, true)), .write, 0⟩, ⟨(some 32), .load none (.t 31), (some (30, true)), .write, 0⟩, ⟨(some 33), .fieldAddr 4 (.t 2), (some (30, true)), .write, 0⟩, ⟨(some 34), .load none (.t 33), (some (30, true)), .write, 0⟩, ⟨(some 35), .arith .eql (.t 32) (.t 34), (some (30, true)), .write, 0⟩, oW 36 (.pick (.t 30) (.t 35) (oB false)), oW 4 (.move (.t 36))])
 .ret) (.seq (.region [oW 38 (.arith .eql (.t 6) (oI 3)), oW 37 (.move (.t 38))])
 (.cond (.t 37) (.seq (.region [oW 39 (.fieldAddr 0 (.t 3)), oW 40 (.load none (.t 39)), oW 41 (.move (.t 40)), ⟨(some 42), .fieldAddr 2 (.t 3), (some (41, true)), .write, 0⟩, ⟨(some 43), .load none (.t 42), (some (41, true)), .write, 0⟩, ⟨(some 44), .fieldAddr 4 (.t 2), (some (41, true)), .write, 0⟩, ⟨(some 45), .load none (.t 44), (some (41, true)), .write, 0⟩, ⟨(some 46), .call (oF 166) [(.t 43), (.t 45)], (some (41, true)), .write, 0⟩, oW 47 (.pick (.t 41) (.t 46) (oB false)), oW 4 (.move (.t 47))])
 .ret) .skip))))))))
 (.seq (.region [oW 4 (.move (oB false))])
 .ret))) }

theorem c167 : compFunc Tryz.prog Tryz.f167 .pure = some t167 := by kernel_rfl

/-- broadside/value.Text -/
def t168 : DFunc := { ntmps := 5, results := [(.cell 2 (some 3))], mode := .pure, body :=
 (.seq (.region [oW 2 (.alloc 202 3 (.agg [(.bool false), (.int .i64 0), (.str [])]))])
 (.seq (.region [oW 3 (.move (.t 0)), oW 4 (.build [(.bool false), (.int .i64 0), (.str [])] [(0, 1, (oB true)), (2, 1, (.t 3))]), oZ (.store 3 (.t 2) (.t 4))])
 .ret)) }

theorem c168 : compFunc Tryz.prog Tryz.f168 .pure = some t168 := by kernel_rfl

def t170l0 : DCode :=
 (.seq (.seq (.draw [oR 16 (.move (.t 7)), oR 17 (.move (.t 1)), oR 18 (.arith .gtr (.t 16) (.t 17)), oR 19 (.move (.t 18)), ⟨(some 20), .move (.t 0), (some (19, true)), .read, 0⟩, ⟨(some 21), .move (.t 7), (some (19, true)), .read, 0⟩, ⟨(some 22), .indexAddr 1 (.t 20) (.t 21), (some (19, true)), .read, 0⟩, ⟨(some 23), .load none (.t 22), (some (19, true)), .read, 0⟩, ⟨(some 24), .move (.t 0), (some (19, true)), .read, 0⟩, ⟨(some 25), .move (.t 7), (some (19, true)), .read, 0⟩, ⟨(some 26), .arith .sub (.t 25) (oI 1), (some (19, true)), .read, 0⟩, ⟨(some 27), .indexAddr 1 (.t 24) (.t 26), (some (19, true)), .read, 0⟩, ⟨(some 28), .load none (.t 27), (some (19, true)), .read, 0⟩, ⟨(some 29), .call (oF 176) [(.t 23), (.t 28)], (some (19, true)), .write, 0⟩, ⟨(some 30), .pick (.t 19) (.t 29) (oB false), none, .read, 1⟩])
 (.cond (.t 30) .skip (.exit 2)))
 (.seq (.block 3 (.draw [oR 38 (.move (.t 0)), oR 39 (.move (.t 7)), oR 40 (.arith .sub (.t 39) (oI 1)), oR 41 (.indexAddr 1 (.t 38) (.t 40)), oR 42 (.load none (.t 41)), oR 43 (.move (.t 0)), oR 44 (.move (.t 7)), oR 45 (.indexAddr 1 (.t 43) (.t 44)), oR 46 (.load none (.t 45)), oR 33 (.move (.t 0)), oR 34 (.move (.t 7)), oR 47 (.indexAddr 1 (.t 33) (.t 34)), oZ (.store 1 (.t 47) (.t 42)), oR 35 (.move (.t 0)), oR 36 (.move (.t 7)), oR 37 (.arith .sub (.t 36) (oI 1)), ⟨(some 48), .indexAddr 1 (.t 35) (.t 37), none, .read, 1⟩, ⟨none, .store 1 (.t 48) (.t 46), none, .write, 1⟩]))
 (.region [oW 31 (.move (.t 7)), oW 32 (.arith .sub (.t 31) (oI 1)), oW 7 (.move (.t 32))])))

def t170k0 : DCode :=
 (.region [oW 13 (.move (.t 6)), oW 14 (.arith .add (.t 13) (oI 1)), oW 6 (.move (.t 14))])

def t170l1 : DCode :=
 (.seq (.seq (.region [oW 10 (.move (.t 6)), oW 11 (.move (.t 2)), oW 12 (.arith .lss (.t 10) (.t 11))])
 (.cond (.t 12) .skip (.exit 0)))
 (.seq (.block 1 (.seq (.region [oW 15 (.move (.t 6)), oW 7 (.move (.t 15))])
 (.block 2 (.loop t170l0))))
 t170k0))

/-- slices.insertionSortOrdered[int] -/
def t170 : DFunc := { ntmps := 49, results := [], mode := .full, body :=
 (.seq (.region [oW 8 (.move (.t 1)), oW 9 (.arith .add (.t 8) (oI 1)), oW 6 (.move (.t 9))])
 (.block 0 (.loop t170l1))) }

theorem c170 : compFunc Tryz.prog Tryz.f170 .full = some t170 := by kernel_rfl

def t171l0 : DCode :=
 (.seq (.seq (.region [oW 18 (.move (.t 9)), oW 19 (.arith .geq (.t 18) (oI 0))])
 (.cond (.t 19) .skip (.exit 0)))
 (.seq (.block 1 (.region [oW 22 (.move (.t 0)), oW 23 (.move (.t 9)), oW 24 (.move (.t 8)), oW 25 (.move (.t 6)), oW 26 (.call (oF 199) [(.t 22), (.t 23), (.t 24), (.t 25)])]))
 (.region [oW 20 (.move (.t 9)), oW 21 (.arith .sub (.t 20) (oI 1)), oW 9 (.move (.t 21))])))

def t171l1 : DCode :=
 (.seq (.seq (.region [oW 29 (.move (.t 10)), oW 30 (.arith .geq (.t 29) (oI 0))])
 (.cond (.t 30) .skip (.exit 2)))
 (.seq (.block 3 (.seq (.draw [oR 39 (.move (.t 0)), oR 40 (.move (.t 6)), oR 41 (.move (.t 10)), oR 42 (.arith .add (.t 40) (.t 41)), oR 43 (.indexAddr 1 (.t 39) (.t 42)), oR 44 (.load none (.t 43)), oR 45 (.move (.t 0)), oR 46 (.move (.t 6)), oR 47 (.indexAddr 1 (.t 45) (.t 46)), oR 48 (.load none (.t 47)), oR 33 (.move (.t 0)), oR 34 (.move (.t 6)), oR 49 (.indexAddr 1 (.t 33) (.t 34)), oZ (.store 1 (.t 49) (.t 44)), oR 35 (.move (.t 0)), oR 36 (.move (.t 6)), oR 37 (.move (.t 10)), oR 38 (.arith .add (.t 36) (.t 37)), ⟨(some 50), .indexAddr 1 (.t 35) (.t 38), none, .read, 1⟩, ⟨none, .store 1 (.t 50) (.t 48), none, .write, 1⟩])
 (.region [oW 51 (.move (.t 0)), oW 52 (.move (.t 7)), oW 53 (.move (.t 10)), oW 54 (.move (.t 6)), oW 55 (.call (oF 199) [(.t 51), (.t 52), (.t 53), (.t 54)])])))
 (.region [oW 31 (.move (.t 10)), oW 32 (.arith .sub (.t 31) (oI 1)), oW 10 (.move (.t 32))])))

def t171k0 : DCode :=
 (.seq (.region [oW 27 (.move (.t 8)), oW 28 (.arith .sub (.t 27) (oI 1)), oW 10 (.move (.t 28))])
 (.block 2 (.loop t171l1)))

/-- slices.heapSortOrdered[int] -/
def t171 : DFunc := { ntmps := 56, results := [], mode := .full, body :=
 (.seq (.region [oW 11 (.move (.t 1)), oW 6 (.move (.t 11))])
 (.seq (.region [oW 7 (.move (oI 0))])
 (.seq (.region [oW 12 (.move (.t 2)), oW 13 (.move (.t 1)), oW 14 (.arith .sub (.t 12) (.t 13)), oW 8 (.move (.t 14))])
 (.seq (.seq (.region [oW 15 (.move (.t 8)), oW 16 (.arith .sub (.t 15) (oI 1)), oW 17 (.arith .quo (.t 16) (oI 2)), oW 9 (.move (.t 17))])
 (.block 0 (.loop t171l0)))
 t171k0)))) }

theorem c171 : compFunc Tryz.prog Tryz.f171 .full = some t171 := by kernel_rfl

def t172l0 : DCode :=
 (.seq (.seq (.region [oW 26 (.move (.t 9)), oW 27 (.move (.t 1)), oW 28 (.move (.t 6)), oW 29 (.arith .quo (.t 28) (oI 4)), oW 30 (.arith .mul (.t 29) (oI 2)), oW 31 (.arith .add (.t 27) (.t 30)), oW 32 (.arith .add (.t 31) (oI 1)), oW 33 (.arith .leq (.t 26) (.t 32))])
 (.cond (.t 33) .skip (.exit 0)))
 (.seq (.block 1 (.seq (.region [oW 36 (.call (oF 201) [(.t 7)]), oW 37 (.move (.t 8)), oW 38 (.arith .sub (.t 37) (.c (.int .u64 1))), oW 39 (.arith .and (.t 36) (.t 38)), oW 40 (.conv .i64 (.t 39)), oW 10 (.move (.t 40))])
 (.seq (.seq (.region [oW 41 (.move (.t 10)), oW 42 (.move (.t 6)), oW 43 (.arith .geq (.t 41) (.t 42))])
 (.cond (.t 43) (.region [oW 44 (.move (.t 10)), oW 45 (.move (.t 6)), oW 46 (.arith .sub (.t 44) (.t 45)), oW 10 (.move (.t 46))]) .skip))
 (.draw [oR 53 (.move (.t 0)), oR 54 (.move (.t 1)), oR 55 (.move (.t 10)), oR 56 (.arith .add (.t 54) (.t 55)), oR 57 (.indexAddr 1 (.t 53) (.t 56)), oR 58 (.load none (.t 57)), oR 59 (.move (.t 0)), oR 60 (.move (.t 9)), oR 61 (.indexAddr 1 (.t 59) (.t 60)), oR 62 (.load none (.t 61)), oR 47 (.move (.t 0)), oR 48 (.move (.t 9)), oR 63 (.indexAddr 1 (.t 47) (.t 48)), oZ (.store 1 (.t 63) (.t 58)), oR 49 (.move (.t 0)), oR 50 (.move (.t 1)), oR 51 (.move (.t 10)), oR 52 (.arith .add (.t 50) (.t 51)), ⟨(some 64), .indexAddr 1 (.t 49) (.t 52), none, .read, 1⟩, ⟨none, .store 1 (.t 64) (.t 62), none, .write, 1⟩]))))
 (.region [oW 34 (.move (.t 9)), oW 35 (.arith .add (.t 34) (oI 1)), oW 9 (.move (.t 35))])))

/-- slices.breakPatternsOrdered[int] -/
def t172 : DFunc := { ntmps := 65, results := [], mode := .full, body :=
 (.seq (.region [oW 11 (.move (.t 2)), oW 12 (.move (.t 1)), oW 13 (.arith .sub (.t 11) (.t 12)), oW 6 (.move (.t 13))])
 (.seq (.region [oW 14 (.move (.t 6)), oW 15 (.arith .geq (.t 14) (oI 8))])
 (.cond (.t 15) (.seq (.region [oW 16 (.move (.t 6)), oW 17 (.conv .u64 (.t 16)), oW 7 (.alloc 231 1 (.int .u64 0)), oZ (.store 1 (.t 7) (.t 17))])
 (.seq (.region [oW 18 (.move (.t 6)), oW 19 (.call (oF 200) [(.t 18)]), oW 8 (.move (.t 19))])
 (.seq (.region [oW 20 (.move (.t 1)), oW 21 (.move (.t 6)), oW 22 (.arith .quo (.t 21) (oI 4)), oW 23 (.arith .mul (.t 22) (oI 2)), oW 24 (.arith .add (.t 20) (.t 23)), oW 25 (.arith .sub (.t 24) (oI 1)), oW 9 (.move (.t 25))])
 (.block 0 (.loop t172l0))))) .skip))) }

theorem c172 : compFunc Tryz.prog Tryz.f172 .full = some t172 := by kernel_rfl

/-- slices.choosePivotOrdered[int] -/
def t173 : DFunc := { ntmps := 57, results := [(.t 6), (.t 7)], mode := .full, body :=
 (.seq (.region [oW 6 (.move (oI 0)), oW 7 (.move (oI 0))])
 (.seq (.region [oW 13 (.move (.t 2)), oW 14 (.move (.t 1)), oW 15 (.arith .sub (.t 13) (.t 14)), oW 8 (.move (.t 15))])
 (.seq (.region [oW 9 (.alloc 3 1 (.int .i64 0))])
 (.seq (.region [oW 16 (.move (.t 1)), oW 17 (.move (.t 8)), oW 18 (.arith .quo (.t 17) (oI 4)), oW 19 (.arith .mul (.t 18) (oI 1)), oW 20 (.arith .add (.t 16) (.t 19)), oW 10 (.move (.t 20))])
 (.seq (.region [oW 21 (.move (.t 1)), oW 22 (.move (.t 8)), oW 23 (.arith .quo (.t 22) (oI 4)), oW 24 (.arith .mul (.t 23) (oI 2)), oW 25 (.arith .add (.t 21) (.t 24)), oW 11 (.move (.t 25))])
 (.seq (.region [oW 26 (.move (.t 1)), oW 27 (.move (.t 8)), oW 28 (.arith .quo (.t 27) (oI 4)), oW 29 (.arith .mul (.t 28) (oI 3)), oW 30 (.arith .add (.t 26) (.t 29)), oW 12 (.move (.t 30))])
 (.seq (.seq (.region [oW 31 (.move (.t 8)), oW 32 (.arith .geq (.t 31) (oI 8))])
 (.cond (.t 32) (.seq (.seq (.region [oW 33 (.move (.t 8)), oW 34 (.arith .geq (.t 33) (oI 50))])
 (.cond (.t 34) (.seq (.region [oW 35 (.move (.t 0)), oW 36 (.move (.t 10)), oW 37 (.call (oF 202) [(.t 35), (.t 36), (.t 9)]), oW 10 (.move (.t 37))])
 (.seq (.region [oW 38 (.move (.t 0)), oW 39 (.move (.t 11)), oW 40 (.call (oF 202) [(.t 38), (.t 39), (.t 9)]), oW 11 (.move (.t 40))])
 (.region [oW 41 (.move (.t 0)), oW 42 (.move (.t 12)), oW 43 (.call (oF 202) [(.t 41), (.t 42), (.t 9)]), oW 12 (.move (.t 43))]))) .skip))
 (.region [oW 44 (.move (.t 0)), oW 45 (.move (.t 10)), oW 46 (.move (.t 11)), oW 47 (.move (.t 12)), oW 48 (.call (oF 203) [(.t 44), (.t 45), (.t 46), (.t 47), (.t 9)]), oW 11 (.move (.t 48))])) .skip))
 (.seq (.region [oW 49 (.load none (.t 9))])
 (.block 0 (.seq (.region [oW 52 (.arith .eql (.t 49) (oI 0)), oW 51 (.move (.t 52))])
 (.cond (.t 51) (.seq (.region [oW 53 (.move (.t 11)), oW 6 (.move (.t 53)), oW 7 (.move (oI 1))])
 .ret) (.seq (.region [oW 55 (.arith .eql (.t 49) (oI 12)), oW 54 (.move (.t 55))])
 (.cond (.t 54) (.seq (.region [oW 56 (.move (.t 11)), oW 6 (.move (.t 56)), oW 7 (.move (oI 2))])
 .ret) (.seq (.region [oW 50 (.move (.t 11)), oW 6 (.move (.t 50)), oW 7 (.move (oI 0))])
 .ret)))))))))))))) }

theorem c173 : compFunc Tryz.prog Tryz.f173 .full = some t173 := by kernel_rfl

def t174l0 : DCode :=
 (.seq (.seq (.region [oW 11 (.move (.t 6)), oW 12 (.move (.t 7)), oW 13 (.arith .lss (.t 11) (.t 12))])
 (.cond (.t 13) .skip (.exit 0)))
 (.block 1 (.seq (.draw [oR 18 (.move (.t 0)), oR 19 (.move (.t 7)), oR 20 (.indexAddr 1 (.t 18) (.t 19)), oR 21 (.load none (.t 20)), oR 22 (.move (.t 0)), oR 23 (.move (.t 6)), oR 24 (.indexAddr 1 (.t 22) (.t 23)), oR 25 (.load none (.t 24)), oR 14 (.move (.t 0)), oR 15 (.move (.t 6)), oR 26 (.indexAddr 1 (.t 14) (.t 15)), oZ (.store 1 (.t 26) (.t 21)), oR 16 (.move (.t 0)), oR 17 (.move (.t 7)), ⟨(some 27), .indexAddr 1 (.t 16) (.t 17), none, .read, 1⟩, ⟨none, .store 1 (.t 27) (.t 25), none, .write, 1⟩])
 (.seq (.region [oW 28 (.move (.t 6)), oW 29 (.arith .add (.t 28) (oI 1)), oW 6 (.move (.t 29))])
 (.region [oW 30 (.move (.t 7)), oW 31 (.arith .sub (.t 30) (oI 1)), oW 7 (.move (.t 31))])))))

/-- slices.reverseRangeOrdered[int] -/
def t174 : DFunc := { ntmps := 32, results := [], mode := .full, body :=
 (.seq (.region [oW 8 (.move (.t 1)), oW 6 (.move (.t 8))])
 (.seq (.region [oW 9 (.move (.t 2)), oW 10 (.arith .sub (.t 9) (oI 1)), oW 7 (.move (.t 10))])
 (.block 0 (.loop t174l0)))) }

theorem c174 : compFunc Tryz.prog Tryz.f174 .full = some t174 := by kernel_rfl

def t175l0 : DCode :=
 (.seq (.seq (.draw [oR 17 (.move (.t 7)), oR 18 (.move (.t 2)), oR 19 (.arith .lss (.t 17) (.t 18)), oR 20 (.move (.t 19)), ⟨(some 21), .move (.t 0), (some (20, true)), .read, 0⟩, ⟨(some 22), .move (.t 7), (some (20, true)), .read, 0⟩, ⟨(some 23), .indexAddr 1 (.t 21) (.t 22), (some (20, true)), .read, 0⟩, ⟨(some 24), .load none (.t 23), (some (20, true)), .read, 0⟩, ⟨(some 25), .move (.t 0), (some (20, true)), .read, 0⟩, ⟨(some 26), .move (.t 7), (some (20, true)), .read, 0⟩, ⟨(some 27), .arith .sub (.t 26) (oI 1), (some (20, true)), .read, 0⟩, ⟨(some 28), .indexAddr 1 (.t 25) (.t 27), (some (20, true)), .read, 0⟩, ⟨(some 29), .load none (.t 28), (some (20, true)), .read, 0⟩, ⟨(some 30), .call (oF 176) [(.t 24), (.t 29)], (some (20, true)), .write, 0⟩, ⟨(some 31), .un .not (.t 30), (some (20, true)), .read, 1⟩, ⟨(some 32), .pick (.t 20) (.t 31) (oB false), none, .read, 1⟩])
 (.cond (.t 32) .skip (.exit 2)))
 (.block 3 (.region [oW 33 (.move (.t 7)), oW 34 (.arith .add (.t 33) (oI 1)), oW 7 (.move (.t 34))])))

def t175l1 : DCode :=
 (.seq (.seq (.region [oW 64 (.move (.t 9)), oW 65 (.arith .geq (.t 64) (oI 1))])
 (.cond (.t 65) .skip (.exit 4)))
 (.seq (.block 5 (.seq (.seq (.draw [oR 68 (.move (.t 0)), oR 69 (.move (.t 9)), oR 70 (.indexAddr 1 (.t 68) (.t 69)), oR 71 (.load none (.t 70)), oR 72 (.move (.t 0)), oR 73 (.move (.t 9)), oR 74 (.arith .sub (.t 73) (oI 1)), oR 75 (.indexAddr 1 (.t 72) (.t 74)), oR 76 (.load none (.t 75)), oW 77 (.call (oF 176) [(.t 71), (.t 76)]), ⟨(some 78), .un .not (.t 77), none, .read, 1⟩])
 (.cond (.t 78) (.exit 4) .skip))
 (.draw [oR 84 (.move (.t 0)), oR 85 (.move (.t 9)), oR 86 (.arith .sub (.t 85) (oI 1)), oR 87 (.indexAddr 1 (.t 84) (.t 86)), oR 88 (.load none (.t 87)), oR 89 (.move (.t 0)), oR 90 (.move (.t 9)), oR 91 (.indexAddr 1 (.t 89) (.t 90)), oR 92 (.load none (.t 91)), oR 79 (.move (.t 0)), oR 80 (.move (.t 9)), oR 93 (.indexAddr 1 (.t 79) (.t 80)), oZ (.store 1 (.t 93) (.t 88)), oR 81 (.move (.t 0)), oR 82 (.move (.t 9)), oR 83 (.arith .sub (.t 82) (oI 1)), ⟨(some 94), .indexAddr 1 (.t 81) (.t 83), none, .read, 1⟩, ⟨none, .store 1 (.t 94) (.t 92), none, .write, 1⟩])))
 (.region [oW 66 (.move (.t 9)), oW 67 (.arith .sub (.t 66) (oI 1)), oW 9 (.move (.t 67))])))

def t175l2 : DCode :=
 (.seq (.seq (.region [oW 101 (.move (.t 10)), oW 102 (.move (.t 2)), oW 103 (.arith .lss (.t 101) (.t 102))])
 (.cond (.t 103) .skip (.exit 6)))
 (.seq (.block 7 (.seq (.seq (.draw [oR 106 (.move (.t 0)), oR 107 (.move (.t 10)), oR 108 (.indexAddr 1 (.t 106) (.t 107)), oR 109 (.load none (.t 108)), oR 110 (.move (.t 0)), oR 111 (.move (.t 10)), oR 112 (.arith .sub (.t 111) (oI 1)), oR 113 (.indexAddr 1 (.t 110) (.t 112)), oR 114 (.load none (.t 113)), oW 115 (.call (oF 176) [(.t 109), (.t 114)]), ⟨(some 116), .un .not (.t 115), none, .read, 1⟩])
 (.cond (.t 116) (.exit 6) .skip))
 (.draw [oR 122 (.move (.t 0)), oR 123 (.move (.t 10)), oR 124 (.arith .sub (.t 123) (oI 1)), oR 125 (.indexAddr 1 (.t 122) (.t 124)), oR 126 (.load none (.t 125)), oR 127 (.move (.t 0)), oR 128 (.move (.t 10)), oR 129 (.indexAddr 1 (.t 127) (.t 128)), oR 130 (.load none (.t 129)), oR 117 (.move (.t 0)), oR 118 (.move (.t 10)), oR 131 (.indexAddr 1 (.t 117) (.t 118)), oZ (.store 1 (.t 131) (.t 126)), oR 119 (.move (.t 0)), oR 120 (.move (.t 10)), oR 121 (.arith .sub (.t 120) (oI 1)), ⟨(some 132), .indexAddr 1 (.t 119) (.t 121), none, .read, 1⟩, ⟨none, .store 1 (.t 132) (.t 130), none, .write, 1⟩])))
 (.region [oW 104 (.move (.t 10)), oW 105 (.arith .add (.t 104) (oI 1)), oW 10 (.move (.t 105))])))

def t175k0 : DCode :=
 (.seq (.region [oW 95 (.move (.t 2)), oW 96 (.move (.t 7)), oW 97 (.arith .sub (.t 95) (.t 96)), oW 98 (.arith .geq (.t 97) (oI 2))])
 (.cond (.t 98) (.seq (.region [oW 99 (.move (.t 7)), oW 100 (.arith .add (.t 99) (oI 1)), oW 10 (.move (.t 100))])
 (.block 6 (.loop t175l2))) .skip))

def t175k1 : DCode :=
 (.seq (.seq (.region [oW 35 (.move (.t 7)), oW 36 (.move (.t 2)), oW 37 (.arith .eql (.t 35) (.t 36))])
 (.cond (.t 37) (.seq (.region [oW 6 (.move (oB true))])
 .ret) .skip))
 (.seq (.seq (.region [oW 38 (.move (.t 2)), oW 39 (.move (.t 1)), oW 40 (.arith .sub (.t 38) (.t 39)), oW 41 (.arith .lss (.t 40) (oI 50))])
 (.cond (.t 41) (.seq (.region [oW 6 (.move (oB false))])
 .ret) .skip))
 (.seq (.draw [oR 47 (.move (.t 0)), oR 48 (.move (.t 7)), oR 49 (.arith .sub (.t 48) (oI 1)), oR 50 (.indexAddr 1 (.t 47) (.t 49)), oR 51 (.load none (.t 50)), oR 52 (.move (.t 0)), oR 53 (.move (.t 7)), oR 54 (.indexAddr 1 (.t 52) (.t 53)), oR 55 (.load none (.t 54)), oR 42 (.move (.t 0)), oR 43 (.move (.t 7)), oR 56 (.indexAddr 1 (.t 42) (.t 43)), oZ (.store 1 (.t 56) (.t 51)), oR 44 (.move (.t 0)), oR 45 (.move (.t 7)), oR 46 (.arith .sub (.t 45) (oI 1)), ⟨(some 57), .indexAddr 1 (.t 44) (.t 46), none, .read, 1⟩, ⟨none, .store 1 (.t 57) (.t 55), none, .write, 1⟩])
 (.seq (.seq (.region [oW 58 (.move (.t 7)), oW 59 (.move (.t 1)), oW 60 (.arith .sub (.t 58) (.t 59)), oW 61 (.arith .geq (.t 60) (oI 2))])
 (.cond (.t 61) (.seq (.region [oW 62 (.move (.t 7)), oW 63 (.arith .sub (.t 62) (oI 1)), oW 9 (.move (.t 63))])
 (.block 4 (.loop t175l1))) .skip))
 t175k0))))

def t175k2 : DCode :=
 (.region [oW 15 (.move (.t 8)), oW 16 (.arith .add (.t 15) (oI 1)), oW 8 (.move (.t 16))])

def t175l3 : DCode :=
 (.seq (.seq (.region [oW 13 (.move (.t 8)), oW 14 (.arith .lss (.t 13) (oI 5))])
 (.cond (.t 14) .skip (.exit 0)))
 (.seq (.block 1 (.seq (.block 2 (.loop t175l0))
 t175k1))
 t175k2))

def t175k3 : DCode :=
 (.seq (.region [oW 6 (.move (oB false))])
 .ret)

/-- slices.partialInsertionSortOrdered[int] -/
def t175 : DFunc := { ntmps := 133, results := [(.t 6)], mode := .full, body :=
 (.seq (.region [oW 6 (.move (oB false))])
 (.seq (.region [oW 11 (.move (.t 1)), oW 12 (.arith .add (.t 11) (oI 1)), oW 7 (.move (.t 12))])
 (.seq (.seq (.region [oW 8 (.move (oI 0))])
 (.block 0 (.loop t175l3)))
 t175k3))) }

theorem c175 : compFunc Tryz.prog Tryz.f175 .full = some t175 := by kernel_rfl

/-- cmp.Less[int] -/
def t176 : DFunc := { ntmps := 17, results := [(.t 4)], mode := .pure, body :=
 (.seq (.region [oW 4 (.move (oB false))])
 (.seq (.region [oW 5 (.move (.t 0)), oW 6 (.call (oF 183) [(.t 5)]), oW 7 (.move (.t 6)), ⟨(some 8), .move (.t 1), (some (7, true)), .write, 0⟩, ⟨(some 9), .call (oF 183) [(.t 8)], (some (7, true)), .write, 0⟩, ⟨(some 10), .un .not (.t 9), (some (7, true)), .write, 0⟩, oW 11 (.pick (.t 7) (.t 10) (oB false)), oW 12 (.move (.t 11)), ⟨(some 13), .move (.t 0), (some (12, false)), .write, 0⟩, ⟨(some 14), .move (.t 1), (some (12, false)), .write, 0⟩, ⟨(some 15), .arith .lss (.t 13) (.t 14), (some (12, false)), .write, 0⟩, oW 16 (.pick (.t 12) (oB true) (.t 15)), oW 4 (.move (.t 16))])
 .ret)) }

theorem c176 : compFunc Tryz.prog Tryz.f176 .pure = some t176 := by kernel_rfl

def t177l0 : DCode :=
 (.seq (.seq (.draw [oR 29 (.move (.t 9)), oR 30 (.move (.t 10)), oR 31 (.arith .leq (.t 29) (.t 30)), oR 32 (.move (.t 31)), ⟨(some 33), .move (.t 0), (some (32, true)), .read, 0⟩, ⟨(some 34), .move (.t 1), (some (32, true)), .read, 0⟩, ⟨(some 35), .indexAddr 1 (.t 33) (.t 34), (some (32, true)), .read, 0⟩, ⟨(some 36), .load none (.t 35), (some (32, true)), .read, 0⟩, ⟨(some 37), .move (.t 0), (some (32, true)), .read, 0⟩, ⟨(some 38), .move (.t 9), (some (32, true)), .read, 0⟩, ⟨(some 39), .indexAddr 1 (.t 37) (.t 38), (some (32, true)), .read, 0⟩, ⟨(some 40), .load none (.t 39), (some (32, true)), .read, 0⟩, ⟨(some 41), .call (oF 176) [(.t 36), (.t 40)], (some (32, true)), .write, 0⟩, ⟨(some 42), .un .not (.t 41), (some (32, true)), .read, 1⟩, ⟨(some 43), .pick (.t 32) (.t 42) (oB false), none, .read, 1⟩])
 (.cond (.t 43) .skip (.exit 2)))
 (.block 3 (.region [oW 44 (.move (.t 9)), oW 45 (.arith .add (.t 44) (oI 1)), oW 9 (.move (.t 45))])))

def t177l1 : DCode :=
 (.seq (.seq (.draw [oR 46 (.move (.t 9)), oR 47 (.move (.t 10)), oR 48 (.arith .leq (.t 46) (.t 47)), oR 49 (.move (.t 48)), ⟨(some 50), .move (.t 0), (some (49, true)), .read, 0⟩, ⟨(some 51), .move (.t 1), (some (49, true)), .read, 0⟩, ⟨(some 52), .indexAddr 1 (.t 50) (.t 51), (some (49, true)), .read, 0⟩, ⟨(some 53), .load none (.t 52), (some (49, true)), .read, 0⟩, ⟨(some 54), .move (.t 0), (some (49, true)), .read, 0⟩, ⟨(some 55), .move (.t 10), (some (49, true)), .read, 0⟩, ⟨(some 56), .indexAddr 1 (.t 54) (.t 55), (some (49, true)), .read, 0⟩, ⟨(some 57), .load none (.t 56), (some (49, true)), .read, 0⟩, ⟨(some 58), .call (oF 176) [(.t 53), (.t 57)], (some (49, true)), .write, 0⟩, ⟨(some 59), .pick (.t 49) (.t 58) (oB false), none, .read, 1⟩])
 (.cond (.t 59) .skip (.exit 4)))
 (.block 5 (.region [oW 60 (.move (.t 10)), oW 61 (.arith .sub (.t 60) (oI 1)), oW 10 (.move (.t 61))])))

def t177k0 : DCode :=
 (.seq (.seq (.region [oW 62 (.move (.t 9)), oW 63 (.move (.t 10)), oW 64 (.arith .gtr (.t 62) (.t 63))])
 (.cond (.t 64) (.exit 0) .skip))
 (.seq (.draw [oR 69 (.move (.t 0)), oR 70 (.move (.t 10)), oR 71 (.indexAddr 1 (.t 69) (.t 70)), oR 72 (.load none (.t 71)), oR 73 (.move (.t 0)), oR 74 (.move (.t 9)), oR 75 (.indexAddr 1 (.t 73) (.t 74)), oR 76 (.load none (.t 75)), oR 65 (.move (.t 0)), oR 66 (.move (.t 9)), oR 77 (.indexAddr 1 (.t 65) (.t 66)), oZ (.store 1 (.t 77) (.t 72)), oR 67 (.move (.t 0)), oR 68 (.move (.t 10)), ⟨(some 78), .indexAddr 1 (.t 67) (.t 68), none, .read, 1⟩, ⟨none, .store 1 (.t 78) (.t 76), none, .write, 1⟩])
 (.seq (.region [oW 79 (.move (.t 9)), oW 80 (.arith .add (.t 79) (oI 1)), oW 9 (.move (.t 80))])
 (.region [oW 81 (.move (.t 10)), oW 82 (.arith .sub (.t 81) (oI 1)), oW 10 (.move (.t 82))]))))

def t177k1 : DCode :=
 (.seq (.block 4 (.loop t177l1))
 t177k0)

def t177l2 : DCode :=
 (.block 1 (.seq (.block 2 (.loop t177l0))
 t177k1))

def t177k2 : DCode :=
 (.seq (.region [oW 83 (.move (.t 9)), oW 8 (.move (.t 83))])
 .ret)

/-- slices.partitionEqualOrdered[int] -/
def t177 : DFunc := { ntmps := 84, results := [(.t 8)], mode := .full, body :=
 (.seq (.region [oW 8 (.move (oI 0))])
 (.seq (.draw [oR 15 (.move (.t 0)), oR 16 (.move (.t 3)), oR 17 (.indexAddr 1 (.t 15) (.t 16)), oR 18 (.load none (.t 17)), oR 19 (.move (.t 0)), oR 20 (.move (.t 1)), oR 21 (.indexAddr 1 (.t 19) (.t 20)), oR 22 (.load none (.t 21)), oR 11 (.move (.t 0)), oR 12 (.move (.t 1)), oR 23 (.indexAddr 1 (.t 11) (.t 12)), oZ (.store 1 (.t 23) (.t 18)), oR 13 (.move (.t 0)), oR 14 (.move (.t 3)), ⟨(some 24), .indexAddr 1 (.t 13) (.t 14), none, .read, 1⟩, ⟨none, .store 1 (.t 24) (.t 22), none, .write, 1⟩])
 (.seq (.region [oW 25 (.move (.t 1)), oW 26 (.arith .add (.t 25) (oI 1)), oW 27 (.move (.t 2)), oW 28 (.arith .sub (.t 27) (oI 1)), oW 9 (.move (.t 26)), oW 10 (.move (.t 28))])
 (.seq (.block 0 (.loop t177l2))
 t177k2)))) }

theorem c177 : compFunc Tryz.prog Tryz.f177 .full = some t177 := by kernel_rfl

def t178l0 : DCode :=
 (.seq (.seq (.draw [oR 30 (.move (.t 10)), oR 31 (.move (.t 11)), oR 32 (.arith .leq (.t 30) (.t 31)), oR 33 (.move (.t 32)), ⟨(some 34), .move (.t 0), (some (33, true)), .read, 0⟩, ⟨(some 35), .move (.t 10), (some (33, true)), .read, 0⟩, ⟨(some 36), .indexAddr 1 (.t 34) (.t 35), (some (33, true)), .read, 0⟩, ⟨(some 37), .load none (.t 36), (some (33, true)), .read, 0⟩, ⟨(some 38), .move (.t 0), (some (33, true)), .read, 0⟩, ⟨(some 39), .move (.t 1), (some (33, true)), .read, 0⟩, ⟨(some 40), .indexAddr 1 (.t 38) (.t 39), (some (33, true)), .read, 0⟩, ⟨(some 41), .load none (.t 40), (some (33, true)), .read, 0⟩, ⟨(some 42), .call (oF 176) [(.t 37), (.t 41)], (some (33, true)), .write, 0⟩, ⟨(some 43), .pick (.t 33) (.t 42) (oB false), none, .read, 1⟩])
 (.cond (.t 43) .skip (.exit 0)))
 (.block 1 (.region [oW 44 (.move (.t 10)), oW 45 (.arith .add (.t 44) (oI 1)), oW 10 (.move (.t 45))])))

def t178l1 : DCode :=
 (.seq (.seq (.draw [oR 46 (.move (.t 10)), oR 47 (.move (.t 11)), oR 48 (.arith .leq (.t 46) (.t 47)), oR 49 (.move (.t 48)), ⟨(some 50), .move (.t 0), (some (49, true)), .read, 0⟩, ⟨(some 51), .move (.t 11), (some (49, true)), .read, 0⟩, ⟨(some 52), .indexAddr 1 (.t 50) (.t 51), (some (49, true)), .read, 0⟩, ⟨(some 53), .load none (.t 52), (some (49, true)), .read, 0⟩, ⟨(some 54), .move (.t 0), (some (49, true)), .read, 0⟩, ⟨(some 55), .move (.t 1), (some (49, true)), .read, 0⟩, ⟨(some 56), .indexAddr 1 (.t 54) (.t 55), (some (49, true)), .read, 0⟩, ⟨(some 57), .load none (.t 56), (some (49, true)), .read, 0⟩, ⟨(some 58), .call (oF 176) [(.t 53), (.t 57)], (some (49, true)), .write, 0⟩, ⟨(some 59), .un .not (.t 58), (some (49, true)), .read, 1⟩, ⟨(some 60), .pick (.t 49) (.t 59) (oB false), none, .read, 1⟩])
 (.cond (.t 60) .skip (.exit 2)))
 (.block 3 (.region [oW 61 (.move (.t 11)), oW 62 (.arith .sub (.t 61) (oI 1)), oW 11 (.move (.t 62))])))

def t178l2 : DCode :=
 (.seq (.seq (.draw [oR 99 (.move (.t 10)), oR 100 (.move (.t 11)), oR 101 (.arith .leq (.t 99) (.t 100)), oR 102 (.move (.t 101)), ⟨(some 103), .move (.t 0), (some (102, true)), .read, 0⟩, ⟨(some 104), .move (.t 10), (some (102, true)), .read, 0⟩, ⟨(some 105), .indexAddr 1 (.t 103) (.t 104), (some (102, true)), .read, 0⟩, ⟨(some 106), .load none (.t 105), (some (102, true)), .read, 0⟩, ⟨(some 107), .move (.t 0), (some (102, true)), .read, 0⟩, ⟨(some 108), .move (.t 1), (some (102, true)), .read, 0⟩, ⟨(some 109), .indexAddr 1 (.t 107) (.t 108), (some (102, true)), .read, 0⟩, ⟨(some 110), .load none (.t 109), (some (102, true)), .read, 0⟩, ⟨(some 111), .call (oF 176) [(.t 106), (.t 110)], (some (102, true)), .write, 0⟩, ⟨(some 112), .pick (.t 102) (.t 111) (oB false), none, .read, 1⟩])
 (.cond (.t 112) .skip (.exit 6)))
 (.block 7 (.region [oW 113 (.move (.t 10)), oW 114 (.arith .add (.t 113) (oI 1)), oW 10 (.move (.t 114))])))

def t178l3 : DCode :=
 (.seq (.seq (.draw [oR 115 (.move (.t 10)), oR 116 (.move (.t 11)), oR 117 (.arith .leq (.t 115) (.t 116)), oR 118 (.move (.t 117)), ⟨(some 119), .move (.t 0), (some (118, true)), .read, 0⟩, ⟨(some 120), .move (.t 11), (some (118, true)), .read, 0⟩, ⟨(some 121), .indexAddr 1 (.t 119) (.t 120), (some (118, true)), .read, 0⟩, ⟨(some 122), .load none (.t 121), (some (118, true)), .read, 0⟩, ⟨(some 123), .move (.t 0), (some (118, true)), .read, 0⟩, ⟨(some 124), .move (.t 1), (some (118, true)), .read, 0⟩, ⟨(some 125), .indexAddr 1 (.t 123) (.t 124), (some (118, true)), .read, 0⟩, ⟨(some 126), .load none (.t 125), (some (118, true)), .read, 0⟩, ⟨(some 127), .call (oF 176) [(.t 122), (.t 126)], (some (118, true)), .write, 0⟩, ⟨(some 128), .un .not (.t 127), (some (118, true)), .read, 1⟩, ⟨(some 129), .pick (.t 118) (.t 128) (oB false), none, .read, 1⟩])
 (.cond (.t 129) .skip (.exit 8)))
 (.block 9 (.region [oW 130 (.move (.t 11)), oW 131 (.arith .sub (.t 130) (oI 1)), oW 11 (.move (.t 131))])))

def t178k0 : DCode :=
 (.seq (.seq (.region [oW 132 (.move (.t 10)), oW 133 (.move (.t 11)), oW 134 (.arith .gtr (.t 132) (.t 133))])
 (.cond (.t 134) (.exit 4) .skip))
 (.seq (.draw [oR 139 (.move (.t 0)), oR 140 (.move (.t 11)), oR 141 (.indexAddr 1 (.t 139) (.t 140)), oR 142 (.load none (.t 141)), oR 143 (.move (.t 0)), oR 144 (.move (.t 10)), oR 145 (.indexAddr 1 (.t 143) (.t 144)), oR 146 (.load none (.t 145)), oR 135 (.move (.t 0)), oR 136 (.move (.t 10)), oR 147 (.indexAddr 1 (.t 135) (.t 136)), oZ (.store 1 (.t 147) (.t 142)), oR 137 (.move (.t 0)), oR 138 (.move (.t 11)), ⟨(some 148), .indexAddr 1 (.t 137) (.t 138), none, .read, 1⟩, ⟨none, .store 1 (.t 148) (.t 146), none, .write, 1⟩])
 (.seq (.region [oW 149 (.move (.t 10)), oW 150 (.arith .add (.t 149) (oI 1)), oW 10 (.move (.t 150))])
 (.region [oW 151 (.move (.t 11)), oW 152 (.arith .sub (.t 151) (oI 1)), oW 11 (.move (.t 152))]))))

def t178k1 : DCode :=
 (.seq (.block 8 (.loop t178l3))
 t178k0)

def t178l4 : DCode :=
 (.block 5 (.seq (.block 6 (.loop t178l2))
 t178k1))

def t178k2 : DCode :=
 (.seq (.draw [oR 157 (.move (.t 0)), oR 158 (.move (.t 1)), oR 159 (.indexAddr 1 (.t 157) (.t 158)), oR 160 (.load none (.t 159)), oR 161 (.move (.t 0)), oR 162 (.move (.t 11)), oR 163 (.indexAddr 1 (.t 161) (.t 162)), oR 164 (.load none (.t 163)), oR 153 (.move (.t 0)), oR 154 (.move (.t 11)), oR 165 (.indexAddr 1 (.t 153) (.t 154)), oZ (.store 1 (.t 165) (.t 160)), oR 155 (.move (.t 0)), oR 156 (.move (.t 1)), ⟨(some 166), .indexAddr 1 (.t 155) (.t 156), none, .read, 1⟩, ⟨none, .store 1 (.t 166) (.t 164), none, .write, 1⟩])
 (.seq (.region [oW 167 (.move (.t 11)), oW 8 (.move (.t 167)), oW 9 (.move (oB false))])
 .ret))

def t178k3 : DCode :=
 (.seq (.seq (.region [oW 63 (.move (.t 10)), oW 64 (.move (.t 11)), oW 65 (.arith .gtr (.t 63) (.t 64))])
 (.cond (.t 65) (.seq (.draw [oR 70 (.move (.t 0)), oR 71 (.move (.t 1)), oR 72 (.indexAddr 1 (.t 70) (.t 71)), oR 73 (.load none (.t 72)), oR 74 (.move (.t 0)), oR 75 (.move (.t 11)), oR 76 (.indexAddr 1 (.t 74) (.t 75)), oR 77 (.load none (.t 76)), oR 66 (.move (.t 0)), oR 67 (.move (.t 11)), oR 78 (.indexAddr 1 (.t 66) (.t 67)), oZ (.store 1 (.t 78) (.t 73)), oR 68 (.move (.t 0)), oR 69 (.move (.t 1)), ⟨(some 79), .indexAddr 1 (.t 68) (.t 69), none, .read, 1⟩, ⟨none, .store 1 (.t 79) (.t 77), none, .write, 1⟩])
 (.seq (.region [oW 80 (.move (.t 11)), oW 8 (.move (.t 80)), oW 9 (.move (oB true))])
 .ret)) .skip))
 (.seq (.draw [oR 85 (.move (.t 0)), oR 86 (.move (.t 11)), oR 87 (.indexAddr 1 (.t 85) (.t 86)), oR 88 (.load none (.t 87)), oR 89 (.move (.t 0)), oR 90 (.move (.t 10)), oR 91 (.indexAddr 1 (.t 89) (.t 90)), oR 92 (.load none (.t 91)), oR 81 (.move (.t 0)), oR 82 (.move (.t 10)), oR 93 (.indexAddr 1 (.t 81) (.t 82)), oZ (.store 1 (.t 93) (.t 88)), oR 83 (.move (.t 0)), oR 84 (.move (.t 11)), ⟨(some 94), .indexAddr 1 (.t 83) (.t 84), none, .read, 1⟩, ⟨none, .store 1 (.t 94) (.t 92), none, .write, 1⟩])
 (.seq (.region [oW 95 (.move (.t 10)), oW 96 (.arith .add (.t 95) (oI 1)), oW 10 (.move (.t 96))])
 (.seq (.region [oW 97 (.move (.t 11)), oW 98 (.arith .sub (.t 97) (oI 1)), oW 11 (.move (.t 98))])
 (.seq (.block 4 (.loop t178l4))
 t178k2)))))

def t178k4 : DCode :=
 (.seq (.block 2 (.loop t178l1))
 t178k3)

/-- slices.partitionOrdered[int] -/
def t178 : DFunc := { ntmps := 168, results := [(.t 8), (.t 9)], mode := .full, body :=
 (.seq (.region [oW 8 (.move (oI 0)), oW 9 (.move (oB false))])
 (.seq (.draw [oR 16 (.move (.t 0)), oR 17 (.move (.t 3)), oR 18 (.indexAddr 1 (.t 16) (.t 17)), oR 19 (.load none (.t 18)), oR 20 (.move (.t 0)), oR 21 (.move (.t 1)), oR 22 (.indexAddr 1 (.t 20) (.t 21)), oR 23 (.load none (.t 22)), oR 12 (.move (.t 0)), oR 13 (.move (.t 1)), oR 24 (.indexAddr 1 (.t 12) (.t 13)), oZ (.store 1 (.t 24) (.t 19)), oR 14 (.move (.t 0)), oR 15 (.move (.t 3)), ⟨(some 25), .indexAddr 1 (.t 14) (.t 15), none, .read, 1⟩, ⟨none, .store 1 (.t 25) (.t 23), none, .write, 1⟩])
 (.seq (.region [oW 26 (.move (.t 1)), oW 27 (.arith .add (.t 26) (oI 1)), oW 28 (.move (.t 2)), oW 29 (.arith .sub (.t 28) (oI 1)), oW 10 (.move (.t 27)), oW 11 (.move (.t 29))])
 (.seq (.block 0 (.loop t178l0))
 t178k4)))) }

theorem c178 : compFunc Tryz.prog Tryz.f178 .full = some t178 := by kernel_rfl

/-- math/bits.Len32 -/
def t179 : DFunc := { ntmps := 19, results := [(.t 2)], mode := .pure, body :=
 (.seq (.region [oW 2 (.move (oI 0))])
 (.seq (.seq (.region [oW 3 (.move (.t 0)), oW 4 (.arith .geq (.t 3) (.c (.int .u32 65536)))])
 (.cond (.t 4) (.seq (.region [oW 5 (.move (.t 0)), oW 6 (.arith .shr (.t 5) (.c (.int .u64 16))), oW 0 (.move (.t 6))])
 (.region [oW 2 (.move (oI 16))])) .skip))
 (.seq (.seq (.region [oW 7 (.move (.t 0)), oW 8 (.arith .geq (.t 7) (.c (.int .u32 256)))])
 (.cond (.t 8) (.seq (.region [oW 9 (.move (.t 0)), oW 10 (.arith .shr (.t 9) (.c (.int .u64 8))), oW 0 (.move (.t 10))])
 (.region [oW 11 (.move (.t 2)), oW 12 (.arith .add (.t 11) (oI 8)), oW 2 (.move (.t 12))])) .skip))
 (.seq (.region [oW 13 (.move (.t 2)), oW 14 (.move (.t 0)), oW 15 (.conv .u8 (.t 14)), oW 16 (.indexStr (.c (.str [0, 1, 2, 2, 3, 3, 3, 3, 4, 4, 4, 4, 4, 4, 4, 4, 5, 5, 5, 5, 5, 5, 5, 5, 5, 5, 5, 5, 5, 5, 5, 5, 6, 6, 6, 6, 6, 6, 6, 6, 6, 6, 6, 6, 6, 6, 6, 6, 6, 6, 6, 6, 6, 6, 6, 6, 6, 6, 6, 6, 6, 6, 6, 6, 7, 7, 7, 7, 7, 7, 7, 7, 7, 7, 7, 7, 7, 7, 7, 7, 7, 7, 7, 7, 7, 7, 7, 7, 7, 7, 7, 7, 7, 7, 7, 7, 7, 7, 7, 7, 7, 7, 7, 7, 7, 7, 7, 7, 7, 7, 7, 7, 7, 7, 7, 7, 7, 7, 7, 7, 7, 7, 7, 7, 7, 7, 7, 7, 8, 8, 8, 8, 8, 8, 8, 8, 8, 8, 8, 8, 8, 8, 8, 8, 8, 8, 8, 8, 8, 8, 8, 8, 8, 8, 8, 8, 8, 8, 8, 8, 8, 8, 8, 8, 8, 8, 8, 8, 8, 8, 8, 8, 8, 8, 8, 8, 8, 8, 8, 8, 8, 8, 8, 8, 8, 8, 8, 8, 8, 8, 8, 8, 8, 8, 8, 8, 8, 8, 8, 8, 8, 8, 8, 8, 8, 8, 8, 8, 8, 8, 8, 8, 8, 8, 8, 8, 8, 8, 8, 8, 8, 8, 8, 8, 8, 8, 8, 8, 8, 8, 8, 8, 8, 8, 8, 8, 8, 8, 8, 8, 8, 8, 8, 8, 8, 8, 8, 8, 8, 8, 8, 8, 8, 8, 8, 8])) (.t 15)), oW 17 (.conv .i64 (.t 16)), oW 18 (.arith .add (.t 13) (.t 17)), oW 2 (.move (.t 18))])
 .ret)))) }

theorem c179 : compFunc Tryz.prog Tryz.f179 .pure = some t179 := by kernel_rfl

/-- math/bits.Len64 -/
def t180 : DFunc := { ntmps := 25, results := [(.t 2)], mode := .pure, body :=
 (.seq (.region [oW 2 (.move (oI 0))])
 (.seq (.seq (.region [oW 3 (.move (.t 0)), oW 4 (.arith .geq (.t 3) (.c (.int .u64 4294967296)))])
 (.cond (.t 4) (.seq (.region [oW 5 (.move (.t 0)), oW 6 (.arith .shr (.t 5) (.c (.int .u64 32))), oW 0 (.move (.t 6))])
 (.region [oW 2 (.move (oI 32))])) .skip))
 (.seq (.seq (.region [oW 7 (.move (.t 0)), oW 8 (.arith .geq (.t 7) (.c (.int .u64 65536)))])
 (.cond (.t 8) (.seq (.region [oW 9 (.move (.t 0)), oW 10 (.arith .shr (.t 9) (.c (.int .u64 16))), oW 0 (.move (.t 10))])
 (.region [oW 11 (.move (.t 2)), oW 12 (.arith .add (.t 11) (oI 16)), oW 2 (.move (.t 12))])) .skip))
 (.seq (.seq (.region [oW 13 (.move (.t 0)), oW 14 (.arith .geq (.t 13) (.c (.int .u64 256)))])
 (.cond (.t 14) (.seq (.region [oW 15 (.move (.t 0)), oW 16 (.arith .shr (.t 15) (.c (.int .u64 8))), oW 0 (.move (.t 16))])
 (.region [oW 17 (.move (.t 2)), oW 18 (.arith .add (.t 17) (oI 8)), oW 2 (.move (.t 18))])) .skip))
 (.seq (.region [oW 19 (.move (.t 2)), oW 20 (.move (.t 0)), oW 21 (.conv .u8 (.t 20)), oW 22 (.indexStr (.c (.str [0, 1, 2, 2, 3, 3, 3, 3, 4, 4, 4, 4, 4, 4, 4, 4, 5, 5, 5, 5, 5, 5, 5, 5, 5, 5, 5, 5, 5, 5, 5, 5, 6, 6, 6, 6, 6, 6, 6, 6, 6, 6, 6, 6, 6, 6, 6, 6, 6, 6, 6, 6, 6, 6, 6, 6, 6, 6, 6, 6, 6, 6, 6, 6, 7, 7, 7, 7, 7, 7, 7, 7, 7, 7, 7, 7, 7, 7, 7, 7, 7, 7, 7, 7, 7, 7, 7, 7, 7, 7, 7, 7, 7, 7, 7, 7, 7, 7, 7, 7, 7, 7, 7, 7, 7, 7, 7, 7, 7, 7, 7, 7, 7, 7, 7, 7, 7, 7, 7, 7, 7, 7, 7, 7, 7, 7, 7, 7, 8, 8, 8, 8, 8, 8, 8, 8, 8, 8, 8, 8, 8, 8, 8, 8, 8, 8, 8, 8, 8, 8, 8, 8, 8, 8, 8, 8, 8, 8, 8, 8, 8, 8, 8, 8, 8, 8, 8, 8, 8, 8, 8, 8, 8, 8, 8, 8, 8, 8, 8, 8, 8, 8, 8, 8, 8, 8, 8, 8, 8, 8, 8, 8, 8, 8, 8, 8, 8, 8, 8, 8, 8, 8, 8, 8, 8, 8, 8, 8, 8, 8, 8, 8, 8, 8, 8, 8, 8, 8, 8, 8, 8, 8, 8, 8, 8, 8, 8, 8, 8, 8, 8, 8, 8, 8, 8, 8, 8, 8, 8, 8, 8, 8, 8, 8, 8, 8, 8, 8, 8, 8, 8, 8, 8, 8, 8, 8])) (.t 21)), oW 23 (.conv .i64 (.t 22)), oW 24 (.arith .add (.t 19) (.t 23)), oW 2 (.move (.t 24))])
 .ret))))) }

theorem c180 : compFunc Tryz.prog Tryz.f180 .pure = some t180 := by kernel_rfl

/-- slices.rotateLeft[broadside/api.Advert] -/
def t181 : DFunc := { ntmps := 14, results := [], mode := .full, body :=
 (.seq (.region [oW 4 (.move (.t 0)), oW 5 (.move (.t 1)), oW 6 (.sliceSl 4 (.t 4) none (some (.t 5))), oW 7 (.call (oF 204) [(.t 6)])])
 (.seq (.region [oW 8 (.move (.t 0)), oW 9 (.move (.t 1)), oW 10 (.sliceSl 4 (.t 8) (some (.t 9)) none), oW 11 (.call (oF 204) [(.t 10)])])
 (.region [oW 12 (.move (.t 0)), oW 13 (.call (oF 204) [(.t 12)])]))) }

theorem c181 : compFunc Tryz.prog Tryz.f181 .full = some t181 := by kernel_rfl

/-- slices.rotateLeft[broadside/api.ID] -/
def t182 : DFunc := { ntmps := 14, results := [], mode := .full, body :=
 (.seq (.region [oW 4 (.move (.t 0)), oW 5 (.move (.t 1)), oW 6 (.sliceSl 2 (.t 4) none (some (.t 5))), oW 7 (.call (oF 205) [(.t 6)])])
 (.seq (.region [oW 8 (.move (.t 0)), oW 9 (.move (.t 1)), oW 10 (.sliceSl 2 (.t 8) (some (.t 9)) none), oW 11 (.call (oF 205) [(.t 10)])])
 (.region [oW 12 (.move (.t 0)), oW 13 (.call (oF 205) [(.t 12)])]))) }

theorem c182 : compFunc Tryz.prog Tryz.f182 .full = some t182 := by kernel_rfl

/-- cmp.isNaN[int] -/
def t183 : DFunc := { ntmps := 6, results := [(.t 2)], mode := .pure, body :=
 (.seq (.region [oW 2 (.move (oB false))])
 (.seq (.region [oW 3 (.move (.t 0)), oW 4 (.move (.t 0)), oW 5 (.arith .neq (.t 3) (.t 4)), oW 2 (.move (.t 5))])
 .ret)) }

theorem c183 : compFunc Tryz.prog Tryz.f183 .pure = some t183 := by kernel_rfl

def t184l0 : DCode :=
 (.seq (.region [oW 9 (.arith .lss (.t 8) (.t 7))])
 (.seq (.cond (.t 9) .skip (.exit 0))
 (.seq (.block 1 (.seq (.region [oW 10 (.move (.t 8)), oW 5 (.move (.t 10))])
 (.seq (.region [oW 11 (.move (.t 1)), oW 12 (.move (.t 0)), oW 13 (.move (.t 5)), oW 14 (.indexAddr 1 (.t 12) (.t 13)), oW 15 (.load none (.t 14)), oW 16 (.arith .eql (.t 11) (.t 15))])
 (.cond (.t 16) (.seq (.region [oW 17 (.move (.t 5)), oW 4 (.move (.t 17))])
 .ret) .skip))))
 (.region [oW 18 (.arith .add (.t 8) (oI 1)), oW 8 (.move (.t 18))]))))

def t184k0 : DCode :=
 (.seq (.region [oW 4 (.move (oI (-1)))])
 .ret)

/-- slices.Index[[]int,int] -/
def t184 : DFunc := { ntmps := 19, results := [(.t 4)], mode := .pure, body :=
 (.seq (.region [oW 4 (.move (oI 0))])
 (.seq (.seq (.region [oW 6 (.move (.t 0)), oW 7 (.len 1 (.t 6)), oW 8 (.move (oI 0))])
 (.block 0 (.loop t184l0)))
 t184k0)) }

theorem c184 : compFunc Tryz.prog Tryz.f184 .pure = some t184 := by kernel_rfl

end Go.Dm.Tc
