/-
The table of functions, brought into the machine's form (Tr5, part 2). Written by program (wip/tools/table3.lean.txt).
-/
import Derived.Test.YtloabemenciijaaGreatDoorMm4
import Derived.Test.YtloabemenciijaaGreatDoorRows
import Derived.KernelRfl
namespace Go.Dm.Tr5
open Go.Proofs

def t218l0 : DCode :=
 (.block 1 (.seq (.region [oM 21 2, oM 22 1, oW 23 (.arith .sub (.t 21) (.t 22)), oM 12 23])
 (.seq (.seq (.region [oM 24 12, oW 25 (.arith .leq (.t 24) (oI 12))])
 (.cond (.t 25) (.seq (.region [oM 26 0, oM 27 1, oM 28 2, oM 29 4, oW 30 (.call (oF 279) [(.t 26), (.t 27), (.t 28), (.t 29)])])
 .ret) .skip))
 (.seq (.seq (.region [oM 31 3, oW 32 (.arith .eql (.t 31) (oI 0))])
 (.cond (.t 32) (.seq (.region [oM 33 0, oM 34 1, oM 35 2, oM 36 4, oW 37 (.call (oF 280) [(.t 33), (.t 34), (.t 35), (.t 36)])])
 .ret) .skip))
 (.seq (.seq (.region [oM 38 10, oW 39 (.un .not (.t 38))])
 (.cond (.t 39) (.seq (.region [oM 40 0, oM 41 1, oM 42 2, oM 43 4, oW 44 (.call (oF 281) [(.t 40), (.t 41), (.t 42), (.t 43)])])
 (.region [oM 45 3, oW 46 (.arith .sub (.t 45) (oI 1)), oM 3 46])) .skip))
 (.seq (.region [oM 48 0, oM 49 1, oM 50 2, oM 51 4, oW 52 (.call (oF 282) [(.t 48), (.t 49), (.t 50), (.t 51)]), oM 47 52, oX 53 47 0, oX 54 47 1, oM 13 53, oM 14 54])
 (.seq (.seq (.region [oM 55 14, oW 56 (.arith .eql (.t 55) (oI 2))])
 (.cond (.t 56) (.seq (.region [oM 57 0, oM 58 1, oM 59 2, oM 60 4, oW 61 (.call (oF 283) [(.t 57), (.t 58), (.t 59), (.t 60)])])
 (.seq (.region [oM 62 2, oW 63 (.arith .sub (.t 62) (oI 1)), oM 64 13, oM 65 1, oW 66 (.arith .sub (.t 64) (.t 65)), oW 67 (.arith .sub (.t 63) (.t 66)), oM 13 67])
 (.region [oW 14 (.move (oI 1))]))) .skip))
 (.seq (.seq (.region [oM 68 10, oM 69 68, ⟨(some 70), .move (.t 11), (some (69, true)), .write, 0, false⟩, oW 71 (.pick (.t 69) (.t 70) (oB false)), oM 72 71, ⟨(some 73), .move (.t 14), (some (72, true)), .write, 0, false⟩, ⟨(some 74), .arith .eql (.t 73) (oI 1), (some (72, true)), .write, 0, false⟩, oW 75 (.pick (.t 72) (.t 74) (oB false))])
 (.cond (.t 75) (.seq (.region [oM 76 0, oM 77 1, oM 78 2, oM 79 4, oW 80 (.call (oF 284) [(.t 76), (.t 77), (.t 78), (.t 79)])])
 (.cond (.t 80) .ret .skip)) .skip))
 (.seq (.seq (.draw [oRM 81 1, oR 82 (.arith .gtr (.t 81) (oI 0)), oRM 83 82, ⟨(some 85), .move (.t 0), (some (83, true)), .read, 0, false⟩, ⟨(some 86), .move (.t 1), (some (83, true)), .read, 0, false⟩, ⟨(some 87), .arith .sub (.t 86) (oI 1), (some (83, true)), .read, 0, false⟩, ⟨(some 88), .indexAddr 2 (.t 85) (.t 87), (some (83, true)), .read, 0, false⟩, ⟨(some 89), .load (some 2) (.t 88), (some (83, true)), .read, 0, false⟩, ⟨(some 90), .move (.t 0), (some (83, true)), .read, 0, false⟩, ⟨(some 91), .move (.t 13), (some (83, true)), .read, 0, false⟩, ⟨(some 92), .indexAddr 2 (.t 90) (.t 91), (some (83, true)), .read, 0, false⟩, ⟨(some 93), .load (some 2) (.t 92), (some (83, true)), .read, 0, false⟩, ⟨(some 84), .move (.t 4), (some (83, true)), .read, 0, false⟩, ⟨(some 94), .call (.t 84) [(.t 89), (.t 93)], (some (83, true)), .write, 0, false⟩, ⟨(some 95), .arith .lss (.t 94) (oI 0), (some (83, true)), .read, 1, false⟩, ⟨(some 96), .un .not (.t 95), (some (83, true)), .read, 1, false⟩, ⟨(some 97), .pick (.t 83) (.t 96) (oB false), none, .read, 1, false⟩])
 (.cond (.t 97) (.seq (.region [oM 98 0, oM 99 1, oM 100 2, oM 101 13, oM 102 4, oW 103 (.call (oF 285) [(.t 98), (.t 99), (.t 100), (.t 101), (.t 102)]), oM 15 103])
 (.seq (.region [oM 104 15, oM 1 104])
 (.exit 1))) .skip))
 (.seq (.region [oM 106 0, oM 107 1, oM 108 2, oM 109 13, oM 110 4, oW 111 (.call (oF 286) [(.t 106), (.t 107), (.t 108), (.t 109), (.t 110)]), oM 105 111, oX 112 105 0, oX 113 105 1, oM 16 112, oM 17 113])
 (.seq (.region [oM 114 17, oM 11 114])
 (.seq (.region [oM 115 16, oM 116 1, oW 117 (.arith .sub (.t 115) (.t 116)), oM 118 2, oM 119 16, oW 120 (.arith .sub (.t 118) (.t 119)), oM 18 117, oM 19 120])
 (.seq (.region [oM 121 12, oW 122 (.arith .quo (.t 121) (oI 8)), oM 20 122])
 (.seq (.region [oM 123 18, oM 124 19, oW 125 (.arith .lss (.t 123) (.t 124))])
 (.cond (.t 125) (.seq (.region [oM 126 18, oM 127 20, oW 128 (.arith .geq (.t 126) (.t 127)), oM 10 128])
 (.seq (.region [oM 129 0, oM 130 1, oM 131 16, oM 132 3, oM 133 4, oW 134 (.call (oF 218) [(.t 129), (.t 130), (.t 131), (.t 132), (.t 133)])])
 (.region [oM 135 16, oW 136 (.arith .add (.t 135) (oI 1)), oM 1 136]))) (.seq (.region [oM 137 19, oM 138 20, oW 139 (.arith .geq (.t 137) (.t 138)), oM 10 139])
 (.seq (.region [oM 140 0, oM 141 16, oW 142 (.arith .add (.t 141) (oI 1)), oM 143 2, oM 144 3, oM 145 4, oW 146 (.call (oF 218) [(.t 140), (.t 142), (.t 143), (.t 144), (.t 145)])])
 (.region [oM 147 16, oM 2 147]))))))))))))))))))

/-- slices.pdqsortCmpFunc[[2]int] -/
def t218 : DFunc := { ntmps := 148, results := [], mode := .full, body :=
 (.seq (.region [oW 10 (.move (oB true))])
 (.seq (.region [oW 11 (.move (oB true))])
 (.block 0 (.loop t218l0)))) }

theorem c218 : compFunc Tryz.prog Tryz.f218 .full = some t218 := by kernel_rfl

/-- math/bits.Len -/
def t219 : DFunc := { ntmps := 8, results := [(.t 2)], mode := .full, body :=
 (.seq (.region [oW 2 (.move (oI 0))])
 (.seq (.cond (oB false) (.seq (.region [oM 3 0, oW 4 (.conv .u32 (.t 3)), oW 5 (.call (oF 287) [(.t 4)]), oM 2 5])
 .ret) .skip)
 (.seq (.region [oM 6 0, oW 7 (.call (oF 288) [(.t 6)]), oM 2 7])
 .ret))) }

theorem c219 : compFunc Tryz.prog Tryz.f219 .full = some t219 := by kernel_rfl

/-- cmp.isNaN[int] -/
def t220 : DFunc := { ntmps := 6, results := [(.t 2)], mode := .full, body :=
 (.seq (.region [oW 2 (.move (oB false))])
 (.seq (.region [oM 3 0, oM 4 0, oW 5 (.arith .neq (.t 3) (.t 4)), oM 2 5])
 .ret)) }

theorem c220 : compFunc Tryz.prog Tryz.f220 .full = some t220 := by kernel_rfl

/-- broadside/graph.joined -/
def t221 : DFunc := { ntmps := 14, results := [(.cell 2 (some 2))], mode := .full, body :=
 (.seq (.region [oW 1 (.box 90 2 (.t 0)), oW 2 (.alloc 90 2 (.agg [(.int .i64 0), (.int .i64 0)]))])
 (.seq (.region [oW 3 (.indexArr 2 1 (.t 1) (oI 0)), oD 4 3, oW 5 (.indexArr 2 1 (.t 1) (oI 1)), oD 6 5, oW 7 (.minmax false (.t 4) (.t 6)), oW 8 (.indexArr 2 1 (.t 1) (oI 0)), oD 9 8, oW 10 (.indexArr 2 1 (.t 1) (oI 1)), oD 11 10, oW 12 (.minmax true (.t 9) (.t 11)), oW 13 (.build [(.int .i64 0), (.int .i64 0)] [(0, 1, (.t 7)), (1, 1, (.t 12))]), oS 2 2 13])
 .ret)) }

theorem c221 : compFunc Tryz.prog Tryz.f221 .full = some t221 := by kernel_rfl

def t222l0 : DCode :=
 (.seq (.region [oW 28 (.arith .lss (.t 27) (.t 26))])
 (.seq (.cond (.t 28) .skip (.exit 2))
 (.seq (.block 3 (.seq (.region [oW 29 (.indexAddr 1 (.t 25) (.t 27)), oD 30 29, oM 8 30])
 (.seq (.region [oM 32 5, oM 33 8, oW 34 (.lookup (.prim 1) (.int .i64 0) true (.t 32) (.t 33)), oM 31 34, oX 35 31 0, oX 36 31 1, oM 9 35, oM 10 36])
 (.seq (.region [oM 37 10, oW 38 (.un .not (.t 37))])
 (.cond (.t 38) (.seq (.region [oM 39 5, oM 40 8, oM 41 5, oM 42 6, oW 43 (.indexAddr 1 (.t 42) (oI 0)), oD 44 43, oW 45 (.lookup (.prim 1) (.int .i64 0) false (.t 41) (.t 44)), oW 46 (.arith .add (.t 45) (oI 1)), oZ (.mapUpdate (.prim 1) (.t 39) (.t 40) (.t 46))])
 (.region [oM 47 6, oM 48 8, oW 49 (.buildSlice 3 1 (.int .i64 0) 1 [(0, (.t 48))]), oW 50 (.append 3 1 8 (.t 47) (.t 49)), oM 6 50])) .skip)))))
 (.region [oW 51 (.arith .add (.t 27) (oI 1)), oM 27 51]))))

def t222k0 : DCode :=
 (.region [oM 19 6, oW 20 (.sliceSl 1 (.t 19) (some (oI 1)) none), oM 6 20])

def t222l1 : DCode :=
 (.seq (.seq (.region [oM 16 6, oW 17 (.len 1 (.t 16)), oW 18 (.arith .gtr (.t 17) (oI 0))])
 (.cond (.t 18) .skip (.exit 0)))
 (.seq (.block 1 (.seq (.draw [oRL 21 2 2, oRM 22 6, oR 23 (.indexAddr 1 (.t 22) (oI 0)), oRD 24 23, oW 25 (.call (oF 137) [(.t 21), (.t 24)]), ⟨(some 26), .len 1 (.t 25), none, .read, 1, false⟩, oR 27 (.move (oI 0))])
 (.block 2 (.loop t222l0))))
 t222k0))

def t222k1 : DCode :=
 (.seq (.region [oM 52 5, oM 4 52])
 .ret)

/-- broadside/graph.reach -/
def t222 : DFunc := { ntmps := 53, results := [(.t 4)], mode := .full, body :=
 (.seq (.region [oW 2 (.box 79 2 (.t 0)), oW 4 (.move (.c .nmap))])
 (.seq (.region [oW 11 (.makeMap), oM 12 1, oZ (.mapUpdate (.prim 1) (.t 11) (.t 12) (oI 0)), oM 13 11, oM 5 13])
 (.seq (.seq (.region [oM 14 1, oW 15 (.buildSlice 3 1 (.int .i64 0) 1 [(0, (.t 14))]), oM 6 15])
 (.block 0 (.loop t222l1)))
 t222k1))) }

theorem c222 : compFunc Tryz.prog Tryz.f222 .full = some t222 := by kernel_rfl

def t228l0 : DCode :=
 (.seq (.seq (.region [oM 15 9, oM 16 10, oW 17 (.arith .lss (.t 15) (.t 16))])
 (.cond (.t 17) .skip (.exit 0)))
 (.block 1 (.seq (.region [oM 18 9, oM 19 10, oW 20 (.arith .add (.t 18) (.t 19)), oW 21 (.conv .u64 (.t 20)), oW 22 (.arith .shr (.t 21) (.c (.int .u64 1))), oW 23 (.conv .i64 (.t 22)), oM 11 23])
 (.seq (.draw [oRM 25 0, oRM 26 11, oR 27 (.indexAddr 4 (.t 25) (.t 26)), oRL 28 4 27, oRL 29 2 4, oRM 24 2, oW 30 (.call (.t 24) [(.t 28), (.t 29)]), ⟨(some 31), .arith .lss (.t 30) (oI 0), none, .read, 1, false⟩])
 (.cond (.t 31) (.region [oM 32 11, oW 33 (.arith .add (.t 32) (oI 1)), oM 9 33]) (.region [oM 34 11, oM 10 34]))))))

def t228k0 : DCode :=
 (.seq (.draw [oRM 36 9, oRM 37 8, oR 38 (.arith .lss (.t 36) (.t 37)), oRM 39 38, ⟨(some 41), .move (.t 0), (some (39, true)), .read, 0, false⟩, ⟨(some 42), .move (.t 9), (some (39, true)), .read, 0, false⟩, ⟨(some 43), .indexAddr 4 (.t 41) (.t 42), (some (39, true)), .read, 0, false⟩, ⟨(some 44), .load (some 4) (.t 43), (some (39, true)), .read, 0, false⟩, ⟨(some 45), .load (some 2) (.t 4), (some (39, true)), .read, 0, false⟩, ⟨(some 40), .move (.t 2), (some (39, true)), .read, 0, false⟩, ⟨(some 46), .call (.t 40) [(.t 44), (.t 45)], (some (39, true)), .write, 0, false⟩, oRM 35 9, ⟨(some 47), .arith .eql (.t 46) (oI 0), (some (39, true)), .read, 1, false⟩, ⟨(some 48), .pick (.t 39) (.t 47) (oB false), none, .read, 1, false⟩, ⟨(some 6), .move (.t 35), none, .read, 1, false⟩, ⟨(some 7), .move (.t 48), none, .read, 1, false⟩])
 .ret)

/-- slices.BinarySearchFunc[[]broadside/api.Advert,broadside/api.Advert,broadside/api.ID] -/
def t228 : DFunc := { ntmps := 49, results := [(.t 6), (.t 7)], mode := .full, body :=
 (.seq (.region [oW 4 (.box 45 2 (.t 1)), oW 6 (.move (oI 0)), oW 7 (.move (oB false))])
 (.seq (.region [oM 12 0, oW 13 (.len 1 (.t 12)), oM 8 13])
 (.seq (.region [oM 14 8, oW 9 (.move (oI 0)), oM 10 14])
 (.seq (.block 0 (.loop t228l0))
 t228k0)))) }

theorem c228 : compFunc Tryz.prog Tryz.f228 .full = some t228 := by kernel_rfl

/-- broadside/adverts.place$1 -/
def t229 : DFunc := { ntmps := 9, results := [(.t 4)], mode := .full, body :=
 (.seq (.region [oW 2 (.box 86 4 (.t 0)), oW 3 (.box 45 2 (.t 1)), oW 4 (.move (oI 0))])
 (.seq (.region [oA 5 0 2, oL 6 2 5, oL 7 2 3, oW 8 (.call (oF 107) [(.t 6), (.t 7)]), oM 4 8])
 .ret)) }

theorem c229 : compFunc Tryz.prog Tryz.f229 .full = some t229 := by kernel_rfl

def t237l0 : DCode :=
 (.seq (.region [oW 7 (.arith .lss (.t 6) (.t 5))])
 (.seq (.cond (.t 7) .skip (.exit 0))
 (.seq (.block 1 (.seq (.region [oM 8 6, oM 3 8])
 (.seq (.region [oM 9 0, oM 10 3, oW 11 (.indexStr (.t 9) (.t 10)), oW 12 (.arith .lss (.t 11) (.c (.int .u8 97))), oM 13 12, ⟨(some 14), .move (.t 0), (some (13, false)), .write, 0, false⟩, ⟨(some 15), .move (.t 3), (some (13, false)), .write, 0, false⟩, ⟨(some 16), .indexStr (.t 14) (.t 15), (some (13, false)), .write, 0, false⟩, ⟨(some 17), .arith .gtr (.t 16) (.c (.int .u8 122)), (some (13, false)), .write, 0, false⟩, oW 18 (.pick (.t 13) (oB true) (.t 17))])
 (.cond (.t 18) (.seq (.region [oW 2 (.move (oB false))])
 .ret) .skip))))
 (.region [oW 19 (.arith .add (.t 6) (oI 1)), oM 6 19]))))

def t237k0 : DCode :=
 (.seq (.region [oM 20 0, oW 21 (.arith .neq (.t 20) (.c (.str []))), oM 22 21, ⟨(some 23), .move (.t 0), (some (22, true)), .write, 0, false⟩, ⟨(some 24), .len 0 (.t 23), (some (22, true)), .write, 0, false⟩, ⟨(some 25), .arith .leq (.t 24) (oI 12), (some (22, true)), .write, 0, false⟩, oW 26 (.pick (.t 22) (.t 25) (oB false)), oM 2 26])
 .ret)

/-- broadside/tuple.Name -/
def t237 : DFunc := { ntmps := 27, results := [(.t 2)], mode := .full, body :=
 (.seq (.region [oW 2 (.move (oB false))])
 (.seq (.seq (.region [oM 4 0, oW 5 (.len 0 (.t 4)), oW 6 (.move (oI 0))])
 (.block 0 (.loop t237l0)))
 t237k0)) }

theorem c237 : compFunc Tryz.prog Tryz.f237 .full = some t237 := by kernel_rfl

def t244l0 : DCode :=
 (.block 1 (.seq (.region [oM 19 2, oM 20 1, oW 21 (.arith .sub (.t 19) (.t 20)), oM 10 21])
 (.seq (.seq (.region [oM 22 10, oW 23 (.arith .leq (.t 22) (oI 12))])
 (.cond (.t 23) (.seq (.region [oM 24 0, oM 25 1, oM 26 2, oW 27 (.call (oF 297) [(.t 24), (.t 25), (.t 26)])])
 .ret) .skip))
 (.seq (.seq (.region [oM 28 3, oW 29 (.arith .eql (.t 28) (oI 0))])
 (.cond (.t 29) (.seq (.region [oM 30 0, oM 31 1, oM 32 2, oW 33 (.call (oF 298) [(.t 30), (.t 31), (.t 32)])])
 .ret) .skip))
 (.seq (.seq (.region [oM 34 8, oW 35 (.un .not (.t 34))])
 (.cond (.t 35) (.seq (.region [oM 36 0, oM 37 1, oM 38 2, oW 39 (.call (oF 299) [(.t 36), (.t 37), (.t 38)])])
 (.region [oM 40 3, oW 41 (.arith .sub (.t 40) (oI 1)), oM 3 41])) .skip))
 (.seq (.region [oM 43 0, oM 44 1, oM 45 2, oW 46 (.call (oF 300) [(.t 43), (.t 44), (.t 45)]), oM 42 46, oX 47 42 0, oX 48 42 1, oM 11 47, oM 12 48])
 (.seq (.seq (.region [oM 49 12, oW 50 (.arith .eql (.t 49) (oI 2))])
 (.cond (.t 50) (.seq (.region [oM 51 0, oM 52 1, oM 53 2, oW 54 (.call (oF 301) [(.t 51), (.t 52), (.t 53)])])
 (.seq (.region [oM 55 2, oW 56 (.arith .sub (.t 55) (oI 1)), oM 57 11, oM 58 1, oW 59 (.arith .sub (.t 57) (.t 58)), oW 60 (.arith .sub (.t 56) (.t 59)), oM 11 60])
 (.region [oW 12 (.move (oI 1))]))) .skip))
 (.seq (.seq (.region [oM 61 8, oM 62 61, ⟨(some 63), .move (.t 9), (some (62, true)), .write, 0, false⟩, oW 64 (.pick (.t 62) (.t 63) (oB false)), oM 65 64, ⟨(some 66), .move (.t 12), (some (65, true)), .write, 0, false⟩, ⟨(some 67), .arith .eql (.t 66) (oI 1), (some (65, true)), .write, 0, false⟩, oW 68 (.pick (.t 65) (.t 67) (oB false))])
 (.cond (.t 68) (.seq (.region [oM 69 0, oM 70 1, oM 71 2, oW 72 (.call (oF 302) [(.t 69), (.t 70), (.t 71)])])
 (.cond (.t 72) .ret .skip)) .skip))
 (.seq (.seq (.draw [oRM 73 1, oR 74 (.arith .gtr (.t 73) (oI 0)), oRM 75 74, ⟨(some 76), .move (.t 0), (some (75, true)), .read, 0, false⟩, ⟨(some 77), .move (.t 1), (some (75, true)), .read, 0, false⟩, ⟨(some 78), .arith .sub (.t 77) (oI 1), (some (75, true)), .read, 0, false⟩, ⟨(some 79), .indexAddr 1 (.t 76) (.t 78), (some (75, true)), .read, 0, false⟩, ⟨(some 80), .load none (.t 79), (some (75, true)), .read, 0, false⟩, ⟨(some 81), .move (.t 0), (some (75, true)), .read, 0, false⟩, ⟨(some 82), .move (.t 11), (some (75, true)), .read, 0, false⟩, ⟨(some 83), .indexAddr 1 (.t 81) (.t 82), (some (75, true)), .read, 0, false⟩, ⟨(some 84), .load none (.t 83), (some (75, true)), .read, 0, false⟩, ⟨(some 85), .call (oF 303) [(.t 80), (.t 84)], (some (75, true)), .write, 0, false⟩, ⟨(some 86), .un .not (.t 85), (some (75, true)), .read, 1, false⟩, ⟨(some 87), .pick (.t 75) (.t 86) (oB false), none, .read, 1, false⟩])
 (.cond (.t 87) (.seq (.region [oM 88 0, oM 89 1, oM 90 2, oM 91 11, oW 92 (.call (oF 304) [(.t 88), (.t 89), (.t 90), (.t 91)]), oM 13 92])
 (.seq (.region [oM 93 13, oM 1 93])
 (.exit 1))) .skip))
 (.seq (.region [oM 95 0, oM 96 1, oM 97 2, oM 98 11, oW 99 (.call (oF 305) [(.t 95), (.t 96), (.t 97), (.t 98)]), oM 94 99, oX 100 94 0, oX 101 94 1, oM 14 100, oM 15 101])
 (.seq (.region [oM 102 15, oM 9 102])
 (.seq (.region [oM 103 14, oM 104 1, oW 105 (.arith .sub (.t 103) (.t 104)), oM 106 2, oM 107 14, oW 108 (.arith .sub (.t 106) (.t 107)), oM 16 105, oM 17 108])
 (.seq (.region [oM 109 10, oW 110 (.arith .quo (.t 109) (oI 8)), oM 18 110])
 (.seq (.region [oM 111 16, oM 112 17, oW 113 (.arith .lss (.t 111) (.t 112))])
 (.cond (.t 113) (.seq (.region [oM 114 16, oM 115 18, oW 116 (.arith .geq (.t 114) (.t 115)), oM 8 116])
 (.seq (.region [oM 117 0, oM 118 1, oM 119 14, oM 120 3, oW 121 (.call (oF 244) [(.t 117), (.t 118), (.t 119), (.t 120)])])
 (.region [oM 122 14, oW 123 (.arith .add (.t 122) (oI 1)), oM 1 123]))) (.seq (.region [oM 124 17, oM 125 18, oW 126 (.arith .geq (.t 124) (.t 125)), oM 8 126])
 (.seq (.region [oM 127 0, oM 128 14, oW 129 (.arith .add (.t 128) (oI 1)), oM 130 2, oM 131 3, oW 132 (.call (oF 244) [(.t 127), (.t 129), (.t 130), (.t 131)])])
 (.region [oM 133 14, oM 2 133]))))))))))))))))))

/-- slices.pdqsortOrdered[int] -/
def t244 : DFunc := { ntmps := 134, results := [], mode := .full, body :=
 (.seq (.region [oW 8 (.move (oB true))])
 (.seq (.region [oW 9 (.move (oB true))])
 (.block 0 (.loop t244l0)))) }

theorem c244 : compFunc Tryz.prog Tryz.f244 .full = some t244 := by kernel_rfl

def t261l0 : DCode :=
 (.seq (.seq (.region [oM 15 9, oM 16 10, oW 17 (.arith .lss (.t 15) (.t 16))])
 (.cond (.t 17) .skip (.exit 0)))
 (.block 1 (.seq (.region [oM 18 9, oM 19 10, oW 20 (.arith .add (.t 18) (.t 19)), oW 21 (.conv .u64 (.t 20)), oW 22 (.arith .shr (.t 21) (.c (.int .u64 1))), oW 23 (.conv .i64 (.t 22)), oM 11 23])
 (.seq (.draw [oRM 25 0, oRM 26 11, oR 27 (.indexAddr 2 (.t 25) (.t 26)), oRL 28 2 27, oRL 29 2 4, oRM 24 2, oW 30 (.call (.t 24) [(.t 28), (.t 29)]), ⟨(some 31), .arith .lss (.t 30) (oI 0), none, .read, 1, false⟩])
 (.cond (.t 31) (.region [oM 32 11, oW 33 (.arith .add (.t 32) (oI 1)), oM 9 33]) (.region [oM 34 11, oM 10 34]))))))

def t261k0 : DCode :=
 (.seq (.draw [oRM 36 9, oRM 37 8, oR 38 (.arith .lss (.t 36) (.t 37)), oRM 39 38, ⟨(some 41), .move (.t 0), (some (39, true)), .read, 0, false⟩, ⟨(some 42), .move (.t 9), (some (39, true)), .read, 0, false⟩, ⟨(some 43), .indexAddr 2 (.t 41) (.t 42), (some (39, true)), .read, 0, false⟩, ⟨(some 44), .load (some 2) (.t 43), (some (39, true)), .read, 0, false⟩, ⟨(some 45), .load (some 2) (.t 4), (some (39, true)), .read, 0, false⟩, ⟨(some 40), .move (.t 2), (some (39, true)), .read, 0, false⟩, ⟨(some 46), .call (.t 40) [(.t 44), (.t 45)], (some (39, true)), .write, 0, false⟩, oRM 35 9, ⟨(some 47), .arith .eql (.t 46) (oI 0), (some (39, true)), .read, 1, false⟩, ⟨(some 48), .pick (.t 39) (.t 47) (oB false), none, .read, 1, false⟩, ⟨(some 6), .move (.t 35), none, .read, 1, false⟩, ⟨(some 7), .move (.t 48), none, .read, 1, false⟩])
 .ret)

/-- slices.BinarySearchFunc[[]broadside/api.ID,broadside/api.ID,broadside/api.ID] -/
def t261 : DFunc := { ntmps := 49, results := [(.t 6), (.t 7)], mode := .full, body :=
 (.seq (.region [oW 4 (.box 45 2 (.t 1)), oW 6 (.move (oI 0)), oW 7 (.move (oB false))])
 (.seq (.region [oM 12 0, oW 13 (.len 1 (.t 12)), oM 8 13])
 (.seq (.region [oM 14 8, oW 9 (.move (oI 0)), oM 10 14])
 (.seq (.block 0 (.loop t261l0))
 t261k0)))) }

theorem c261 : compFunc Tryz.prog Tryz.f261 .full = some t261 := by kernel_rfl

def t262l0 : DCode :=
 (.seq (.region [oW 9 (.arith .lss (.t 8) (.t 7))])
 (.seq (.cond (.t 9) .skip (.exit 0))
 (.seq (.block 1 (.seq (.region [oM 10 8, oM 5 10])
 (.seq (.region [oM 11 1, oM 12 0, oM 13 5, oW 14 (.indexAddr 1 (.t 12) (.t 13)), oD 15 14, oW 16 (.arith .eql (.t 11) (.t 15))])
 (.cond (.t 16) (.seq (.region [oM 17 5, oM 4 17])
 .ret) .skip))))
 (.region [oW 18 (.arith .add (.t 8) (oI 1)), oM 8 18]))))

def t262k0 : DCode :=
 (.seq (.region [oW 4 (.move (oI (-1)))])
 .ret)

/-- slices.Index[[]int,int] -/
def t262 : DFunc := { ntmps := 19, results := [(.t 4)], mode := .full, body :=
 (.seq (.region [oW 4 (.move (oI 0))])
 (.seq (.seq (.region [oM 6 0, oW 7 (.len 1 (.t 6)), oW 8 (.move (oI 0))])
 (.block 0 (.loop t262l0)))
 t262k0)) }

theorem c262 : compFunc Tryz.prog Tryz.f262 .full = some t262 := by kernel_rfl

/-- broadside/rel.wider -/
def t263 : DFunc := { ntmps := 45, results := [(.t 4)], mode := .full, body :=
 (.seq (.region [oW 2 (.box 119 5 (.t 0)), oW 3 (.box 119 5 (.t 1)), oW 4 (.move (oB false))])
 (.seq (.seq (.region [oA 5 1 3, oD 6 5])
 (.block 0 (.seq (.region [oW 8 (.arith .eql (.t 6) (oI 1)), oM 7 8])
 (.cond (.t 7) (.seq (.region [oA 9 1 2, oD 10 9, oW 11 (.arith .eql (.t 10) (oI 1)), oM 12 11, ⟨(some 13), .fieldAddr 2 (.t 2), (some (12, true)), .write, 0, false⟩, ⟨(some 14), .load none (.t 13), (some (12, true)), .write, 0, false⟩, ⟨(some 15), .fieldAddr 2 (.t 3), (some (12, true)), .write, 0, false⟩, ⟨(some 16), .load none (.t 15), (some (12, true)), .write, 0, false⟩, ⟨(some 17), .arith .leq (.t 14) (.t 16), (some (12, true)), .write, 0, false⟩, oW 18 (.pick (.t 12) (.t 17) (oB false)), oM 19 18, ⟨(some 20), .fieldAddr 3 (.t 3), (some (19, true)), .write, 0, false⟩, ⟨(some 21), .load none (.t 20), (some (19, true)), .write, 0, false⟩, ⟨(some 22), .fieldAddr 3 (.t 2), (some (19, true)), .write, 0, false⟩, ⟨(some 23), .load none (.t 22), (some (19, true)), .write, 0, false⟩, ⟨(some 24), .arith .leq (.t 21) (.t 23), (some (19, true)), .write, 0, false⟩, oW 25 (.pick (.t 19) (.t 24) (oB false)), oM 4 25])
 .ret) (.seq (.region [oW 27 (.arith .eql (.t 6) (oI 3)), oM 26 27])
 (.cond (.t 26) (.seq (.region [oA 28 1 2, oD 29 28, oW 30 (.arith .eql (.t 29) (oI 3)), oM 31 30, ⟨(some 32), .fieldAddr 4 (.t 3), (some (31, true)), .write, 0, false⟩, ⟨(some 33), .load none (.t 32), (some (31, true)), .write, 0, false⟩, ⟨(some 34), .fieldAddr 4 (.t 2), (some (31, true)), .write, 0, false⟩, ⟨(some 35), .load none (.t 34), (some (31, true)), .write, 0, false⟩, ⟨(some 36), .call (oF 320) [(.t 33), (.t 35)], (some (31, true)), .write, 0, false⟩, oW 37 (.pick (.t 31) (.t 36) (oB false)), oM 4 37])
 .ret) (.seq (.region [oW 39 (.arith .eql (.t 6) (oI 2)), oM 38 39])
 (.cond (.t 38) (.seq (.draw [oRL 40 5 2, oRA 41 4 3, oRD 42 41, ⟨(some 43), .call (oF 321) [(.t 42)], none, .create, 0, false⟩, ⟨(some 44), .call (oF 318) [(.t 40), (.t 43)], none, .write, 1, false⟩, ⟨(some 4), .move (.t 44), none, .read, 2, false⟩])
 .ret) .skip))))))))
 (.seq (.region [oW 4 (.move (oB false))])
 .ret))) }

theorem c263 : compFunc Tryz.prog Tryz.f263 .full = some t263 := by kernel_rfl

/-- broadside/audit.live$1 -/
def t264 : DFunc := { ntmps := 8, results := [(.t 3)], mode := .full, body :=
 (.seq (.region [oW 2 (.box 86 4 (.t 0)), oW 3 (.move (oB false))])
 (.seq (.region [oA 4 0 2, oL 5 2 4, oL 6 2 1, oW 7 (.eqa false [1, 1] (.t 5) (.t 6)), oM 3 7])
 .ret)) }

theorem c264 : compFunc Tryz.prog Tryz.f264 .full = some t264 := by kernel_rfl

def t279l0 : DCode :=
 (.seq (.seq (.draw [oRM 18 9, oRM 19 1, oR 20 (.arith .gtr (.t 18) (.t 19)), oRM 21 20, ⟨(some 23), .move (.t 0), (some (21, true)), .read, 0, false⟩, ⟨(some 24), .move (.t 9), (some (21, true)), .read, 0, false⟩, ⟨(some 25), .indexAddr 2 (.t 23) (.t 24), (some (21, true)), .read, 0, false⟩, ⟨(some 26), .load (some 2) (.t 25), (some (21, true)), .read, 0, false⟩, ⟨(some 27), .move (.t 0), (some (21, true)), .read, 0, false⟩, ⟨(some 28), .move (.t 9), (some (21, true)), .read, 0, false⟩, ⟨(some 29), .arith .sub (.t 28) (oI 1), (some (21, true)), .read, 0, false⟩, ⟨(some 30), .indexAddr 2 (.t 27) (.t 29), (some (21, true)), .read, 0, false⟩, ⟨(some 31), .load (some 2) (.t 30), (some (21, true)), .read, 0, false⟩, ⟨(some 22), .move (.t 3), (some (21, true)), .read, 0, false⟩, ⟨(some 32), .call (.t 22) [(.t 26), (.t 31)], (some (21, true)), .write, 0, false⟩, ⟨(some 33), .arith .lss (.t 32) (oI 0), (some (21, true)), .read, 1, false⟩, ⟨(some 34), .pick (.t 21) (.t 33) (oB false), none, .read, 1, false⟩])
 (.cond (.t 34) .skip (.exit 2)))
 (.seq (.block 3 (.draw [oRM 42 0, oRM 43 9, oR 44 (.arith .sub (.t 43) (oI 1)), oR 45 (.indexAddr 2 (.t 42) (.t 44)), oRL 46 2 45, oRM 47 0, oRM 48 9, oR 49 (.indexAddr 2 (.t 47) (.t 48)), oRL 50 2 49, oRM 37 0, oRM 38 9, oR 51 (.indexAddr 2 (.t 37) (.t 38)), oS 2 51 46, oRM 39 0, oRM 40 9, oR 41 (.arith .sub (.t 40) (oI 1)), ⟨(some 52), .indexAddr 2 (.t 39) (.t 41), none, .read, 1, false⟩, ⟨none, .store 2 (.t 52) (.t 50), none, .write, 1, false⟩]))
 (.region [oM 35 9, oW 36 (.arith .sub (.t 35) (oI 1)), oM 9 36])))

def t279k0 : DCode :=
 (.region [oM 15 8, oW 16 (.arith .add (.t 15) (oI 1)), oM 8 16])

def t279l1 : DCode :=
 (.seq (.seq (.region [oM 12 8, oM 13 2, oW 14 (.arith .lss (.t 12) (.t 13))])
 (.cond (.t 14) .skip (.exit 0)))
 (.seq (.block 1 (.seq (.region [oM 17 8, oM 9 17])
 (.block 2 (.loop t279l0))))
 t279k0))

/-- slices.insertionSortCmpFunc[[2]int] -/
def t279 : DFunc := { ntmps := 53, results := [], mode := .full, body :=
 (.seq (.region [oM 10 1, oW 11 (.arith .add (.t 10) (oI 1)), oM 8 11])
 (.block 0 (.loop t279l1))) }

theorem c279 : compFunc Tryz.prog Tryz.f279 .full = some t279 := by kernel_rfl

def t280l0 : DCode :=
 (.seq (.seq (.region [oM 20 11, oW 21 (.arith .geq (.t 20) (oI 0))])
 (.cond (.t 21) .skip (.exit 0)))
 (.seq (.block 1 (.region [oM 24 0, oM 25 11, oM 26 10, oM 27 8, oM 28 3, oW 29 (.call (oF 332) [(.t 24), (.t 25), (.t 26), (.t 27), (.t 28)])]))
 (.region [oM 22 11, oW 23 (.arith .sub (.t 22) (oI 1)), oM 11 23])))

def t280l1 : DCode :=
 (.seq (.seq (.region [oM 32 12, oW 33 (.arith .geq (.t 32) (oI 0))])
 (.cond (.t 33) .skip (.exit 2)))
 (.seq (.block 3 (.seq (.draw [oRM 42 0, oRM 43 8, oRM 44 12, oR 45 (.arith .add (.t 43) (.t 44)), oR 46 (.indexAddr 2 (.t 42) (.t 45)), oRL 47 2 46, oRM 48 0, oRM 49 8, oR 50 (.indexAddr 2 (.t 48) (.t 49)), oRL 51 2 50, oRM 36 0, oRM 37 8, oR 52 (.indexAddr 2 (.t 36) (.t 37)), oS 2 52 47, oRM 38 0, oRM 39 8, oRM 40 12, oR 41 (.arith .add (.t 39) (.t 40)), ⟨(some 53), .indexAddr 2 (.t 38) (.t 41), none, .read, 1, false⟩, ⟨none, .store 2 (.t 53) (.t 51), none, .write, 1, false⟩])
 (.region [oM 54 0, oM 55 9, oM 56 12, oM 57 8, oM 58 3, oW 59 (.call (oF 332) [(.t 54), (.t 55), (.t 56), (.t 57), (.t 58)])])))
 (.region [oM 34 12, oW 35 (.arith .sub (.t 34) (oI 1)), oM 12 35])))

def t280k0 : DCode :=
 (.seq (.region [oM 30 10, oW 31 (.arith .sub (.t 30) (oI 1)), oM 12 31])
 (.block 2 (.loop t280l1)))

/-- slices.heapSortCmpFunc[[2]int] -/
def t280 : DFunc := { ntmps := 60, results := [], mode := .full, body :=
 (.seq (.region [oM 13 1, oM 8 13])
 (.seq (.region [oW 9 (.move (oI 0))])
 (.seq (.region [oM 14 2, oM 15 1, oW 16 (.arith .sub (.t 14) (.t 15)), oM 10 16])
 (.seq (.seq (.region [oM 17 10, oW 18 (.arith .sub (.t 17) (oI 1)), oW 19 (.arith .quo (.t 18) (oI 2)), oM 11 19])
 (.block 0 (.loop t280l0)))
 t280k0)))) }

theorem c280 : compFunc Tryz.prog Tryz.f280 .full = some t280 := by kernel_rfl

def t281l0 : DCode :=
 (.seq (.seq (.region [oM 28 11, oM 29 1, oM 30 8, oW 31 (.arith .quo (.t 30) (oI 4)), oW 32 (.arith .mul (.t 31) (oI 2)), oW 33 (.arith .add (.t 29) (.t 32)), oW 34 (.arith .add (.t 33) (oI 1)), oW 35 (.arith .leq (.t 28) (.t 34))])
 (.cond (.t 35) .skip (.exit 0)))
 (.seq (.block 1 (.seq (.region [oW 38 (.call (oF 334) [(.t 9)]), oM 39 10, oW 40 (.arith .sub (.t 39) (.c (.int .u64 1))), oW 41 (.arith .and (.t 38) (.t 40)), oW 42 (.conv .i64 (.t 41)), oM 12 42])
 (.seq (.seq (.region [oM 43 12, oM 44 8, oW 45 (.arith .geq (.t 43) (.t 44))])
 (.cond (.t 45) (.region [oM 46 12, oM 47 8, oW 48 (.arith .sub (.t 46) (.t 47)), oM 12 48]) .skip))
 (.draw [oRM 55 0, oRM 56 1, oRM 57 12, oR 58 (.arith .add (.t 56) (.t 57)), oR 59 (.indexAddr 2 (.t 55) (.t 58)), oRL 60 2 59, oRM 61 0, oRM 62 11, oR 63 (.indexAddr 2 (.t 61) (.t 62)), oRL 64 2 63, oRM 49 0, oRM 50 11, oR 65 (.indexAddr 2 (.t 49) (.t 50)), oS 2 65 60, oRM 51 0, oRM 52 1, oRM 53 12, oR 54 (.arith .add (.t 52) (.t 53)), ⟨(some 66), .indexAddr 2 (.t 51) (.t 54), none, .read, 1, false⟩, ⟨none, .store 2 (.t 66) (.t 64), none, .write, 1, false⟩]))))
 (.region [oM 36 11, oW 37 (.arith .add (.t 36) (oI 1)), oM 11 37])))

/-- slices.breakPatternsCmpFunc[[2]int] -/
def t281 : DFunc := { ntmps := 67, results := [], mode := .full, body :=
 (.seq (.region [oM 13 2, oM 14 1, oW 15 (.arith .sub (.t 13) (.t 14)), oM 8 15])
 (.seq (.region [oM 16 8, oW 17 (.arith .geq (.t 16) (oI 8))])
 (.cond (.t 17) (.seq (.region [oM 18 8, oW 19 (.conv .u64 (.t 18)), oW 9 (.alloc 423 1 (.int .u64 0)), oS 1 9 19])
 (.seq (.region [oM 20 8, oW 21 (.call (oF 333) [(.t 20)]), oM 10 21])
 (.seq (.region [oM 22 1, oM 23 8, oW 24 (.arith .quo (.t 23) (oI 4)), oW 25 (.arith .mul (.t 24) (oI 2)), oW 26 (.arith .add (.t 22) (.t 25)), oW 27 (.arith .sub (.t 26) (oI 1)), oM 11 27])
 (.block 0 (.loop t281l0))))) .skip))) }

theorem c281 : compFunc Tryz.prog Tryz.f281 .full = some t281 := by kernel_rfl

/-- slices.choosePivotCmpFunc[[2]int] -/
def t282 : DFunc := { ntmps := 63, results := [(.t 8), (.t 9)], mode := .full, body :=
 (.seq (.region [oW 8 (.move (oI 0)), oW 9 (.move (oI 0))])
 (.seq (.region [oM 15 2, oM 16 1, oW 17 (.arith .sub (.t 15) (.t 16)), oM 10 17])
 (.seq (.region [oW 11 (.alloc 3 1 (.int .i64 0))])
 (.seq (.region [oM 18 1, oM 19 10, oW 20 (.arith .quo (.t 19) (oI 4)), oW 21 (.arith .mul (.t 20) (oI 1)), oW 22 (.arith .add (.t 18) (.t 21)), oM 12 22])
 (.seq (.region [oM 23 1, oM 24 10, oW 25 (.arith .quo (.t 24) (oI 4)), oW 26 (.arith .mul (.t 25) (oI 2)), oW 27 (.arith .add (.t 23) (.t 26)), oM 13 27])
 (.seq (.region [oM 28 1, oM 29 10, oW 30 (.arith .quo (.t 29) (oI 4)), oW 31 (.arith .mul (.t 30) (oI 3)), oW 32 (.arith .add (.t 28) (.t 31)), oM 14 32])
 (.seq (.seq (.region [oM 33 10, oW 34 (.arith .geq (.t 33) (oI 8))])
 (.cond (.t 34) (.seq (.seq (.region [oM 35 10, oW 36 (.arith .geq (.t 35) (oI 50))])
 (.cond (.t 36) (.seq (.region [oM 37 0, oM 38 12, oM 39 3, oW 40 (.call (oF 335) [(.t 37), (.t 38), (.t 11), (.t 39)]), oM 12 40])
 (.seq (.region [oM 41 0, oM 42 13, oM 43 3, oW 44 (.call (oF 335) [(.t 41), (.t 42), (.t 11), (.t 43)]), oM 13 44])
 (.region [oM 45 0, oM 46 14, oM 47 3, oW 48 (.call (oF 335) [(.t 45), (.t 46), (.t 11), (.t 47)]), oM 14 48]))) .skip))
 (.region [oM 49 0, oM 50 12, oM 51 13, oM 52 14, oM 53 3, oW 54 (.call (oF 336) [(.t 49), (.t 50), (.t 51), (.t 52), (.t 11), (.t 53)]), oM 13 54])) .skip))
 (.seq (.region [oD 55 11])
 (.block 0 (.seq (.region [oW 58 (.arith .eql (.t 55) (oI 0)), oM 57 58])
 (.cond (.t 57) (.seq (.region [oM 59 13, oM 8 59, oW 9 (.move (oI 1))])
 .ret) (.seq (.region [oW 61 (.arith .eql (.t 55) (oI 12)), oM 60 61])
 (.cond (.t 60) (.seq (.region [oM 62 13, oM 8 62, oW 9 (.move (oI 2))])
 .ret) (.seq (.region [oM 56 13, oM 8 56, oW 9 (.move (oI 0))])
 .ret)))))))))))))) }

theorem c282 : compFunc Tryz.prog Tryz.f282 .full = some t282 := by kernel_rfl

def t283l0 : DCode :=
 (.seq (.seq (.region [oM 13 8, oM 14 9, oW 15 (.arith .lss (.t 13) (.t 14))])
 (.cond (.t 15) .skip (.exit 0)))
 (.block 1 (.seq (.draw [oRM 20 0, oRM 21 9, oR 22 (.indexAddr 2 (.t 20) (.t 21)), oRL 23 2 22, oRM 24 0, oRM 25 8, oR 26 (.indexAddr 2 (.t 24) (.t 25)), oRL 27 2 26, oRM 16 0, oRM 17 8, oR 28 (.indexAddr 2 (.t 16) (.t 17)), oS 2 28 23, oRM 18 0, oRM 19 9, ⟨(some 29), .indexAddr 2 (.t 18) (.t 19), none, .read, 1, false⟩, ⟨none, .store 2 (.t 29) (.t 27), none, .write, 1, false⟩])
 (.seq (.region [oM 30 8, oW 31 (.arith .add (.t 30) (oI 1)), oM 8 31])
 (.region [oM 32 9, oW 33 (.arith .sub (.t 32) (oI 1)), oM 9 33])))))

/-- slices.reverseRangeCmpFunc[[2]int] -/
def t283 : DFunc := { ntmps := 34, results := [], mode := .full, body :=
 (.seq (.region [oM 10 1, oM 8 10])
 (.seq (.region [oM 11 2, oW 12 (.arith .sub (.t 11) (oI 1)), oM 9 12])
 (.block 0 (.loop t283l0)))) }

theorem c283 : compFunc Tryz.prog Tryz.f283 .full = some t283 := by kernel_rfl

def t284l0 : DCode :=
 (.seq (.seq (.draw [oRM 19 9, oRM 20 2, oR 21 (.arith .lss (.t 19) (.t 20)), oRM 22 21, ⟨(some 24), .move (.t 0), (some (22, true)), .read, 0, false⟩, ⟨(some 25), .move (.t 9), (some (22, true)), .read, 0, false⟩, ⟨(some 26), .indexAddr 2 (.t 24) (.t 25), (some (22, true)), .read, 0, false⟩, ⟨(some 27), .load (some 2) (.t 26), (some (22, true)), .read, 0, false⟩, ⟨(some 28), .move (.t 0), (some (22, true)), .read, 0, false⟩, ⟨(some 29), .move (.t 9), (some (22, true)), .read, 0, false⟩, ⟨(some 30), .arith .sub (.t 29) (oI 1), (some (22, true)), .read, 0, false⟩, ⟨(some 31), .indexAddr 2 (.t 28) (.t 30), (some (22, true)), .read, 0, false⟩, ⟨(some 32), .load (some 2) (.t 31), (some (22, true)), .read, 0, false⟩, ⟨(some 23), .move (.t 3), (some (22, true)), .read, 0, false⟩, ⟨(some 33), .call (.t 23) [(.t 27), (.t 32)], (some (22, true)), .write, 0, false⟩, ⟨(some 34), .arith .lss (.t 33) (oI 0), (some (22, true)), .read, 1, false⟩, ⟨(some 35), .un .not (.t 34), (some (22, true)), .read, 1, false⟩, ⟨(some 36), .pick (.t 22) (.t 35) (oB false), none, .read, 1, false⟩])
 (.cond (.t 36) .skip (.exit 2)))
 (.block 3 (.region [oM 37 9, oW 38 (.arith .add (.t 37) (oI 1)), oM 9 38])))

def t284l1 : DCode :=
 (.seq (.seq (.region [oM 68 11, oW 69 (.arith .geq (.t 68) (oI 1))])
 (.cond (.t 69) .skip (.exit 4)))
 (.seq (.block 5 (.seq (.seq (.draw [oRM 73 0, oRM 74 11, oR 75 (.indexAddr 2 (.t 73) (.t 74)), oRL 76 2 75, oRM 77 0, oRM 78 11, oR 79 (.arith .sub (.t 78) (oI 1)), oR 80 (.indexAddr 2 (.t 77) (.t 79)), oRL 81 2 80, oRM 72 3, oW 82 (.call (.t 72) [(.t 76), (.t 81)]), ⟨(some 83), .arith .lss (.t 82) (oI 0), none, .read, 1, false⟩, ⟨(some 84), .un .not (.t 83), none, .read, 1, false⟩])
 (.cond (.t 84) (.exit 4) .skip))
 (.draw [oRM 90 0, oRM 91 11, oR 92 (.arith .sub (.t 91) (oI 1)), oR 93 (.indexAddr 2 (.t 90) (.t 92)), oRL 94 2 93, oRM 95 0, oRM 96 11, oR 97 (.indexAddr 2 (.t 95) (.t 96)), oRL 98 2 97, oRM 85 0, oRM 86 11, oR 99 (.indexAddr 2 (.t 85) (.t 86)), oS 2 99 94, oRM 87 0, oRM 88 11, oR 89 (.arith .sub (.t 88) (oI 1)), ⟨(some 100), .indexAddr 2 (.t 87) (.t 89), none, .read, 1, false⟩, ⟨none, .store 2 (.t 100) (.t 98), none, .write, 1, false⟩])))
 (.region [oM 70 11, oW 71 (.arith .sub (.t 70) (oI 1)), oM 11 71])))

def t284l2 : DCode :=
 (.seq (.seq (.region [oM 107 12, oM 108 2, oW 109 (.arith .lss (.t 107) (.t 108))])
 (.cond (.t 109) .skip (.exit 6)))
 (.seq (.block 7 (.seq (.seq (.draw [oRM 113 0, oRM 114 12, oR 115 (.indexAddr 2 (.t 113) (.t 114)), oRL 116 2 115, oRM 117 0, oRM 118 12, oR 119 (.arith .sub (.t 118) (oI 1)), oR 120 (.indexAddr 2 (.t 117) (.t 119)), oRL 121 2 120, oRM 112 3, oW 122 (.call (.t 112) [(.t 116), (.t 121)]), ⟨(some 123), .arith .lss (.t 122) (oI 0), none, .read, 1, false⟩, ⟨(some 124), .un .not (.t 123), none, .read, 1, false⟩])
 (.cond (.t 124) (.exit 6) .skip))
 (.draw [oRM 130 0, oRM 131 12, oR 132 (.arith .sub (.t 131) (oI 1)), oR 133 (.indexAddr 2 (.t 130) (.t 132)), oRL 134 2 133, oRM 135 0, oRM 136 12, oR 137 (.indexAddr 2 (.t 135) (.t 136)), oRL 138 2 137, oRM 125 0, oRM 126 12, oR 139 (.indexAddr 2 (.t 125) (.t 126)), oS 2 139 134, oRM 127 0, oRM 128 12, oR 129 (.arith .sub (.t 128) (oI 1)), ⟨(some 140), .indexAddr 2 (.t 127) (.t 129), none, .read, 1, false⟩, ⟨none, .store 2 (.t 140) (.t 138), none, .write, 1, false⟩])))
 (.region [oM 110 12, oW 111 (.arith .add (.t 110) (oI 1)), oM 12 111])))

def t284k0 : DCode :=
 (.seq (.region [oM 101 2, oM 102 9, oW 103 (.arith .sub (.t 101) (.t 102)), oW 104 (.arith .geq (.t 103) (oI 2))])
 (.cond (.t 104) (.seq (.region [oM 105 9, oW 106 (.arith .add (.t 105) (oI 1)), oM 12 106])
 (.block 6 (.loop t284l2))) .skip))

def t284k1 : DCode :=
 (.seq (.seq (.region [oM 39 9, oM 40 2, oW 41 (.arith .eql (.t 39) (.t 40))])
 (.cond (.t 41) (.seq (.region [oW 8 (.move (oB true))])
 .ret) .skip))
 (.seq (.seq (.region [oM 42 2, oM 43 1, oW 44 (.arith .sub (.t 42) (.t 43)), oW 45 (.arith .lss (.t 44) (oI 50))])
 (.cond (.t 45) (.seq (.region [oW 8 (.move (oB false))])
 .ret) .skip))
 (.seq (.draw [oRM 51 0, oRM 52 9, oR 53 (.arith .sub (.t 52) (oI 1)), oR 54 (.indexAddr 2 (.t 51) (.t 53)), oRL 55 2 54, oRM 56 0, oRM 57 9, oR 58 (.indexAddr 2 (.t 56) (.t 57)), oRL 59 2 58, oRM 46 0, oRM 47 9, oR 60 (.indexAddr 2 (.t 46) (.t 47)), oS 2 60 55, oRM 48 0, oRM 49 9, oR 50 (.arith .sub (.t 49) (oI 1)), ⟨(some 61), .indexAddr 2 (.t 48) (.t 50), none, .read, 1, false⟩, ⟨none, .store 2 (.t 61) (.t 59), none, .write, 1, false⟩])
 (.seq (.seq (.region [oM 62 9, oM 63 1, oW 64 (.arith .sub (.t 62) (.t 63)), oW 65 (.arith .geq (.t 64) (oI 2))])
 (.cond (.t 65) (.seq (.region [oM 66 9, oW 67 (.arith .sub (.t 66) (oI 1)), oM 11 67])
 (.block 4 (.loop t284l1))) .skip))
 t284k0))))

def t284k2 : DCode :=
 (.region [oM 17 10, oW 18 (.arith .add (.t 17) (oI 1)), oM 10 18])

def t284l3 : DCode :=
 (.seq (.seq (.region [oM 15 10, oW 16 (.arith .lss (.t 15) (oI 5))])
 (.cond (.t 16) .skip (.exit 0)))
 (.seq (.block 1 (.seq (.block 2 (.loop t284l0))
 t284k1))
 t284k2))

def t284k3 : DCode :=
 (.seq (.region [oW 8 (.move (oB false))])
 .ret)

/-- slices.partialInsertionSortCmpFunc[[2]int] -/
def t284 : DFunc := { ntmps := 141, results := [(.t 8)], mode := .full, body :=
 (.seq (.region [oW 8 (.move (oB false))])
 (.seq (.region [oM 13 1, oW 14 (.arith .add (.t 13) (oI 1)), oM 9 14])
 (.seq (.seq (.region [oW 10 (.move (oI 0))])
 (.block 0 (.loop t284l3)))
 t284k3))) }

theorem c284 : compFunc Tryz.prog Tryz.f284 .full = some t284 := by kernel_rfl

def t285l0 : DCode :=
 (.seq (.seq (.draw [oRM 31 11, oRM 32 12, oR 33 (.arith .leq (.t 31) (.t 32)), oRM 34 33, ⟨(some 36), .move (.t 0), (some (34, true)), .read, 0, false⟩, ⟨(some 37), .move (.t 1), (some (34, true)), .read, 0, false⟩, ⟨(some 38), .indexAddr 2 (.t 36) (.t 37), (some (34, true)), .read, 0, false⟩, ⟨(some 39), .load (some 2) (.t 38), (some (34, true)), .read, 0, false⟩, ⟨(some 40), .move (.t 0), (some (34, true)), .read, 0, false⟩, ⟨(some 41), .move (.t 11), (some (34, true)), .read, 0, false⟩, ⟨(some 42), .indexAddr 2 (.t 40) (.t 41), (some (34, true)), .read, 0, false⟩, ⟨(some 43), .load (some 2) (.t 42), (some (34, true)), .read, 0, false⟩, ⟨(some 35), .move (.t 4), (some (34, true)), .read, 0, false⟩, ⟨(some 44), .call (.t 35) [(.t 39), (.t 43)], (some (34, true)), .write, 0, false⟩, ⟨(some 45), .arith .lss (.t 44) (oI 0), (some (34, true)), .read, 1, false⟩, ⟨(some 46), .un .not (.t 45), (some (34, true)), .read, 1, false⟩, ⟨(some 47), .pick (.t 34) (.t 46) (oB false), none, .read, 1, false⟩])
 (.cond (.t 47) .skip (.exit 2)))
 (.block 3 (.region [oM 48 11, oW 49 (.arith .add (.t 48) (oI 1)), oM 11 49])))

def t285l1 : DCode :=
 (.seq (.seq (.draw [oRM 50 11, oRM 51 12, oR 52 (.arith .leq (.t 50) (.t 51)), oRM 53 52, ⟨(some 55), .move (.t 0), (some (53, true)), .read, 0, false⟩, ⟨(some 56), .move (.t 1), (some (53, true)), .read, 0, false⟩, ⟨(some 57), .indexAddr 2 (.t 55) (.t 56), (some (53, true)), .read, 0, false⟩, ⟨(some 58), .load (some 2) (.t 57), (some (53, true)), .read, 0, false⟩, ⟨(some 59), .move (.t 0), (some (53, true)), .read, 0, false⟩, ⟨(some 60), .move (.t 12), (some (53, true)), .read, 0, false⟩, ⟨(some 61), .indexAddr 2 (.t 59) (.t 60), (some (53, true)), .read, 0, false⟩, ⟨(some 62), .load (some 2) (.t 61), (some (53, true)), .read, 0, false⟩, ⟨(some 54), .move (.t 4), (some (53, true)), .read, 0, false⟩, ⟨(some 63), .call (.t 54) [(.t 58), (.t 62)], (some (53, true)), .write, 0, false⟩, ⟨(some 64), .arith .lss (.t 63) (oI 0), (some (53, true)), .read, 1, false⟩, ⟨(some 65), .pick (.t 53) (.t 64) (oB false), none, .read, 1, false⟩])
 (.cond (.t 65) .skip (.exit 4)))
 (.block 5 (.region [oM 66 12, oW 67 (.arith .sub (.t 66) (oI 1)), oM 12 67])))

def t285k0 : DCode :=
 (.seq (.seq (.region [oM 68 11, oM 69 12, oW 70 (.arith .gtr (.t 68) (.t 69))])
 (.cond (.t 70) (.exit 0) .skip))
 (.seq (.draw [oRM 75 0, oRM 76 12, oR 77 (.indexAddr 2 (.t 75) (.t 76)), oRL 78 2 77, oRM 79 0, oRM 80 11, oR 81 (.indexAddr 2 (.t 79) (.t 80)), oRL 82 2 81, oRM 71 0, oRM 72 11, oR 83 (.indexAddr 2 (.t 71) (.t 72)), oS 2 83 78, oRM 73 0, oRM 74 12, ⟨(some 84), .indexAddr 2 (.t 73) (.t 74), none, .read, 1, false⟩, ⟨none, .store 2 (.t 84) (.t 82), none, .write, 1, false⟩])
 (.seq (.region [oM 85 11, oW 86 (.arith .add (.t 85) (oI 1)), oM 11 86])
 (.region [oM 87 12, oW 88 (.arith .sub (.t 87) (oI 1)), oM 12 88]))))

def t285k1 : DCode :=
 (.seq (.block 4 (.loop t285l1))
 t285k0)

def t285l2 : DCode :=
 (.block 1 (.seq (.block 2 (.loop t285l0))
 t285k1))

def t285k2 : DCode :=
 (.seq (.region [oM 89 11, oM 10 89])
 .ret)

/-- slices.partitionEqualCmpFunc[[2]int] -/
def t285 : DFunc := { ntmps := 90, results := [(.t 10)], mode := .full, body :=
 (.seq (.region [oW 10 (.move (oI 0))])
 (.seq (.draw [oRM 17 0, oRM 18 3, oR 19 (.indexAddr 2 (.t 17) (.t 18)), oRL 20 2 19, oRM 21 0, oRM 22 1, oR 23 (.indexAddr 2 (.t 21) (.t 22)), oRL 24 2 23, oRM 13 0, oRM 14 1, oR 25 (.indexAddr 2 (.t 13) (.t 14)), oS 2 25 20, oRM 15 0, oRM 16 3, ⟨(some 26), .indexAddr 2 (.t 15) (.t 16), none, .read, 1, false⟩, ⟨none, .store 2 (.t 26) (.t 24), none, .write, 1, false⟩])
 (.seq (.region [oM 27 1, oW 28 (.arith .add (.t 27) (oI 1)), oM 29 2, oW 30 (.arith .sub (.t 29) (oI 1)), oM 11 28, oM 12 30])
 (.seq (.block 0 (.loop t285l2))
 t285k2)))) }

theorem c285 : compFunc Tryz.prog Tryz.f285 .full = some t285 := by kernel_rfl

def t286l0 : DCode :=
 (.seq (.seq (.draw [oRM 32 12, oRM 33 13, oR 34 (.arith .leq (.t 32) (.t 33)), oRM 35 34, ⟨(some 37), .move (.t 0), (some (35, true)), .read, 0, false⟩, ⟨(some 38), .move (.t 12), (some (35, true)), .read, 0, false⟩, ⟨(some 39), .indexAddr 2 (.t 37) (.t 38), (some (35, true)), .read, 0, false⟩, ⟨(some 40), .load (some 2) (.t 39), (some (35, true)), .read, 0, false⟩, ⟨(some 41), .move (.t 0), (some (35, true)), .read, 0, false⟩, ⟨(some 42), .move (.t 1), (some (35, true)), .read, 0, false⟩, ⟨(some 43), .indexAddr 2 (.t 41) (.t 42), (some (35, true)), .read, 0, false⟩, ⟨(some 44), .load (some 2) (.t 43), (some (35, true)), .read, 0, false⟩, ⟨(some 36), .move (.t 4), (some (35, true)), .read, 0, false⟩, ⟨(some 45), .call (.t 36) [(.t 40), (.t 44)], (some (35, true)), .write, 0, false⟩, ⟨(some 46), .arith .lss (.t 45) (oI 0), (some (35, true)), .read, 1, false⟩, ⟨(some 47), .pick (.t 35) (.t 46) (oB false), none, .read, 1, false⟩])
 (.cond (.t 47) .skip (.exit 0)))
 (.block 1 (.region [oM 48 12, oW 49 (.arith .add (.t 48) (oI 1)), oM 12 49])))

def t286l1 : DCode :=
 (.seq (.seq (.draw [oRM 50 12, oRM 51 13, oR 52 (.arith .leq (.t 50) (.t 51)), oRM 53 52, ⟨(some 55), .move (.t 0), (some (53, true)), .read, 0, false⟩, ⟨(some 56), .move (.t 13), (some (53, true)), .read, 0, false⟩, ⟨(some 57), .indexAddr 2 (.t 55) (.t 56), (some (53, true)), .read, 0, false⟩, ⟨(some 58), .load (some 2) (.t 57), (some (53, true)), .read, 0, false⟩, ⟨(some 59), .move (.t 0), (some (53, true)), .read, 0, false⟩, ⟨(some 60), .move (.t 1), (some (53, true)), .read, 0, false⟩, ⟨(some 61), .indexAddr 2 (.t 59) (.t 60), (some (53, true)), .read, 0, false⟩, ⟨(some 62), .load (some 2) (.t 61), (some (53, true)), .read, 0, false⟩, ⟨(some 54), .move (.t 4), (some (53, true)), .read, 0, false⟩, ⟨(some 63), .call (.t 54) [(.t 58), (.t 62)], (some (53, true)), .write, 0, false⟩, ⟨(some 64), .arith .lss (.t 63) (oI 0), (some (53, true)), .read, 1, false⟩, ⟨(some 65), .un .not (.t 64), (some (53, true)), .read, 1, false⟩, ⟨(some 66), .pick (.t 53) (.t 65) (oB false), none, .read, 1, false⟩])
 (.cond (.t 66) .skip (.exit 2)))
 (.block 3 (.region [oM 67 13, oW 68 (.arith .sub (.t 67) (oI 1)), oM 13 68])))

def t286l2 : DCode :=
 (.seq (.seq (.draw [oRM 105 12, oRM 106 13, oR 107 (.arith .leq (.t 105) (.t 106)), oRM 108 107, ⟨(some 110), .move (.t 0), (some (108, true)), .read, 0, false⟩, ⟨(some 111), .move (.t 12), (some (108, true)), .read, 0, false⟩, ⟨(some 112), .indexAddr 2 (.t 110) (.t 111), (some (108, true)), .read, 0, false⟩, ⟨(some 113), .load (some 2) (.t 112), (some (108, true)), .read, 0, false⟩, ⟨(some 114), .move (.t 0), (some (108, true)), .read, 0, false⟩, ⟨(some 115), .move (.t 1), (some (108, true)), .read, 0, false⟩, ⟨(some 116), .indexAddr 2 (.t 114) (.t 115), (some (108, true)), .read, 0, false⟩, ⟨(some 117), .load (some 2) (.t 116), (some (108, true)), .read, 0, false⟩, ⟨(some 109), .move (.t 4), (some (108, true)), .read, 0, false⟩, ⟨(some 118), .call (.t 109) [(.t 113), (.t 117)], (some (108, true)), .write, 0, false⟩, ⟨(some 119), .arith .lss (.t 118) (oI 0), (some (108, true)), .read, 1, false⟩, ⟨(some 120), .pick (.t 108) (.t 119) (oB false), none, .read, 1, false⟩])
 (.cond (.t 120) .skip (.exit 6)))
 (.block 7 (.region [oM 121 12, oW 122 (.arith .add (.t 121) (oI 1)), oM 12 122])))

def t286l3 : DCode :=
 (.seq (.seq (.draw [oRM 123 12, oRM 124 13, oR 125 (.arith .leq (.t 123) (.t 124)), oRM 126 125, ⟨(some 128), .move (.t 0), (some (126, true)), .read, 0, false⟩, ⟨(some 129), .move (.t 13), (some (126, true)), .read, 0, false⟩, ⟨(some 130), .indexAddr 2 (.t 128) (.t 129), (some (126, true)), .read, 0, false⟩, ⟨(some 131), .load (some 2) (.t 130), (some (126, true)), .read, 0, false⟩, ⟨(some 132), .move (.t 0), (some (126, true)), .read, 0, false⟩, ⟨(some 133), .move (.t 1), (some (126, true)), .read, 0, false⟩, ⟨(some 134), .indexAddr 2 (.t 132) (.t 133), (some (126, true)), .read, 0, false⟩, ⟨(some 135), .load (some 2) (.t 134), (some (126, true)), .read, 0, false⟩, ⟨(some 127), .move (.t 4), (some (126, true)), .read, 0, false⟩, ⟨(some 136), .call (.t 127) [(.t 131), (.t 135)], (some (126, true)), .write, 0, false⟩, ⟨(some 137), .arith .lss (.t 136) (oI 0), (some (126, true)), .read, 1, false⟩, ⟨(some 138), .un .not (.t 137), (some (126, true)), .read, 1, false⟩, ⟨(some 139), .pick (.t 126) (.t 138) (oB false), none, .read, 1, false⟩])
 (.cond (.t 139) .skip (.exit 8)))
 (.block 9 (.region [oM 140 13, oW 141 (.arith .sub (.t 140) (oI 1)), oM 13 141])))

def t286k0 : DCode :=
 (.seq (.seq (.region [oM 142 12, oM 143 13, oW 144 (.arith .gtr (.t 142) (.t 143))])
 (.cond (.t 144) (.exit 4) .skip))
 (.seq (.draw [oRM 149 0, oRM 150 13, oR 151 (.indexAddr 2 (.t 149) (.t 150)), oRL 152 2 151, oRM 153 0, oRM 154 12, oR 155 (.indexAddr 2 (.t 153) (.t 154)), oRL 156 2 155, oRM 145 0, oRM 146 12, oR 157 (.indexAddr 2 (.t 145) (.t 146)), oS 2 157 152, oRM 147 0, oRM 148 13, ⟨(some 158), .indexAddr 2 (.t 147) (.t 148), none, .read, 1, false⟩, ⟨none, .store 2 (.t 158) (.t 156), none, .write, 1, false⟩])
 (.seq (.region [oM 159 12, oW 160 (.arith .add (.t 159) (oI 1)), oM 12 160])
 (.region [oM 161 13, oW 162 (.arith .sub (.t 161) (oI 1)), oM 13 162]))))

def t286k1 : DCode :=
 (.seq (.block 8 (.loop t286l3))
 t286k0)

def t286l4 : DCode :=
 (.block 5 (.seq (.block 6 (.loop t286l2))
 t286k1))

def t286k2 : DCode :=
 (.seq (.draw [oRM 167 0, oRM 168 1, oR 169 (.indexAddr 2 (.t 167) (.t 168)), oRL 170 2 169, oRM 171 0, oRM 172 13, oR 173 (.indexAddr 2 (.t 171) (.t 172)), oRL 174 2 173, oRM 163 0, oRM 164 13, oR 175 (.indexAddr 2 (.t 163) (.t 164)), oS 2 175 170, oRM 165 0, oRM 166 1, ⟨(some 176), .indexAddr 2 (.t 165) (.t 166), none, .read, 1, false⟩, ⟨none, .store 2 (.t 176) (.t 174), none, .write, 1, false⟩])
 (.seq (.region [oM 177 13, oM 10 177, oW 11 (.move (oB false))])
 .ret))

def t286k3 : DCode :=
 (.seq (.seq (.region [oM 69 12, oM 70 13, oW 71 (.arith .gtr (.t 69) (.t 70))])
 (.cond (.t 71) (.seq (.draw [oRM 76 0, oRM 77 1, oR 78 (.indexAddr 2 (.t 76) (.t 77)), oRL 79 2 78, oRM 80 0, oRM 81 13, oR 82 (.indexAddr 2 (.t 80) (.t 81)), oRL 83 2 82, oRM 72 0, oRM 73 13, oR 84 (.indexAddr 2 (.t 72) (.t 73)), oS 2 84 79, oRM 74 0, oRM 75 1, ⟨(some 85), .indexAddr 2 (.t 74) (.t 75), none, .read, 1, false⟩, ⟨none, .store 2 (.t 85) (.t 83), none, .write, 1, false⟩])
 (.seq (.region [oM 86 13, oM 10 86, oW 11 (.move (oB true))])
 .ret)) .skip))
 (.seq (.draw [oRM 91 0, oRM 92 13, oR 93 (.indexAddr 2 (.t 91) (.t 92)), oRL 94 2 93, oRM 95 0, oRM 96 12, oR 97 (.indexAddr 2 (.t 95) (.t 96)), oRL 98 2 97, oRM 87 0, oRM 88 12, oR 99 (.indexAddr 2 (.t 87) (.t 88)), oS 2 99 94, oRM 89 0, oRM 90 13, ⟨(some 100), .indexAddr 2 (.t 89) (.t 90), none, .read, 1, false⟩, ⟨none, .store 2 (.t 100) (.t 98), none, .write, 1, false⟩])
 (.seq (.region [oM 101 12, oW 102 (.arith .add (.t 101) (oI 1)), oM 12 102])
 (.seq (.region [oM 103 13, oW 104 (.arith .sub (.t 103) (oI 1)), oM 13 104])
 (.seq (.block 4 (.loop t286l4))
 t286k2)))))

def t286k4 : DCode :=
 (.seq (.block 2 (.loop t286l1))
 t286k3)

/-- slices.partitionCmpFunc[[2]int] -/
def t286 : DFunc := { ntmps := 178, results := [(.t 10), (.t 11)], mode := .full, body :=
 (.seq (.region [oW 10 (.move (oI 0)), oW 11 (.move (oB false))])
 (.seq (.draw [oRM 18 0, oRM 19 3, oR 20 (.indexAddr 2 (.t 18) (.t 19)), oRL 21 2 20, oRM 22 0, oRM 23 1, oR 24 (.indexAddr 2 (.t 22) (.t 23)), oRL 25 2 24, oRM 14 0, oRM 15 1, oR 26 (.indexAddr 2 (.t 14) (.t 15)), oS 2 26 21, oRM 16 0, oRM 17 3, ⟨(some 27), .indexAddr 2 (.t 16) (.t 17), none, .read, 1, false⟩, ⟨none, .store 2 (.t 27) (.t 25), none, .write, 1, false⟩])
 (.seq (.region [oM 28 1, oW 29 (.arith .add (.t 28) (oI 1)), oM 30 2, oW 31 (.arith .sub (.t 30) (oI 1)), oM 12 29, oM 13 31])
 (.seq (.block 0 (.loop t286l0))
 t286k4)))) }

theorem c286 : compFunc Tryz.prog Tryz.f286 .full = some t286 := by kernel_rfl

/-- math/bits.Len32 -/
def t287 : DFunc := { ntmps := 19, results := [(.t 2)], mode := .full, body :=
 (.seq (.region [oW 2 (.move (oI 0))])
 (.seq (.seq (.region [oM 3 0, oW 4 (.arith .geq (.t 3) (.c (.int .u32 65536)))])
 (.cond (.t 4) (.seq (.region [oM 5 0, oW 6 (.arith .shr (.t 5) (.c (.int .u64 16))), oM 0 6])
 (.region [oW 2 (.move (oI 16))])) .skip))
 (.seq (.seq (.region [oM 7 0, oW 8 (.arith .geq (.t 7) (.c (.int .u32 256)))])
 (.cond (.t 8) (.seq (.region [oM 9 0, oW 10 (.arith .shr (.t 9) (.c (.int .u64 8))), oM 0 10])
 (.region [oM 11 2, oW 12 (.arith .add (.t 11) (oI 8)), oM 2 12])) .skip))
 (.seq (.region [oM 13 2, oM 14 0, oW 15 (.conv .u8 (.t 14)), oW 16 (.indexStr (.c (.str [0, 1, 2, 2, 3, 3, 3, 3, 4, 4, 4, 4, 4, 4, 4, 4, 5, 5, 5, 5, 5, 5, 5, 5, 5, 5, 5, 5, 5, 5, 5, 5, 6, 6, 6, 6, 6, 6, 6, 6, 6, 6, 6, 6, 6, 6, 6, 6, 6, 6, 6, 6, 6, 6, 6, 6, 6, 6, 6, 6, 6, 6, 6, 6, 7, 7, 7, 7, 7, 7, 7, 7, 7, 7, 7, 7, 7, 7, 7, 7, 7, 7, 7, 7, 7, 7, 7, 7, 7, 7, 7, 7, 7, 7, 7, 7, 7, 7, 7, 7, 7, 7, 7, 7, 7, 7, 7, 7, 7, 7, 7, 7, 7, 7, 7, 7, 7, 7, 7, 7, 7, 7, 7, 7, 7, 7, 7, 7, 8, 8, 8, 8, 8, 8, 8, 8, 8, 8, 8, 8, 8, 8, 8, 8, 8, 8, 8, 8, 8, 8, 8, 8, 8, 8, 8, 8, 8, 8, 8, 8, 8, 8, 8, 8, 8, 8, 8, 8, 8, 8, 8, 8, 8, 8, 8, 8, 8, 8, 8, 8, 8, 8, 8, 8, 8, 8, 8, 8, 8, 8, 8, 8, 8, 8, 8, 8, 8, 8, 8, 8, 8, 8, 8, 8, 8, 8, 8, 8, 8, 8, 8, 8, 8, 8, 8, 8, 8, 8, 8, 8, 8, 8, 8, 8, 8, 8, 8, 8, 8, 8, 8, 8, 8, 8, 8, 8, 8, 8, 8, 8, 8, 8, 8, 8, 8, 8, 8, 8, 8, 8, 8, 8, 8, 8, 8, 8])) (.t 15)), oW 17 (.conv .i64 (.t 16)), oW 18 (.arith .add (.t 13) (.t 17)), oM 2 18])
 .ret)))) }

theorem c287 : compFunc Tryz.prog Tryz.f287 .full = some t287 := by kernel_rfl

/-- math/bits.Len64 -/
def t288 : DFunc := { ntmps := 25, results := [(.t 2)], mode := .full, body :=
 (.seq (.region [oW 2 (.move (oI 0))])
 (.seq (.seq (.region [oM 3 0, oW 4 (.arith .geq (.t 3) (.c (.int .u64 4294967296)))])
 (.cond (.t 4) (.seq (.region [oM 5 0, oW 6 (.arith .shr (.t 5) (.c (.int .u64 32))), oM 0 6])
 (.region [oW 2 (.move (oI 32))])) .skip))
 (.seq (.seq (.region [oM 7 0, oW 8 (.arith .geq (.t 7) (.c (.int .u64 65536)))])
 (.cond (.t 8) (.seq (.region [oM 9 0, oW 10 (.arith .shr (.t 9) (.c (.int .u64 16))), oM 0 10])
 (.region [oM 11 2, oW 12 (.arith .add (.t 11) (oI 16)), oM 2 12])) .skip))
 (.seq (.seq (.region [oM 13 0, oW 14 (.arith .geq (.t 13) (.c (.int .u64 256)))])
 (.cond (.t 14) (.seq (.region [oM 15 0, oW 16 (.arith .shr (.t 15) (.c (.int .u64 8))), oM 0 16])
 (.region [oM 17 2, oW 18 (.arith .add (.t 17) (oI 8)), oM 2 18])) .skip))
 (.seq (.region [oM 19 2, oM 20 0, oW 21 (.conv .u8 (.t 20)), oW 22 (.indexStr (.c (.str [0, 1, 2, 2, 3, 3, 3, 3, 4, 4, 4, 4, 4, 4, 4, 4, 5, 5, 5, 5, 5, 5, 5, 5, 5, 5, 5, 5, 5, 5, 5, 5, 6, 6, 6, 6, 6, 6, 6, 6, 6, 6, 6, 6, 6, 6, 6, 6, 6, 6, 6, 6, 6, 6, 6, 6, 6, 6, 6, 6, 6, 6, 6, 6, 7, 7, 7, 7, 7, 7, 7, 7, 7, 7, 7, 7, 7, 7, 7, 7, 7, 7, 7, 7, 7, 7, 7, 7, 7, 7, 7, 7, 7, 7, 7, 7, 7, 7, 7, 7, 7, 7, 7, 7, 7, 7, 7, 7, 7, 7, 7, 7, 7, 7, 7, 7, 7, 7, 7, 7, 7, 7, 7, 7, 7, 7, 7, 7, 8, 8, 8, 8, 8, 8, 8, 8, 8, 8, 8, 8, 8, 8, 8, 8, 8, 8, 8, 8, 8, 8, 8, 8, 8, 8, 8, 8, 8, 8, 8, 8, 8, 8, 8, 8, 8, 8, 8, 8, 8, 8, 8, 8, 8, 8, 8, 8, 8, 8, 8, 8, 8, 8, 8, 8, 8, 8, 8, 8, 8, 8, 8, 8, 8, 8, 8, 8, 8, 8, 8, 8, 8, 8, 8, 8, 8, 8, 8, 8, 8, 8, 8, 8, 8, 8, 8, 8, 8, 8, 8, 8, 8, 8, 8, 8, 8, 8, 8, 8, 8, 8, 8, 8, 8, 8, 8, 8, 8, 8, 8, 8, 8, 8, 8, 8, 8, 8, 8, 8, 8, 8, 8, 8, 8, 8, 8, 8])) (.t 21)), oW 23 (.conv .i64 (.t 22)), oW 24 (.arith .add (.t 19) (.t 23)), oM 2 24])
 .ret))))) }

theorem c288 : compFunc Tryz.prog Tryz.f288 .full = some t288 := by kernel_rfl

def t297l0 : DCode :=
 (.seq (.seq (.draw [oRM 16 7, oRM 17 1, oR 18 (.arith .gtr (.t 16) (.t 17)), oRM 19 18, ⟨(some 20), .move (.t 0), (some (19, true)), .read, 0, false⟩, ⟨(some 21), .move (.t 7), (some (19, true)), .read, 0, false⟩, ⟨(some 22), .indexAddr 1 (.t 20) (.t 21), (some (19, true)), .read, 0, false⟩, ⟨(some 23), .load none (.t 22), (some (19, true)), .read, 0, false⟩, ⟨(some 24), .move (.t 0), (some (19, true)), .read, 0, false⟩, ⟨(some 25), .move (.t 7), (some (19, true)), .read, 0, false⟩, ⟨(some 26), .arith .sub (.t 25) (oI 1), (some (19, true)), .read, 0, false⟩, ⟨(some 27), .indexAddr 1 (.t 24) (.t 26), (some (19, true)), .read, 0, false⟩, ⟨(some 28), .load none (.t 27), (some (19, true)), .read, 0, false⟩, ⟨(some 29), .call (oF 303) [(.t 23), (.t 28)], (some (19, true)), .write, 0, false⟩, ⟨(some 30), .pick (.t 19) (.t 29) (oB false), none, .read, 1, false⟩])
 (.cond (.t 30) .skip (.exit 2)))
 (.seq (.block 3 (.draw [oRM 38 0, oRM 39 7, oR 40 (.arith .sub (.t 39) (oI 1)), oR 41 (.indexAddr 1 (.t 38) (.t 40)), oRD 42 41, oRM 43 0, oRM 44 7, oR 45 (.indexAddr 1 (.t 43) (.t 44)), oRD 46 45, oRM 33 0, oRM 34 7, oR 47 (.indexAddr 1 (.t 33) (.t 34)), oS 1 47 42, oRM 35 0, oRM 36 7, oR 37 (.arith .sub (.t 36) (oI 1)), ⟨(some 48), .indexAddr 1 (.t 35) (.t 37), none, .read, 1, false⟩, ⟨none, .store 1 (.t 48) (.t 46), none, .write, 1, false⟩]))
 (.region [oM 31 7, oW 32 (.arith .sub (.t 31) (oI 1)), oM 7 32])))

def t297k0 : DCode :=
 (.region [oM 13 6, oW 14 (.arith .add (.t 13) (oI 1)), oM 6 14])

def t297l1 : DCode :=
 (.seq (.seq (.region [oM 10 6, oM 11 2, oW 12 (.arith .lss (.t 10) (.t 11))])
 (.cond (.t 12) .skip (.exit 0)))
 (.seq (.block 1 (.seq (.region [oM 15 6, oM 7 15])
 (.block 2 (.loop t297l0))))
 t297k0))

/-- slices.insertionSortOrdered[int] -/
def t297 : DFunc := { ntmps := 49, results := [], mode := .full, body :=
 (.seq (.region [oM 8 1, oW 9 (.arith .add (.t 8) (oI 1)), oM 6 9])
 (.block 0 (.loop t297l1))) }

theorem c297 : compFunc Tryz.prog Tryz.f297 .full = some t297 := by kernel_rfl

def t298l0 : DCode :=
 (.seq (.seq (.region [oM 18 9, oW 19 (.arith .geq (.t 18) (oI 0))])
 (.cond (.t 19) .skip (.exit 0)))
 (.seq (.block 1 (.region [oM 22 0, oM 23 9, oM 24 8, oM 25 6, oW 26 (.call (oF 341) [(.t 22), (.t 23), (.t 24), (.t 25)])]))
 (.region [oM 20 9, oW 21 (.arith .sub (.t 20) (oI 1)), oM 9 21])))

def t298l1 : DCode :=
 (.seq (.seq (.region [oM 29 10, oW 30 (.arith .geq (.t 29) (oI 0))])
 (.cond (.t 30) .skip (.exit 2)))
 (.seq (.block 3 (.seq (.draw [oRM 39 0, oRM 40 6, oRM 41 10, oR 42 (.arith .add (.t 40) (.t 41)), oR 43 (.indexAddr 1 (.t 39) (.t 42)), oRD 44 43, oRM 45 0, oRM 46 6, oR 47 (.indexAddr 1 (.t 45) (.t 46)), oRD 48 47, oRM 33 0, oRM 34 6, oR 49 (.indexAddr 1 (.t 33) (.t 34)), oS 1 49 44, oRM 35 0, oRM 36 6, oRM 37 10, oR 38 (.arith .add (.t 36) (.t 37)), ⟨(some 50), .indexAddr 1 (.t 35) (.t 38), none, .read, 1, false⟩, ⟨none, .store 1 (.t 50) (.t 48), none, .write, 1, false⟩])
 (.region [oM 51 0, oM 52 7, oM 53 10, oM 54 6, oW 55 (.call (oF 341) [(.t 51), (.t 52), (.t 53), (.t 54)])])))
 (.region [oM 31 10, oW 32 (.arith .sub (.t 31) (oI 1)), oM 10 32])))

def t298k0 : DCode :=
 (.seq (.region [oM 27 8, oW 28 (.arith .sub (.t 27) (oI 1)), oM 10 28])
 (.block 2 (.loop t298l1)))

/-- slices.heapSortOrdered[int] -/
def t298 : DFunc := { ntmps := 56, results := [], mode := .full, body :=
 (.seq (.region [oM 11 1, oM 6 11])
 (.seq (.region [oW 7 (.move (oI 0))])
 (.seq (.region [oM 12 2, oM 13 1, oW 14 (.arith .sub (.t 12) (.t 13)), oM 8 14])
 (.seq (.seq (.region [oM 15 8, oW 16 (.arith .sub (.t 15) (oI 1)), oW 17 (.arith .quo (.t 16) (oI 2)), oM 9 17])
 (.block 0 (.loop t298l0)))
 t298k0)))) }

theorem c298 : compFunc Tryz.prog Tryz.f298 .full = some t298 := by kernel_rfl

def t299l0 : DCode :=
 (.seq (.seq (.region [oM 26 9, oM 27 1, oM 28 6, oW 29 (.arith .quo (.t 28) (oI 4)), oW 30 (.arith .mul (.t 29) (oI 2)), oW 31 (.arith .add (.t 27) (.t 30)), oW 32 (.arith .add (.t 31) (oI 1)), oW 33 (.arith .leq (.t 26) (.t 32))])
 (.cond (.t 33) .skip (.exit 0)))
 (.seq (.block 1 (.seq (.region [oW 36 (.call (oF 334) [(.t 7)]), oM 37 8, oW 38 (.arith .sub (.t 37) (.c (.int .u64 1))), oW 39 (.arith .and (.t 36) (.t 38)), oW 40 (.conv .i64 (.t 39)), oM 10 40])
 (.seq (.seq (.region [oM 41 10, oM 42 6, oW 43 (.arith .geq (.t 41) (.t 42))])
 (.cond (.t 43) (.region [oM 44 10, oM 45 6, oW 46 (.arith .sub (.t 44) (.t 45)), oM 10 46]) .skip))
 (.draw [oRM 53 0, oRM 54 1, oRM 55 10, oR 56 (.arith .add (.t 54) (.t 55)), oR 57 (.indexAddr 1 (.t 53) (.t 56)), oRD 58 57, oRM 59 0, oRM 60 9, oR 61 (.indexAddr 1 (.t 59) (.t 60)), oRD 62 61, oRM 47 0, oRM 48 9, oR 63 (.indexAddr 1 (.t 47) (.t 48)), oS 1 63 58, oRM 49 0, oRM 50 1, oRM 51 10, oR 52 (.arith .add (.t 50) (.t 51)), ⟨(some 64), .indexAddr 1 (.t 49) (.t 52), none, .read, 1, false⟩, ⟨none, .store 1 (.t 64) (.t 62), none, .write, 1, false⟩]))))
 (.region [oM 34 9, oW 35 (.arith .add (.t 34) (oI 1)), oM 9 35])))

/-- slices.breakPatternsOrdered[int] -/
def t299 : DFunc := { ntmps := 65, results := [], mode := .full, body :=
 (.seq (.region [oM 11 2, oM 12 1, oW 13 (.arith .sub (.t 11) (.t 12)), oM 6 13])
 (.seq (.region [oM 14 6, oW 15 (.arith .geq (.t 14) (oI 8))])
 (.cond (.t 15) (.seq (.region [oM 16 6, oW 17 (.conv .u64 (.t 16)), oW 7 (.alloc 423 1 (.int .u64 0)), oS 1 7 17])
 (.seq (.region [oM 18 6, oW 19 (.call (oF 333) [(.t 18)]), oM 8 19])
 (.seq (.region [oM 20 1, oM 21 6, oW 22 (.arith .quo (.t 21) (oI 4)), oW 23 (.arith .mul (.t 22) (oI 2)), oW 24 (.arith .add (.t 20) (.t 23)), oW 25 (.arith .sub (.t 24) (oI 1)), oM 9 25])
 (.block 0 (.loop t299l0))))) .skip))) }

theorem c299 : compFunc Tryz.prog Tryz.f299 .full = some t299 := by kernel_rfl

/-- slices.choosePivotOrdered[int] -/
def t300 : DFunc := { ntmps := 57, results := [(.t 6), (.t 7)], mode := .full, body :=
 (.seq (.region [oW 6 (.move (oI 0)), oW 7 (.move (oI 0))])
 (.seq (.region [oM 13 2, oM 14 1, oW 15 (.arith .sub (.t 13) (.t 14)), oM 8 15])
 (.seq (.region [oW 9 (.alloc 3 1 (.int .i64 0))])
 (.seq (.region [oM 16 1, oM 17 8, oW 18 (.arith .quo (.t 17) (oI 4)), oW 19 (.arith .mul (.t 18) (oI 1)), oW 20 (.arith .add (.t 16) (.t 19)), oM 10 20])
 (.seq (.region [oM 21 1, oM 22 8, oW 23 (.arith .quo (.t 22) (oI 4)), oW 24 (.arith .mul (.t 23) (oI 2)), oW 25 (.arith .add (.t 21) (.t 24)), oM 11 25])
 (.seq (.region [oM 26 1, oM 27 8, oW 28 (.arith .quo (.t 27) (oI 4)), oW 29 (.arith .mul (.t 28) (oI 3)), oW 30 (.arith .add (.t 26) (.t 29)), oM 12 30])
 (.seq (.seq (.region [oM 31 8, oW 32 (.arith .geq (.t 31) (oI 8))])
 (.cond (.t 32) (.seq (.seq (.region [oM 33 8, oW 34 (.arith .geq (.t 33) (oI 50))])
 (.cond (.t 34) (.seq (.region [oM 35 0, oM 36 10, oW 37 (.call (oF 342) [(.t 35), (.t 36), (.t 9)]), oM 10 37])
 (.seq (.region [oM 38 0, oM 39 11, oW 40 (.call (oF 342) [(.t 38), (.t 39), (.t 9)]), oM 11 40])
 (.region [oM 41 0, oM 42 12, oW 43 (.call (oF 342) [(.t 41), (.t 42), (.t 9)]), oM 12 43]))) .skip))
 (.region [oM 44 0, oM 45 10, oM 46 11, oM 47 12, oW 48 (.call (oF 343) [(.t 44), (.t 45), (.t 46), (.t 47), (.t 9)]), oM 11 48])) .skip))
 (.seq (.region [oD 49 9])
 (.block 0 (.seq (.region [oW 52 (.arith .eql (.t 49) (oI 0)), oM 51 52])
 (.cond (.t 51) (.seq (.region [oM 53 11, oM 6 53, oW 7 (.move (oI 1))])
 .ret) (.seq (.region [oW 55 (.arith .eql (.t 49) (oI 12)), oM 54 55])
 (.cond (.t 54) (.seq (.region [oM 56 11, oM 6 56, oW 7 (.move (oI 2))])
 .ret) (.seq (.region [oM 50 11, oM 6 50, oW 7 (.move (oI 0))])
 .ret)))))))))))))) }

theorem c300 : compFunc Tryz.prog Tryz.f300 .full = some t300 := by kernel_rfl

def t301l0 : DCode :=
 (.seq (.seq (.region [oM 11 6, oM 12 7, oW 13 (.arith .lss (.t 11) (.t 12))])
 (.cond (.t 13) .skip (.exit 0)))
 (.block 1 (.seq (.draw [oRM 18 0, oRM 19 7, oR 20 (.indexAddr 1 (.t 18) (.t 19)), oRD 21 20, oRM 22 0, oRM 23 6, oR 24 (.indexAddr 1 (.t 22) (.t 23)), oRD 25 24, oRM 14 0, oRM 15 6, oR 26 (.indexAddr 1 (.t 14) (.t 15)), oS 1 26 21, oRM 16 0, oRM 17 7, ⟨(some 27), .indexAddr 1 (.t 16) (.t 17), none, .read, 1, false⟩, ⟨none, .store 1 (.t 27) (.t 25), none, .write, 1, false⟩])
 (.seq (.region [oM 28 6, oW 29 (.arith .add (.t 28) (oI 1)), oM 6 29])
 (.region [oM 30 7, oW 31 (.arith .sub (.t 30) (oI 1)), oM 7 31])))))

/-- slices.reverseRangeOrdered[int] -/
def t301 : DFunc := { ntmps := 32, results := [], mode := .full, body :=
 (.seq (.region [oM 8 1, oM 6 8])
 (.seq (.region [oM 9 2, oW 10 (.arith .sub (.t 9) (oI 1)), oM 7 10])
 (.block 0 (.loop t301l0)))) }

theorem c301 : compFunc Tryz.prog Tryz.f301 .full = some t301 := by kernel_rfl

def t302l0 : DCode :=
 (.seq (.seq (.draw [oRM 17 7, oRM 18 2, oR 19 (.arith .lss (.t 17) (.t 18)), oRM 20 19, ⟨(some 21), .move (.t 0), (some (20, true)), .read, 0, false⟩, ⟨(some 22), .move (.t 7), (some (20, true)), .read, 0, false⟩, ⟨(some 23), .indexAddr 1 (.t 21) (.t 22), (some (20, true)), .read, 0, false⟩, ⟨(some 24), .load none (.t 23), (some (20, true)), .read, 0, false⟩, ⟨(some 25), .move (.t 0), (some (20, true)), .read, 0, false⟩, ⟨(some 26), .move (.t 7), (some (20, true)), .read, 0, false⟩, ⟨(some 27), .arith .sub (.t 26) (oI 1), (some (20, true)), .read, 0, false⟩, ⟨(some 28), .indexAddr 1 (.t 25) (.t 27), (some (20, true)), .read, 0, false⟩, ⟨(some 29), .load none (.t 28), (some (20, true)), .read, 0, false⟩, ⟨(some 30), .call (oF 303) [(.t 24), (.t 29)], (some (20, true)), .write, 0, false⟩, ⟨(some 31), .un .not (.t 30), (some (20, true)), .read, 1, false⟩, ⟨(some 32), .pick (.t 20) (.t 31) (oB false), none, .read, 1, false⟩])
 (.cond (.t 32) .skip (.exit 2)))
 (.block 3 (.region [oM 33 7, oW 34 (.arith .add (.t 33) (oI 1)), oM 7 34])))

def t302l1 : DCode :=
 (.seq (.seq (.region [oM 64 9, oW 65 (.arith .geq (.t 64) (oI 1))])
 (.cond (.t 65) .skip (.exit 4)))
 (.seq (.block 5 (.seq (.seq (.draw [oRM 68 0, oRM 69 9, oR 70 (.indexAddr 1 (.t 68) (.t 69)), oRD 71 70, oRM 72 0, oRM 73 9, oR 74 (.arith .sub (.t 73) (oI 1)), oR 75 (.indexAddr 1 (.t 72) (.t 74)), oRD 76 75, oW 77 (.call (oF 303) [(.t 71), (.t 76)]), ⟨(some 78), .un .not (.t 77), none, .read, 1, false⟩])
 (.cond (.t 78) (.exit 4) .skip))
 (.draw [oRM 84 0, oRM 85 9, oR 86 (.arith .sub (.t 85) (oI 1)), oR 87 (.indexAddr 1 (.t 84) (.t 86)), oRD 88 87, oRM 89 0, oRM 90 9, oR 91 (.indexAddr 1 (.t 89) (.t 90)), oRD 92 91, oRM 79 0, oRM 80 9, oR 93 (.indexAddr 1 (.t 79) (.t 80)), oS 1 93 88, oRM 81 0, oRM 82 9, oR 83 (.arith .sub (.t 82) (oI 1)), ⟨(some 94), .indexAddr 1 (.t 81) (.t 83), none, .read, 1, false⟩, ⟨none, .store 1 (.t 94) (.t 92), none, .write, 1, false⟩])))
 (.region [oM 66 9, oW 67 (.arith .sub (.t 66) (oI 1)), oM 9 67])))

def t302l2 : DCode :=
 (.seq (.seq (.region [oM 101 10, oM 102 2, oW 103 (.arith .lss (.t 101) (.t 102))])
 (.cond (.t 103) .skip (.exit 6)))
 (.seq (.block 7 (.seq (.seq (.draw [oRM 106 0, oRM 107 10, oR 108 (.indexAddr 1 (.t 106) (.t 107)), oRD 109 108, oRM 110 0, oRM 111 10, oR 112 (.arith .sub (.t 111) (oI 1)), oR 113 (.indexAddr 1 (.t 110) (.t 112)), oRD 114 113, oW 115 (.call (oF 303) [(.t 109), (.t 114)]), ⟨(some 116), .un .not (.t 115), none, .read, 1, false⟩])
 (.cond (.t 116) (.exit 6) .skip))
 (.draw [oRM 122 0, oRM 123 10, oR 124 (.arith .sub (.t 123) (oI 1)), oR 125 (.indexAddr 1 (.t 122) (.t 124)), oRD 126 125, oRM 127 0, oRM 128 10, oR 129 (.indexAddr 1 (.t 127) (.t 128)), oRD 130 129, oRM 117 0, oRM 118 10, oR 131 (.indexAddr 1 (.t 117) (.t 118)), oS 1 131 126, oRM 119 0, oRM 120 10, oR 121 (.arith .sub (.t 120) (oI 1)), ⟨(some 132), .indexAddr 1 (.t 119) (.t 121), none, .read, 1, false⟩, ⟨none, .store 1 (.t 132) (.t 130), none, .write, 1, false⟩])))
 (.region [oM 104 10, oW 105 (.arith .add (.t 104) (oI 1)), oM 10 105])))

def t302k0 : DCode :=
 (.seq (.region [oM 95 2, oM 96 7, oW 97 (.arith .sub (.t 95) (.t 96)), oW 98 (.arith .geq (.t 97) (oI 2))])
 (.cond (.t 98) (.seq (.region [oM 99 7, oW 100 (.arith .add (.t 99) (oI 1)), oM 10 100])
 (.block 6 (.loop t302l2))) .skip))

def t302k1 : DCode :=
 (.seq (.seq (.region [oM 35 7, oM 36 2, oW 37 (.arith .eql (.t 35) (.t 36))])
 (.cond (.t 37) (.seq (.region [oW 6 (.move (oB true))])
 .ret) .skip))
 (.seq (.seq (.region [oM 38 2, oM 39 1, oW 40 (.arith .sub (.t 38) (.t 39)), oW 41 (.arith .lss (.t 40) (oI 50))])
 (.cond (.t 41) (.seq (.region [oW 6 (.move (oB false))])
 .ret) .skip))
 (.seq (.draw [oRM 47 0, oRM 48 7, oR 49 (.arith .sub (.t 48) (oI 1)), oR 50 (.indexAddr 1 (.t 47) (.t 49)), oRD 51 50, oRM 52 0, oRM 53 7, oR 54 (.indexAddr 1 (.t 52) (.t 53)), oRD 55 54, oRM 42 0, oRM 43 7, oR 56 (.indexAddr 1 (.t 42) (.t 43)), oS 1 56 51, oRM 44 0, oRM 45 7, oR 46 (.arith .sub (.t 45) (oI 1)), ⟨(some 57), .indexAddr 1 (.t 44) (.t 46), none, .read, 1, false⟩, ⟨none, .store 1 (.t 57) (.t 55), none, .write, 1, false⟩])
 (.seq (.seq (.region [oM 58 7, oM 59 1, oW 60 (.arith .sub (.t 58) (.t 59)), oW 61 (.arith .geq (.t 60) (oI 2))])
 (.cond (.t 61) (.seq (.region [oM 62 7, oW 63 (.arith .sub (.t 62) (oI 1)), oM 9 63])
 (.block 4 (.loop t302l1))) .skip))
 t302k0))))

def t302k2 : DCode :=
 (.region [oM 15 8, oW 16 (.arith .add (.t 15) (oI 1)), oM 8 16])

def t302l3 : DCode :=
 (.seq (.seq (.region [oM 13 8, oW 14 (.arith .lss (.t 13) (oI 5))])
 (.cond (.t 14) .skip (.exit 0)))
 (.seq (.block 1 (.seq (.block 2 (.loop t302l0))
 t302k1))
 t302k2))

def t302k3 : DCode :=
 (.seq (.region [oW 6 (.move (oB false))])
 .ret)

/-- slices.partialInsertionSortOrdered[int] -/
def t302 : DFunc := { ntmps := 133, results := [(.t 6)], mode := .full, body :=
 (.seq (.region [oW 6 (.move (oB false))])
 (.seq (.region [oM 11 1, oW 12 (.arith .add (.t 11) (oI 1)), oM 7 12])
 (.seq (.seq (.region [oW 8 (.move (oI 0))])
 (.block 0 (.loop t302l3)))
 t302k3))) }

theorem c302 : compFunc Tryz.prog Tryz.f302 .full = some t302 := by kernel_rfl

/-- cmp.Less[int] -/
def t303 : DFunc := { ntmps := 17, results := [(.t 4)], mode := .full, body :=
 (.seq (.region [oW 4 (.move (oB false))])
 (.seq (.region [oM 5 0, oW 6 (.call (oF 220) [(.t 5)]), oM 7 6, ⟨(some 8), .move (.t 1), (some (7, true)), .write, 0, false⟩, ⟨(some 9), .call (oF 220) [(.t 8)], (some (7, true)), .write, 0, false⟩, ⟨(some 10), .un .not (.t 9), (some (7, true)), .write, 0, false⟩, oW 11 (.pick (.t 7) (.t 10) (oB false)), oM 12 11, ⟨(some 13), .move (.t 0), (some (12, false)), .write, 0, false⟩, ⟨(some 14), .move (.t 1), (some (12, false)), .write, 0, false⟩, ⟨(some 15), .arith .lss (.t 13) (.t 14), (some (12, false)), .write, 0, false⟩, oW 16 (.pick (.t 12) (oB true) (.t 15)), oM 4 16])
 .ret)) }

theorem c303 : compFunc Tryz.prog Tryz.f303 .full = some t303 := by kernel_rfl

def t304l0 : DCode :=
 (.seq (.seq (.draw [oRM 29 9, oRM 30 10, oR 31 (.arith .leq (.t 29) (.t 30)), oRM 32 31, ⟨(some 33), .move (.t 0), (some (32, true)), .read, 0, false⟩, ⟨(some 34), .move (.t 1), (some (32, true)), .read, 0, false⟩, ⟨(some 35), .indexAddr 1 (.t 33) (.t 34), (some (32, true)), .read, 0, false⟩, ⟨(some 36), .load none (.t 35), (some (32, true)), .read, 0, false⟩, ⟨(some 37), .move (.t 0), (some (32, true)), .read, 0, false⟩, ⟨(some 38), .move (.t 9), (some (32, true)), .read, 0, false⟩, ⟨(some 39), .indexAddr 1 (.t 37) (.t 38), (some (32, true)), .read, 0, false⟩, ⟨(some 40), .load none (.t 39), (some (32, true)), .read, 0, false⟩, ⟨(some 41), .call (oF 303) [(.t 36), (.t 40)], (some (32, true)), .write, 0, false⟩, ⟨(some 42), .un .not (.t 41), (some (32, true)), .read, 1, false⟩, ⟨(some 43), .pick (.t 32) (.t 42) (oB false), none, .read, 1, false⟩])
 (.cond (.t 43) .skip (.exit 2)))
 (.block 3 (.region [oM 44 9, oW 45 (.arith .add (.t 44) (oI 1)), oM 9 45])))

def t304l1 : DCode :=
 (.seq (.seq (.draw [oRM 46 9, oRM 47 10, oR 48 (.arith .leq (.t 46) (.t 47)), oRM 49 48, ⟨(some 50), .move (.t 0), (some (49, true)), .read, 0, false⟩, ⟨(some 51), .move (.t 1), (some (49, true)), .read, 0, false⟩, ⟨(some 52), .indexAddr 1 (.t 50) (.t 51), (some (49, true)), .read, 0, false⟩, ⟨(some 53), .load none (.t 52), (some (49, true)), .read, 0, false⟩, ⟨(some 54), .move (.t 0), (some (49, true)), .read, 0, false⟩, ⟨(some 55), .move (.t 10), (some (49, true)), .read, 0, false⟩, ⟨(some 56), .indexAddr 1 (.t 54) (.t 55), (some (49, true)), .read, 0, false⟩, ⟨(some 57), .load none (.t 56), (some (49, true)), .read, 0, false⟩, ⟨(some 58), .call (oF 303) [(.t 53), (.t 57)], (some (49, true)), .write, 0, false⟩, ⟨(some 59), .pick (.t 49) (.t 58) (oB false), none, .read, 1, false⟩])
 (.cond (.t 59) .skip (.exit 4)))
 (.block 5 (.region [oM 60 10, oW 61 (.arith .sub (.t 60) (oI 1)), oM 10 61])))

def t304k0 : DCode :=
 (.seq (.seq (.region [oM 62 9, oM 63 10, oW 64 (.arith .gtr (.t 62) (.t 63))])
 (.cond (.t 64) (.exit 0) .skip))
 (.seq (.draw [oRM 69 0, oRM 70 10, oR 71 (.indexAddr 1 (.t 69) (.t 70)), oRD 72 71, oRM 73 0, oRM 74 9, oR 75 (.indexAddr 1 (.t 73) (.t 74)), oRD 76 75, oRM 65 0, oRM 66 9, oR 77 (.indexAddr 1 (.t 65) (.t 66)), oS 1 77 72, oRM 67 0, oRM 68 10, ⟨(some 78), .indexAddr 1 (.t 67) (.t 68), none, .read, 1, false⟩, ⟨none, .store 1 (.t 78) (.t 76), none, .write, 1, false⟩])
 (.seq (.region [oM 79 9, oW 80 (.arith .add (.t 79) (oI 1)), oM 9 80])
 (.region [oM 81 10, oW 82 (.arith .sub (.t 81) (oI 1)), oM 10 82]))))

def t304k1 : DCode :=
 (.seq (.block 4 (.loop t304l1))
 t304k0)

def t304l2 : DCode :=
 (.block 1 (.seq (.block 2 (.loop t304l0))
 t304k1))

def t304k2 : DCode :=
 (.seq (.region [oM 83 9, oM 8 83])
 .ret)

/-- slices.partitionEqualOrdered[int] -/
def t304 : DFunc := { ntmps := 84, results := [(.t 8)], mode := .full, body :=
 (.seq (.region [oW 8 (.move (oI 0))])
 (.seq (.draw [oRM 15 0, oRM 16 3, oR 17 (.indexAddr 1 (.t 15) (.t 16)), oRD 18 17, oRM 19 0, oRM 20 1, oR 21 (.indexAddr 1 (.t 19) (.t 20)), oRD 22 21, oRM 11 0, oRM 12 1, oR 23 (.indexAddr 1 (.t 11) (.t 12)), oS 1 23 18, oRM 13 0, oRM 14 3, ⟨(some 24), .indexAddr 1 (.t 13) (.t 14), none, .read, 1, false⟩, ⟨none, .store 1 (.t 24) (.t 22), none, .write, 1, false⟩])
 (.seq (.region [oM 25 1, oW 26 (.arith .add (.t 25) (oI 1)), oM 27 2, oW 28 (.arith .sub (.t 27) (oI 1)), oM 9 26, oM 10 28])
 (.seq (.block 0 (.loop t304l2))
 t304k2)))) }

theorem c304 : compFunc Tryz.prog Tryz.f304 .full = some t304 := by kernel_rfl

def t305l0 : DCode :=
 (.seq (.seq (.draw [oRM 30 10, oRM 31 11, oR 32 (.arith .leq (.t 30) (.t 31)), oRM 33 32, ⟨(some 34), .move (.t 0), (some (33, true)), .read, 0, false⟩, ⟨(some 35), .move (.t 10), (some (33, true)), .read, 0, false⟩, ⟨(some 36), .indexAddr 1 (.t 34) (.t 35), (some (33, true)), .read, 0, false⟩, ⟨(some 37), .load none (.t 36), (some (33, true)), .read, 0, false⟩, ⟨(some 38), .move (.t 0), (some (33, true)), .read, 0, false⟩, ⟨(some 39), .move (.t 1), (some (33, true)), .read, 0, false⟩, ⟨(some 40), .indexAddr 1 (.t 38) (.t 39), (some (33, true)), .read, 0, false⟩, ⟨(some 41), .load none (.t 40), (some (33, true)), .read, 0, false⟩, ⟨(some 42), .call (oF 303) [(.t 37), (.t 41)], (some (33, true)), .write, 0, false⟩, ⟨(some 43), .pick (.t 33) (.t 42) (oB false), none, .read, 1, false⟩])
 (.cond (.t 43) .skip (.exit 0)))
 (.block 1 (.region [oM 44 10, oW 45 (.arith .add (.t 44) (oI 1)), oM 10 45])))

def t305l1 : DCode :=
 (.seq (.seq (.draw [oRM 46 10, oRM 47 11, oR 48 (.arith .leq (.t 46) (.t 47)), oRM 49 48, ⟨(some 50), .move (.t 0), (some (49, true)), .read, 0, false⟩, ⟨(some 51), .move (.t 11), (some (49, true)), .read, 0, false⟩, ⟨(some 52), .indexAddr 1 (.t 50) (.t 51), (some (49, true)), .read, 0, false⟩, ⟨(some 53), .load none (.t 52), (some (49, true)), .read, 0, false⟩, ⟨(some 54), .move (.t 0), (some (49, true)), .read, 0, false⟩, ⟨(some 55), .move (.t 1), (some (49, true)), .read, 0, false⟩, ⟨(some 56), .indexAddr 1 (.t 54) (.t 55), (some (49, true)), .read, 0, false⟩, ⟨(some 57), .load none (.t 56), (some (49, true)), .read, 0, false⟩, ⟨(some 58), .call (oF 303) [(.t 53), (.t 57)], (some (49, true)), .write, 0, false⟩, ⟨(some 59), .un .not (.t 58), (some (49, true)), .read, 1, false⟩, ⟨(some 60), .pick (.t 49) (.t 59) (oB false), none, .read, 1, false⟩])
 (.cond (.t 60) .skip (.exit 2)))
 (.block 3 (.region [oM 61 11, oW 62 (.arith .sub (.t 61) (oI 1)), oM 11 62])))

def t305l2 : DCode :=
 (.seq (.seq (.draw [oRM 99 10, oRM 100 11, oR 101 (.arith .leq (.t 99) (.t 100)), oRM 102 101, ⟨(some 103), .move (.t 0), (some (102, true)), .read, 0, false⟩, ⟨(some 104), .move (.t 10), (some (102, true)), .read, 0, false⟩, ⟨(some 105), .indexAddr 1 (.t 103) (.t 104), (some (102, true)), .read, 0, false⟩, ⟨(some 106), .load none (.t 105), (some (102, true)), .read, 0, false⟩, ⟨(some 107), .move (.t 0), (some (102, true)), .read, 0, false⟩, ⟨(some 108), .move (.t 1), (some (102, true)), .read, 0, false⟩, ⟨(some 109), .indexAddr 1 (.t 107) (.t 108), (some (102, true)), .read, 0, false⟩, ⟨(some 110), .load none (.t 109), (some (102, true)), .read, 0, false⟩, ⟨(some 111), .call (oF 303) [(.t 106), (.t 110)], (some (102, true)), .write, 0, false⟩, ⟨(some 112), .pick (.t 102) (.t 111) (oB false), none, .read, 1, false⟩])
 (.cond (.t 112) .skip (.exit 6)))
 (.block 7 (.region [oM 113 10, oW 114 (.arith .add (.t 113) (oI 1)), oM 10 114])))

def t305l3 : DCode :=
 (.seq (.seq (.draw [oRM 115 10, oRM 116 11, oR 117 (.arith .leq (.t 115) (.t 116)), oRM 118 117, ⟨(some 119), .move (.t 0), (some (118, true)), .read, 0, false⟩, ⟨(some 120), .move (.t 11), (some (118, true)), .read, 0, false⟩, ⟨(some 121), .indexAddr 1 (.t 119) (.t 120), (some (118, true)), .read, 0, false⟩, ⟨(some 122), .load none (.t 121), (some (118, true)), .read, 0, false⟩, ⟨(some 123), .move (.t 0), (some (118, true)), .read, 0, false⟩, ⟨(some 124), .move (.t 1), (some (118, true)), .read, 0, false⟩, ⟨(some 125), .indexAddr 1 (.t 123) (.t 124), (some (118, true)), .read, 0, false⟩, ⟨(some 126), .load none (.t 125), (some (118, true)), .read, 0, false⟩, ⟨(some 127), .call (oF 303) [(.t 122), (.t 126)], (some (118, true)), .write, 0, false⟩, ⟨(some 128), .un .not (.t 127), (some (118, true)), .read, 1, false⟩, ⟨(some 129), .pick (.t 118) (.t 128) (oB false), none, .read, 1, false⟩])
 (.cond (.t 129) .skip (.exit 8)))
 (.block 9 (.region [oM 130 11, oW 131 (.arith .sub (.t 130) (oI 1)), oM 11 131])))

def t305k0 : DCode :=
 (.seq (.seq (.region [oM 132 10, oM 133 11, oW 134 (.arith .gtr (.t 132) (.t 133))])
 (.cond (.t 134) (.exit 4) .skip))
 (.seq (.draw [oRM 139 0, oRM 140 11, oR 141 (.indexAddr 1 (.t 139) (.t 140)), oRD 142 141, oRM 143 0, oRM 144 10, oR 145 (.indexAddr 1 (.t 143) (.t 144)), oRD 146 145, oRM 135 0, oRM 136 10, oR 147 (.indexAddr 1 (.t 135) (.t 136)), oS 1 147 142, oRM 137 0, oRM 138 11, ⟨(some 148), .indexAddr 1 (.t 137) (.t 138), none, .read, 1, false⟩, ⟨none, .store 1 (.t 148) (.t 146), none, .write, 1, false⟩])
 (.seq (.region [oM 149 10, oW 150 (.arith .add (.t 149) (oI 1)), oM 10 150])
 (.region [oM 151 11, oW 152 (.arith .sub (.t 151) (oI 1)), oM 11 152]))))

def t305k1 : DCode :=
 (.seq (.block 8 (.loop t305l3))
 t305k0)

def t305l4 : DCode :=
 (.block 5 (.seq (.block 6 (.loop t305l2))
 t305k1))

def t305k2 : DCode :=
 (.seq (.draw [oRM 157 0, oRM 158 1, oR 159 (.indexAddr 1 (.t 157) (.t 158)), oRD 160 159, oRM 161 0, oRM 162 11, oR 163 (.indexAddr 1 (.t 161) (.t 162)), oRD 164 163, oRM 153 0, oRM 154 11, oR 165 (.indexAddr 1 (.t 153) (.t 154)), oS 1 165 160, oRM 155 0, oRM 156 1, ⟨(some 166), .indexAddr 1 (.t 155) (.t 156), none, .read, 1, false⟩, ⟨none, .store 1 (.t 166) (.t 164), none, .write, 1, false⟩])
 (.seq (.region [oM 167 11, oM 8 167, oW 9 (.move (oB false))])
 .ret))

def t305k3 : DCode :=
 (.seq (.seq (.region [oM 63 10, oM 64 11, oW 65 (.arith .gtr (.t 63) (.t 64))])
 (.cond (.t 65) (.seq (.draw [oRM 70 0, oRM 71 1, oR 72 (.indexAddr 1 (.t 70) (.t 71)), oRD 73 72, oRM 74 0, oRM 75 11, oR 76 (.indexAddr 1 (.t 74) (.t 75)), oRD 77 76, oRM 66 0, oRM 67 11, oR 78 (.indexAddr 1 (.t 66) (.t 67)), oS 1 78 73, oRM 68 0, oRM 69 1, ⟨(some 79), .indexAddr 1 (.t 68) (.t 69), none, .read, 1, false⟩, ⟨none, .store 1 (.t 79) (.t 77), none, .write, 1, false⟩])
 (.seq (.region [oM 80 11, oM 8 80, oW 9 (.move (oB true))])
 .ret)) .skip))
 (.seq (.draw [oRM 85 0, oRM 86 11, oR 87 (.indexAddr 1 (.t 85) (.t 86)), oRD 88 87, oRM 89 0, oRM 90 10, oR 91 (.indexAddr 1 (.t 89) (.t 90)), oRD 92 91, oRM 81 0, oRM 82 10, oR 93 (.indexAddr 1 (.t 81) (.t 82)), oS 1 93 88, oRM 83 0, oRM 84 11, ⟨(some 94), .indexAddr 1 (.t 83) (.t 84), none, .read, 1, false⟩, ⟨none, .store 1 (.t 94) (.t 92), none, .write, 1, false⟩])
 (.seq (.region [oM 95 10, oW 96 (.arith .add (.t 95) (oI 1)), oM 10 96])
 (.seq (.region [oM 97 11, oW 98 (.arith .sub (.t 97) (oI 1)), oM 11 98])
 (.seq (.block 4 (.loop t305l4))
 t305k2)))))

def t305k4 : DCode :=
 (.seq (.block 2 (.loop t305l1))
 t305k3)

/-- slices.partitionOrdered[int] -/
def t305 : DFunc := { ntmps := 168, results := [(.t 8), (.t 9)], mode := .full, body :=
 (.seq (.region [oW 8 (.move (oI 0)), oW 9 (.move (oB false))])
 (.seq (.draw [oRM 16 0, oRM 17 3, oR 18 (.indexAddr 1 (.t 16) (.t 17)), oRD 19 18, oRM 20 0, oRM 21 1, oR 22 (.indexAddr 1 (.t 20) (.t 21)), oRD 23 22, oRM 12 0, oRM 13 1, oR 24 (.indexAddr 1 (.t 12) (.t 13)), oS 1 24 19, oRM 14 0, oRM 15 3, ⟨(some 25), .indexAddr 1 (.t 14) (.t 15), none, .read, 1, false⟩, ⟨none, .store 1 (.t 25) (.t 23), none, .write, 1, false⟩])
 (.seq (.region [oM 26 1, oW 27 (.arith .add (.t 26) (oI 1)), oM 28 2, oW 29 (.arith .sub (.t 28) (oI 1)), oM 10 27, oM 11 29])
 (.seq (.block 0 (.loop t305l0))
 t305k4)))) }

theorem c305 : compFunc Tryz.prog Tryz.f305 .full = some t305 := by kernel_rfl

/-- broadside/pred.Holds -/
def t318 : DFunc := { ntmps := 48, results := [(.t 4)], mode := .full, body :=
 (.seq (.region [oW 2 (.box 119 5 (.t 0)), oW 3 (.box 174 3 (.t 1)), oW 4 (.move (oB false))])
 (.seq (.seq (.region [oA 5 1 2, oD 6 5])
 (.block 0 (.seq (.region [oW 8 (.arith .eql (.t 6) (oI 1)), oM 7 8])
 (.cond (.t 7) (.seq (.region [oA 9 0 3, oD 10 9, oW 11 (.un .not (.t 10)), oM 12 11, ⟨(some 13), .fieldAddr 2 (.t 2), (some (12, true)), .write, 0, false⟩, ⟨(some 14), .load none (.t 13), (some (12, true)), .write, 0, false⟩, ⟨(some 15), .fieldAddr 1 (.t 3), (some (12, true)), .write, 0, false⟩, ⟨(some 16), .load none (.t 15), (some (12, true)), .write, 0, false⟩, ⟨(some 17), .arith .leq (.t 14) (.t 16), (some (12, true)), .write, 0, false⟩, oW 18 (.pick (.t 12) (.t 17) (oB false)), oM 19 18, ⟨(some 20), .fieldAddr 1 (.t 3), (some (19, true)), .write, 0, false⟩, ⟨(some 21), .load none (.t 20), (some (19, true)), .write, 0, false⟩, ⟨(some 22), .fieldAddr 3 (.t 2), (some (19, true)), .write, 0, false⟩, ⟨(some 23), .load none (.t 22), (some (19, true)), .write, 0, false⟩, ⟨(some 24), .arith .leq (.t 21) (.t 23), (some (19, true)), .write, 0, false⟩, oW 25 (.pick (.t 19) (.t 24) (oB false)), oM 4 25])
 .ret) (.seq (.region [oW 27 (.arith .eql (.t 6) (oI 2)), oM 26 27])
 (.cond (.t 26) (.seq (.region [oA 28 0 3, oD 29 28, oM 30 29, ⟨(some 31), .fieldAddr 2 (.t 3), (some (30, true)), .write, 0, false⟩, ⟨(some 32), .load none (.t 31), (some (30, true)), .write, 0, false⟩, ⟨(some 33), .fieldAddr 4 (.t 2), (some (30, true)), .write, 0, false⟩, ⟨(some 34), .load none (.t 33), (some (30, true)), .write, 0, false⟩, ⟨(some 35), .arith .eql (.t 32) (.t 34), (some (30, true)), .write, 0, false⟩, oW 36 (.pick (.t 30) (.t 35) (oB false)), oM 4 36])
 .ret) (.seq (.region [oW 38 (.arith .eql (.t 6) (oI 3)), oM 37 38])
 (.cond (.t 37) (.seq (.region [oA 39 0 3, oD 40 39, oM 41 40, ⟨(some 42), .fieldAddr 2 (.t 3), (some (41, true)), .write, 0, false⟩, ⟨(some 43), .load none (.t 42), (some (41, true)), .write, 0, false⟩, ⟨(some 44), .fieldAddr 4 (.t 2), (some (41, true)), .write, 0, false⟩, ⟨(some 45), .load none (.t 44), (some (41, true)), .write, 0, false⟩, ⟨(some 46), .call (oF 320) [(.t 43), (.t 45)], (some (41, true)), .write, 0, false⟩, oW 47 (.pick (.t 41) (.t 46) (oB false)), oM 4 47])
 .ret) .skip))))))))
 (.seq (.region [oW 4 (.move (oB false))])
 .ret))) }

theorem c318 : compFunc Tryz.prog Tryz.f318 .full = some t318 := by kernel_rfl

/-- strings.HasPrefix -/
def t320 : DFunc := { ntmps := 8, results := [(.t 4)], mode := .full, body :=
 (.seq (.region [oW 4 (.move (oB false))])
 (.seq (.region [oM 5 0, oM 6 1, oW 7 (.call (oF 353) [(.t 5), (.t 6)]), oM 4 7])
 .ret)) }

theorem c320 : compFunc Tryz.prog Tryz.f320 .full = some t320 := by kernel_rfl

/-- broadside/value.Text -/
def t321 : DFunc := { ntmps := 5, results := [(.cell 2 (some 3))], mode := .full, body :=
 (.seq (.region [oW 2 (.alloc 174 3 (.agg [(.bool false), (.int .i64 0), (.str [])]))])
 (.seq (.region [oM 3 0, oW 4 (.build [(.bool false), (.int .i64 0), (.str [])] [(0, 1, (oB true)), (2, 1, (.t 3))]), oS 3 2 4])
 .ret)) }

theorem c321 : compFunc Tryz.prog Tryz.f321 .full = some t321 := by kernel_rfl

def t332l0 : DCode :=
 (.block 1 (.seq (.region [oM 13 10, oW 14 (.arith .mul (oI 2) (.t 13)), oW 15 (.arith .add (.t 14) (oI 1)), oM 11 15])
 (.seq (.seq (.region [oM 16 11, oM 17 2, oW 18 (.arith .geq (.t 16) (.t 17))])
 (.cond (.t 18) (.exit 0) .skip))
 (.seq (.seq (.draw [oRM 19 11, oR 20 (.arith .add (.t 19) (oI 1)), oRM 21 2, oR 22 (.arith .lss (.t 20) (.t 21)), oRM 23 22, ⟨(some 25), .move (.t 0), (some (23, true)), .read, 0, false⟩, ⟨(some 26), .move (.t 3), (some (23, true)), .read, 0, false⟩, ⟨(some 27), .move (.t 11), (some (23, true)), .read, 0, false⟩, ⟨(some 28), .arith .add (.t 26) (.t 27), (some (23, true)), .read, 0, false⟩, ⟨(some 29), .indexAddr 2 (.t 25) (.t 28), (some (23, true)), .read, 0, false⟩, ⟨(some 30), .load (some 2) (.t 29), (some (23, true)), .read, 0, false⟩, ⟨(some 31), .move (.t 0), (some (23, true)), .read, 0, false⟩, ⟨(some 32), .move (.t 3), (some (23, true)), .read, 0, false⟩, ⟨(some 33), .move (.t 11), (some (23, true)), .read, 0, false⟩, ⟨(some 34), .arith .add (.t 32) (.t 33), (some (23, true)), .read, 0, false⟩, ⟨(some 35), .arith .add (.t 34) (oI 1), (some (23, true)), .read, 0, false⟩, ⟨(some 36), .indexAddr 2 (.t 31) (.t 35), (some (23, true)), .read, 0, false⟩, ⟨(some 37), .load (some 2) (.t 36), (some (23, true)), .read, 0, false⟩, ⟨(some 24), .move (.t 4), (some (23, true)), .read, 0, false⟩, ⟨(some 38), .call (.t 24) [(.t 30), (.t 37)], (some (23, true)), .write, 0, false⟩, ⟨(some 39), .arith .lss (.t 38) (oI 0), (some (23, true)), .read, 1, false⟩, ⟨(some 40), .pick (.t 23) (.t 39) (oB false), none, .read, 1, false⟩])
 (.cond (.t 40) (.region [oM 41 11, oW 42 (.arith .add (.t 41) (oI 1)), oM 11 42]) .skip))
 (.seq (.seq (.draw [oRM 44 0, oRM 45 3, oRM 46 10, oR 47 (.arith .add (.t 45) (.t 46)), oR 48 (.indexAddr 2 (.t 44) (.t 47)), oRL 49 2 48, oRM 50 0, oRM 51 3, oRM 52 11, oR 53 (.arith .add (.t 51) (.t 52)), oR 54 (.indexAddr 2 (.t 50) (.t 53)), oRL 55 2 54, oRM 43 4, oW 56 (.call (.t 43) [(.t 49), (.t 55)]), ⟨(some 57), .arith .lss (.t 56) (oI 0), none, .read, 1, false⟩, ⟨(some 58), .un .not (.t 57), none, .read, 1, false⟩])
 (.cond (.t 58) .ret .skip))
 (.seq (.draw [oRM 67 0, oRM 68 3, oRM 69 11, oR 70 (.arith .add (.t 68) (.t 69)), oR 71 (.indexAddr 2 (.t 67) (.t 70)), oRL 72 2 71, oRM 73 0, oRM 74 3, oRM 75 10, oR 76 (.arith .add (.t 74) (.t 75)), oR 77 (.indexAddr 2 (.t 73) (.t 76)), oRL 78 2 77, oRM 59 0, oRM 60 3, oRM 61 10, oR 62 (.arith .add (.t 60) (.t 61)), oR 79 (.indexAddr 2 (.t 59) (.t 62)), oS 2 79 72, oRM 63 0, oRM 64 3, oRM 65 11, oR 66 (.arith .add (.t 64) (.t 65)), ⟨(some 80), .indexAddr 2 (.t 63) (.t 66), none, .read, 1, false⟩, ⟨none, .store 2 (.t 80) (.t 78), none, .write, 1, false⟩])
 (.region [oM 81 11, oM 10 81])))))))

/-- slices.siftDownCmpFunc[[2]int] -/
def t332 : DFunc := { ntmps := 82, results := [], mode := .full, body :=
 (.seq (.region [oM 12 1, oM 10 12])
 (.block 0 (.loop t332l0))) }

theorem c332 : compFunc Tryz.prog Tryz.f332 .full = some t332 := by kernel_rfl

end Go.Dm.Tr5
