/-
The table of functions, brought into the machine's form (Tr7, part 3). Written by program (wip/tools/table3.lean.txt).
-/
import Derived.Test.YtloabemenciijaaGreatDoorMm4
import Derived.Test.YtloabemenciijaaGreatDoorRows
import Derived.KernelRfl
namespace Go.Dm.Tr7
open Go.Proofs

def t237l0 : DCode :=
 (.seq (.region [oW 7 (.arith .lss (.t 6) (.t 5))])
 (.seq (.cond (.t 7) .skip (.exit 0))
 (.seq (.block 1 (.seq (.region [oM 8 6, oM 3 8])
 (.seq (.region [oM 9 0, oM 10 3, oW 11 (.indexStr (.t 9) (.t 10)), oW 12 (.arith .lss (.t 11) (.c (.int .u8 97))), oM 13 12, ⟨(some 14), .move (.t 0), (some (13, false)), .write, 0, false⟩, ⟨(some 15), .move (.t 3), (some (13, false)), .write, 0, false⟩, ⟨(some 16), .indexStr (.t 14) (.t 15), (some (13, false)), .write, 0, false⟩, ⟨(some 17), .arith .gtr (.t 16) (.c (.int .u8 122)), (some (13, false)), .write, 0, false⟩, oW 18 (.pick (.t 13) (oB true) (.t 17))])
 (.cond (.t 18) (.seq (.region [oW 2 (.move (oB false))])
 .ret) .skip))))
 (.region [oW 19 (.arith .add (.t 6) (oI 1)), oM 6 19]))))

def t237k0 : DCode :=
 (.seq (.region [oM 20 0, oW 21 (.arith .neq (.t 20) (.c (.str []))), oM 22 21, ⟨(some 23), .move (.t 0), (some (22, true)), .write, 0, false⟩, ⟨(some 24), .len 0 (.t 23), (some (22, true)), .write, 0, false⟩, ⟨(some 25), .arith .leq (.t 24) (oI 12), (some (22, true)), .write, 0, false⟩, oW 26 (.pick (.t 22) (.t 25) (oB false)), oM 2 26])
 .ret)

/-- broadside/tuple.Name -/
def t237 : DFunc := { ntmps := 27, results := [(.t 2)], mode := .full, body :=
 (.seq (.region [oW 2 (.move (oB false))])
 (.seq (.seq (.region [oM 4 0, oW 5 (.len 0 (.t 4)), oW 6 (.move (oI 0))])
 (.block 0 (.loop t237l0)))
 t237k0)) }

theorem c237 : compFunc Tryz.prog Tryz.f237 .full = some t237 := by kernel_rfl

/-- broadside/value.Right -/
def t238 : DFunc := { ntmps := 17, results := [(.t 2)], mode := .full, body :=
 (.seq (.region [oW 1 (.box 174 3 (.t 0)), oW 2 (.move (oB false))])
 (.seq (.seq (.region [oA 3 0 1, oD 4 3])
 (.cond (.t 4) (.seq (.region [oA 5 1 1, oD 6 5, oW 7 (.arith .eql (.t 6) (oI 0)), oM 8 7, ⟨(some 9), .fieldAddr 2 (.t 1), (some (8, true)), .write, 0, false⟩, ⟨(some 10), .load none (.t 9), (some (8, true)), .write, 0, false⟩, ⟨(some 11), .len 0 (.t 10), (some (8, true)), .write, 0, false⟩, ⟨(some 12), .arith .leq (.t 11) (oI 12), (some (8, true)), .write, 0, false⟩, oW 13 (.pick (.t 8) (.t 12) (oB false)), oM 2 13])
 .ret) .skip))
 (.seq (.region [oA 14 2 1, oD 15 14, oW 16 (.arith .eql (.t 15) (.c (.str []))), oM 2 16])
 .ret))) }

theorem c238 : compFunc Tryz.prog Tryz.f238 .full = some t238 := by kernel_rfl

def t239l0 : DCode :=
 (.seq (.seq (.region [oM 13 6, oW 14 (.arith .geq (.t 13) (oI 0))])
 (.cond (.t 14) .skip (.exit 2)))
 (.seq (.block 3 (.region [oM 17 3, oM 18 5, oM 19 6, oW 20 (.arith .mul (oI 8) (.t 19)), oW 21 (.arith .shr (.t 18) (.t 20)), oW 22 (.conv .u8 (.t 21)), oW 23 (.buildSlice 5 1 (.int .u8 0) 1 [(0, (.t 22))]), oW 24 (.append 5 1 1 (.t 17) (.t 23)), oM 3 24]))
 (.region [oM 15 6, oW 16 (.arith .sub (.t 15) (oI 1)), oM 6 16])))

def t239k0 : DCode :=
 (.region [oW 25 (.arith .add (.t 9) (oI 1)), oM 9 25])

def t239l1 : DCode :=
 (.seq (.region [oW 10 (.arith .lss (.t 9) (.t 8))])
 (.seq (.cond (.t 10) .skip (.exit 0))
 (.seq (.block 1 (.seq (.region [oW 11 (.indexAddr 1 (.t 7) (.t 9)), oD 12 11, oM 5 12])
 (.seq (.region [oW 6 (.move (oI 7))])
 (.block 2 (.loop t239l0)))))
 t239k0)))

def t239k1 : DCode :=
 (.seq (.region [oM 26 3, oM 2 26])
 .ret)

/-- broadside/num.Number -/
def t239 : DFunc := { ntmps := 27, results := [(.t 2)], mode := .full, body :=
 (.seq (.region [oW 2 (.move (.c .nsl))])
 (.seq (.region [oW 3 (.move (.c .nsl))])
 (.seq (.seq (.region [oM 7 0, oW 8 (.len 1 (.t 7)), oW 9 (.move (oI 0))])
 (.block 0 (.loop t239l1)))
 t239k1))) }

theorem c239 : compFunc Tryz.prog Tryz.f239 .full = some t239 := by kernel_rfl

/-- broadside/num.Text -/
def t240 : DFunc := { ntmps := 12, results := [(.t 2)], mode := .full, body :=
 (.seq (.region [oW 2 (.move (.c .nsl))])
 (.seq (.seq (.region [oM 3 0, oW 4 (.len 0 (.t 3)), oW 5 (.arith .gtr (.t 4) (oI 255))])
 (.cond (.t 5) (.seq (.region [oW 2 (.move (.c .nsl))])
 .ret) .skip))
 (.seq (.region [oM 6 0, oW 7 (.len 0 (.t 6)), oW 8 (.conv .u8 (.t 7)), oW 9 (.buildSlice 5 1 (.int .u8 0) 1 [(0, (.t 8))]), oM 10 0, oW 11 (.appendS 5 1 1 (.t 9) (.t 10)), oM 2 11])
 .ret))) }

theorem c240 : compFunc Tryz.prog Tryz.f240 .full = some t240 := by kernel_rfl

def t244l0 : DCode :=
 (.block 1 (.seq (.region [oM 19 2, oM 20 1, oW 21 (.arith .sub (.t 19) (.t 20)), oM 10 21])
 (.seq (.seq (.region [oM 22 10, oW 23 (.arith .leq (.t 22) (oI 12))])
 (.cond (.t 23) (.seq (.region [oM 24 0, oM 25 1, oM 26 2, oW 27 (.call (oF 297) [(.t 24), (.t 25), (.t 26)])])
 .ret) .skip))
 (.seq (.seq (.region [oM 28 3, oW 29 (.arith .eql (.t 28) (oI 0))])
 (.cond (.t 29) (.seq (.region [oM 30 0, oM 31 1, oM 32 2, oW 33 (.call (oF 298) [(.t 30), (.t 31), (.t 32)])])
 .ret) .skip))
 (.seq (.seq (.region [oM 34 8, oW 35 (.un .not (.t 34))])
 (.cond (.t 35) (.seq (.region [oM 36 0, oM 37 1, oM 38 2, oW 39 (.call (oF 299) [(.t 36), (.t 37), (.t 38)])])
 (.region [oM 40 3, oW 41 (.arith .sub (.t 40) (oI 1)), oM 3 41])) .skip))
 (.seq (.region [oM 43 0, oM 44 1, oM 45 2, oW 46 (.call (oF 300) [(.t 43), (.t 44), (.t 45)]), oM 42 46, oX 47 42 0, oX 48 42 1, oM 11 47, oM 12 48])
 (.seq (.seq (.region [oM 49 12, oW 50 (.arith .eql (.t 49) (oI 2))])
 (.cond (.t 50) (.seq (.region [oM 51 0, oM 52 1, oM 53 2, oW 54 (.call (oF 301) [(.t 51), (.t 52), (.t 53)])])
 (.seq (.region [oM 55 2, oW 56 (.arith .sub (.t 55) (oI 1)), oM 57 11, oM 58 1, oW 59 (.arith .sub (.t 57) (.t 58)), oW 60 (.arith .sub (.t 56) (.t 59)), oM 11 60])
 (.region [oW 12 (.move (oI 1))]))) .skip))
 (.seq (.seq (.region [oM 61 8, oM 62 61, ⟨(some 63), .move (.t 9), (some (62, true)), .write, 0, false⟩, oW 64 (.pick (.t 62) (.t 63) (oB false)), oM 65 64, ⟨(some 66), .move (.t 12), (some (65, true)), .write, 0, false⟩, ⟨(some 67), .arith .eql (.t 66) (oI 1), (some (65, true)), .write, 0, false⟩, oW 68 (.pick (.t 65) (.t 67) (oB false))])
 (.cond (.t 68) (.seq (.region [oM 69 0, oM 70 1, oM 71 2, oW 72 (.call (oF 302) [(.t 69), (.t 70), (.t 71)])])
 (.cond (.t 72) .ret .skip)) .skip))
 (.seq (.seq (.draw [oRM 73 1, oR 74 (.arith .gtr (.t 73) (oI 0)), oRM 75 74, ⟨(some 76), .move (.t 0), (some (75, true)), .read, 0, false⟩, ⟨(some 77), .move (.t 1), (some (75, true)), .read, 0, false⟩, ⟨(some 78), .arith .sub (.t 77) (oI 1), (some (75, true)), .read, 0, false⟩, ⟨(some 79), .indexAddr 1 (.t 76) (.t 78), (some (75, true)), .read, 0, false⟩, ⟨(some 80), .load none (.t 79), (some (75, true)), .read, 0, false⟩, ⟨(some 81), .move (.t 0), (some (75, true)), .read, 0, false⟩, ⟨(some 82), .move (.t 11), (some (75, true)), .read, 0, false⟩, ⟨(some 83), .indexAddr 1 (.t 81) (.t 82), (some (75, true)), .read, 0, false⟩, ⟨(some 84), .load none (.t 83), (some (75, true)), .read, 0, false⟩, ⟨(some 85), .call (oF 303) [(.t 80), (.t 84)], (some (75, true)), .write, 0, false⟩, ⟨(some 86), .un .not (.t 85), (some (75, true)), .read, 1, false⟩, ⟨(some 87), .pick (.t 75) (.t 86) (oB false), none, .read, 1, false⟩])
 (.cond (.t 87) (.seq (.region [oM 88 0, oM 89 1, oM 90 2, oM 91 11, oW 92 (.call (oF 304) [(.t 88), (.t 89), (.t 90), (.t 91)]), oM 13 92])
 (.seq (.region [oM 93 13, oM 1 93])
 (.exit 1))) .skip))
 (.seq (.region [oM 95 0, oM 96 1, oM 97 2, oM 98 11, oW 99 (.call (oF 305) [(.t 95), (.t 96), (.t 97), (.t 98)]), oM 94 99, oX 100 94 0, oX 101 94 1, oM 14 100, oM 15 101])
 (.seq (.region [oM 102 15, oM 9 102])
 (.seq (.region [oM 103 14, oM 104 1, oW 105 (.arith .sub (.t 103) (.t 104)), oM 106 2, oM 107 14, oW 108 (.arith .sub (.t 106) (.t 107)), oM 16 105, oM 17 108])
 (.seq (.region [oM 109 10, oW 110 (.arith .quo (.t 109) (oI 8)), oM 18 110])
 (.seq (.region [oM 111 16, oM 112 17, oW 113 (.arith .lss (.t 111) (.t 112))])
 (.cond (.t 113) (.seq (.region [oM 114 16, oM 115 18, oW 116 (.arith .geq (.t 114) (.t 115)), oM 8 116])
 (.seq (.region [oM 117 0, oM 118 1, oM 119 14, oM 120 3, oW 121 (.call (oF 244) [(.t 117), (.t 118), (.t 119), (.t 120)])])
 (.region [oM 122 14, oW 123 (.arith .add (.t 122) (oI 1)), oM 1 123]))) (.seq (.region [oM 124 17, oM 125 18, oW 126 (.arith .geq (.t 124) (.t 125)), oM 8 126])
 (.seq (.region [oM 127 0, oM 128 14, oW 129 (.arith .add (.t 128) (oI 1)), oM 130 2, oM 131 3, oW 132 (.call (oF 244) [(.t 127), (.t 129), (.t 130), (.t 131)])])
 (.region [oM 133 14, oM 2 133]))))))))))))))))))

/-- slices.pdqsortOrdered[int] -/
def t244 : DFunc := { ntmps := 134, results := [], mode := .full, body :=
 (.seq (.region [oW 8 (.move (oB true))])
 (.seq (.region [oW 9 (.move (oB true))])
 (.block 0 (.loop t244l0)))) }

theorem c244 : compFunc Tryz.prog Tryz.f244 .full = some t244 := by kernel_rfl

/-- broadside/adverts.copied -/
def t245 : DFunc := { ntmps := 24, results := [(.cell 2 (some 6))], mode := .full, body :=
 (.seq (.region [oW 1 (.box 37 6 (.t 0)), oW 2 (.alloc 37 6 (.agg [(.int .i64 0), .nsl, .nsl, .nsl, .nsl, .nsl]))])
 (.seq (.draw [oRA 3 1 1, oRD 4 3, ⟨(some 5), .call (oF 148) [(.t 4)], none, .create, 0, false⟩, oRA 6 2 1, oRD 7 6, ⟨(some 8), .call (oF 149) [(.t 7)], none, .create, 0, false⟩, oRA 9 3 1, oRD 10 9, ⟨(some 11), .call (oF 150) [(.t 10)], none, .create, 0, false⟩, oRA 12 4 1, oRD 13 12, ⟨(some 14), .call (oF 151) [(.t 13)], none, .create, 0, false⟩, oRA 15 5 1, oRD 16 15, ⟨(some 17), .call (oF 152) [(.t 16)], none, .write, 4, false⟩, ⟨(some 18), .fieldAddr 1 (.t 1), none, .read, 1, false⟩, ⟨none, .store 1 (.t 18) (.t 5), none, .write, 5, false⟩, ⟨(some 19), .fieldAddr 2 (.t 1), none, .read, 6, false⟩, ⟨none, .store 1 (.t 19) (.t 8), none, .write, 6, false⟩, ⟨(some 20), .fieldAddr 3 (.t 1), none, .read, 7, false⟩, ⟨none, .store 1 (.t 20) (.t 11), none, .write, 7, false⟩, ⟨(some 21), .fieldAddr 4 (.t 1), none, .read, 8, false⟩, ⟨none, .store 1 (.t 21) (.t 14), none, .write, 8, false⟩, ⟨(some 22), .fieldAddr 5 (.t 1), none, .read, 9, false⟩, ⟨none, .store 1 (.t 22) (.t 17), none, .write, 9, false⟩])
 (.seq (.region [oL 23 6 1, oS 6 2 23])
 .ret))) }

theorem c245 : compFunc Tryz.prog Tryz.f245 .full = some t245 := by kernel_rfl

/-- slices.Insert[[]broadside/api.Advert,broadside/api.Advert] -/
def t246 : DFunc := { ntmps := 95, results := [(.t 6)], mode := .split, body :=
 (.seq (.region [oW 6 (.move (.c .nsl))])
 (.seq (.region [oM 10 0, oM 11 1, oW 12 (.sliceSl 4 (.t 10) (some (.t 11)) none)])
 (.seq (.region [oM 13 2, oW 14 (.len 1 (.t 13)), oM 7 14])
 (.seq (.seq (.region [oM 15 7, oW 16 (.arith .eql (.t 15) (oI 0))])
 (.cond (.t 16) (.seq (.region [oM 17 0, oM 6 17])
 .ret) .skip))
 (.seq (.region [oM 18 0, oW 19 (.len 1 (.t 18)), oM 8 19])
 (.seq (.seq (.region [oM 20 1, oM 21 8, oW 22 (.arith .eql (.t 20) (.t 21))])
 (.cond (.t 22) (.seq (.region [oM 23 0, oM 24 2, oW 25 (.append 86 4 48 (.t 23) (.t 24)), oM 6 25])
 .ret) .skip))
 (.seq (.seq (.region [oM 26 8, oM 27 7, oW 28 (.arith .add (.t 26) (.t 27)), oM 29 0, oW 30 (.cap (.t 29)), oW 31 (.arith .gtr (.t 28) (.t 30))])
 (.cond (.t 31) (.seq (.region [oM 32 0, oM 33 1, oW 34 (.sliceSl 4 (.t 32) none (some (.t 33))), oM 35 8, oM 36 7, oW 37 (.arith .add (.t 35) (.t 36)), oM 38 1, oW 39 (.arith .sub (.t 37) (.t 38)), oW 40 (.appendZ 86 4 48 (.agg [(.int .i64 0), (.int .i64 0), .nsl, (.int .i64 0)]) (.t 34) (.t 39)), oM 9 40])
 (.seq (.region [oM 41 9, oM 42 1, oW 43 (.sliceSl 4 (.t 41) (some (.t 42)) none), oM 44 2, oW 45 (.copy 4 (.t 43) (.t 44))])
 (.seq (.draw [oRM 46 9, oRM 47 1, oRM 48 7, oR 49 (.arith .add (.t 47) (.t 48)), oR 50 (.sliceSl 4 (.t 46) (some (.t 49)) none), oRM 51 0, oRM 52 1, oR 53 (.sliceSl 4 (.t 51) (some (.t 52)) none), oW 54 (.copy 4 (.t 50) (.t 53))])
 (.seq (.region [oM 55 9, oM 6 55])
 .ret)))) .skip))
 (.seq (.region [oM 56 0, oM 57 8, oM 58 7, oW 59 (.arith .add (.t 57) (.t 58)), oW 60 (.sliceSl 4 (.t 56) none (some (.t 59))), oM 0 60])
 (.seq (.seq (.region [oM 61 2, oM 62 0, oM 63 1, oM 64 7, oW 65 (.arith .add (.t 63) (.t 64)), oW 66 (.sliceSl 4 (.t 62) (some (.t 65)) none), oW 67 (.call (oF 306) [(.t 61), (.t 66)]), oW 68 (.un .not (.t 67))])
 (.cond (.t 68) (.seq (.draw [oRM 69 0, oRM 70 1, oRM 71 7, oR 72 (.arith .add (.t 70) (.t 71)), oR 73 (.sliceSl 4 (.t 69) (some (.t 72)) none), oRM 74 0, oRM 75 1, oR 76 (.sliceSl 4 (.t 74) (some (.t 75)) none), oW 77 (.copy 4 (.t 73) (.t 76))])
 (.seq (.region [oM 78 0, oM 79 1, oW 80 (.sliceSl 4 (.t 78) (some (.t 79)) none), oM 81 2, oW 82 (.copy 4 (.t 80) (.t 81))])
 (.seq (.region [oM 83 0, oM 6 83])
 .ret))) .skip))
 (.seq (.region [oM 84 0, oM 85 8, oW 86 (.sliceSl 4 (.t 84) (some (.t 85)) none), oM 87 2, oW 88 (.copy 4 (.t 86) (.t 87))])
 (.seq (.region [oM 89 0, oM 90 1, oW 91 (.sliceSl 4 (.t 89) (some (.t 90)) none), oM 92 7, oW 93 (.call (oF 307) [(.t 91), (.t 92)])])
 (.seq (.region [oM 94 0, oM 6 94])
 .ret)))))))))))) }

theorem c246 : compFunc Tryz.prog Tryz.f246 .split = some t246 := by kernel_rfl

/-- slices.Insert[[]broadside/api.ID,broadside/api.ID] -/
def t247 : DFunc := { ntmps := 95, results := [(.t 6)], mode := .split, body :=
 (.seq (.region [oW 6 (.move (.c .nsl))])
 (.seq (.region [oM 10 0, oM 11 1, oW 12 (.sliceSl 2 (.t 10) (some (.t 11)) none)])
 (.seq (.region [oM 13 2, oW 14 (.len 1 (.t 13)), oM 7 14])
 (.seq (.seq (.region [oM 15 7, oW 16 (.arith .eql (.t 15) (oI 0))])
 (.cond (.t 16) (.seq (.region [oM 17 0, oM 6 17])
 .ret) .skip))
 (.seq (.region [oM 18 0, oW 19 (.len 1 (.t 18)), oM 8 19])
 (.seq (.seq (.region [oM 20 1, oM 21 8, oW 22 (.arith .eql (.t 20) (.t 21))])
 (.cond (.t 22) (.seq (.region [oM 23 0, oM 24 2, oW 25 (.append 45 2 16 (.t 23) (.t 24)), oM 6 25])
 .ret) .skip))
 (.seq (.seq (.region [oM 26 8, oM 27 7, oW 28 (.arith .add (.t 26) (.t 27)), oM 29 0, oW 30 (.cap (.t 29)), oW 31 (.arith .gtr (.t 28) (.t 30))])
 (.cond (.t 31) (.seq (.region [oM 32 0, oM 33 1, oW 34 (.sliceSl 2 (.t 32) none (some (.t 33))), oM 35 8, oM 36 7, oW 37 (.arith .add (.t 35) (.t 36)), oM 38 1, oW 39 (.arith .sub (.t 37) (.t 38)), oW 40 (.appendZ 45 2 16 (.agg [(.int .i64 0), (.int .i64 0)]) (.t 34) (.t 39)), oM 9 40])
 (.seq (.region [oM 41 9, oM 42 1, oW 43 (.sliceSl 2 (.t 41) (some (.t 42)) none), oM 44 2, oW 45 (.copy 2 (.t 43) (.t 44))])
 (.seq (.draw [oRM 46 9, oRM 47 1, oRM 48 7, oR 49 (.arith .add (.t 47) (.t 48)), oR 50 (.sliceSl 2 (.t 46) (some (.t 49)) none), oRM 51 0, oRM 52 1, oR 53 (.sliceSl 2 (.t 51) (some (.t 52)) none), oW 54 (.copy 2 (.t 50) (.t 53))])
 (.seq (.region [oM 55 9, oM 6 55])
 .ret)))) .skip))
 (.seq (.region [oM 56 0, oM 57 8, oM 58 7, oW 59 (.arith .add (.t 57) (.t 58)), oW 60 (.sliceSl 2 (.t 56) none (some (.t 59))), oM 0 60])
 (.seq (.seq (.region [oM 61 2, oM 62 0, oM 63 1, oM 64 7, oW 65 (.arith .add (.t 63) (.t 64)), oW 66 (.sliceSl 2 (.t 62) (some (.t 65)) none), oW 67 (.call (oF 308) [(.t 61), (.t 66)]), oW 68 (.un .not (.t 67))])
 (.cond (.t 68) (.seq (.draw [oRM 69 0, oRM 70 1, oRM 71 7, oR 72 (.arith .add (.t 70) (.t 71)), oR 73 (.sliceSl 2 (.t 69) (some (.t 72)) none), oRM 74 0, oRM 75 1, oR 76 (.sliceSl 2 (.t 74) (some (.t 75)) none), oW 77 (.copy 2 (.t 73) (.t 76))])
 (.seq (.region [oM 78 0, oM 79 1, oW 80 (.sliceSl 2 (.t 78) (some (.t 79)) none), oM 81 2, oW 82 (.copy 2 (.t 80) (.t 81))])
 (.seq (.region [oM 83 0, oM 6 83])
 .ret))) .skip))
 (.seq (.region [oM 84 0, oM 85 8, oW 86 (.sliceSl 2 (.t 84) (some (.t 85)) none), oM 87 2, oW 88 (.copy 2 (.t 86) (.t 87))])
 (.seq (.region [oM 89 0, oM 90 1, oW 91 (.sliceSl 2 (.t 89) (some (.t 90)) none), oM 92 7, oW 93 (.call (oF 309) [(.t 91), (.t 92)])])
 (.seq (.region [oM 94 0, oM 6 94])
 .ret)))))))))))) }

theorem c247 : compFunc Tryz.prog Tryz.f247 .split = some t247 := by kernel_rfl

/-- broadside/rel.Joint -/
def t248 : DFunc := { ntmps := 21, results := [(.t 4), (.t 5)], mode := .full, body :=
 (.seq (.region [oW 4 (.move (.c .nsl)), oW 5 (.move (oB false))])
 (.seq (.region [oW 9 (.buildSlice 119 5 (.agg [(.str []), (.int .i64 0), (.int .i64 0), (.int .i64 0), (.str [])]) 0 []), oM 10 0, oW 11 (.append 119 5 56 (.t 9) (.t 10)), oM 12 1, oW 13 (.append 119 5 56 (.t 11) (.t 12)), oW 14 (.call (oF 310) [(.t 13)]), oM 8 14, oX 15 8 0, oX 16 8 1, oM 6 15, oM 7 16])
 (.seq (.seq (.region [oM 17 7, oW 18 (.eqn 4 true (.t 17) (.c .nili))])
 (.cond (.t 18) (.seq (.region [oW 4 (.move (.c .nsl)), oW 5 (.move (oB false))])
 .ret) .skip))
 (.seq (.region [oM 19 6, oW 20 (.call (oF 311) [(.t 19)]), oM 4 20, oW 5 (.move (oB true))])
 .ret)))) }

theorem c248 : compFunc Tryz.prog Tryz.f248 .full = some t248 := by kernel_rfl

/-- broadside/subs.place -/
def t249 : DFunc := { ntmps := 15, results := [(.t 6), (.t 7)], mode := .full, body :=
 (.seq (.region [oW 3 (.box 37 6 (.t 0)), oW 4 (.box 45 2 (.t 1)), oW 5 (.box 45 2 (.t 2)), oW 6 (.move (oI 0)), oW 7 (.move (oB false))])
 (.seq (.region [oA 8 4 3, oD 9 8, oL 10 2 5, oW 11 (.makeFunc 313 [(.t 4)]), oW 12 (.call (oF 312) [(.t 9), (.t 10), (.t 11)]), oX 13 12 0, oX 14 12 1, oM 6 13, oM 7 14])
 .ret)) }

theorem c249 : compFunc Tryz.prog Tryz.f249 .full = some t249 := by kernel_rfl

/-- slices.Insert[[]broadside/api.Entry,broadside/api.Entry] -/
def t250 : DFunc := { ntmps := 95, results := [(.t 6)], mode := .split, body :=
 (.seq (.region [oW 6 (.move (.c .nsl))])
 (.seq (.region [oM 10 0, oM 11 1, oW 12 (.sliceSl 7 (.t 10) (some (.t 11)) none)])
 (.seq (.region [oM 13 2, oW 14 (.len 1 (.t 13)), oM 7 14])
 (.seq (.seq (.region [oM 15 7, oW 16 (.arith .eql (.t 15) (oI 0))])
 (.cond (.t 16) (.seq (.region [oM 17 0, oM 6 17])
 .ret) .skip))
 (.seq (.region [oM 18 0, oW 19 (.len 1 (.t 18)), oM 8 19])
 (.seq (.seq (.region [oM 20 1, oM 21 8, oW 22 (.arith .eql (.t 20) (.t 21))])
 (.cond (.t 22) (.seq (.region [oM 23 0, oM 24 2, oW 25 (.append 88 7 72 (.t 23) (.t 24)), oM 6 25])
 .ret) .skip))
 (.seq (.seq (.region [oM 26 8, oM 27 7, oW 28 (.arith .add (.t 26) (.t 27)), oM 29 0, oW 30 (.cap (.t 29)), oW 31 (.arith .gtr (.t 28) (.t 30))])
 (.cond (.t 31) (.seq (.region [oM 32 0, oM 33 1, oW 34 (.sliceSl 7 (.t 32) none (some (.t 33))), oM 35 8, oM 36 7, oW 37 (.arith .add (.t 35) (.t 36)), oM 38 1, oW 39 (.arith .sub (.t 37) (.t 38)), oW 40 (.appendZ 88 7 72 (.agg [(.int .i64 0), (.int .i64 0), (.int .i64 0), (.int .i64 0), .nsl, (.int .i64 0), (.bool false)]) (.t 34) (.t 39)), oM 9 40])
 (.seq (.region [oM 41 9, oM 42 1, oW 43 (.sliceSl 7 (.t 41) (some (.t 42)) none), oM 44 2, oW 45 (.copy 7 (.t 43) (.t 44))])
 (.seq (.draw [oRM 46 9, oRM 47 1, oRM 48 7, oR 49 (.arith .add (.t 47) (.t 48)), oR 50 (.sliceSl 7 (.t 46) (some (.t 49)) none), oRM 51 0, oRM 52 1, oR 53 (.sliceSl 7 (.t 51) (some (.t 52)) none), oW 54 (.copy 7 (.t 50) (.t 53))])
 (.seq (.region [oM 55 9, oM 6 55])
 .ret)))) .skip))
 (.seq (.region [oM 56 0, oM 57 8, oM 58 7, oW 59 (.arith .add (.t 57) (.t 58)), oW 60 (.sliceSl 7 (.t 56) none (some (.t 59))), oM 0 60])
 (.seq (.seq (.region [oM 61 2, oM 62 0, oM 63 1, oM 64 7, oW 65 (.arith .add (.t 63) (.t 64)), oW 66 (.sliceSl 7 (.t 62) (some (.t 65)) none), oW 67 (.call (oF 314) [(.t 61), (.t 66)]), oW 68 (.un .not (.t 67))])
 (.cond (.t 68) (.seq (.draw [oRM 69 0, oRM 70 1, oRM 71 7, oR 72 (.arith .add (.t 70) (.t 71)), oR 73 (.sliceSl 7 (.t 69) (some (.t 72)) none), oRM 74 0, oRM 75 1, oR 76 (.sliceSl 7 (.t 74) (some (.t 75)) none), oW 77 (.copy 7 (.t 73) (.t 76))])
 (.seq (.region [oM 78 0, oM 79 1, oW 80 (.sliceSl 7 (.t 78) (some (.t 79)) none), oM 81 2, oW 82 (.copy 7 (.t 80) (.t 81))])
 (.seq (.region [oM 83 0, oM 6 83])
 .ret))) .skip))
 (.seq (.region [oM 84 0, oM 85 8, oW 86 (.sliceSl 7 (.t 84) (some (.t 85)) none), oM 87 2, oW 88 (.copy 7 (.t 86) (.t 87))])
 (.seq (.region [oM 89 0, oM 90 1, oW 91 (.sliceSl 7 (.t 89) (some (.t 90)) none), oM 92 7, oW 93 (.call (oF 315) [(.t 91), (.t 92)])])
 (.seq (.region [oM 94 0, oM 6 94])
 .ret)))))))))))) }

theorem c250 : compFunc Tryz.prog Tryz.f250 .split = some t250 := by kernel_rfl

/-- slices.Delete[[]broadside/api.Advert,broadside/api.Advert] -/
def t251 : DFunc := { ntmps := 33, results := [(.t 6)], mode := .full, body :=
 (.seq (.region [oW 6 (.move (.c .nsl))])
 (.seq (.region [oM 8 0, oM 9 1, oM 10 2, oM 11 0, oW 12 (.len 1 (.t 11)), oW 13 (.slice3 (.t 8) (.t 9) (.t 10) (.t 12))])
 (.seq (.seq (.region [oM 14 1, oM 15 2, oW 16 (.arith .eql (.t 14) (.t 15))])
 (.cond (.t 16) (.seq (.region [oM 17 0, oM 6 17])
 .ret) .skip))
 (.seq (.region [oM 18 0, oW 19 (.len 1 (.t 18)), oM 7 19])
 (.seq (.draw [oRM 20 0, oRM 21 1, oR 22 (.sliceSl 4 (.t 20) none (some (.t 21))), oRM 23 0, oRM 24 2, oR 25 (.sliceSl 4 (.t 23) (some (.t 24)) none), oW 26 (.append 86 4 48 (.t 22) (.t 25)), ⟨(some 0), .move (.t 26), none, .read, 1, false⟩])
 (.seq (.region [oM 27 0, oM 28 0, oW 29 (.len 1 (.t 28)), oM 30 7, oW 31 (.sliceSl 4 (.t 27) (some (.t 29)) (some (.t 30))), oZ (.clear 4 (.agg [(.int .i64 0), (.int .i64 0), .nsl, (.int .i64 0)]) (.t 31))])
 (.seq (.region [oM 32 0, oM 6 32])
 .ret))))))) }

theorem c251 : compFunc Tryz.prog Tryz.f251 .full = some t251 := by kernel_rfl

def t252l0 : DCode :=
 (.seq (.seq (.region [oM 16 6, oM 17 0, oW 18 (.len 1 (.t 17)), oW 19 (.arith .lss (.t 16) (.t 18))])
 (.cond (.t 19) .skip (.exit 0)))
 (.seq (.block 1 (.seq (.region [oM 22 0, oM 23 6, oW 24 (.indexAddr 7 (.t 22) (.t 23)), oL 25 7 24, oW 7 (.alloc 88 7 (.agg [(.int .i64 0), (.int .i64 0), (.int .i64 0), (.int .i64 0), .nsl, (.int .i64 0), (.bool false)])), oS 7 7 25])
 (.seq (.region [oM 26 1, oL 27 7 7, oW 28 (.call (.t 26) [(.t 27)]), oW 29 (.un .not (.t 28))])
 (.cond (.t 29) (.seq (.region [oM 30 0, oM 31 5, oL 32 7 7, oW 33 (.indexAddr 7 (.t 30) (.t 31)), oS 7 33 32])
 (.region [oM 34 5, oW 35 (.arith .add (.t 34) (oI 1)), oM 5 35])) .skip))))
 (.region [oM 20 6, oW 21 (.arith .add (.t 20) (oI 1)), oM 6 21])))

def t252k0 : DCode :=
 (.seq (.region [oM 36 0, oM 37 5, oW 38 (.sliceSl 7 (.t 36) (some (.t 37)) none), oZ (.clear 7 (.agg [(.int .i64 0), (.int .i64 0), (.int .i64 0), (.int .i64 0), .nsl, (.int .i64 0), (.bool false)]) (.t 38))])
 (.seq (.region [oM 39 0, oM 40 5, oW 41 (.sliceSl 7 (.t 39) none (some (.t 40))), oM 4 41])
 .ret))

/-- slices.DeleteFunc[[]broadside/api.Entry,broadside/api.Entry] -/
def t252 : DFunc := { ntmps := 42, results := [(.t 4)], mode := .full, body :=
 (.seq (.region [oW 4 (.move (.c .nsl))])
 (.seq (.region [oM 8 0, oM 9 1, oW 10 (.call (oF 202) [(.t 8), (.t 9)]), oM 5 10])
 (.seq (.seq (.region [oM 11 5, oW 12 (.arith .eql (.t 11) (oI (-1)))])
 (.cond (.t 12) (.seq (.region [oM 13 0, oM 4 13])
 .ret) .skip))
 (.seq (.seq (.region [oM 14 5, oW 15 (.arith .add (.t 14) (oI 1)), oM 6 15])
 (.block 0 (.loop t252l0)))
 t252k0)))) }

theorem c252 : compFunc Tryz.prog Tryz.f252 .full = some t252 := by kernel_rfl

/-- broadside/adverts.Forget$1 -/
def t253 : DFunc := { ntmps := 8, results := [(.t 3)], mode := .full, body :=
 (.seq (.region [oW 2 (.box 88 7 (.t 0)), oW 3 (.move (oB false))])
 (.seq (.region [oA 4 0 2, oL 5 2 4, oL 6 2 1, oW 7 (.eqa false [1, 1] (.t 5) (.t 6)), oM 3 7])
 .ret)) }

theorem c253 : compFunc Tryz.prog Tryz.f253 .full = some t253 := by kernel_rfl

def t254l0 : DCode :=
 (.seq (.region [oW 59 (.arith .lss (.t 58) (.t 57))])
 (.seq (.cond (.t 59) .skip (.exit 0))
 (.seq (.block 1 (.seq (.region [oM 60 58, oW 61 (.indexAddr 7 (.t 56) (.t 58)), oL 62 7 61, oW 14 (.alloc 88 7 (.agg [(.int .i64 0), (.int .i64 0), (.int .i64 0), (.int .i64 0), .nsl, (.int .i64 0), (.bool false)])), oM 13 60, oS 7 14 62])
 (.seq (.region [oA 63 0 14, oL 64 2 63, oL 65 2 5, oW 66 (.eqa false [1, 1] (.t 64) (.t 65)), oM 67 66, ⟨(some 68), .fieldAddr 6 (.t 14), (some (67, true)), .write, 0, false⟩, ⟨(some 69), .load none (.t 68), (some (67, true)), .write, 0, false⟩, ⟨(some 70), .un .not (.t 69), (some (67, true)), .write, 0, false⟩, oW 71 (.pick (.t 67) (.t 70) (oB false)), oM 72 71, ⟨(some 73), .load (some 6) (.t 4), (some (72, true)), .write, 0, false⟩, ⟨(some 74), .load (some 2) (.t 5), (some (72, true)), .write, 0, false⟩, ⟨(some 75), .fieldAddr 4 (.t 14), (some (72, true)), .write, 0, false⟩, ⟨(some 76), .load none (.t 75), (some (72, true)), .write, 0, false⟩, ⟨(some 77), .call (oF 118) [(.t 73), (.t 74), (.t 76)], (some (72, true)), .write, 0, false⟩, ⟨(some 78), .un .not (.t 77), (some (72, true)), .write, 0, false⟩, oW 79 (.pick (.t 72) (.t 78) (oB false))])
 (.cond (.t 79) (.seq (.region [oA 80 4 4, oD 81 80, oM 82 13, oW 83 (.indexAddr 7 (.t 81) (.t 82)), oA 84 6 83, oZ (.store 1 (.t 84) (oB true))])
 (.region [oM 85 9, oA 86 4 4, oD 87 86, oM 88 13, oW 89 (.indexAddr 7 (.t 87) (.t 88)), oL 90 7 89, oW 91 (.buildSlice 88 7 (.agg [(.int .i64 0), (.int .i64 0), (.int .i64 0), (.int .i64 0), .nsl, (.int .i64 0), (.bool false)]) 1 [(0, (.t 90))]), oW 92 (.append 88 7 72 (.t 85) (.t 91)), oM 9 92])) .skip))))
 (.region [oW 93 (.arith .add (.t 58) (oI 1)), oM 58 93]))))

def t254k0 : DCode :=
 (.seq (.region [oL 94 6 4, oM 95 9, oS 6 8 94, oM 9 95, oW 10 (.move (oB true))])
 .ret)

/-- broadside/subs.Take -/
def t254 : DFunc := { ntmps := 96, results := [(.cell 8 (some 6)), (.t 9), (.t 10)], mode := .full, body :=
 (.seq (.region [oW 4 (.box 37 6 (.t 0)), oW 5 (.box 45 2 (.t 1)), oW 6 (.box 45 2 (.t 2)), oW 8 (.alloc 37 6 (.agg [(.int .i64 0), .nsl, .nsl, .nsl, .nsl, .nsl])), oW 9 (.move (.c .nsl)), oW 10 (.move (oB false))])
 (.seq (.region [oA 15 4 4, oD 16 15, oW 17 (.call (oF 151) [(.t 16)]), oA 18 4 4, oS 1 18 17])
 (.seq (.region [oL 20 6 4, oL 21 2 5, oL 22 2 6, oW 23 (.call (oF 249) [(.t 20), (.t 21), (.t 22)]), oM 19 23, oX 24 19 0, oX 25 19 1, oM 11 24, oM 12 25])
 (.seq (.seq (.region [oM 26 12, oW 27 (.un .not (.t 26)), oM 28 27, ⟨(some 29), .fieldAddr 4 (.t 4), (some (28, false)), .write, 0, false⟩, ⟨(some 30), .load none (.t 29), (some (28, false)), .write, 0, false⟩, ⟨(some 31), .move (.t 11), (some (28, false)), .write, 0, false⟩, ⟨(some 32), .indexAddr 7 (.t 30) (.t 31), (some (28, false)), .write, 0, false⟩, ⟨(some 33), .fieldAddr 5 (.t 32), (some (28, false)), .write, 0, false⟩, ⟨(some 34), .load none (.t 33), (some (28, false)), .write, 0, false⟩, ⟨(some 35), .move (.t 3), (some (28, false)), .write, 0, false⟩, ⟨(some 36), .arith .neq (.t 34) (.t 35), (some (28, false)), .write, 0, false⟩, oW 37 (.pick (.t 28) (oB true) (.t 36))])
 (.cond (.t 37) (.seq (.region [oL 38 6 4, oS 6 8 38, oW 9 (.move (.c .nsl)), oW 10 (.move (oB false))])
 .ret) .skip))
 (.seq (.region [oA 39 4 4, oD 40 39, oM 41 11, oW 42 (.indexAddr 7 (.t 40) (.t 41)), oA 43 6 42, oD 44 43, oM 10 44])
 (.seq (.region [oA 45 4 4, oD 46 45, oM 47 11, oM 48 11, oW 49 (.arith .add (.t 48) (oI 1)), oW 50 (.call (oF 316) [(.t 46), (.t 47), (.t 49)]), oA 51 4 4, oS 1 51 50])
 (.seq (.seq (.region [oM 52 10, oW 53 (.un .not (.t 52))])
 (.cond (.t 53) (.seq (.region [oL 54 6 4, oS 6 8 54, oW 9 (.move (.c .nsl)), oW 10 (.move (oB false))])
 .ret) .skip))
 (.seq (.seq (.region [oA 55 4 4, oD 56 55, oW 57 (.len 1 (.t 56)), oW 58 (.move (oI 0))])
 (.block 0 (.loop t254l0)))
 t254k0)))))))) }

theorem c254 : compFunc Tryz.prog Tryz.f254 .full = some t254 := by kernel_rfl

def t255l0 : DCode :=
 (.seq (.region [oW 12 (.arith .lss (.t 11) (.t 10))])
 (.seq (.cond (.t 12) .skip (.exit 0))
 (.seq (.block 1 (.seq (.region [oW 13 (.indexAddr 5 (.t 9) (.t 11)), oL 14 5 13, oW 6 (.alloc 119 5 (.agg [(.str []), (.int .i64 0), (.int .i64 0), (.int .i64 0), (.str [])])), oS 5 6 14])
 (.seq (.region [oM 16 1, oA 17 0 6, oD 18 17, oW 19 (.call (oF 317) [(.t 16), (.t 18)]), oM 15 19, oX 20 15 0, oX 21 15 1, oW 7 (.alloc 174 3 (.agg [(.bool false), (.int .i64 0), (.str [])])), oS 3 7 20, oM 8 21])
 (.seq (.region [oM 22 8, oW 23 (.un .not (.t 22)), oM 24 23, ⟨(some 25), .load (some 5) (.t 6), (some (24, false)), .write, 0, false⟩, ⟨(some 26), .load (some 3) (.t 7), (some (24, false)), .write, 0, false⟩, ⟨(some 27), .call (oF 318) [(.t 25), (.t 26)], (some (24, false)), .write, 0, false⟩, ⟨(some 28), .un .not (.t 27), (some (24, false)), .write, 0, false⟩, oW 29 (.pick (.t 24) (oB true) (.t 28))])
 (.cond (.t 29) (.seq (.region [oW 4 (.move (oB false))])
 .ret) .skip)))))
 (.region [oW 30 (.arith .add (.t 11) (oI 1)), oM 11 30]))))

def t255k0 : DCode :=
 (.seq (.region [oW 4 (.move (oB true))])
 .ret)

/-- broadside/rel.Match -/
def t255 : DFunc := { ntmps := 31, results := [(.t 4)], mode := .full, body :=
 (.seq (.region [oW 4 (.move (oB false))])
 (.seq (.seq (.region [oM 9 0, oW 10 (.len 1 (.t 9)), oW 11 (.move (oI 0))])
 (.block 0 (.loop t255l0)))
 t255k0)) }

theorem c255 : compFunc Tryz.prog Tryz.f255 .full = some t255 := by kernel_rfl

/-- broadside/carry.rising -/
def t256 : DFunc := { ntmps := 7, results := [(.t 2)], mode := .full, body :=
 (.seq (.region [oW 2 (.move (.c .nsl))])
 (.seq (.region [oM 3 0, oW 4 (.call (oF 178) [(.t 3)])])
 (.seq (.region [oM 5 0, oW 6 (.call (oF 179) [(.t 5)]), oM 2 6])
 .ret))) }

theorem c256 : compFunc Tryz.prog Tryz.f256 .full = some t256 := by kernel_rfl

/-- (*broadside/num.Reader).take -/
def t258 : DFunc := { ntmps := 38, results := [(.t 4)], mode := .full, body :=
 (.seq (.region [oW 4 (.move (.c .nsl))])
 (.seq (.seq (.region [oM 6 0, oW 7 (.nilCheck (.t 6)), oA 8 1 7, oD 9 8, oM 10 9, ⟨(some 11), .move (.t 1), (some (10, false)), .write, 0, false⟩, ⟨(some 12), .move (.t 0), (some (10, false)), .write, 0, false⟩, ⟨(some 13), .nilCheck (.t 12), (some (10, false)), .write, 0, false⟩, ⟨(some 14), .fieldAddr 0 (.t 13), (some (10, false)), .write, 0, false⟩, ⟨(some 15), .load none (.t 14), (some (10, false)), .write, 0, false⟩, ⟨(some 16), .len 1 (.t 15), (some (10, false)), .write, 0, false⟩, ⟨(some 17), .arith .gtr (.t 11) (.t 16), (some (10, false)), .write, 0, false⟩, oW 18 (.pick (.t 10) (oB true) (.t 17))])
 (.cond (.t 18) (.seq (.region [oM 19 0, oW 20 (.nilCheck (.t 19)), oA 21 1 20, oZ (.store 1 (.t 21) (oB true))])
 (.seq (.region [oW 4 (.move (.c .nsl))])
 .ret)) .skip))
 (.seq (.region [oM 22 0, oW 23 (.nilCheck (.t 22)), oA 24 0 23, oD 25 24, oM 26 1, oW 27 (.sliceSl 1 (.t 25) none (some (.t 26))), oM 5 27])
 (.seq (.region [oM 28 0, oM 29 0, oW 30 (.nilCheck (.t 29)), oA 31 0 30, oD 32 31, oM 33 1, oW 34 (.sliceSl 1 (.t 32) (some (.t 33)) none), oW 35 (.nilCheck (.t 28)), oA 36 0 35, oS 1 36 34])
 (.seq (.region [oM 37 5, oM 4 37])
 .ret))))) }

theorem c258 : compFunc Tryz.prog Tryz.f258 .full = some t258 := by kernel_rfl

def t259l0 : DCode :=
 (.seq (.region [oW 10 (.arith .lss (.t 9) (.t 8))])
 (.seq (.cond (.t 10) .skip (.exit 0))
 (.seq (.block 1 (.seq (.region [oW 11 (.indexAddr 1 (.t 7) (.t 9)), oD 12 11, oM 5 12])
 (.region [oM 13 3, oW 14 (.arith .shl (.t 13) (.c (.int .u64 8))), oM 15 5, oW 16 (.conv .u64 (.t 15)), oW 17 (.arith .or (.t 14) (.t 16)), oM 3 17])))
 (.region [oW 18 (.arith .add (.t 9) (oI 1)), oM 9 18]))))

def t259k0 : DCode :=
 (.seq (.region [oM 19 3, oW 20 (.conv .i64 (.t 19)), oM 2 20])
 .ret)

/-- (*broadside/num.Reader).Number -/
def t259 : DFunc := { ntmps := 21, results := [(.t 2)], mode := .full, body :=
 (.seq (.region [oW 2 (.move (oI 0))])
 (.seq (.region [oW 3 (.move (.c (.int .u64 0)))])
 (.seq (.seq (.region [oM 6 0, oW 7 (.call (oF 258) [(.t 6), (oI 8)]), oW 8 (.len 1 (.t 7)), oW 9 (.move (oI 0))])
 (.block 0 (.loop t259l0)))
 t259k0))) }

theorem c259 : compFunc Tryz.prog Tryz.f259 .full = some t259 := by kernel_rfl

/-- (*broadside/num.Reader).Text -/
def t260 : DFunc := { ntmps := 9, results := [(.t 2)], mode := .full, body :=
 (.seq (.region [oW 2 (.move (.c (.str [])))])
 (.seq (.region [oM 3 0, oM 4 0, oW 5 (.call (oF 193) [(.t 4)]), oW 6 (.conv .i64 (.t 5)), oW 7 (.call (oF 258) [(.t 3), (.t 6)]), oW 8 (.bytesStr (.t 7)), oM 2 8])
 .ret)) }

theorem c260 : compFunc Tryz.prog Tryz.f260 .full = some t260 := by kernel_rfl

def t261l0 : DCode :=
 (.seq (.seq (.region [oM 15 9, oM 16 10, oW 17 (.arith .lss (.t 15) (.t 16))])
 (.cond (.t 17) .skip (.exit 0)))
 (.block 1 (.seq (.region [oM 18 9, oM 19 10, oW 20 (.arith .add (.t 18) (.t 19)), oW 21 (.conv .u64 (.t 20)), oW 22 (.arith .shr (.t 21) (.c (.int .u64 1))), oW 23 (.conv .i64 (.t 22)), oM 11 23])
 (.seq (.draw [oRM 25 0, oRM 26 11, oR 27 (.indexAddr 2 (.t 25) (.t 26)), oRL 28 2 27, oRL 29 2 4, oRM 24 2, oW 30 (.call (.t 24) [(.t 28), (.t 29)]), ⟨(some 31), .arith .lss (.t 30) (oI 0), none, .read, 1, false⟩])
 (.cond (.t 31) (.region [oM 32 11, oW 33 (.arith .add (.t 32) (oI 1)), oM 9 33]) (.region [oM 34 11, oM 10 34]))))))

def t261k0 : DCode :=
 (.seq (.draw [oRM 36 9, oRM 37 8, oR 38 (.arith .lss (.t 36) (.t 37)), oRM 39 38, ⟨(some 41), .move (.t 0), (some (39, true)), .read, 0, false⟩, ⟨(some 42), .move (.t 9), (some (39, true)), .read, 0, false⟩, ⟨(some 43), .indexAddr 2 (.t 41) (.t 42), (some (39, true)), .read, 0, false⟩, ⟨(some 44), .load (some 2) (.t 43), (some (39, true)), .read, 0, false⟩, ⟨(some 45), .load (some 2) (.t 4), (some (39, true)), .read, 0, false⟩, ⟨(some 40), .move (.t 2), (some (39, true)), .read, 0, false⟩, ⟨(some 46), .call (.t 40) [(.t 44), (.t 45)], (some (39, true)), .write, 0, false⟩, oRM 35 9, ⟨(some 47), .arith .eql (.t 46) (oI 0), (some (39, true)), .read, 1, false⟩, ⟨(some 48), .pick (.t 39) (.t 47) (oB false), none, .read, 1, false⟩, ⟨(some 6), .move (.t 35), none, .read, 1, false⟩, ⟨(some 7), .move (.t 48), none, .read, 1, false⟩])
 .ret)

/-- slices.BinarySearchFunc[[]broadside/api.ID,broadside/api.ID,broadside/api.ID] -/
def t261 : DFunc := { ntmps := 49, results := [(.t 6), (.t 7)], mode := .full, body :=
 (.seq (.region [oW 4 (.box 45 2 (.t 1)), oW 6 (.move (oI 0)), oW 7 (.move (oB false))])
 (.seq (.region [oM 12 0, oW 13 (.len 1 (.t 12)), oM 8 13])
 (.seq (.region [oM 14 8, oW 9 (.move (oI 0)), oM 10 14])
 (.seq (.block 0 (.loop t261l0))
 t261k0)))) }

theorem c261 : compFunc Tryz.prog Tryz.f261 .full = some t261 := by kernel_rfl

def t262l0 : DCode :=
 (.seq (.region [oW 9 (.arith .lss (.t 8) (.t 7))])
 (.seq (.cond (.t 9) .skip (.exit 0))
 (.seq (.block 1 (.seq (.region [oM 10 8, oM 5 10])
 (.seq (.region [oM 11 1, oM 12 0, oM 13 5, oW 14 (.indexAddr 1 (.t 12) (.t 13)), oD 15 14, oW 16 (.arith .eql (.t 11) (.t 15))])
 (.cond (.t 16) (.seq (.region [oM 17 5, oM 4 17])
 .ret) .skip))))
 (.region [oW 18 (.arith .add (.t 8) (oI 1)), oM 8 18]))))

def t262k0 : DCode :=
 (.seq (.region [oW 4 (.move (oI (-1)))])
 .ret)

/-- slices.Index[[]int,int] -/
def t262 : DFunc := { ntmps := 19, results := [(.t 4)], mode := .full, body :=
 (.seq (.region [oW 4 (.move (oI 0))])
 (.seq (.seq (.region [oM 6 0, oW 7 (.len 1 (.t 6)), oW 8 (.move (oI 0))])
 (.block 0 (.loop t262l0)))
 t262k0)) }

theorem c262 : compFunc Tryz.prog Tryz.f262 .full = some t262 := by kernel_rfl

/-- broadside/rel.wider -/
def t263 : DFunc := { ntmps := 45, results := [(.t 4)], mode := .full, body :=
 (.seq (.region [oW 2 (.box 119 5 (.t 0)), oW 3 (.box 119 5 (.t 1)), oW 4 (.move (oB false))])
 (.seq (.seq (.region [oA 5 1 3, oD 6 5])
 (.block 0 (.seq (.region [oW 8 (.arith .eql (.t 6) (oI 1)), oM 7 8])
 (.cond (.t 7) (.seq (.region [oA 9 1 2, oD 10 9, oW 11 (.arith .eql (.t 10) (oI 1)), oM 12 11, ⟨(some 13), .fieldAddr 2 (.t 2), (some (12, true)), .write, 0, false⟩, ⟨(some 14), .load none (.t 13), (some (12, true)), .write, 0, false⟩, ⟨(some 15), .fieldAddr 2 (.t 3), (some (12, true)), .write, 0, false⟩, ⟨(some 16), .load none (.t 15), (some (12, true)), .write, 0, false⟩, ⟨(some 17), .arith .leq (.t 14) (.t 16), (some (12, true)), .write, 0, false⟩, oW 18 (.pick (.t 12) (.t 17) (oB false)), oM 19 18, ⟨(some 20), .fieldAddr 3 (.t 3), (some (19, true)), .write, 0, false⟩, ⟨(some 21), .load none (.t 20), (some (19, true)), .write, 0, false⟩, ⟨(some 22), .fieldAddr 3 (.t 2), (some (19, true)), .write, 0, false⟩, ⟨(some 23), .load none (.t 22), (some (19, true)), .write, 0, false⟩, ⟨(some 24), .arith .leq (.t 21) (.t 23), (some (19, true)), .write, 0, false⟩, oW 25 (.pick (.t 19) (.t 24) (oB false)), oM 4 25])
 .ret) (.seq (.region [oW 27 (.arith .eql (.t 6) (oI 3)), oM 26 27])
 (.cond (.t 26) (.seq (.region [oA 28 1 2, oD 29 28, oW 30 (.arith .eql (.t 29) (oI 3)), oM 31 30, ⟨(some 32), .fieldAddr 4 (.t 3), (some (31, true)), .write, 0, false⟩, ⟨(some 33), .load none (.t 32), (some (31, true)), .write, 0, false⟩, ⟨(some 34), .fieldAddr 4 (.t 2), (some (31, true)), .write, 0, false⟩, ⟨(some 35), .load none (.t 34), (some (31, true)), .write, 0, false⟩, ⟨(some 36), .call (oF 320) [(.t 33), (.t 35)], (some (31, true)), .write, 0, false⟩, oW 37 (.pick (.t 31) (.t 36) (oB false)), oM 4 37])
 .ret) (.seq (.region [oW 39 (.arith .eql (.t 6) (oI 2)), oM 38 39])
 (.cond (.t 38) (.seq (.draw [oRL 40 5 2, oRA 41 4 3, oRD 42 41, ⟨(some 43), .call (oF 321) [(.t 42)], none, .create, 0, false⟩, ⟨(some 44), .call (oF 318) [(.t 40), (.t 43)], none, .write, 1, false⟩, ⟨(some 4), .move (.t 44), none, .read, 2, false⟩])
 .ret) .skip))))))))
 (.seq (.region [oW 4 (.move (oB false))])
 .ret))) }

theorem c263 : compFunc Tryz.prog Tryz.f263 .full = some t263 := by kernel_rfl

/-- broadside/graph.Linked -/
def t265 : DFunc := { ntmps := 12, results := [(.t 6)], mode := .full, body :=
 (.seq (.region [oW 3 (.box 79 2 (.t 0)), oW 6 (.move (oB false))])
 (.seq (.region [oL 7 2 3, oM 8 1, oW 9 (.call (oF 137) [(.t 7), (.t 8)]), oM 10 2, oW 11 (.call (oF 200) [(.t 9), (.t 10)]), oM 6 11])
 .ret)) }

theorem c265 : compFunc Tryz.prog Tryz.f265 .full = some t265 := by kernel_rfl

def t273l0 : DCode :=
 (.seq (.region [oW 9 (.arith .lss (.t 8) (.t 7))])
 (.seq (.cond (.t 9) .skip (.exit 0))
 (.seq (.block 1 (.seq (.region [oW 10 (.indexAddr 4 (.t 6) (.t 8)), oL 11 4 10, oW 5 (.alloc 171 4 (.agg [(.int .i64 0), (.int .i64 0), (.int .i64 0), .nsl])), oS 4 5 11])
 (.seq (.draw [oRM 12 0, oR 13 (.nilCheck (.t 12)), oRA 14 0 13, oRD 15 14, oRA 16 0 5, oRD 17 16, oRM 18 0, oR 19 (.nilCheck (.t 18)), oRA 20 0 19, oRD 21 20, oRA 22 0 5, oRD 23 22, oR 24 (.lookup (.prim 1) .nsl false (.t 21) (.t 23)), oRL 25 4 5, ⟨(some 26), .buildSlice 171 4 (.agg [(.int .i64 0), (.int .i64 0), (.int .i64 0), .nsl]) 1 [(0, (.t 25))], none, .create, 0, false⟩, ⟨(some 27), .append 171 4 48 (.t 24) (.t 26), none, .create, 0, false⟩, ⟨none, .mapUpdate (.prim 1) (.t 15) (.t 17) (.t 27), none, .write, 2, false⟩])
 (.draw [oRM 29 0, oR 30 (.nilCheck (.t 29)), oRA 31 1 30, oRD 32 31, oRL 33 4 5, ⟨(some 34), .buildSlice 171 4 (.agg [(.int .i64 0), (.int .i64 0), (.int .i64 0), .nsl]) 1 [(0, (.t 33))], none, .create, 0, false⟩, ⟨(some 35), .append 171 4 48 (.t 32) (.t 34), none, .write, 1, false⟩, oRM 28 0, ⟨(some 36), .nilCheck (.t 28), none, .read, 2, false⟩, ⟨(some 37), .fieldAddr 1 (.t 36), none, .read, 2, false⟩, ⟨none, .store 1 (.t 37) (.t 35), none, .write, 2, false⟩]))))
 (.region [oW 38 (.arith .add (.t 8) (oI 1)), oM 8 38]))))

/-- (*broadside/inbox.Boxes).Put -/
def t273 : DFunc := { ntmps := 39, results := [], mode := .full, body :=
 (.seq (.region [oM 6 1, oW 7 (.len 1 (.t 6)), oW 8 (.move (oI 0))])
 (.block 0 (.loop t273l0))) }

theorem c273 : compFunc Tryz.prog Tryz.f273 .full = some t273 := by kernel_rfl

/-- (*broadside/world.World).is -/
def t274 : DFunc := { ntmps := 16, results := [(.t 4)], mode := .full, body :=
 (.seq (.region [oW 4 (.move (oB false))])
 (.seq (.region [oM 5 1, oW 6 (.arith .geq (.t 5) (oI 0)), oM 7 6, ⟨(some 8), .move (.t 1), (some (7, true)), .write, 0, false⟩, ⟨(some 9), .move (.t 0), (some (7, true)), .write, 0, false⟩, ⟨(some 10), .nilCheck (.t 9), (some (7, true)), .write, 0, false⟩, ⟨(some 11), .fieldAddr 1 (.t 10), (some (7, true)), .write, 0, false⟩, ⟨(some 12), .load none (.t 11), (some (7, true)), .write, 0, false⟩, ⟨(some 13), .len 1 (.t 12), (some (7, true)), .write, 0, false⟩, ⟨(some 14), .arith .lss (.t 8) (.t 13), (some (7, true)), .write, 0, false⟩, oW 15 (.pick (.t 7) (.t 14) (oB false)), oM 4 15])
 .ret)) }

theorem c274 : compFunc Tryz.prog Tryz.f274 .full = some t274 := by kernel_rfl

/-- (*broadside/inbox.Boxes).Drain -/
def t275 : DFunc := { ntmps := 15, results := [(.t 4)], mode := .full, body :=
 (.seq (.region [oW 4 (.move (.c .nsl))])
 (.seq (.region [oM 6 0, oM 7 1, oW 8 (.call (oF 325) [(.t 6), (.t 7)]), oM 5 8])
 (.seq (.region [oM 9 0, oW 10 (.nilCheck (.t 9)), oA 11 0 10, oD 12 11, oM 13 1, oZ (.delete (.prim 1) (.t 12) (.t 13))])
 (.seq (.region [oM 14 5, oM 4 14])
 .ret)))) }

theorem c275 : compFunc Tryz.prog Tryz.f275 .full = some t275 := by kernel_rfl

/-- broadside/world.check -/
def t276 : DFunc := { ntmps := 53, results := [(.t 4), (.t 5)], mode := .full, body :=
 (.seq (.region [oW 2 (.box 371 6 (.t 0)), oW 3 (.box 95 9 (.t 1)), oW 4 (.move (.c .nsl)), oW 5 (.move (.c .nili))])
 (.seq (.region [oA 9 1 2, oD 10 9, oM 6 10])
 (.seq (.seq (.region [oA 11 0 3, oD 12 11])
 (.block 0 (.seq (.block 4 (.seq (.block 3 (.seq (.block 2 (.seq (.block 1 (.seq (.seq (.seq (.seq (.region [oW 14 (.arith .eql (.t 12) (oI 2)), oM 13 14])
 (.cond (.t 13) .skip (.region [oW 15 (.arith .eql (.t 12) (oI 4)), oM 13 15])))
 (.cond (.t 13) (.exit 1) .skip))
 (.seq (.seq (.region [oW 17 (.arith .eql (.t 12) (oI 5)), oM 16 17])
 (.cond (.t 16) (.exit 2) .skip))
 (.seq (.seq (.region [oW 19 (.arith .eql (.t 12) (oI 3)), oM 18 19])
 (.cond (.t 18) (.exit 3) .skip))
 (.seq (.region [oW 21 (.arith .eql (.t 12) (oI 6)), oM 20 21])
 (.cond (.t 20) (.exit 4) .skip)))))
 (.exit 0)))
 (.seq (.seq (.region [oA 22 6 3, oD 23 22, oW 24 (.call (oF 310) [(.t 23)]), oX 25 24 0, oX 26 24 1, oM 4 25, oM 5 26])
 .ret)
 (.exit 0))))
 (.region [oA 27 2 2, oD 28 27, oM 6 28])))
 (.seq (.seq (.region [oM 30 6, oA 31 2 3, oD 32 31, oW 33 (.call (oF 326) [(.t 30), (.t 32)]), oM 29 33, oX 34 29 0, oX 35 29 1, oM 7 34, oM 8 35])
 (.seq (.region [oM 36 8, oW 37 (.un .not (.t 36))])
 (.cond (.t 37) (.seq (.region [oW 38 (.makeIface 57 (oI 4)), oW 4 (.move (.c .nsl)), oM 5 38])
 .ret) .skip)))
 (.exit 0))))
 (.seq (.block 5 (.seq (.region [oA 40 7 3, oD 41 40, oW 42 (.call (oF 169) [(.t 41)]), oW 43 (.un .not (.t 42)), oM 39 43])
 (.cond (.t 39) (.seq (.region [oW 44 (.makeIface 57 (oI 1)), oW 4 (.move (.c .nsl)), oM 5 44])
 .ret) (.seq (.region [oL 46 6 2, oA 47 7 3, oD 48 47, oW 49 (.call (oF 327) [(.t 46), (.t 48)]), oW 50 (.len 1 (.t 49)), oW 51 (.arith .eql (.t 50) (oI 0)), oM 45 51])
 (.cond (.t 45) (.seq (.region [oW 52 (.makeIface 57 (oI 6)), oW 4 (.move (.c .nsl)), oM 5 52])
 .ret) .skip)))))
 (.exit 0)))))
 (.seq (.region [oW 4 (.move (.c .nsl)), oW 5 (.move (.c .nili))])
 .ret)))) }

theorem c276 : compFunc Tryz.prog Tryz.f276 .full = some t276 := by kernel_rfl

/-- (*broadside/world.World).told -/
def t278 : DFunc := { ntmps := 232, results := [(.cell 6 (some 7)), (.t 7)], mode := .full, body :=
 (.seq (.region [oW 4 (.box 95 9 (.t 1)), oW 6 (.alloc 92 7 (.agg [(.int .i64 0), (.int .i64 0), (.int .i64 0), (.int .i64 0), (.int .i64 0), (.int .i64 0), .nsl])), oW 7 (.move (.c .nili))])
 (.seq (.draw [oRM 17 0, oR 18 (.nilCheck (.t 17)), oRA 19 1 18, oRD 20 19, oRA 21 1 4, oRD 22 21, oR 23 (.indexAddr 6 (.t 20) (.t 22)), oRM 8 23])
 (.seq (.region [oW 24 (.makeFunc 328 [(.t 4)]), oM 9 24])
 (.seq (.region [oM 25 0, oW 26 (.nilCheck (.t 25)), oA 27 3 26, oD 28 27, oW 29 (.arith .add (.t 28) (oI 1)), oW 30 (.nilCheck (.t 25)), oA 31 3 30, oS 1 31 29])
 (.seq (.seq (.region [oA 32 0 4, oD 33 32])
 (.block 0 (.seq (.region [oW 35 (.arith .eql (.t 33) (oI 2)), oM 34 35])
 (.cond (.t 34) (.seq (.region [oM 36 9, oM 37 8, oW 38 (.nilCheck (.t 37)), oA 39 3 38, oD 40 39, oW 41 (.call (.t 36) [(.t 40)]), oW 10 (.alloc 45 2 (.agg [(.int .i64 0), (.int .i64 0)])), oS 2 10 41])
 (.seq (.draw [oRM 44 8, oR 45 (.nilCheck (.t 44)), oRA 46 1 45, oRD 47 46, oRA 48 1 10, oRD 49 48, oRM 50 2, oR 51 (.build [(.int .i64 0), .nsl] [(0, 1, (.t 49)), (1, 1, (.t 50))]), ⟨(some 52), .buildSlice 420 2 (.agg [(.int .i64 0), .nsl]) 1 [(0, (.t 51))], none, .create, 0, false⟩, ⟨(some 53), .append 420 2 32 (.t 47) (.t 52), none, .create, 0, false⟩, oRM 54 8, oR 55 (.nilCheck (.t 54)), oRA 56 3 55, oRD 57 56, oRM 42 8, ⟨(some 59), .nilCheck (.t 42), none, .read, 2, false⟩, ⟨(some 60), .fieldAddr 1 (.t 59), none, .read, 2, false⟩, ⟨none, .store 1 (.t 60) (.t 53), none, .write, 2, false⟩, oRM 43 8, oR 58 (.arith .add (.t 57) (oI 1)), ⟨(some 61), .nilCheck (.t 43), none, .read, 3, false⟩, ⟨(some 62), .fieldAddr 3 (.t 61), none, .read, 3, false⟩, ⟨none, .store 1 (.t 62) (.t 58), none, .write, 3, false⟩])
 (.seq (.draw [oRL 63 2 10, oRM 65 0, oR 66 (.nilCheck (.t 65)), oRA 67 0 66, oRD 68 67, oRM 69 8, oR 70 (.nilCheck (.t 69)), oRA 71 0 70, oRD 72 71, oRL 73 2 10, oRM 74 2, ⟨(some 75), .call (oF 44) [(.t 68), (.t 72), (.t 73), (.t 74)], none, .create, 0, false⟩, oR 64 (.build [(.int .i64 0), (.int .i64 0), (.int .i64 0), (.int .i64 0), (.int .i64 0), (.int .i64 0), .nsl] [(2, 2, (.t 63))]), ⟨none, .store 7 (.t 6) (.t 64), none, .write, 1, false⟩, ⟨(some 7), .move (.t 75), none, .read, 2, false⟩])
 .ret))) (.seq (.region [oW 77 (.arith .eql (.t 33) (oI 4)), oM 76 77])
 (.cond (.t 76) (.seq (.region [oM 78 9, oM 79 8, oW 80 (.nilCheck (.t 79)), oA 81 4 80, oD 82 81, oW 83 (.call (.t 78) [(.t 82)]), oW 11 (.alloc 45 2 (.agg [(.int .i64 0), (.int .i64 0)])), oS 2 11 83])
 (.seq (.draw [oRM 86 8, oR 87 (.nilCheck (.t 86)), oRA 88 2 87, oRD 89 88, oRA 90 1 11, oRD 91 90, oRM 92 2, oR 93 (.build [(.int .i64 0), .nsl] [(0, 1, (.t 91)), (1, 1, (.t 92))]), ⟨(some 94), .buildSlice 420 2 (.agg [(.int .i64 0), .nsl]) 1 [(0, (.t 93))], none, .create, 0, false⟩, ⟨(some 95), .append 420 2 32 (.t 89) (.t 94), none, .create, 0, false⟩, oRM 96 8, oR 97 (.nilCheck (.t 96)), oRA 98 4 97, oRD 99 98, oRM 84 8, ⟨(some 101), .nilCheck (.t 84), none, .read, 2, false⟩, ⟨(some 102), .fieldAddr 2 (.t 101), none, .read, 2, false⟩, ⟨none, .store 1 (.t 102) (.t 95), none, .write, 2, false⟩, oRM 85 8, oR 100 (.arith .add (.t 99) (oI 1)), ⟨(some 103), .nilCheck (.t 85), none, .read, 3, false⟩, ⟨(some 104), .fieldAddr 4 (.t 103), none, .read, 3, false⟩, ⟨none, .store 1 (.t 104) (.t 100), none, .write, 3, false⟩])
 (.seq (.draw [oRL 105 2 11, oRM 107 0, oR 108 (.nilCheck (.t 107)), oRA 109 0 108, oRD 110 109, oRM 111 8, oR 112 (.nilCheck (.t 111)), oRA 113 0 112, oRD 114 113, oRL 115 2 11, oRM 116 2, ⟨(some 117), .call (oF 55) [(.t 110), (.t 114), (.t 115), (.t 116)], none, .create, 0, false⟩, oR 106 (.build [(.int .i64 0), (.int .i64 0), (.int .i64 0), (.int .i64 0), (.int .i64 0), (.int .i64 0), .nsl] [(2, 2, (.t 105))]), ⟨none, .store 7 (.t 6) (.t 106), none, .write, 1, false⟩, ⟨(some 7), .move (.t 117), none, .read, 2, false⟩])
 .ret))) (.seq (.region [oW 119 (.arith .eql (.t 33) (oI 3)), oM 118 119])
 (.cond (.t 118) (.seq (.draw [oRM 121 8, oR 122 (.nilCheck (.t 121)), oRA 123 1 122, oRD 124 123, oRA 125 2 4, oRD 126 125, oW 127 (.call (oF 329) [(.t 124), (.t 126)]), oRM 120 8, ⟨(some 128), .nilCheck (.t 120), none, .read, 1, false⟩, ⟨(some 129), .fieldAddr 1 (.t 128), none, .read, 1, false⟩, ⟨none, .store 1 (.t 129) (.t 127), none, .write, 1, false⟩])
 (.seq (.draw [oRM 131 0, oR 132 (.nilCheck (.t 131)), oRA 133 0 132, oRD 134 133, oRM 135 8, oR 136 (.nilCheck (.t 135)), oRA 137 0 136, oRD 138 137, oRA 140 2 4, oRD 141 140, oRM 139 9, ⟨(some 142), .call (.t 139) [(.t 141)], none, .create, 0, false⟩, ⟨(some 143), .call (oF 330) [(.t 134), (.t 138), (.t 142)], none, .write, 1, false⟩, oR 130 (.build [(.int .i64 0), (.int .i64 0), (.int .i64 0), (.int .i64 0), (.int .i64 0), (.int .i64 0), .nsl] []), ⟨none, .store 7 (.t 6) (.t 130), none, .write, 2, false⟩, ⟨(some 7), .move (.t 143), none, .read, 3, false⟩])
 .ret)) (.seq (.region [oW 145 (.arith .eql (.t 33) (oI 5)), oM 144 145])
 (.cond (.t 144) (.seq (.draw [oRM 147 8, oR 148 (.nilCheck (.t 147)), oRA 149 2 148, oRD 150 149, oRA 151 2 4, oRD 152 151, oW 153 (.call (oF 329) [(.t 150), (.t 152)]), oRM 146 8, ⟨(some 154), .nilCheck (.t 146), none, .read, 1, false⟩, ⟨(some 155), .fieldAddr 2 (.t 154), none, .read, 1, false⟩, ⟨none, .store 1 (.t 155) (.t 153), none, .write, 1, false⟩])
 (.seq (.draw [oRM 157 0, oR 158 (.nilCheck (.t 157)), oRA 159 0 158, oRD 160 159, oRM 161 8, oR 162 (.nilCheck (.t 161)), oRA 163 0 162, oRD 164 163, oRA 166 2 4, oRD 167 166, oRM 165 9, ⟨(some 168), .call (.t 165) [(.t 167)], none, .create, 0, false⟩, ⟨(some 169), .call (oF 331) [(.t 160), (.t 164), (.t 168)], none, .write, 1, false⟩, oR 156 (.build [(.int .i64 0), (.int .i64 0), (.int .i64 0), (.int .i64 0), (.int .i64 0), (.int .i64 0), .nsl] []), ⟨none, .store 7 (.t 6) (.t 156), none, .write, 2, false⟩, ⟨(some 7), .move (.t 169), none, .read, 3, false⟩])
 .ret)) .skip))))))))))
 (.seq (.draw [oRM 170 8, oR 171 (.nilCheck (.t 170)), oRL 172 6 171, oRA 173 7 4, oRD 174 173, oW 175 (.call (oF 327) [(.t 172), (.t 174)]), ⟨(some 12), .move (.t 175), none, .read, 1, false⟩])
 (.seq (.draw [oRA 178 3 4, oRD 179 178, oRM 177 12, oRM 180 12, oR 181 (.len 1 (.t 180)), oR 182 (.arith .rem (.t 179) (.t 181)), oRM 183 12, oR 184 (.len 1 (.t 183)), oR 185 (.arith .add (.t 182) (.t 184)), oRM 186 12, oR 187 (.len 1 (.t 186)), oR 188 (.arith .rem (.t 185) (.t 187)), oR 189 (.indexAddr 2 (.t 177) (.t 188)), oRA 190 0 189, oRD 191 190, oRM 176 9, ⟨(some 192), .call (.t 176) [(.t 191)], none, .create, 0, false⟩, oRM 194 8, oR 195 (.nilCheck (.t 194)), oRA 196 5 195, oRD 197 196, oRM 193 9, ⟨(some 198), .call (.t 193) [(.t 197)], none, .write, 1, false⟩, ⟨(some 13), .alloc 45 2 (.agg [(.int .i64 0), (.int .i64 0)]), none, .create, 0, false⟩, ⟨(some 14), .alloc 45 2 (.agg [(.int .i64 0), (.int .i64 0)]), none, .create, 0, false⟩, ⟨none, .store 2 (.t 13) (.t 192), none, .write, 4, false⟩, ⟨none, .store 2 (.t 14) (.t 198), none, .write, 5, false⟩])
 (.seq (.region [oM 199 8, oW 200 (.nilCheck (.t 199)), oA 201 5 200, oD 202 201, oW 203 (.arith .add (.t 202) (oI 1)), oW 204 (.nilCheck (.t 199)), oA 205 5 204, oS 1 205 203])
 (.seq (.draw [oRM 207 0, oR 208 (.nilCheck (.t 207)), oRA 209 0 208, oRD 210 209, oRM 211 8, oR 212 (.nilCheck (.t 211)), oRA 213 0 212, oRD 214 213, oRL 215 2 13, oRL 216 2 14, oRA 217 7 4, oRD 218 217, oW 219 (.call (oF 56) [(.t 210), (.t 214), (.t 215), (.t 216), (.t 218)]), ⟨(some 206), .move (.t 219), none, .read, 1, false⟩, ⟨(some 220), .extract (.t 206) 0, none, .read, 1, false⟩, ⟨(some 221), .extract (.t 206) 1, none, .read, 1, false⟩, ⟨(some 15), .move (.t 220), none, .read, 1, false⟩, ⟨(some 16), .move (.t 221), none, .read, 1, false⟩])
 (.seq (.region [oM 222 0, oW 223 (.nilCheck (.t 222)), oA 224 2 223, oD 225 224, oM 226 15, oW 227 (.call (oF 273) [(.t 225), (.t 226)])])
 (.seq (.region [oL 228 2 14, oL 229 2 13, oW 230 (.build [(.int .i64 0), (.int .i64 0), (.int .i64 0), (.int .i64 0), (.int .i64 0), (.int .i64 0), .nsl] [(2, 2, (.t 228)), (4, 2, (.t 229))]), oM 231 16, oS 7 6 230, oM 7 231])
 .ret))))))))))) }

theorem c278 : compFunc Tryz.prog Tryz.f278 .full = some t278 := by kernel_rfl

def t279l0 : DCode :=
 (.seq (.seq (.draw [oRM 18 9, oRM 19 1, oR 20 (.arith .gtr (.t 18) (.t 19)), oRM 21 20, ⟨(some 23), .move (.t 0), (some (21, true)), .read, 0, false⟩, ⟨(some 24), .move (.t 9), (some (21, true)), .read, 0, false⟩, ⟨(some 25), .indexAddr 2 (.t 23) (.t 24), (some (21, true)), .read, 0, false⟩, ⟨(some 26), .load (some 2) (.t 25), (some (21, true)), .read, 0, false⟩, ⟨(some 27), .move (.t 0), (some (21, true)), .read, 0, false⟩, ⟨(some 28), .move (.t 9), (some (21, true)), .read, 0, false⟩, ⟨(some 29), .arith .sub (.t 28) (oI 1), (some (21, true)), .read, 0, false⟩, ⟨(some 30), .indexAddr 2 (.t 27) (.t 29), (some (21, true)), .read, 0, false⟩, ⟨(some 31), .load (some 2) (.t 30), (some (21, true)), .read, 0, false⟩, ⟨(some 22), .move (.t 3), (some (21, true)), .read, 0, false⟩, ⟨(some 32), .call (.t 22) [(.t 26), (.t 31)], (some (21, true)), .write, 0, false⟩, ⟨(some 33), .arith .lss (.t 32) (oI 0), (some (21, true)), .read, 1, false⟩, ⟨(some 34), .pick (.t 21) (.t 33) (oB false), none, .read, 1, false⟩])
 (.cond (.t 34) .skip (.exit 2)))
 (.seq (.block 3 (.draw [oRM 42 0, oRM 43 9, oR 44 (.arith .sub (.t 43) (oI 1)), oR 45 (.indexAddr 2 (.t 42) (.t 44)), oRL 46 2 45, oRM 47 0, oRM 48 9, oR 49 (.indexAddr 2 (.t 47) (.t 48)), oRL 50 2 49, oRM 37 0, oRM 38 9, oR 51 (.indexAddr 2 (.t 37) (.t 38)), oS 2 51 46, oRM 39 0, oRM 40 9, oR 41 (.arith .sub (.t 40) (oI 1)), ⟨(some 52), .indexAddr 2 (.t 39) (.t 41), none, .read, 1, false⟩, ⟨none, .store 2 (.t 52) (.t 50), none, .write, 1, false⟩]))
 (.region [oM 35 9, oW 36 (.arith .sub (.t 35) (oI 1)), oM 9 36])))

def t279k0 : DCode :=
 (.region [oM 15 8, oW 16 (.arith .add (.t 15) (oI 1)), oM 8 16])

def t279l1 : DCode :=
 (.seq (.seq (.region [oM 12 8, oM 13 2, oW 14 (.arith .lss (.t 12) (.t 13))])
 (.cond (.t 14) .skip (.exit 0)))
 (.seq (.block 1 (.seq (.region [oM 17 8, oM 9 17])
 (.block 2 (.loop t279l0))))
 t279k0))

/-- slices.insertionSortCmpFunc[[2]int] -/
def t279 : DFunc := { ntmps := 53, results := [], mode := .full, body :=
 (.seq (.region [oM 10 1, oW 11 (.arith .add (.t 10) (oI 1)), oM 8 11])
 (.block 0 (.loop t279l1))) }

theorem c279 : compFunc Tryz.prog Tryz.f279 .full = some t279 := by kernel_rfl

def t280l0 : DCode :=
 (.seq (.seq (.region [oM 20 11, oW 21 (.arith .geq (.t 20) (oI 0))])
 (.cond (.t 21) .skip (.exit 0)))
 (.seq (.block 1 (.region [oM 24 0, oM 25 11, oM 26 10, oM 27 8, oM 28 3, oW 29 (.call (oF 332) [(.t 24), (.t 25), (.t 26), (.t 27), (.t 28)])]))
 (.region [oM 22 11, oW 23 (.arith .sub (.t 22) (oI 1)), oM 11 23])))

def t280l1 : DCode :=
 (.seq (.seq (.region [oM 32 12, oW 33 (.arith .geq (.t 32) (oI 0))])
 (.cond (.t 33) .skip (.exit 2)))
 (.seq (.block 3 (.seq (.draw [oRM 42 0, oRM 43 8, oRM 44 12, oR 45 (.arith .add (.t 43) (.t 44)), oR 46 (.indexAddr 2 (.t 42) (.t 45)), oRL 47 2 46, oRM 48 0, oRM 49 8, oR 50 (.indexAddr 2 (.t 48) (.t 49)), oRL 51 2 50, oRM 36 0, oRM 37 8, oR 52 (.indexAddr 2 (.t 36) (.t 37)), oS 2 52 47, oRM 38 0, oRM 39 8, oRM 40 12, oR 41 (.arith .add (.t 39) (.t 40)), ⟨(some 53), .indexAddr 2 (.t 38) (.t 41), none, .read, 1, false⟩, ⟨none, .store 2 (.t 53) (.t 51), none, .write, 1, false⟩])
 (.region [oM 54 0, oM 55 9, oM 56 12, oM 57 8, oM 58 3, oW 59 (.call (oF 332) [(.t 54), (.t 55), (.t 56), (.t 57), (.t 58)])])))
 (.region [oM 34 12, oW 35 (.arith .sub (.t 34) (oI 1)), oM 12 35])))

def t280k0 : DCode :=
 (.seq (.region [oM 30 10, oW 31 (.arith .sub (.t 30) (oI 1)), oM 12 31])
 (.block 2 (.loop t280l1)))

/-- slices.heapSortCmpFunc[[2]int] -/
def t280 : DFunc := { ntmps := 60, results := [], mode := .full, body :=
 (.seq (.region [oM 13 1, oM 8 13])
 (.seq (.region [oW 9 (.move (oI 0))])
 (.seq (.region [oM 14 2, oM 15 1, oW 16 (.arith .sub (.t 14) (.t 15)), oM 10 16])
 (.seq (.seq (.region [oM 17 10, oW 18 (.arith .sub (.t 17) (oI 1)), oW 19 (.arith .quo (.t 18) (oI 2)), oM 11 19])
 (.block 0 (.loop t280l0)))
 t280k0)))) }

theorem c280 : compFunc Tryz.prog Tryz.f280 .full = some t280 := by kernel_rfl

def t281l0 : DCode :=
 (.seq (.seq (.region [oM 28 11, oM 29 1, oM 30 8, oW 31 (.arith .quo (.t 30) (oI 4)), oW 32 (.arith .mul (.t 31) (oI 2)), oW 33 (.arith .add (.t 29) (.t 32)), oW 34 (.arith .add (.t 33) (oI 1)), oW 35 (.arith .leq (.t 28) (.t 34))])
 (.cond (.t 35) .skip (.exit 0)))
 (.seq (.block 1 (.seq (.region [oW 38 (.call (oF 334) [(.t 9)]), oM 39 10, oW 40 (.arith .sub (.t 39) (.c (.int .u64 1))), oW 41 (.arith .and (.t 38) (.t 40)), oW 42 (.conv .i64 (.t 41)), oM 12 42])
 (.seq (.seq (.region [oM 43 12, oM 44 8, oW 45 (.arith .geq (.t 43) (.t 44))])
 (.cond (.t 45) (.region [oM 46 12, oM 47 8, oW 48 (.arith .sub (.t 46) (.t 47)), oM 12 48]) .skip))
 (.draw [oRM 55 0, oRM 56 1, oRM 57 12, oR 58 (.arith .add (.t 56) (.t 57)), oR 59 (.indexAddr 2 (.t 55) (.t 58)), oRL 60 2 59, oRM 61 0, oRM 62 11, oR 63 (.indexAddr 2 (.t 61) (.t 62)), oRL 64 2 63, oRM 49 0, oRM 50 11, oR 65 (.indexAddr 2 (.t 49) (.t 50)), oS 2 65 60, oRM 51 0, oRM 52 1, oRM 53 12, oR 54 (.arith .add (.t 52) (.t 53)), ⟨(some 66), .indexAddr 2 (.t 51) (.t 54), none, .read, 1, false⟩, ⟨none, .store 2 (.t 66) (.t 64), none, .write, 1, false⟩]))))
 (.region [oM 36 11, oW 37 (.arith .add (.t 36) (oI 1)), oM 11 37])))

/-- slices.breakPatternsCmpFunc[[2]int] -/
def t281 : DFunc := { ntmps := 67, results := [], mode := .full, body :=
 (.seq (.region [oM 13 2, oM 14 1, oW 15 (.arith .sub (.t 13) (.t 14)), oM 8 15])
 (.seq (.region [oM 16 8, oW 17 (.arith .geq (.t 16) (oI 8))])
 (.cond (.t 17) (.seq (.region [oM 18 8, oW 19 (.conv .u64 (.t 18)), oW 9 (.alloc 423 1 (.int .u64 0)), oS 1 9 19])
 (.seq (.region [oM 20 8, oW 21 (.call (oF 333) [(.t 20)]), oM 10 21])
 (.seq (.region [oM 22 1, oM 23 8, oW 24 (.arith .quo (.t 23) (oI 4)), oW 25 (.arith .mul (.t 24) (oI 2)), oW 26 (.arith .add (.t 22) (.t 25)), oW 27 (.arith .sub (.t 26) (oI 1)), oM 11 27])
 (.block 0 (.loop t281l0))))) .skip))) }

theorem c281 : compFunc Tryz.prog Tryz.f281 .full = some t281 := by kernel_rfl

/-- slices.choosePivotCmpFunc[[2]int] -/
def t282 : DFunc := { ntmps := 63, results := [(.t 8), (.t 9)], mode := .full, body :=
 (.seq (.region [oW 8 (.move (oI 0)), oW 9 (.move (oI 0))])
 (.seq (.region [oM 15 2, oM 16 1, oW 17 (.arith .sub (.t 15) (.t 16)), oM 10 17])
 (.seq (.region [oW 11 (.alloc 3 1 (.int .i64 0))])
 (.seq (.region [oM 18 1, oM 19 10, oW 20 (.arith .quo (.t 19) (oI 4)), oW 21 (.arith .mul (.t 20) (oI 1)), oW 22 (.arith .add (.t 18) (.t 21)), oM 12 22])
 (.seq (.region [oM 23 1, oM 24 10, oW 25 (.arith .quo (.t 24) (oI 4)), oW 26 (.arith .mul (.t 25) (oI 2)), oW 27 (.arith .add (.t 23) (.t 26)), oM 13 27])
 (.seq (.region [oM 28 1, oM 29 10, oW 30 (.arith .quo (.t 29) (oI 4)), oW 31 (.arith .mul (.t 30) (oI 3)), oW 32 (.arith .add (.t 28) (.t 31)), oM 14 32])
 (.seq (.seq (.region [oM 33 10, oW 34 (.arith .geq (.t 33) (oI 8))])
 (.cond (.t 34) (.seq (.seq (.region [oM 35 10, oW 36 (.arith .geq (.t 35) (oI 50))])
 (.cond (.t 36) (.seq (.region [oM 37 0, oM 38 12, oM 39 3, oW 40 (.call (oF 335) [(.t 37), (.t 38), (.t 11), (.t 39)]), oM 12 40])
 (.seq (.region [oM 41 0, oM 42 13, oM 43 3, oW 44 (.call (oF 335) [(.t 41), (.t 42), (.t 11), (.t 43)]), oM 13 44])
 (.region [oM 45 0, oM 46 14, oM 47 3, oW 48 (.call (oF 335) [(.t 45), (.t 46), (.t 11), (.t 47)]), oM 14 48]))) .skip))
 (.region [oM 49 0, oM 50 12, oM 51 13, oM 52 14, oM 53 3, oW 54 (.call (oF 336) [(.t 49), (.t 50), (.t 51), (.t 52), (.t 11), (.t 53)]), oM 13 54])) .skip))
 (.seq (.region [oD 55 11])
 (.block 0 (.seq (.region [oW 58 (.arith .eql (.t 55) (oI 0)), oM 57 58])
 (.cond (.t 57) (.seq (.region [oM 59 13, oM 8 59, oW 9 (.move (oI 1))])
 .ret) (.seq (.region [oW 61 (.arith .eql (.t 55) (oI 12)), oM 60 61])
 (.cond (.t 60) (.seq (.region [oM 62 13, oM 8 62, oW 9 (.move (oI 2))])
 .ret) (.seq (.region [oM 56 13, oM 8 56, oW 9 (.move (oI 0))])
 .ret)))))))))))))) }

theorem c282 : compFunc Tryz.prog Tryz.f282 .full = some t282 := by kernel_rfl

def t283l0 : DCode :=
 (.seq (.seq (.region [oM 13 8, oM 14 9, oW 15 (.arith .lss (.t 13) (.t 14))])
 (.cond (.t 15) .skip (.exit 0)))
 (.block 1 (.seq (.draw [oRM 20 0, oRM 21 9, oR 22 (.indexAddr 2 (.t 20) (.t 21)), oRL 23 2 22, oRM 24 0, oRM 25 8, oR 26 (.indexAddr 2 (.t 24) (.t 25)), oRL 27 2 26, oRM 16 0, oRM 17 8, oR 28 (.indexAddr 2 (.t 16) (.t 17)), oS 2 28 23, oRM 18 0, oRM 19 9, ⟨(some 29), .indexAddr 2 (.t 18) (.t 19), none, .read, 1, false⟩, ⟨none, .store 2 (.t 29) (.t 27), none, .write, 1, false⟩])
 (.seq (.region [oM 30 8, oW 31 (.arith .add (.t 30) (oI 1)), oM 8 31])
 (.region [oM 32 9, oW 33 (.arith .sub (.t 32) (oI 1)), oM 9 33])))))

/-- slices.reverseRangeCmpFunc[[2]int] -/
def t283 : DFunc := { ntmps := 34, results := [], mode := .full, body :=
 (.seq (.region [oM 10 1, oM 8 10])
 (.seq (.region [oM 11 2, oW 12 (.arith .sub (.t 11) (oI 1)), oM 9 12])
 (.block 0 (.loop t283l0)))) }

theorem c283 : compFunc Tryz.prog Tryz.f283 .full = some t283 := by kernel_rfl

def t284l0 : DCode :=
 (.seq (.seq (.draw [oRM 19 9, oRM 20 2, oR 21 (.arith .lss (.t 19) (.t 20)), oRM 22 21, ⟨(some 24), .move (.t 0), (some (22, true)), .read, 0, false⟩, ⟨(some 25), .move (.t 9), (some (22, true)), .read, 0, false⟩, ⟨(some 26), .indexAddr 2 (.t 24) (.t 25), (some (22, true)), .read, 0, false⟩, ⟨(some 27), .load (some 2) (.t 26), (some (22, true)), .read, 0, false⟩, ⟨(some 28), .move (.t 0), (some (22, true)), .read, 0, false⟩, ⟨(some 29), .move (.t 9), (some (22, true)), .read, 0, false⟩, ⟨(some 30), .arith .sub (.t 29) (oI 1), (some (22, true)), .read, 0, false⟩, ⟨(some 31), .indexAddr 2 (.t 28) (.t 30), (some (22, true)), .read, 0, false⟩, ⟨(some 32), .load (some 2) (.t 31), (some (22, true)), .read, 0, false⟩, ⟨(some 23), .move (.t 3), (some (22, true)), .read, 0, false⟩, ⟨(some 33), .call (.t 23) [(.t 27), (.t 32)], (some (22, true)), .write, 0, false⟩, ⟨(some 34), .arith .lss (.t 33) (oI 0), (some (22, true)), .read, 1, false⟩, ⟨(some 35), .un .not (.t 34), (some (22, true)), .read, 1, false⟩, ⟨(some 36), .pick (.t 22) (.t 35) (oB false), none, .read, 1, false⟩])
 (.cond (.t 36) .skip (.exit 2)))
 (.block 3 (.region [oM 37 9, oW 38 (.arith .add (.t 37) (oI 1)), oM 9 38])))

def t284l1 : DCode :=
 (.seq (.seq (.region [oM 68 11, oW 69 (.arith .geq (.t 68) (oI 1))])
 (.cond (.t 69) .skip (.exit 4)))
 (.seq (.block 5 (.seq (.seq (.draw [oRM 73 0, oRM 74 11, oR 75 (.indexAddr 2 (.t 73) (.t 74)), oRL 76 2 75, oRM 77 0, oRM 78 11, oR 79 (.arith .sub (.t 78) (oI 1)), oR 80 (.indexAddr 2 (.t 77) (.t 79)), oRL 81 2 80, oRM 72 3, oW 82 (.call (.t 72) [(.t 76), (.t 81)]), ⟨(some 83), .arith .lss (.t 82) (oI 0), none, .read, 1, false⟩, ⟨(some 84), .un .not (.t 83), none, .read, 1, false⟩])
 (.cond (.t 84) (.exit 4) .skip))
 (.draw [oRM 90 0, oRM 91 11, oR 92 (.arith .sub (.t 91) (oI 1)), oR 93 (.indexAddr 2 (.t 90) (.t 92)), oRL 94 2 93, oRM 95 0, oRM 96 11, oR 97 (.indexAddr 2 (.t 95) (.t 96)), oRL 98 2 97, oRM 85 0, oRM 86 11, oR 99 (.indexAddr 2 (.t 85) (.t 86)), oS 2 99 94, oRM 87 0, oRM 88 11, oR 89 (.arith .sub (.t 88) (oI 1)), ⟨(some 100), .indexAddr 2 (.t 87) (.t 89), none, .read, 1, false⟩, ⟨none, .store 2 (.t 100) (.t 98), none, .write, 1, false⟩])))
 (.region [oM 70 11, oW 71 (.arith .sub (.t 70) (oI 1)), oM 11 71])))

def t284l2 : DCode :=
 (.seq (.seq (.region [oM 107 12, oM 108 2, oW 109 (.arith .lss (.t 107) (.t 108))])
 (.cond (.t 109) .skip (.exit 6)))
 (.seq (.block 7 (.seq (.seq (.draw [oRM 113 0, oRM 114 12, oR 115 (.indexAddr 2 (.t 113) (.t 114)), oRL 116 2 115, oRM 117 0, oRM 118 12, oR 119 (.arith .sub (.t 118) (oI 1)), oR 120 (.indexAddr 2 (.t 117) (.t 119)), oRL 121 2 120, oRM 112 3, oW 122 (.call (.t 112) [(.t 116), (.t 121)]), ⟨(some 123), .arith .lss (.t 122) (oI 0), none, .read, 1, false⟩, ⟨(some 124), .un .not (.t 123), none, .read, 1, false⟩])
 (.cond (.t 124) (.exit 6) .skip))
 (.draw [oRM 130 0, oRM 131 12, oR 132 (.arith .sub (.t 131) (oI 1)), oR 133 (.indexAddr 2 (.t 130) (.t 132)), oRL 134 2 133, oRM 135 0, oRM 136 12, oR 137 (.indexAddr 2 (.t 135) (.t 136)), oRL 138 2 137, oRM 125 0, oRM 126 12, oR 139 (.indexAddr 2 (.t 125) (.t 126)), oS 2 139 134, oRM 127 0, oRM 128 12, oR 129 (.arith .sub (.t 128) (oI 1)), ⟨(some 140), .indexAddr 2 (.t 127) (.t 129), none, .read, 1, false⟩, ⟨none, .store 2 (.t 140) (.t 138), none, .write, 1, false⟩])))
 (.region [oM 110 12, oW 111 (.arith .add (.t 110) (oI 1)), oM 12 111])))

def t284k0 : DCode :=
 (.seq (.region [oM 101 2, oM 102 9, oW 103 (.arith .sub (.t 101) (.t 102)), oW 104 (.arith .geq (.t 103) (oI 2))])
 (.cond (.t 104) (.seq (.region [oM 105 9, oW 106 (.arith .add (.t 105) (oI 1)), oM 12 106])
 (.block 6 (.loop t284l2))) .skip))

def t284k1 : DCode :=
 (.seq (.seq (.region [oM 39 9, oM 40 2, oW 41 (.arith .eql (.t 39) (.t 40))])
 (.cond (.t 41) (.seq (.region [oW 8 (.move (oB true))])
 .ret) .skip))
 (.seq (.seq (.region [oM 42 2, oM 43 1, oW 44 (.arith .sub (.t 42) (.t 43)), oW 45 (.arith .lss (.t 44) (oI 50))])
 (.cond (.t 45) (.seq (.region [oW 8 (.move (oB false))])
 .ret) .skip))
 (.seq (.draw [oRM 51 0, oRM 52 9, oR 53 (.arith .sub (.t 52) (oI 1)), oR 54 (.indexAddr 2 (.t 51) (.t 53)), oRL 55 2 54, oRM 56 0, oRM 57 9, oR 58 (.indexAddr 2 (.t 56) (.t 57)), oRL 59 2 58, oRM 46 0, oRM 47 9, oR 60 (.indexAddr 2 (.t 46) (.t 47)), oS 2 60 55, oRM 48 0, oRM 49 9, oR 50 (.arith .sub (.t 49) (oI 1)), ⟨(some 61), .indexAddr 2 (.t 48) (.t 50), none, .read, 1, false⟩, ⟨none, .store 2 (.t 61) (.t 59), none, .write, 1, false⟩])
 (.seq (.seq (.region [oM 62 9, oM 63 1, oW 64 (.arith .sub (.t 62) (.t 63)), oW 65 (.arith .geq (.t 64) (oI 2))])
 (.cond (.t 65) (.seq (.region [oM 66 9, oW 67 (.arith .sub (.t 66) (oI 1)), oM 11 67])
 (.block 4 (.loop t284l1))) .skip))
 t284k0))))

def t284k2 : DCode :=
 (.region [oM 17 10, oW 18 (.arith .add (.t 17) (oI 1)), oM 10 18])

def t284l3 : DCode :=
 (.seq (.seq (.region [oM 15 10, oW 16 (.arith .lss (.t 15) (oI 5))])
 (.cond (.t 16) .skip (.exit 0)))
 (.seq (.block 1 (.seq (.block 2 (.loop t284l0))
 t284k1))
 t284k2))

def t284k3 : DCode :=
 (.seq (.region [oW 8 (.move (oB false))])
 .ret)

/-- slices.partialInsertionSortCmpFunc[[2]int] -/
def t284 : DFunc := { ntmps := 141, results := [(.t 8)], mode := .full, body :=
 (.seq (.region [oW 8 (.move (oB false))])
 (.seq (.region [oM 13 1, oW 14 (.arith .add (.t 13) (oI 1)), oM 9 14])
 (.seq (.seq (.region [oW 10 (.move (oI 0))])
 (.block 0 (.loop t284l3)))
 t284k3))) }

theorem c284 : compFunc Tryz.prog Tryz.f284 .full = some t284 := by kernel_rfl

def t285l0 : DCode :=
 (.seq (.seq (.draw [oRM 31 11, oRM 32 12, oR 33 (.arith .leq (.t 31) (.t 32)), oRM 34 33, ⟨(some 36), .move (.t 0), (some (34, true)), .read, 0, false⟩, ⟨(some 37), .move (.t 1), (some (34, true)), .read, 0, false⟩, ⟨(some 38), .indexAddr 2 (.t 36) (.t 37), (some (34, true)), .read, 0, false⟩, ⟨(some 39), .load (some 2) (.t 38), (some (34, true)), .read, 0, false⟩, ⟨(some 40), .move (.t 0), (some (34, true)), .read, 0, false⟩, ⟨(some 41), .move (.t 11), (some (34, true)), .read, 0, false⟩, ⟨(some 42), .indexAddr 2 (.t 40) (.t 41), (some (34, true)), .read, 0, false⟩, ⟨(some 43), .load (some 2) (.t 42), (some (34, true)), .read, 0, false⟩, ⟨(some 35), .move (.t 4), (some (34, true)), .read, 0, false⟩, ⟨(some 44), .call (.t 35) [(.t 39), (.t 43)], (some (34, true)), .write, 0, false⟩, ⟨(some 45), .arith .lss (.t 44) (oI 0), (some (34, true)), .read, 1, false⟩, ⟨(some 46), .un .not (.t 45), (some (34, true)), .read, 1, false⟩, ⟨(some 47), .pick (.t 34) (.t 46) (oB false), none, .read, 1, false⟩])
 (.cond (.t 47) .skip (.exit 2)))
 (.block 3 (.region [oM 48 11, oW 49 (.arith .add (.t 48) (oI 1)), oM 11 49])))

def t285l1 : DCode :=
 (.seq (.seq (.draw [oRM 50 11, oRM 51 12, oR 52 (.arith .leq (.t 50) (.t 51)), oRM 53 52, ⟨(some 55), .move (.t 0), (some (53, true)), .read, 0, false⟩, ⟨(some 56), .move (.t 1), (some (53, true)), .read, 0, false⟩, ⟨(some 57), .indexAddr 2 (.t 55) (.t 56), (some (53, true)), .read, 0, false⟩, ⟨(some 58), .load (some 2) (.t 57), (some (53, true)), .read, 0, false⟩, ⟨(some 59), .move (.t 0), (some (53, true)), .read, 0, false⟩, ⟨(some 60), .move (.t 12), (some (53, true)), .read, 0, false⟩, ⟨(some 61), .indexAddr 2 (.t 59) (.t 60), (some (53, true)), .read, 0, false⟩, ⟨(some 62), .load (some 2) (.t 61), (some (53, true)), .read, 0, false⟩, ⟨(some 54), .move (.t 4), (some (53, true)), .read, 0, false⟩, ⟨(some 63), .call (.t 54) [(.t 58), (.t 62)], (some (53, true)), .write, 0, false⟩, ⟨(some 64), .arith .lss (.t 63) (oI 0), (some (53, true)), .read, 1, false⟩, ⟨(some 65), .pick (.t 53) (.t 64) (oB false), none, .read, 1, false⟩])
 (.cond (.t 65) .skip (.exit 4)))
 (.block 5 (.region [oM 66 12, oW 67 (.arith .sub (.t 66) (oI 1)), oM 12 67])))

def t285k0 : DCode :=
 (.seq (.seq (.region [oM 68 11, oM 69 12, oW 70 (.arith .gtr (.t 68) (.t 69))])
 (.cond (.t 70) (.exit 0) .skip))
 (.seq (.draw [oRM 75 0, oRM 76 12, oR 77 (.indexAddr 2 (.t 75) (.t 76)), oRL 78 2 77, oRM 79 0, oRM 80 11, oR 81 (.indexAddr 2 (.t 79) (.t 80)), oRL 82 2 81, oRM 71 0, oRM 72 11, oR 83 (.indexAddr 2 (.t 71) (.t 72)), oS 2 83 78, oRM 73 0, oRM 74 12, ⟨(some 84), .indexAddr 2 (.t 73) (.t 74), none, .read, 1, false⟩, ⟨none, .store 2 (.t 84) (.t 82), none, .write, 1, false⟩])
 (.seq (.region [oM 85 11, oW 86 (.arith .add (.t 85) (oI 1)), oM 11 86])
 (.region [oM 87 12, oW 88 (.arith .sub (.t 87) (oI 1)), oM 12 88]))))

def t285k1 : DCode :=
 (.seq (.block 4 (.loop t285l1))
 t285k0)

def t285l2 : DCode :=
 (.block 1 (.seq (.block 2 (.loop t285l0))
 t285k1))

def t285k2 : DCode :=
 (.seq (.region [oM 89 11, oM 10 89])
 .ret)

/-- slices.partitionEqualCmpFunc[[2]int] -/
def t285 : DFunc := { ntmps := 90, results := [(.t 10)], mode := .full, body :=
 (.seq (.region [oW 10 (.move (oI 0))])
 (.seq (.draw [oRM 17 0, oRM 18 3, oR 19 (.indexAddr 2 (.t 17) (.t 18)), oRL 20 2 19, oRM 21 0, oRM 22 1, oR 23 (.indexAddr 2 (.t 21) (.t 22)), oRL 24 2 23, oRM 13 0, oRM 14 1, oR 25 (.indexAddr 2 (.t 13) (.t 14)), oS 2 25 20, oRM 15 0, oRM 16 3, ⟨(some 26), .indexAddr 2 (.t 15) (.t 16), none, .read, 1, false⟩, ⟨none, .store 2 (.t 26) (.t 24), none, .write, 1, false⟩])
 (.seq (.region [oM 27 1, oW 28 (.arith .add (.t 27) (oI 1)), oM 29 2, oW 30 (.arith .sub (.t 29) (oI 1)), oM 11 28, oM 12 30])
 (.seq (.block 0 (.loop t285l2))
 t285k2)))) }

theorem c285 : compFunc Tryz.prog Tryz.f285 .full = some t285 := by kernel_rfl

end Go.Dm.Tr7
