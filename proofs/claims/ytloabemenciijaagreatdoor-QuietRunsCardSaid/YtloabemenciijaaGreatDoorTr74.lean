/-
The table of functions, brought into the machine's form (Tr7, part 4). Written by program (wip/tools/table3.lean.txt).
-/
import Derived.Test.YtloabemenciijaaGreatDoorMm4
import Derived.Test.YtloabemenciijaaGreatDoorRows
import Derived.KernelRfl
namespace Go.Dm.Tr7
open Go.Proofs

def t286l0 : DCode :=
 (.seq (.seq (.draw [oRM 32 12, oRM 33 13, oR 34 (.arith .leq (.t 32) (.t 33)), oRM 35 34, ⟨(some 37), .move (.t 0), (some (35, true)), .read, 0, false⟩, ⟨(some 38), .move (.t 12), (some (35, true)), .read, 0, false⟩, ⟨(some 39), .indexAddr 2 (.t 37) (.t 38), (some (35, true)), .read, 0, false⟩, ⟨(some 40), .load (some 2) (.t 39), (some (35, true)), .read, 0, false⟩, ⟨(some 41), .move (.t 0), (some (35, true)), .read, 0, false⟩, ⟨(some 42), .move (.t 1), (some (35, true)), .read, 0, false⟩, ⟨(some 43), .indexAddr 2 (.t 41) (.t 42), (some (35, true)), .read, 0, false⟩, ⟨(some 44), .load (some 2) (.t 43), (some (35, true)), .read, 0, false⟩, ⟨(some 36), .move (.t 4), (some (35, true)), .read, 0, false⟩, ⟨(some 45), .call (.t 36) [(.t 40), (.t 44)], (some (35, true)), .write, 0, false⟩, ⟨(some 46), .arith .lss (.t 45) (oI 0), (some (35, true)), .read, 1, false⟩, ⟨(some 47), .pick (.t 35) (.t 46) (oB false), none, .read, 1, false⟩])
 (.cond (.t 47) .skip (.exit 0)))
 (.block 1 (.region [oM 48 12, oW 49 (.arith .add (.t 48) (oI 1)), oM 12 49])))

def t286l1 : DCode :=
 (.seq (.seq (.draw [oRM 50 12, oRM 51 13, oR 52 (.arith .leq (.t 50) (.t 51)), oRM 53 52, ⟨(some 55), .move (.t 0), (some (53, true)), .read, 0, false⟩, ⟨(some 56), .move (.t 13), (some (53, true)), .read, 0, false⟩, ⟨(some 57), .indexAddr 2 (.t 55) (.t 56), (some (53, true)), .read, 0, false⟩, ⟨(some 58), .load (some 2) (.t 57), (some (53, true)), .read, 0, false⟩, ⟨(some 59), .move (.t 0), (some (53, true)), .read, 0, false⟩, ⟨(some 60), .move (.t 1), (some (53, true)), .read, 0, false⟩, ⟨(some 61), .indexAddr 2 (.t 59) (.t 60), (some (53, true)), .read, 0, false⟩, ⟨(some 62), .load (some 2) (.t 61), (some (53, true)), .read, 0, false⟩, ⟨(some 54), .move (.t 4), (some (53, true)), .read, 0, false⟩, ⟨(some 63), .call (.t 54) [(.t 58), (.t 62)], (some (53, true)), .write, 0, false⟩, ⟨(some 64), .arith .lss (.t 63) (oI 0), (some (53, true)), .read, 1, false⟩, ⟨(some 65), .un .not (.t 64), (some (53, true)), .read, 1, false⟩, ⟨(some 66), .pick (.t 53) (.t 65) (oB false), none, .read, 1, false⟩])
 (.cond (.t 66) .skip (.exit 2)))
 (.block 3 (.region [oM 67 13, oW 68 (.arith .sub (.t 67) (oI 1)), oM 13 68])))

def t286l2 : DCode :=
 (.seq (.seq (.draw [oRM 105 12, oRM 106 13, oR 107 (.arith .leq (.t 105) (.t 106)), oRM 108 107, ⟨(some 110), .move (.t 0), (some (108, true)), .read, 0, false⟩, ⟨(some 111), .move (.t 12), (some (108, true)), .read, 0, false⟩, ⟨(some 112), .indexAddr 2 (.t 110) (.t 111), (some (108, true)), .read, 0, false⟩, ⟨(some 113), .load (some 2) (.t 112), (some (108, true)), .read, 0, false⟩, ⟨(some 114), .move (.t 0), (some (108, true)), .read, 0, false⟩, ⟨(some 115), .move (.t 1), (some (108, true)), .read, 0, false⟩, ⟨(some 116), .indexAddr 2 (.t 114) (.t 115), (some (108, true)), .read, 0, false⟩, ⟨(some 117), .load (some 2) (.t 116), (some (108, true)), .read, 0, false⟩, ⟨(some 109), .move (.t 4), (some (108, true)), .read, 0, false⟩, ⟨(some 118), .call (.t 109) [(.t 113), (.t 117)], (some (108, true)), .write, 0, false⟩, ⟨(some 119), .arith .lss (.t 118) (oI 0), (some (108, true)), .read, 1, false⟩, ⟨(some 120), .pick (.t 108) (.t 119) (oB false), none, .read, 1, false⟩])
 (.cond (.t 120) .skip (.exit 6)))
 (.block 7 (.region [oM 121 12, oW 122 (.arith .add (.t 121) (oI 1)), oM 12 122])))

def t286l3 : DCode :=
 (.seq (.seq (.draw [oRM 123 12, oRM 124 13, oR 125 (.arith .leq (.t 123) (.t 124)), oRM 126 125, ⟨(some 128), .move (.t 0), (some (126, true)), .read, 0, false⟩, ⟨(some 129), .move (.t 13), (some (126, true)), .read, 0, false⟩, ⟨(some 130), .indexAddr 2 (.t 128) (.t 129), (some (126, true)), .read, 0, false⟩, ⟨(some 131), .load (some 2) (.t 130), (some (126, true)), .read, 0, false⟩, ⟨(some 132), .move (.t 0), (some (126, true)), .read, 0, false⟩, ⟨(some 133), .move (.t 1), (some (126, true)), .read, 0, false⟩, ⟨(some 134), .indexAddr 2 (.t 132) (.t 133), (some (126, true)), .read, 0, false⟩, ⟨(some 135), .load (some 2) (.t 134), (some (126, true)), .read, 0, false⟩, ⟨(some 127), .move (.t 4), (some (126, true)), .read, 0, false⟩, ⟨(some 136), .call (.t 127) [(.t 131), (.t 135)], (some (126, true)), .write, 0, false⟩, ⟨(some 137), .arith .lss (.t 136) (oI 0), (some (126, true)), .read, 1, false⟩, ⟨(some 138), .un .not (.t 137), (some (126, true)), .read, 1, false⟩, ⟨(some 139), .pick (.t 126) (.t 138) (oB false), none, .read, 1, false⟩])
 (.cond (.t 139) .skip (.exit 8)))
 (.block 9 (.region [oM 140 13, oW 141 (.arith .sub (.t 140) (oI 1)), oM 13 141])))

def t286k0 : DCode :=
 (.seq (.seq (.region [oM 142 12, oM 143 13, oW 144 (.arith .gtr (.t 142) (.t 143))])
 (.cond (.t 144) (.exit 4) .skip))
 (.seq (.draw [oRM 149 0, oRM 150 13, oR 151 (.indexAddr 2 (.t 149) (.t 150)), oRL 152 2 151, oRM 153 0, oRM 154 12, oR 155 (.indexAddr 2 (.t 153) (.t 154)), oRL 156 2 155, oRM 145 0, oRM 146 12, oR 157 (.indexAddr 2 (.t 145) (.t 146)), oS 2 157 152, oRM 147 0, oRM 148 13, ⟨(some 158), .indexAddr 2 (.t 147) (.t 148), none, .read, 1, false⟩, ⟨none, .store 2 (.t 158) (.t 156), none, .write, 1, false⟩])
 (.seq (.region [oM 159 12, oW 160 (.arith .add (.t 159) (oI 1)), oM 12 160])
 (.region [oM 161 13, oW 162 (.arith .sub (.t 161) (oI 1)), oM 13 162]))))

def t286k1 : DCode :=
 (.seq (.block 8 (.loop t286l3))
 t286k0)

def t286l4 : DCode :=
 (.block 5 (.seq (.block 6 (.loop t286l2))
 t286k1))

def t286k2 : DCode :=
 (.seq (.draw [oRM 167 0, oRM 168 1, oR 169 (.indexAddr 2 (.t 167) (.t 168)), oRL 170 2 169, oRM 171 0, oRM 172 13, oR 173 (.indexAddr 2 (.t 171) (.t 172)), oRL 174 2 173, oRM 163 0, oRM 164 13, oR 175 (.indexAddr 2 (.t 163) (.t 164)), oS 2 175 170, oRM 165 0, oRM 166 1, ⟨(some 176), .indexAddr 2 (.t 165) (.t 166), none, .read, 1, false⟩, ⟨none, .store 2 (.t 176) (.t 174), none, .write, 1, false⟩])
 (.seq (.region [oM 177 13, oM 10 177, oW 11 (.move (oB false))])
 .ret))

def t286k3 : DCode :=
 (.seq (.seq (.region [oM 69 12, oM 70 13, oW 71 (.arith .gtr (.t 69) (.t 70))])
 (.cond (.t 71) (.seq (.draw [oRM 76 0, oRM 77 1, oR 78 (.indexAddr 2 (.t 76) (.t 77)), oRL 79 2 78, oRM 80 0, oRM 81 13, oR 82 (.indexAddr 2 (.t 80) (.t 81)), oRL 83 2 82, oRM 72 0, oRM 73 13, oR 84 (.indexAddr 2 (.t 72) (.t 73)), oS 2 84 79, oRM 74 0, oRM 75 1, ⟨(some 85), .indexAddr 2 (.t 74) (.t 75), none, .read, 1, false⟩, ⟨none, .store 2 (.t 85) (.t 83), none, .write, 1, false⟩])
 (.seq (.region [oM 86 13, oM 10 86, oW 11 (.move (oB true))])
 .ret)) .skip))
 (.seq (.draw [oRM 91 0, oRM 92 13, oR 93 (.indexAddr 2 (.t 91) (.t 92)), oRL 94 2 93, oRM 95 0, oRM 96 12, oR 97 (.indexAddr 2 (.t 95) (.t 96)), oRL 98 2 97, oRM 87 0, oRM 88 12, oR 99 (.indexAddr 2 (.t 87) (.t 88)), oS 2 99 94, oRM 89 0, oRM 90 13, ⟨(some 100), .indexAddr 2 (.t 89) (.t 90), none, .read, 1, false⟩, ⟨none, .store 2 (.t 100) (.t 98), none, .write, 1, false⟩])
 (.seq (.region [oM 101 12, oW 102 (.arith .add (.t 101) (oI 1)), oM 12 102])
 (.seq (.region [oM 103 13, oW 104 (.arith .sub (.t 103) (oI 1)), oM 13 104])
 (.seq (.block 4 (.loop t286l4))
 t286k2)))))

def t286k4 : DCode :=
 (.seq (.block 2 (.loop t286l1))
 t286k3)

/-- slices.partitionCmpFunc[[2]int] -/
def t286 : DFunc := { ntmps := 178, results := [(.t 10), (.t 11)], mode := .full, body :=
 (.seq (.region [oW 10 (.move (oI 0)), oW 11 (.move (oB false))])
 (.seq (.draw [oRM 18 0, oRM 19 3, oR 20 (.indexAddr 2 (.t 18) (.t 19)), oRL 21 2 20, oRM 22 0, oRM 23 1, oR 24 (.indexAddr 2 (.t 22) (.t 23)), oRL 25 2 24, oRM 14 0, oRM 15 1, oR 26 (.indexAddr 2 (.t 14) (.t 15)), oS 2 26 21, oRM 16 0, oRM 17 3, ⟨(some 27), .indexAddr 2 (.t 16) (.t 17), none, .read, 1, false⟩, ⟨none, .store 2 (.t 27) (.t 25), none, .write, 1, false⟩])
 (.seq (.region [oM 28 1, oW 29 (.arith .add (.t 28) (oI 1)), oM 30 2, oW 31 (.arith .sub (.t 30) (oI 1)), oM 12 29, oM 13 31])
 (.seq (.block 0 (.loop t286l0))
 t286k4)))) }

theorem c286 : compFunc Tryz.prog Tryz.f286 .full = some t286 := by kernel_rfl

/-- math/bits.Len32 -/
def t287 : DFunc := { ntmps := 19, results := [(.t 2)], mode := .full, body :=
 (.seq (.region [oW 2 (.move (oI 0))])
 (.seq (.seq (.region [oM 3 0, oW 4 (.arith .geq (.t 3) (.c (.int .u32 65536)))])
 (.cond (.t 4) (.seq (.region [oM 5 0, oW 6 (.arith .shr (.t 5) (.c (.int .u64 16))), oM 0 6])
 (.region [oW 2 (.move (oI 16))])) .skip))
 (.seq (.seq (.region [oM 7 0, oW 8 (.arith .geq (.t 7) (.c (.int .u32 256)))])
 (.cond (.t 8) (.seq (.region [oM 9 0, oW 10 (.arith .shr (.t 9) (.c (.int .u64 8))), oM 0 10])
 (.region [oM 11 2, oW 12 (.arith .add (.t 11) (oI 8)), oM 2 12])) .skip))
 (.seq (.region [oM 13 2, oM 14 0, oW 15 (.conv .u8 (.t 14)), oW 16 (.indexStr (.c (.str [0, 1, 2, 2, 3, 3, 3, 3, 4, 4, 4, 4, 4, 4, 4, 4, 5, 5, 5, 5, 5, 5, 5, 5, 5, 5, 5, 5, 5, 5, 5, 5, 6, 6, 6, 6, 6, 6, 6, 6, 6, 6, 6, 6, 6, 6, 6, 6, 6, 6, 6, 6, 6, 6, 6, 6, 6, 6, 6, 6, 6, 6, 6, 6, 7, 7, 7, 7, 7, 7, 7, 7, 7, 7, 7, 7, 7, 7, 7, 7, 7, 7, 7, 7, 7, 7, 7, 7, 7, 7, 7, 7, 7, 7, 7, 7, 7, 7, 7, 7, 7, 7, 7, 7, 7, 7, 7, 7, 7, 7, 7, 7, 7, 7, 7, 7, 7, 7, 7, 7, 7, 7, 7, 7, 7, 7, 7, 7, 8, 8, 8, 8, 8, 8, 8, 8, 8, 8, 8, 8, 8, 8, 8, 8, 8, 8, 8, 8, 8, 8, 8, 8, 8, 8, 8, 8, 8, 8, 8, 8, 8, 8, 8, 8, 8, 8, 8, 8, 8, 8, 8, 8, 8, 8, 8, 8, 8, 8, 8, 8, 8, 8, 8, 8, 8, 8, 8, 8, 8, 8, 8, 8, 8, 8, 8, 8, 8, 8, 8, 8, 8, 8, 8, 8, 8, 8, 8, 8, 8, 8, 8, 8, 8, 8, 8, 8, 8, 8, 8, 8, 8, 8, 8, 8, 8, 8, 8, 8, 8, 8, 8, 8, 8, 8, 8, 8, 8, 8, 8, 8, 8, 8, 8, 8, 8, 8, 8, 8, 8, 8, 8, 8, 8, 8, 8, 8])) (.t 15)), oW 17 (.conv .i64 (.t 16)), oW 18 (.arith .add (.t 13) (.t 17)), oM 2 18])
 .ret)))) }

theorem c287 : compFunc Tryz.prog Tryz.f287 .full = some t287 := by kernel_rfl

/-- math/bits.Len64 -/
def t288 : DFunc := { ntmps := 25, results := [(.t 2)], mode := .full, body :=
 (.seq (.region [oW 2 (.move (oI 0))])
 (.seq (.seq (.region [oM 3 0, oW 4 (.arith .geq (.t 3) (.c (.int .u64 4294967296)))])
 (.cond (.t 4) (.seq (.region [oM 5 0, oW 6 (.arith .shr (.t 5) (.c (.int .u64 32))), oM 0 6])
 (.region [oW 2 (.move (oI 32))])) .skip))
 (.seq (.seq (.region [oM 7 0, oW 8 (.arith .geq (.t 7) (.c (.int .u64 65536)))])
 (.cond (.t 8) (.seq (.region [oM 9 0, oW 10 (.arith .shr (.t 9) (.c (.int .u64 16))), oM 0 10])
 (.region [oM 11 2, oW 12 (.arith .add (.t 11) (oI 16)), oM 2 12])) .skip))
 (.seq (.seq (.region [oM 13 0, oW 14 (.arith .geq (.t 13) (.c (.int .u64 256)))])
 (.cond (.t 14) (.seq (.region [oM 15 0, oW 16 (.arith .shr (.t 15) (.c (.int .u64 8))), oM 0 16])
 (.region [oM 17 2, oW 18 (.arith .add (.t 17) (oI 8)), oM 2 18])) .skip))
 (.seq (.region [oM 19 2, oM 20 0, oW 21 (.conv .u8 (.t 20)), oW 22 (.indexStr (.c (.str [0, 1, 2, 2, 3, 3, 3, 3, 4, 4, 4, 4, 4, 4, 4, 4, 5, 5, 5, 5, 5, 5, 5, 5, 5, 5, 5, 5, 5, 5, 5, 5, 6, 6, 6, 6, 6, 6, 6, 6, 6, 6, 6, 6, 6, 6, 6, 6, 6, 6, 6, 6, 6, 6, 6, 6, 6, 6, 6, 6, 6, 6, 6, 6, 7, 7, 7, 7, 7, 7, 7, 7, 7, 7, 7, 7, 7, 7, 7, 7, 7, 7, 7, 7, 7, 7, 7, 7, 7, 7, 7, 7, 7, 7, 7, 7, 7, 7, 7, 7, 7, 7, 7, 7, 7, 7, 7, 7, 7, 7, 7, 7, 7, 7, 7, 7, 7, 7, 7, 7, 7, 7, 7, 7, 7, 7, 7, 7, 8, 8, 8, 8, 8, 8, 8, 8, 8, 8, 8, 8, 8, 8, 8, 8, 8, 8, 8, 8, 8, 8, 8, 8, 8, 8, 8, 8, 8, 8, 8, 8, 8, 8, 8, 8, 8, 8, 8, 8, 8, 8, 8, 8, 8, 8, 8, 8, 8, 8, 8, 8, 8, 8, 8, 8, 8, 8, 8, 8, 8, 8, 8, 8, 8, 8, 8, 8, 8, 8, 8, 8, 8, 8, 8, 8, 8, 8, 8, 8, 8, 8, 8, 8, 8, 8, 8, 8, 8, 8, 8, 8, 8, 8, 8, 8, 8, 8, 8, 8, 8, 8, 8, 8, 8, 8, 8, 8, 8, 8, 8, 8, 8, 8, 8, 8, 8, 8, 8, 8, 8, 8, 8, 8, 8, 8, 8, 8])) (.t 21)), oW 23 (.conv .i64 (.t 22)), oW 24 (.arith .add (.t 19) (.t 23)), oM 2 24])
 .ret))))) }

theorem c288 : compFunc Tryz.prog Tryz.f288 .full = some t288 := by kernel_rfl

/-- (*broadside/queue.Queues).way -/
def t289 : DFunc := { ntmps := 15, results := [(.t 6)], mode := .full, body :=
 (.seq (.region [oW 6 (.move (oB false))])
 (.seq (.region [oM 7 0, oW 8 (.nilCheck (.t 7)), oA 9 0 8, oD 10 9, oM 11 1, oM 12 2, oW 13 (.build [(.int .i64 0), (.int .i64 0)] [(0, 1, (.t 11)), (1, 1, (.t 12))]), oW 14 (.call (oF 337) [(.t 10), (.t 13)]), oM 6 14])
 .ret)) }

theorem c289 : compFunc Tryz.prog Tryz.f289 .full = some t289 := by kernel_rfl

def t290l0 : DCode :=
 (.seq (.region [oW 12 (.arith .lss (.t 11) (.t 10))])
 (.seq (.cond (.t 12) .skip (.exit 0))
 (.seq (.block 1 (.seq (.region [oW 13 (.indexAddr 1 (.t 9) (.t 11)), oD 14 13, oM 5 14])
 (.seq (.region [oM 15 3, oM 16 5, oW 17 (.len 1 (.t 16)), oW 18 (.arith .add (.t 15) (.t 17)), oM 3 18])
 (.seq (.region [oM 19 3, oW 20 (.arith .lss (.t 19) (oI 0))])
 (.cond (.t 20) (.region [oW 21 (.makeIface 9 (.c (.str [108, 101, 110, 32, 111, 117, 116, 32, 111, 102, 32, 114, 97, 110, 103, 101]))), oZ (.extract (.c .nilp) 0)]) .skip)))))
 (.region [oW 22 (.arith .add (.t 11) (oI 1)), oM 11 22]))))

def t290l1 : DCode :=
 (.seq (.region [oW 28 (.arith .lss (.t 27) (.t 26))])
 (.seq (.cond (.t 28) .skip (.exit 2))
 (.seq (.block 3 (.seq (.region [oW 29 (.indexAddr 1 (.t 25) (.t 27)), oD 30 29, oM 8 30])
 (.region [oM 31 6, oM 32 8, oW 33 (.append 49 7 88 (.t 31) (.t 32)), oM 6 33])))
 (.region [oW 34 (.arith .add (.t 27) (oI 1)), oM 27 34]))))

def t290k0 : DCode :=
 (.seq (.region [oM 35 6, oM 2 35])
 .ret)

def t290k1 : DCode :=
 (.seq (.region [oM 23 3, oW 24 (.call (oF 338) [(.c .nsl), (.t 23)]), oM 6 24])
 (.seq (.seq (.region [oM 25 0, oW 26 (.len 1 (.t 25)), oW 27 (.move (oI 0))])
 (.block 2 (.loop t290l1)))
 t290k0))

/-- slices.Concat[[]broadside/api.Message,broadside/api.Message] -/
def t290 : DFunc := { ntmps := 36, results := [(.t 2)], mode := .full, body :=
 (.seq (.region [oW 2 (.move (.c .nsl))])
 (.seq (.region [oW 3 (.move (oI 0))])
 (.seq (.seq (.region [oM 9 0, oW 10 (.len 1 (.t 9)), oW 11 (.move (oI 0))])
 (.block 0 (.loop t290l0)))
 t290k1))) }

theorem c290 : compFunc Tryz.prog Tryz.f290 .full = some t290 := by kernel_rfl

def t291l0 : DCode :=
 (.seq (.seq (.region [oM 15 9, oM 16 10, oW 17 (.arith .lss (.t 15) (.t 16))])
 (.cond (.t 17) .skip (.exit 0)))
 (.block 1 (.seq (.region [oM 18 9, oM 19 10, oW 20 (.arith .add (.t 18) (.t 19)), oW 21 (.conv .u64 (.t 20)), oW 22 (.arith .shr (.t 21) (.c (.int .u64 1))), oW 23 (.conv .i64 (.t 22)), oM 11 23])
 (.seq (.draw [oRM 25 0, oRM 26 11, oR 27 (.indexAddr 3 (.t 25) (.t 26)), oRL 28 3 27, oRL 29 2 4, oRM 24 2, oW 30 (.call (.t 24) [(.t 28), (.t 29)]), ⟨(some 31), .arith .lss (.t 30) (oI 0), none, .read, 1, false⟩])
 (.cond (.t 31) (.region [oM 32 11, oW 33 (.arith .add (.t 32) (oI 1)), oM 9 33]) (.region [oM 34 11, oM 10 34]))))))

def t291k0 : DCode :=
 (.seq (.draw [oRM 36 9, oRM 37 8, oR 38 (.arith .lss (.t 36) (.t 37)), oRM 39 38, ⟨(some 41), .move (.t 0), (some (39, true)), .read, 0, false⟩, ⟨(some 42), .move (.t 9), (some (39, true)), .read, 0, false⟩, ⟨(some 43), .indexAddr 3 (.t 41) (.t 42), (some (39, true)), .read, 0, false⟩, ⟨(some 44), .load (some 3) (.t 43), (some (39, true)), .read, 0, false⟩, ⟨(some 45), .load (some 2) (.t 4), (some (39, true)), .read, 0, false⟩, ⟨(some 40), .move (.t 2), (some (39, true)), .read, 0, false⟩, ⟨(some 46), .call (.t 40) [(.t 44), (.t 45)], (some (39, true)), .write, 0, false⟩, oRM 35 9, ⟨(some 47), .arith .eql (.t 46) (oI 0), (some (39, true)), .read, 1, false⟩, ⟨(some 48), .pick (.t 39) (.t 47) (oB false), none, .read, 1, false⟩, ⟨(some 6), .move (.t 35), none, .read, 1, false⟩, ⟨(some 7), .move (.t 48), none, .read, 1, false⟩])
 .ret)

/-- slices.BinarySearchFunc[[]broadside/api.Own,broadside/api.Own,broadside/api.ID] -/
def t291 : DFunc := { ntmps := 49, results := [(.t 6), (.t 7)], mode := .full, body :=
 (.seq (.region [oW 4 (.box 45 2 (.t 1)), oW 6 (.move (oI 0)), oW 7 (.move (oB false))])
 (.seq (.region [oM 12 0, oW 13 (.len 1 (.t 12)), oM 8 13])
 (.seq (.region [oM 14 8, oW 9 (.move (oI 0)), oM 10 14])
 (.seq (.block 0 (.loop t291l0))
 t291k0)))) }

theorem c291 : compFunc Tryz.prog Tryz.f291 .full = some t291 := by kernel_rfl

/-- broadside/route.own$1 -/
def t292 : DFunc := { ntmps := 15, results := [(.t 4)], mode := .full, body :=
 (.seq (.region [oW 2 (.box 151 3 (.t 0)), oW 3 (.box 45 2 (.t 1)), oW 4 (.move (oI 0))])
 (.seq (.block 0 (.seq (.region [oA 6 0 2, oL 7 2 6, oL 8 2 3, oW 9 (.eqa false [1, 1] (.t 7) (.t 8)), oM 5 9])
 (.cond (.t 5) (.seq (.region [oW 4 (.move (oI 0))])
 .ret) (.seq (.region [oA 11 0 2, oL 12 2 11, oL 13 2 3, oW 14 (.call (oF 99) [(.t 12), (.t 13)]), oM 10 14])
 (.cond (.t 10) (.seq (.region [oW 4 (.move (oI (-1)))])
 .ret) .skip)))))
 (.seq (.region [oW 4 (.move (oI 1))])
 .ret))) }

theorem c292 : compFunc Tryz.prog Tryz.f292 .full = some t292 := by kernel_rfl

/-- slices.rotateRight[broadside/api.Own] -/
def t294 : DFunc := { ntmps := 10, results := [], mode := .full, body :=
 (.region [oM 4 0, oM 5 0, oW 6 (.len 1 (.t 5)), oM 7 1, oW 8 (.arith .sub (.t 6) (.t 7)), oW 9 (.call (oF 339) [(.t 4), (.t 8)])]) }

theorem c294 : compFunc Tryz.prog Tryz.f294 .full = some t294 := by kernel_rfl

def t297l0 : DCode :=
 (.seq (.seq (.draw [oRM 16 7, oRM 17 1, oR 18 (.arith .gtr (.t 16) (.t 17)), oRM 19 18, ⟨(some 20), .move (.t 0), (some (19, true)), .read, 0, false⟩, ⟨(some 21), .move (.t 7), (some (19, true)), .read, 0, false⟩, ⟨(some 22), .indexAddr 1 (.t 20) (.t 21), (some (19, true)), .read, 0, false⟩, ⟨(some 23), .load none (.t 22), (some (19, true)), .read, 0, false⟩, ⟨(some 24), .move (.t 0), (some (19, true)), .read, 0, false⟩, ⟨(some 25), .move (.t 7), (some (19, true)), .read, 0, false⟩, ⟨(some 26), .arith .sub (.t 25) (oI 1), (some (19, true)), .read, 0, false⟩, ⟨(some 27), .indexAddr 1 (.t 24) (.t 26), (some (19, true)), .read, 0, false⟩, ⟨(some 28), .load none (.t 27), (some (19, true)), .read, 0, false⟩, ⟨(some 29), .call (oF 303) [(.t 23), (.t 28)], (some (19, true)), .write, 0, false⟩, ⟨(some 30), .pick (.t 19) (.t 29) (oB false), none, .read, 1, false⟩])
 (.cond (.t 30) .skip (.exit 2)))
 (.seq (.block 3 (.draw [oRM 38 0, oRM 39 7, oR 40 (.arith .sub (.t 39) (oI 1)), oR 41 (.indexAddr 1 (.t 38) (.t 40)), oRD 42 41, oRM 43 0, oRM 44 7, oR 45 (.indexAddr 1 (.t 43) (.t 44)), oRD 46 45, oRM 33 0, oRM 34 7, oR 47 (.indexAddr 1 (.t 33) (.t 34)), oS 1 47 42, oRM 35 0, oRM 36 7, oR 37 (.arith .sub (.t 36) (oI 1)), ⟨(some 48), .indexAddr 1 (.t 35) (.t 37), none, .read, 1, false⟩, ⟨none, .store 1 (.t 48) (.t 46), none, .write, 1, false⟩]))
 (.region [oM 31 7, oW 32 (.arith .sub (.t 31) (oI 1)), oM 7 32])))

def t297k0 : DCode :=
 (.region [oM 13 6, oW 14 (.arith .add (.t 13) (oI 1)), oM 6 14])

def t297l1 : DCode :=
 (.seq (.seq (.region [oM 10 6, oM 11 2, oW 12 (.arith .lss (.t 10) (.t 11))])
 (.cond (.t 12) .skip (.exit 0)))
 (.seq (.block 1 (.seq (.region [oM 15 6, oM 7 15])
 (.block 2 (.loop t297l0))))
 t297k0))

/-- slices.insertionSortOrdered[int] -/
def t297 : DFunc := { ntmps := 49, results := [], mode := .full, body :=
 (.seq (.region [oM 8 1, oW 9 (.arith .add (.t 8) (oI 1)), oM 6 9])
 (.block 0 (.loop t297l1))) }

theorem c297 : compFunc Tryz.prog Tryz.f297 .full = some t297 := by kernel_rfl

def t298l0 : DCode :=
 (.seq (.seq (.region [oM 18 9, oW 19 (.arith .geq (.t 18) (oI 0))])
 (.cond (.t 19) .skip (.exit 0)))
 (.seq (.block 1 (.region [oM 22 0, oM 23 9, oM 24 8, oM 25 6, oW 26 (.call (oF 341) [(.t 22), (.t 23), (.t 24), (.t 25)])]))
 (.region [oM 20 9, oW 21 (.arith .sub (.t 20) (oI 1)), oM 9 21])))

def t298l1 : DCode :=
 (.seq (.seq (.region [oM 29 10, oW 30 (.arith .geq (.t 29) (oI 0))])
 (.cond (.t 30) .skip (.exit 2)))
 (.seq (.block 3 (.seq (.draw [oRM 39 0, oRM 40 6, oRM 41 10, oR 42 (.arith .add (.t 40) (.t 41)), oR 43 (.indexAddr 1 (.t 39) (.t 42)), oRD 44 43, oRM 45 0, oRM 46 6, oR 47 (.indexAddr 1 (.t 45) (.t 46)), oRD 48 47, oRM 33 0, oRM 34 6, oR 49 (.indexAddr 1 (.t 33) (.t 34)), oS 1 49 44, oRM 35 0, oRM 36 6, oRM 37 10, oR 38 (.arith .add (.t 36) (.t 37)), ⟨(some 50), .indexAddr 1 (.t 35) (.t 38), none, .read, 1, false⟩, ⟨none, .store 1 (.t 50) (.t 48), none, .write, 1, false⟩])
 (.region [oM 51 0, oM 52 7, oM 53 10, oM 54 6, oW 55 (.call (oF 341) [(.t 51), (.t 52), (.t 53), (.t 54)])])))
 (.region [oM 31 10, oW 32 (.arith .sub (.t 31) (oI 1)), oM 10 32])))

def t298k0 : DCode :=
 (.seq (.region [oM 27 8, oW 28 (.arith .sub (.t 27) (oI 1)), oM 10 28])
 (.block 2 (.loop t298l1)))

/-- slices.heapSortOrdered[int] -/
def t298 : DFunc := { ntmps := 56, results := [], mode := .full, body :=
 (.seq (.region [oM 11 1, oM 6 11])
 (.seq (.region [oW 7 (.move (oI 0))])
 (.seq (.region [oM 12 2, oM 13 1, oW 14 (.arith .sub (.t 12) (.t 13)), oM 8 14])
 (.seq (.seq (.region [oM 15 8, oW 16 (.arith .sub (.t 15) (oI 1)), oW 17 (.arith .quo (.t 16) (oI 2)), oM 9 17])
 (.block 0 (.loop t298l0)))
 t298k0)))) }

theorem c298 : compFunc Tryz.prog Tryz.f298 .full = some t298 := by kernel_rfl

def t299l0 : DCode :=
 (.seq (.seq (.region [oM 26 9, oM 27 1, oM 28 6, oW 29 (.arith .quo (.t 28) (oI 4)), oW 30 (.arith .mul (.t 29) (oI 2)), oW 31 (.arith .add (.t 27) (.t 30)), oW 32 (.arith .add (.t 31) (oI 1)), oW 33 (.arith .leq (.t 26) (.t 32))])
 (.cond (.t 33) .skip (.exit 0)))
 (.seq (.block 1 (.seq (.region [oW 36 (.call (oF 334) [(.t 7)]), oM 37 8, oW 38 (.arith .sub (.t 37) (.c (.int .u64 1))), oW 39 (.arith .and (.t 36) (.t 38)), oW 40 (.conv .i64 (.t 39)), oM 10 40])
 (.seq (.seq (.region [oM 41 10, oM 42 6, oW 43 (.arith .geq (.t 41) (.t 42))])
 (.cond (.t 43) (.region [oM 44 10, oM 45 6, oW 46 (.arith .sub (.t 44) (.t 45)), oM 10 46]) .skip))
 (.draw [oRM 53 0, oRM 54 1, oRM 55 10, oR 56 (.arith .add (.t 54) (.t 55)), oR 57 (.indexAddr 1 (.t 53) (.t 56)), oRD 58 57, oRM 59 0, oRM 60 9, oR 61 (.indexAddr 1 (.t 59) (.t 60)), oRD 62 61, oRM 47 0, oRM 48 9, oR 63 (.indexAddr 1 (.t 47) (.t 48)), oS 1 63 58, oRM 49 0, oRM 50 1, oRM 51 10, oR 52 (.arith .add (.t 50) (.t 51)), ⟨(some 64), .indexAddr 1 (.t 49) (.t 52), none, .read, 1, false⟩, ⟨none, .store 1 (.t 64) (.t 62), none, .write, 1, false⟩]))))
 (.region [oM 34 9, oW 35 (.arith .add (.t 34) (oI 1)), oM 9 35])))

/-- slices.breakPatternsOrdered[int] -/
def t299 : DFunc := { ntmps := 65, results := [], mode := .full, body :=
 (.seq (.region [oM 11 2, oM 12 1, oW 13 (.arith .sub (.t 11) (.t 12)), oM 6 13])
 (.seq (.region [oM 14 6, oW 15 (.arith .geq (.t 14) (oI 8))])
 (.cond (.t 15) (.seq (.region [oM 16 6, oW 17 (.conv .u64 (.t 16)), oW 7 (.alloc 423 1 (.int .u64 0)), oS 1 7 17])
 (.seq (.region [oM 18 6, oW 19 (.call (oF 333) [(.t 18)]), oM 8 19])
 (.seq (.region [oM 20 1, oM 21 6, oW 22 (.arith .quo (.t 21) (oI 4)), oW 23 (.arith .mul (.t 22) (oI 2)), oW 24 (.arith .add (.t 20) (.t 23)), oW 25 (.arith .sub (.t 24) (oI 1)), oM 9 25])
 (.block 0 (.loop t299l0))))) .skip))) }

theorem c299 : compFunc Tryz.prog Tryz.f299 .full = some t299 := by kernel_rfl

/-- slices.choosePivotOrdered[int] -/
def t300 : DFunc := { ntmps := 57, results := [(.t 6), (.t 7)], mode := .full, body :=
 (.seq (.region [oW 6 (.move (oI 0)), oW 7 (.move (oI 0))])
 (.seq (.region [oM 13 2, oM 14 1, oW 15 (.arith .sub (.t 13) (.t 14)), oM 8 15])
 (.seq (.region [oW 9 (.alloc 3 1 (.int .i64 0))])
 (.seq (.region [oM 16 1, oM 17 8, oW 18 (.arith .quo (.t 17) (oI 4)), oW 19 (.arith .mul (.t 18) (oI 1)), oW 20 (.arith .add (.t 16) (.t 19)), oM 10 20])
 (.seq (.region [oM 21 1, oM 22 8, oW 23 (.arith .quo (.t 22) (oI 4)), oW 24 (.arith .mul (.t 23) (oI 2)), oW 25 (.arith .add (.t 21) (.t 24)), oM 11 25])
 (.seq (.region [oM 26 1, oM 27 8, oW 28 (.arith .quo (.t 27) (oI 4)), oW 29 (.arith .mul (.t 28) (oI 3)), oW 30 (.arith .add (.t 26) (.t 29)), oM 12 30])
 (.seq (.seq (.region [oM 31 8, oW 32 (.arith .geq (.t 31) (oI 8))])
 (.cond (.t 32) (.seq (.seq (.region [oM 33 8, oW 34 (.arith .geq (.t 33) (oI 50))])
 (.cond (.t 34) (.seq (.region [oM 35 0, oM 36 10, oW 37 (.call (oF 342) [(.t 35), (.t 36), (.t 9)]), oM 10 37])
 (.seq (.region [oM 38 0, oM 39 11, oW 40 (.call (oF 342) [(.t 38), (.t 39), (.t 9)]), oM 11 40])
 (.region [oM 41 0, oM 42 12, oW 43 (.call (oF 342) [(.t 41), (.t 42), (.t 9)]), oM 12 43]))) .skip))
 (.region [oM 44 0, oM 45 10, oM 46 11, oM 47 12, oW 48 (.call (oF 343) [(.t 44), (.t 45), (.t 46), (.t 47), (.t 9)]), oM 11 48])) .skip))
 (.seq (.region [oD 49 9])
 (.block 0 (.seq (.region [oW 52 (.arith .eql (.t 49) (oI 0)), oM 51 52])
 (.cond (.t 51) (.seq (.region [oM 53 11, oM 6 53, oW 7 (.move (oI 1))])
 .ret) (.seq (.region [oW 55 (.arith .eql (.t 49) (oI 12)), oM 54 55])
 (.cond (.t 54) (.seq (.region [oM 56 11, oM 6 56, oW 7 (.move (oI 2))])
 .ret) (.seq (.region [oM 50 11, oM 6 50, oW 7 (.move (oI 0))])
 .ret)))))))))))))) }

theorem c300 : compFunc Tryz.prog Tryz.f300 .full = some t300 := by kernel_rfl

def t301l0 : DCode :=
 (.seq (.seq (.region [oM 11 6, oM 12 7, oW 13 (.arith .lss (.t 11) (.t 12))])
 (.cond (.t 13) .skip (.exit 0)))
 (.block 1 (.seq (.draw [oRM 18 0, oRM 19 7, oR 20 (.indexAddr 1 (.t 18) (.t 19)), oRD 21 20, oRM 22 0, oRM 23 6, oR 24 (.indexAddr 1 (.t 22) (.t 23)), oRD 25 24, oRM 14 0, oRM 15 6, oR 26 (.indexAddr 1 (.t 14) (.t 15)), oS 1 26 21, oRM 16 0, oRM 17 7, ⟨(some 27), .indexAddr 1 (.t 16) (.t 17), none, .read, 1, false⟩, ⟨none, .store 1 (.t 27) (.t 25), none, .write, 1, false⟩])
 (.seq (.region [oM 28 6, oW 29 (.arith .add (.t 28) (oI 1)), oM 6 29])
 (.region [oM 30 7, oW 31 (.arith .sub (.t 30) (oI 1)), oM 7 31])))))

/-- slices.reverseRangeOrdered[int] -/
def t301 : DFunc := { ntmps := 32, results := [], mode := .full, body :=
 (.seq (.region [oM 8 1, oM 6 8])
 (.seq (.region [oM 9 2, oW 10 (.arith .sub (.t 9) (oI 1)), oM 7 10])
 (.block 0 (.loop t301l0)))) }

theorem c301 : compFunc Tryz.prog Tryz.f301 .full = some t301 := by kernel_rfl

def t302l0 : DCode :=
 (.seq (.seq (.draw [oRM 17 7, oRM 18 2, oR 19 (.arith .lss (.t 17) (.t 18)), oRM 20 19, ⟨(some 21), .move (.t 0), (some (20, true)), .read, 0, false⟩, ⟨(some 22), .move (.t 7), (some (20, true)), .read, 0, false⟩, ⟨(some 23), .indexAddr 1 (.t 21) (.t 22), (some (20, true)), .read, 0, false⟩, ⟨(some 24), .load none (.t 23), (some (20, true)), .read, 0, false⟩, ⟨(some 25), .move (.t 0), (some (20, true)), .read, 0, false⟩, ⟨(some 26), .move (.t 7), (some (20, true)), .read, 0, false⟩, ⟨(some 27), .arith .sub (.t 26) (oI 1), (some (20, true)), .read, 0, false⟩, ⟨(some 28), .indexAddr 1 (.t 25) (.t 27), (some (20, true)), .read, 0, false⟩, ⟨(some 29), .load none (.t 28), (some (20, true)), .read, 0, false⟩, ⟨(some 30), .call (oF 303) [(.t 24), (.t 29)], (some (20, true)), .write, 0, false⟩, ⟨(some 31), .un .not (.t 30), (some (20, true)), .read, 1, false⟩, ⟨(some 32), .pick (.t 20) (.t 31) (oB false), none, .read, 1, false⟩])
 (.cond (.t 32) .skip (.exit 2)))
 (.block 3 (.region [oM 33 7, oW 34 (.arith .add (.t 33) (oI 1)), oM 7 34])))

def t302l1 : DCode :=
 (.seq (.seq (.region [oM 64 9, oW 65 (.arith .geq (.t 64) (oI 1))])
 (.cond (.t 65) .skip (.exit 4)))
 (.seq (.block 5 (.seq (.seq (.draw [oRM 68 0, oRM 69 9, oR 70 (.indexAddr 1 (.t 68) (.t 69)), oRD 71 70, oRM 72 0, oRM 73 9, oR 74 (.arith .sub (.t 73) (oI 1)), oR 75 (.indexAddr 1 (.t 72) (.t 74)), oRD 76 75, oW 77 (.call (oF 303) [(.t 71), (.t 76)]), ⟨(some 78), .un .not (.t 77), none, .read, 1, false⟩])
 (.cond (.t 78) (.exit 4) .skip))
 (.draw [oRM 84 0, oRM 85 9, oR 86 (.arith .sub (.t 85) (oI 1)), oR 87 (.indexAddr 1 (.t 84) (.t 86)), oRD 88 87, oRM 89 0, oRM 90 9, oR 91 (.indexAddr 1 (.t 89) (.t 90)), oRD 92 91, oRM 79 0, oRM 80 9, oR 93 (.indexAddr 1 (.t 79) (.t 80)), oS 1 93 88, oRM 81 0, oRM 82 9, oR 83 (.arith .sub (.t 82) (oI 1)), ⟨(some 94), .indexAddr 1 (.t 81) (.t 83), none, .read, 1, false⟩, ⟨none, .store 1 (.t 94) (.t 92), none, .write, 1, false⟩])))
 (.region [oM 66 9, oW 67 (.arith .sub (.t 66) (oI 1)), oM 9 67])))

def t302l2 : DCode :=
 (.seq (.seq (.region [oM 101 10, oM 102 2, oW 103 (.arith .lss (.t 101) (.t 102))])
 (.cond (.t 103) .skip (.exit 6)))
 (.seq (.block 7 (.seq (.seq (.draw [oRM 106 0, oRM 107 10, oR 108 (.indexAddr 1 (.t 106) (.t 107)), oRD 109 108, oRM 110 0, oRM 111 10, oR 112 (.arith .sub (.t 111) (oI 1)), oR 113 (.indexAddr 1 (.t 110) (.t 112)), oRD 114 113, oW 115 (.call (oF 303) [(.t 109), (.t 114)]), ⟨(some 116), .un .not (.t 115), none, .read, 1, false⟩])
 (.cond (.t 116) (.exit 6) .skip))
 (.draw [oRM 122 0, oRM 123 10, oR 124 (.arith .sub (.t 123) (oI 1)), oR 125 (.indexAddr 1 (.t 122) (.t 124)), oRD 126 125, oRM 127 0, oRM 128 10, oR 129 (.indexAddr 1 (.t 127) (.t 128)), oRD 130 129, oRM 117 0, oRM 118 10, oR 131 (.indexAddr 1 (.t 117) (.t 118)), oS 1 131 126, oRM 119 0, oRM 120 10, oR 121 (.arith .sub (.t 120) (oI 1)), ⟨(some 132), .indexAddr 1 (.t 119) (.t 121), none, .read, 1, false⟩, ⟨none, .store 1 (.t 132) (.t 130), none, .write, 1, false⟩])))
 (.region [oM 104 10, oW 105 (.arith .add (.t 104) (oI 1)), oM 10 105])))

def t302k0 : DCode :=
 (.seq (.region [oM 95 2, oM 96 7, oW 97 (.arith .sub (.t 95) (.t 96)), oW 98 (.arith .geq (.t 97) (oI 2))])
 (.cond (.t 98) (.seq (.region [oM 99 7, oW 100 (.arith .add (.t 99) (oI 1)), oM 10 100])
 (.block 6 (.loop t302l2))) .skip))

def t302k1 : DCode :=
 (.seq (.seq (.region [oM 35 7, oM 36 2, oW 37 (.arith .eql (.t 35) (.t 36))])
 (.cond (.t 37) (.seq (.region [oW 6 (.move (oB true))])
 .ret) .skip))
 (.seq (.seq (.region [oM 38 2, oM 39 1, oW 40 (.arith .sub (.t 38) (.t 39)), oW 41 (.arith .lss (.t 40) (oI 50))])
 (.cond (.t 41) (.seq (.region [oW 6 (.move (oB false))])
 .ret) .skip))
 (.seq (.draw [oRM 47 0, oRM 48 7, oR 49 (.arith .sub (.t 48) (oI 1)), oR 50 (.indexAddr 1 (.t 47) (.t 49)), oRD 51 50, oRM 52 0, oRM 53 7, oR 54 (.indexAddr 1 (.t 52) (.t 53)), oRD 55 54, oRM 42 0, oRM 43 7, oR 56 (.indexAddr 1 (.t 42) (.t 43)), oS 1 56 51, oRM 44 0, oRM 45 7, oR 46 (.arith .sub (.t 45) (oI 1)), ⟨(some 57), .indexAddr 1 (.t 44) (.t 46), none, .read, 1, false⟩, ⟨none, .store 1 (.t 57) (.t 55), none, .write, 1, false⟩])
 (.seq (.seq (.region [oM 58 7, oM 59 1, oW 60 (.arith .sub (.t 58) (.t 59)), oW 61 (.arith .geq (.t 60) (oI 2))])
 (.cond (.t 61) (.seq (.region [oM 62 7, oW 63 (.arith .sub (.t 62) (oI 1)), oM 9 63])
 (.block 4 (.loop t302l1))) .skip))
 t302k0))))

def t302k2 : DCode :=
 (.region [oM 15 8, oW 16 (.arith .add (.t 15) (oI 1)), oM 8 16])

def t302l3 : DCode :=
 (.seq (.seq (.region [oM 13 8, oW 14 (.arith .lss (.t 13) (oI 5))])
 (.cond (.t 14) .skip (.exit 0)))
 (.seq (.block 1 (.seq (.block 2 (.loop t302l0))
 t302k1))
 t302k2))

def t302k3 : DCode :=
 (.seq (.region [oW 6 (.move (oB false))])
 .ret)

/-- slices.partialInsertionSortOrdered[int] -/
def t302 : DFunc := { ntmps := 133, results := [(.t 6)], mode := .full, body :=
 (.seq (.region [oW 6 (.move (oB false))])
 (.seq (.region [oM 11 1, oW 12 (.arith .add (.t 11) (oI 1)), oM 7 12])
 (.seq (.seq (.region [oW 8 (.move (oI 0))])
 (.block 0 (.loop t302l3)))
 t302k3))) }

theorem c302 : compFunc Tryz.prog Tryz.f302 .full = some t302 := by kernel_rfl

/-- cmp.Less[int] -/
def t303 : DFunc := { ntmps := 17, results := [(.t 4)], mode := .full, body :=
 (.seq (.region [oW 4 (.move (oB false))])
 (.seq (.region [oM 5 0, oW 6 (.call (oF 220) [(.t 5)]), oM 7 6, ⟨(some 8), .move (.t 1), (some (7, true)), .write, 0, false⟩, ⟨(some 9), .call (oF 220) [(.t 8)], (some (7, true)), .write, 0, false⟩, ⟨(some 10), .un .not (.t 9), (some (7, true)), .write, 0, false⟩, oW 11 (.pick (.t 7) (.t 10) (oB false)), oM 12 11, ⟨(some 13), .move (.t 0), (some (12, false)), .write, 0, false⟩, ⟨(some 14), .move (.t 1), (some (12, false)), .write, 0, false⟩, ⟨(some 15), .arith .lss (.t 13) (.t 14), (some (12, false)), .write, 0, false⟩, oW 16 (.pick (.t 12) (oB true) (.t 15)), oM 4 16])
 .ret)) }

theorem c303 : compFunc Tryz.prog Tryz.f303 .full = some t303 := by kernel_rfl

def t304l0 : DCode :=
 (.seq (.seq (.draw [oRM 29 9, oRM 30 10, oR 31 (.arith .leq (.t 29) (.t 30)), oRM 32 31, ⟨(some 33), .move (.t 0), (some (32, true)), .read, 0, false⟩, ⟨(some 34), .move (.t 1), (some (32, true)), .read, 0, false⟩, ⟨(some 35), .indexAddr 1 (.t 33) (.t 34), (some (32, true)), .read, 0, false⟩, ⟨(some 36), .load none (.t 35), (some (32, true)), .read, 0, false⟩, ⟨(some 37), .move (.t 0), (some (32, true)), .read, 0, false⟩, ⟨(some 38), .move (.t 9), (some (32, true)), .read, 0, false⟩, ⟨(some 39), .indexAddr 1 (.t 37) (.t 38), (some (32, true)), .read, 0, false⟩, ⟨(some 40), .load none (.t 39), (some (32, true)), .read, 0, false⟩, ⟨(some 41), .call (oF 303) [(.t 36), (.t 40)], (some (32, true)), .write, 0, false⟩, ⟨(some 42), .un .not (.t 41), (some (32, true)), .read, 1, false⟩, ⟨(some 43), .pick (.t 32) (.t 42) (oB false), none, .read, 1, false⟩])
 (.cond (.t 43) .skip (.exit 2)))
 (.block 3 (.region [oM 44 9, oW 45 (.arith .add (.t 44) (oI 1)), oM 9 45])))

def t304l1 : DCode :=
 (.seq (.seq (.draw [oRM 46 9, oRM 47 10, oR 48 (.arith .leq (.t 46) (.t 47)), oRM 49 48, ⟨(some 50), .move (.t 0), (some (49, true)), .read, 0, false⟩, ⟨(some 51), .move (.t 1), (some (49, true)), .read, 0, false⟩, ⟨(some 52), .indexAddr 1 (.t 50) (.t 51), (some (49, true)), .read, 0, false⟩, ⟨(some 53), .load none (.t 52), (some (49, true)), .read, 0, false⟩, ⟨(some 54), .move (.t 0), (some (49, true)), .read, 0, false⟩, ⟨(some 55), .move (.t 10), (some (49, true)), .read, 0, false⟩, ⟨(some 56), .indexAddr 1 (.t 54) (.t 55), (some (49, true)), .read, 0, false⟩, ⟨(some 57), .load none (.t 56), (some (49, true)), .read, 0, false⟩, ⟨(some 58), .call (oF 303) [(.t 53), (.t 57)], (some (49, true)), .write, 0, false⟩, ⟨(some 59), .pick (.t 49) (.t 58) (oB false), none, .read, 1, false⟩])
 (.cond (.t 59) .skip (.exit 4)))
 (.block 5 (.region [oM 60 10, oW 61 (.arith .sub (.t 60) (oI 1)), oM 10 61])))

def t304k0 : DCode :=
 (.seq (.seq (.region [oM 62 9, oM 63 10, oW 64 (.arith .gtr (.t 62) (.t 63))])
 (.cond (.t 64) (.exit 0) .skip))
 (.seq (.draw [oRM 69 0, oRM 70 10, oR 71 (.indexAddr 1 (.t 69) (.t 70)), oRD 72 71, oRM 73 0, oRM 74 9, oR 75 (.indexAddr 1 (.t 73) (.t 74)), oRD 76 75, oRM 65 0, oRM 66 9, oR 77 (.indexAddr 1 (.t 65) (.t 66)), oS 1 77 72, oRM 67 0, oRM 68 10, ⟨(some 78), .indexAddr 1 (.t 67) (.t 68), none, .read, 1, false⟩, ⟨none, .store 1 (.t 78) (.t 76), none, .write, 1, false⟩])
 (.seq (.region [oM 79 9, oW 80 (.arith .add (.t 79) (oI 1)), oM 9 80])
 (.region [oM 81 10, oW 82 (.arith .sub (.t 81) (oI 1)), oM 10 82]))))

def t304k1 : DCode :=
 (.seq (.block 4 (.loop t304l1))
 t304k0)

def t304l2 : DCode :=
 (.block 1 (.seq (.block 2 (.loop t304l0))
 t304k1))

def t304k2 : DCode :=
 (.seq (.region [oM 83 9, oM 8 83])
 .ret)

/-- slices.partitionEqualOrdered[int] -/
def t304 : DFunc := { ntmps := 84, results := [(.t 8)], mode := .full, body :=
 (.seq (.region [oW 8 (.move (oI 0))])
 (.seq (.draw [oRM 15 0, oRM 16 3, oR 17 (.indexAddr 1 (.t 15) (.t 16)), oRD 18 17, oRM 19 0, oRM 20 1, oR 21 (.indexAddr 1 (.t 19) (.t 20)), oRD 22 21, oRM 11 0, oRM 12 1, oR 23 (.indexAddr 1 (.t 11) (.t 12)), oS 1 23 18, oRM 13 0, oRM 14 3, ⟨(some 24), .indexAddr 1 (.t 13) (.t 14), none, .read, 1, false⟩, ⟨none, .store 1 (.t 24) (.t 22), none, .write, 1, false⟩])
 (.seq (.region [oM 25 1, oW 26 (.arith .add (.t 25) (oI 1)), oM 27 2, oW 28 (.arith .sub (.t 27) (oI 1)), oM 9 26, oM 10 28])
 (.seq (.block 0 (.loop t304l2))
 t304k2)))) }

theorem c304 : compFunc Tryz.prog Tryz.f304 .full = some t304 := by kernel_rfl

def t305l0 : DCode :=
 (.seq (.seq (.draw [oRM 30 10, oRM 31 11, oR 32 (.arith .leq (.t 30) (.t 31)), oRM 33 32, ⟨(some 34), .move (.t 0), (some (33, true)), .read, 0, false⟩, ⟨(some 35), .move (.t 10), (some (33, true)), .read, 0, false⟩, ⟨(some 36), .indexAddr 1 (.t 34) (.t 35), (some (33, true)), .read, 0, false⟩, ⟨(some 37), .load none (.t 36), (some (33, true)), .read, 0, false⟩, ⟨(some 38), .move (.t 0), (some (33, true)), .read, 0, false⟩, ⟨(some 39), .move (.t 1), (some (33, true)), .read, 0, false⟩, ⟨(some 40), .indexAddr 1 (.t 38) (.t 39), (some (33, true)), .read, 0, false⟩, ⟨(some 41), .load none (.t 40), (some (33, true)), .read, 0, false⟩, ⟨(some 42), .call (oF 303) [(.t 37), (.t 41)], (some (33, true)), .write, 0, false⟩, ⟨(some 43), .pick (.t 33) (.t 42) (oB false), none, .read, 1, false⟩])
 (.cond (.t 43) .skip (.exit 0)))
 (.block 1 (.region [oM 44 10, oW 45 (.arith .add (.t 44) (oI 1)), oM 10 45])))

def t305l1 : DCode :=
 (.seq (.seq (.draw [oRM 46 10, oRM 47 11, oR 48 (.arith .leq (.t 46) (.t 47)), oRM 49 48, ⟨(some 50), .move (.t 0), (some (49, true)), .read, 0, false⟩, ⟨(some 51), .move (.t 11), (some (49, true)), .read, 0, false⟩, ⟨(some 52), .indexAddr 1 (.t 50) (.t 51), (some (49, true)), .read, 0, false⟩, ⟨(some 53), .load none (.t 52), (some (49, true)), .read, 0, false⟩, ⟨(some 54), .move (.t 0), (some (49, true)), .read, 0, false⟩, ⟨(some 55), .move (.t 1), (some (49, true)), .read, 0, false⟩, ⟨(some 56), .indexAddr 1 (.t 54) (.t 55), (some (49, true)), .read, 0, false⟩, ⟨(some 57), .load none (.t 56), (some (49, true)), .read, 0, false⟩, ⟨(some 58), .call (oF 303) [(.t 53), (.t 57)], (some (49, true)), .write, 0, false⟩, ⟨(some 59), .un .not (.t 58), (some (49, true)), .read, 1, false⟩, ⟨(some 60), .pick (.t 49) (.t 59) (oB false), none, .read, 1, false⟩])
 (.cond (.t 60) .skip (.exit 2)))
 (.block 3 (.region [oM 61 11, oW 62 (.arith .sub (.t 61) (oI 1)), oM 11 62])))

def t305l2 : DCode :=
 (.seq (.seq (.draw [oRM 99 10, oRM 100 11, oR 101 (.arith .leq (.t 99) (.t 100)), oRM 102 101, ⟨(some 103), .move (.t 0), (some (102, true)), .read, 0, false⟩, ⟨(some 104), .move (.t 10), (some (102, true)), .read, 0, false⟩, ⟨(some 105), .indexAddr 1 (.t 103) (.t 104), (some (102, true)), .read, 0, false⟩, ⟨(some 106), .load none (.t 105), (some (102, true)), .read, 0, false⟩, ⟨(some 107), .move (.t 0), (some (102, true)), .read, 0, false⟩, ⟨(some 108), .move (.t 1), (some (102, true)), .read, 0, false⟩, ⟨(some 109), .indexAddr 1 (.t 107) (.t 108), (some (102, true)), .read, 0, false⟩, ⟨(some 110), .load none (.t 109), (some (102, true)), .read, 0, false⟩, ⟨(some 111), .call (oF 303) [(.t 106), (.t 110)], (some (102, true)), .write, 0, false⟩, ⟨(some 112), .pick (.t 102) (.t 111) (oB false), none, .read, 1, false⟩])
 (.cond (.t 112) .skip (.exit 6)))
 (.block 7 (.region [oM 113 10, oW 114 (.arith .add (.t 113) (oI 1)), oM 10 114])))

def t305l3 : DCode :=
 (.seq (.seq (.draw [oRM 115 10, oRM 116 11, oR 117 (.arith .leq (.t 115) (.t 116)), oRM 118 117, ⟨(some 119), .move (.t 0), (some (118, true)), .read, 0, false⟩, ⟨(some 120), .move (.t 11), (some (118, true)), .read, 0, false⟩, ⟨(some 121), .indexAddr 1 (.t 119) (.t 120), (some (118, true)), .read, 0, false⟩, ⟨(some 122), .load none (.t 121), (some (118, true)), .read, 0, false⟩, ⟨(some 123), .move (.t 0), (some (118, true)), .read, 0, false⟩, ⟨(some 124), .move (.t 1), (some (118, true)), .read, 0, false⟩, ⟨(some 125), .indexAddr 1 (.t 123) (.t 124), (some (118, true)), .read, 0, false⟩, ⟨(some 126), .load none (.t 125), (some (118, true)), .read, 0, false⟩, ⟨(some 127), .call (oF 303) [(.t 122), (.t 126)], (some (118, true)), .write, 0, false⟩, ⟨(some 128), .un .not (.t 127), (some (118, true)), .read, 1, false⟩, ⟨(some 129), .pick (.t 118) (.t 128) (oB false), none, .read, 1, false⟩])
 (.cond (.t 129) .skip (.exit 8)))
 (.block 9 (.region [oM 130 11, oW 131 (.arith .sub (.t 130) (oI 1)), oM 11 131])))

def t305k0 : DCode :=
 (.seq (.seq (.region [oM 132 10, oM 133 11, oW 134 (.arith .gtr (.t 132) (.t 133))])
 (.cond (.t 134) (.exit 4) .skip))
 (.seq (.draw [oRM 139 0, oRM 140 11, oR 141 (.indexAddr 1 (.t 139) (.t 140)), oRD 142 141, oRM 143 0, oRM 144 10, oR 145 (.indexAddr 1 (.t 143) (.t 144)), oRD 146 145, oRM 135 0, oRM 136 10, oR 147 (.indexAddr 1 (.t 135) (.t 136)), oS 1 147 142, oRM 137 0, oRM 138 11, ⟨(some 148), .indexAddr 1 (.t 137) (.t 138), none, .read, 1, false⟩, ⟨none, .store 1 (.t 148) (.t 146), none, .write, 1, false⟩])
 (.seq (.region [oM 149 10, oW 150 (.arith .add (.t 149) (oI 1)), oM 10 150])
 (.region [oM 151 11, oW 152 (.arith .sub (.t 151) (oI 1)), oM 11 152]))))

def t305k1 : DCode :=
 (.seq (.block 8 (.loop t305l3))
 t305k0)

def t305l4 : DCode :=
 (.block 5 (.seq (.block 6 (.loop t305l2))
 t305k1))

def t305k2 : DCode :=
 (.seq (.draw [oRM 157 0, oRM 158 1, oR 159 (.indexAddr 1 (.t 157) (.t 158)), oRD 160 159, oRM 161 0, oRM 162 11, oR 163 (.indexAddr 1 (.t 161) (.t 162)), oRD 164 163, oRM 153 0, oRM 154 11, oR 165 (.indexAddr 1 (.t 153) (.t 154)), oS 1 165 160, oRM 155 0, oRM 156 1, ⟨(some 166), .indexAddr 1 (.t 155) (.t 156), none, .read, 1, false⟩, ⟨none, .store 1 (.t 166) (.t 164), none, .write, 1, false⟩])
 (.seq (.region [oM 167 11, oM 8 167, oW 9 (.move (oB false))])
 .ret))

def t305k3 : DCode :=
 (.seq (.seq (.region [oM 63 10, oM 64 11, oW 65 (.arith .gtr (.t 63) (.t 64))])
 (.cond (.t 65) (.seq (.draw [oRM 70 0, oRM 71 1, oR 72 (.indexAddr 1 (.t 70) (.t 71)), oRD 73 72, oRM 74 0, oRM 75 11, oR 76 (.indexAddr 1 (.t 74) (.t 75)), oRD 77 76, oRM 66 0, oRM 67 11, oR 78 (.indexAddr 1 (.t 66) (.t 67)), oS 1 78 73, oRM 68 0, oRM 69 1, ⟨(some 79), .indexAddr 1 (.t 68) (.t 69), none, .read, 1, false⟩, ⟨none, .store 1 (.t 79) (.t 77), none, .write, 1, false⟩])
 (.seq (.region [oM 80 11, oM 8 80, oW 9 (.move (oB true))])
 .ret)) .skip))
 (.seq (.draw [oRM 85 0, oRM 86 11, oR 87 (.indexAddr 1 (.t 85) (.t 86)), oRD 88 87, oRM 89 0, oRM 90 10, oR 91 (.indexAddr 1 (.t 89) (.t 90)), oRD 92 91, oRM 81 0, oRM 82 10, oR 93 (.indexAddr 1 (.t 81) (.t 82)), oS 1 93 88, oRM 83 0, oRM 84 11, ⟨(some 94), .indexAddr 1 (.t 83) (.t 84), none, .read, 1, false⟩, ⟨none, .store 1 (.t 94) (.t 92), none, .write, 1, false⟩])
 (.seq (.region [oM 95 10, oW 96 (.arith .add (.t 95) (oI 1)), oM 10 96])
 (.seq (.region [oM 97 11, oW 98 (.arith .sub (.t 97) (oI 1)), oM 11 98])
 (.seq (.block 4 (.loop t305l4))
 t305k2)))))

def t305k4 : DCode :=
 (.seq (.block 2 (.loop t305l1))
 t305k3)

/-- slices.partitionOrdered[int] -/
def t305 : DFunc := { ntmps := 168, results := [(.t 8), (.t 9)], mode := .full, body :=
 (.seq (.region [oW 8 (.move (oI 0)), oW 9 (.move (oB false))])
 (.seq (.draw [oRM 16 0, oRM 17 3, oR 18 (.indexAddr 1 (.t 16) (.t 17)), oRD 19 18, oRM 20 0, oRM 21 1, oR 22 (.indexAddr 1 (.t 20) (.t 21)), oRD 23 22, oRM 12 0, oRM 13 1, oR 24 (.indexAddr 1 (.t 12) (.t 13)), oS 1 24 19, oRM 14 0, oRM 15 3, ⟨(some 25), .indexAddr 1 (.t 14) (.t 15), none, .read, 1, false⟩, ⟨none, .store 1 (.t 25) (.t 23), none, .write, 1, false⟩])
 (.seq (.region [oM 26 1, oW 27 (.arith .add (.t 26) (oI 1)), oM 28 2, oW 29 (.arith .sub (.t 28) (oI 1)), oM 10 27, oM 11 29])
 (.seq (.block 0 (.loop t305l0))
 t305k4)))) }

theorem c305 : compFunc Tryz.prog Tryz.f305 .full = some t305 := by kernel_rfl

/-- slices.rotateRight[broadside/api.Advert] -/
def t307 : DFunc := { ntmps := 10, results := [], mode := .full, body :=
 (.region [oM 4 0, oM 5 0, oW 6 (.len 1 (.t 5)), oM 7 1, oW 8 (.arith .sub (.t 6) (.t 7)), oW 9 (.call (oF 344) [(.t 4), (.t 8)])]) }

theorem c307 : compFunc Tryz.prog Tryz.f307 .full = some t307 := by kernel_rfl

/-- slices.rotateRight[broadside/api.ID] -/
def t309 : DFunc := { ntmps := 10, results := [], mode := .full, body :=
 (.region [oM 4 0, oM 5 0, oW 6 (.len 1 (.t 5)), oM 7 1, oW 8 (.arith .sub (.t 6) (.t 7)), oW 9 (.call (oF 345) [(.t 4), (.t 8)])]) }

theorem c309 : compFunc Tryz.prog Tryz.f309 .full = some t309 := by kernel_rfl

def t310l0 : DCode :=
 (.seq (.region [oW 16 (.arith .lss (.t 15) (.t 14))])
 (.seq (.cond (.t 16) .skip (.exit 0))
 (.seq (.block 1 (.seq (.region [oM 17 15, oW 18 (.indexAddr 5 (.t 13) (.t 15)), oL 19 5 18, oW 5 (.alloc 119 5 (.agg [(.str []), (.int .i64 0), (.int .i64 0), (.int .i64 0), (.str [])])), oM 4 17, oS 5 5 19])
 (.seq (.region [oL 20 5 5, oW 21 (.call (oF 201) [(.t 20)]), oW 22 (.un .not (.t 21))])
 (.cond (.t 22) (.seq (.region [oM 23 4, oW 24 (.makeIface 57 (oI 1)), oW 25 (.call (oF 64) [(.c (.str [112, 114, 101, 100])), (.t 23), (.t 24)]), oW 2 (.move (.c .nsl)), oM 3 25])
 .ret) .skip))))
 (.region [oW 26 (.arith .add (.t 15) (oI 1)), oM 15 26]))))

def t310l1 : DCode :=
 (.seq (.region [oW 30 (.arith .lss (.t 29) (.t 28))])
 (.seq (.cond (.t 30) .skip (.exit 2))
 (.seq (.block 3 (.seq (.region [oM 31 29, oW 32 (.indexAddr 5 (.t 27) (.t 29)), oL 33 5 32, oW 8 (.alloc 119 5 (.agg [(.str []), (.int .i64 0), (.int .i64 0), (.int .i64 0), (.str [])])), oM 7 31, oS 5 8 33])
 (.seq (.region [oM 35 6, oA 36 0 8, oD 37 36, oW 38 (.call (oF 346) [(.t 35), (.t 37), (oF 347)]), oM 34 38, oX 39 34 0, oX 40 34 1, oM 9 39, oM 10 40])
 (.block 4 (.seq (.region [oM 47 10, oM 46 47])
 (.cond (.t 46) (.seq (.draw [oRM 49 6, oRM 50 9, oR 51 (.indexAddr 5 (.t 49) (.t 50)), oRL 52 5 51, oRL 53 5 8, oW 54 (.call (oF 349) [(.t 52), (.t 53)]), ⟨(some 48), .move (.t 54), none, .read, 1, false⟩, ⟨(some 55), .extract (.t 48) 0, none, .read, 1, false⟩, ⟨(some 11), .alloc 119 5 (.agg [(.str []), (.int .i64 0), (.int .i64 0), (.int .i64 0), (.str [])]), none, .create, 0, false⟩, ⟨none, .store 5 (.t 11) (.t 55), none, .write, 2, false⟩, ⟨(some 56), .extract (.t 48) 1, none, .read, 1, false⟩, ⟨(some 12), .move (.t 56), none, .read, 3, false⟩])
 (.seq (.seq (.region [oM 57 12, oW 58 (.un .not (.t 57))])
 (.cond (.t 58) (.seq (.region [oM 59 7, oW 60 (.makeIface 57 (oI 5)), oW 61 (.call (oF 64) [(.c (.str [112, 114, 101, 100])), (.t 59), (.t 60)]), oW 2 (.move (.c .nsl)), oM 3 61])
 .ret) .skip))
 (.region [oM 62 6, oM 63 9, oL 64 5 11, oW 65 (.indexAddr 5 (.t 62) (.t 63)), oS 5 65 64]))) (.seq (.region [oM 67 6, oW 68 (.len 1 (.t 67)), oW 69 (.arith .eql (.t 68) (oI 5)), oM 66 69])
 (.cond (.t 66) (.seq (.region [oM 70 7, oW 71 (.makeIface 57 (oI 7)), oW 72 (.call (oF 64) [(.c (.str [112, 114, 101, 100])), (.t 70), (.t 71)]), oW 2 (.move (.c .nsl)), oM 3 72])
 .ret) (.region [oM 41 6, oM 42 9, oL 43 5 8, oW 44 (.buildSlice 119 5 (.agg [(.str []), (.int .i64 0), (.int .i64 0), (.int .i64 0), (.str [])]) 1 [(0, (.t 43))]), oW 45 (.call (oF 350) [(.t 41), (.t 42), (.t 44)]), oM 6 45])))))))))
 (.region [oW 73 (.arith .add (.t 29) (oI 1)), oM 29 73]))))

def t310k0 : DCode :=
 (.seq (.region [oM 74 6, oM 2 74, oW 3 (.move (.c .nili))])
 .ret)

def t310k1 : DCode :=
 (.seq (.region [oW 6 (.move (.c .nsl))])
 (.seq (.seq (.region [oM 27 0, oW 28 (.len 1 (.t 27)), oW 29 (.move (oI 0))])
 (.block 2 (.loop t310l1)))
 t310k0))

/-- broadside/pred.Make -/
def t310 : DFunc := { ntmps := 75, results := [(.t 2), (.t 3)], mode := .full, body :=
 (.seq (.region [oW 2 (.move (.c .nsl)), oW 3 (.move (.c .nili))])
 (.seq (.seq (.region [oM 13 0, oW 14 (.len 1 (.t 13)), oW 15 (.move (oI 0))])
 (.block 0 (.loop t310l0)))
 t310k1)) }

theorem c310 : compFunc Tryz.prog Tryz.f310 .full = some t310 := by kernel_rfl

def t311l0 : DCode :=
 (.seq (.region [oW 10 (.arith .lss (.t 9) (.t 8))])
 (.seq (.cond (.t 10) .skip (.exit 0))
 (.seq (.block 1 (.seq (.region [oW 11 (.indexAddr 5 (.t 7) (.t 9)), oL 12 5 11, oW 5 (.alloc 119 5 (.agg [(.str []), (.int .i64 0), (.int .i64 0), (.int .i64 0), (.str [])])), oS 5 5 12])
 (.seq (.region [oA 13 4 5, oD 14 13, oW 15 (.call (oF 321) [(.t 14)]), oW 6 (.alloc 174 3 (.agg [(.bool false), (.int .i64 0), (.str [])])), oS 3 6 15])
 (.seq (.seq (.region [oA 16 1 5, oD 17 16, oW 18 (.arith .eql (.t 17) (oI 1))])
 (.cond (.t 18) (.region [oA 19 2 5, oD 20 19, oW 21 (.call (oF 351) [(.t 20)]), oS 3 6 21]) .skip))
 (.region [oM 22 3, oA 23 0 5, oD 24 23, oL 25 3 6, oW 26 (.build [(.str []), (.bool false), (.int .i64 0), (.str [])] [(0, 1, (.t 24)), (1, 3, (.t 25))]), oW 27 (.buildSlice 176 4 (.agg [(.str []), (.bool false), (.int .i64 0), (.str [])]) 1 [(0, (.t 26))]), oW 28 (.append 176 4 48 (.t 22) (.t 27)), oM 3 28])))))
 (.region [oW 29 (.arith .add (.t 9) (oI 1)), oM 9 29]))))

def t311k0 : DCode :=
 (.seq (.region [oM 30 3, oM 2 30])
 .ret)

/-- broadside/rel.Sample -/
def t311 : DFunc := { ntmps := 31, results := [(.t 2)], mode := .full, body :=
 (.seq (.region [oW 2 (.move (.c .nsl))])
 (.seq (.region [oW 3 (.move (.c .nsl))])
 (.seq (.seq (.region [oM 7 0, oW 8 (.len 1 (.t 7)), oW 9 (.move (oI 0))])
 (.block 0 (.loop t311l0)))
 t311k0))) }

theorem c311 : compFunc Tryz.prog Tryz.f311 .full = some t311 := by kernel_rfl

def t312l0 : DCode :=
 (.seq (.seq (.region [oM 15 9, oM 16 10, oW 17 (.arith .lss (.t 15) (.t 16))])
 (.cond (.t 17) .skip (.exit 0)))
 (.block 1 (.seq (.region [oM 18 9, oM 19 10, oW 20 (.arith .add (.t 18) (.t 19)), oW 21 (.conv .u64 (.t 20)), oW 22 (.arith .shr (.t 21) (.c (.int .u64 1))), oW 23 (.conv .i64 (.t 22)), oM 11 23])
 (.seq (.draw [oRM 25 0, oRM 26 11, oR 27 (.indexAddr 7 (.t 25) (.t 26)), oRL 28 7 27, oRL 29 2 4, oRM 24 2, oW 30 (.call (.t 24) [(.t 28), (.t 29)]), ⟨(some 31), .arith .lss (.t 30) (oI 0), none, .read, 1, false⟩])
 (.cond (.t 31) (.region [oM 32 11, oW 33 (.arith .add (.t 32) (oI 1)), oM 9 33]) (.region [oM 34 11, oM 10 34]))))))

def t312k0 : DCode :=
 (.seq (.draw [oRM 36 9, oRM 37 8, oR 38 (.arith .lss (.t 36) (.t 37)), oRM 39 38, ⟨(some 41), .move (.t 0), (some (39, true)), .read, 0, false⟩, ⟨(some 42), .move (.t 9), (some (39, true)), .read, 0, false⟩, ⟨(some 43), .indexAddr 7 (.t 41) (.t 42), (some (39, true)), .read, 0, false⟩, ⟨(some 44), .load (some 7) (.t 43), (some (39, true)), .read, 0, false⟩, ⟨(some 45), .load (some 2) (.t 4), (some (39, true)), .read, 0, false⟩, ⟨(some 40), .move (.t 2), (some (39, true)), .read, 0, false⟩, ⟨(some 46), .call (.t 40) [(.t 44), (.t 45)], (some (39, true)), .write, 0, false⟩, oRM 35 9, ⟨(some 47), .arith .eql (.t 46) (oI 0), (some (39, true)), .read, 1, false⟩, ⟨(some 48), .pick (.t 39) (.t 47) (oB false), none, .read, 1, false⟩, ⟨(some 6), .move (.t 35), none, .read, 1, false⟩, ⟨(some 7), .move (.t 48), none, .read, 1, false⟩])
 .ret)

/-- slices.BinarySearchFunc[[]broadside/api.Entry,broadside/api.Entry,broadside/api.ID] -/
def t312 : DFunc := { ntmps := 49, results := [(.t 6), (.t 7)], mode := .full, body :=
 (.seq (.region [oW 4 (.box 45 2 (.t 1)), oW 6 (.move (oI 0)), oW 7 (.move (oB false))])
 (.seq (.region [oM 12 0, oW 13 (.len 1 (.t 12)), oM 8 13])
 (.seq (.region [oM 14 8, oW 9 (.move (oI 0)), oM 10 14])
 (.seq (.block 0 (.loop t312l0))
 t312k0)))) }

theorem c312 : compFunc Tryz.prog Tryz.f312 .full = some t312 := by kernel_rfl

/-- broadside/subs.place$1 -/
def t313 : DFunc := { ntmps := 34, results := [(.t 5)], mode := .full, body :=
 (.seq (.region [oW 3 (.box 88 7 (.t 0)), oW 4 (.box 45 2 (.t 1)), oW 5 (.move (oI 0))])
 (.seq (.block 0 (.seq (.region [oA 7 0 3, oL 8 2 7, oL 9 2 2, oW 10 (.eqa false [1, 1] (.t 8) (.t 9)), oM 11 10, ⟨(some 12), .fieldAddr 2 (.t 3), (some (11, true)), .write, 0, false⟩, ⟨(some 13), .load (some 2) (.t 12), (some (11, true)), .write, 0, false⟩, ⟨(some 14), .load (some 2) (.t 4), (some (11, true)), .write, 0, false⟩, ⟨(some 15), .eqa false [1, 1] (.t 13) (.t 14), (some (11, true)), .write, 0, false⟩, oW 16 (.pick (.t 11) (.t 15) (oB false)), oM 6 16])
 (.cond (.t 6) (.seq (.region [oW 5 (.move (oI 0))])
 .ret) (.seq (.region [oA 18 0 3, oL 19 2 18, oL 20 2 2, oW 21 (.call (oF 99) [(.t 19), (.t 20)]), oM 22 21, ⟨(some 23), .fieldAddr 0 (.t 3), (some (22, false)), .write, 0, false⟩, ⟨(some 24), .load (some 2) (.t 23), (some (22, false)), .write, 0, false⟩, ⟨(some 25), .load (some 2) (.t 2), (some (22, false)), .write, 0, false⟩, ⟨(some 26), .eqa false [1, 1] (.t 24) (.t 25), (some (22, false)), .write, 0, false⟩, ⟨(some 27), .move (.t 26), (some (22, false)), .write, 0, false⟩, ⟨(some 28), .fieldAddr 2 (.t 3), (some (27, true)), .write, 0, false⟩, ⟨(some 29), .load (some 2) (.t 28), (some (27, true)), .write, 0, false⟩, ⟨(some 30), .load (some 2) (.t 4), (some (27, true)), .write, 0, false⟩, ⟨(some 31), .call (oF 99) [(.t 29), (.t 30)], (some (27, true)), .write, 0, false⟩, ⟨(some 32), .pick (.t 27) (.t 31) (oB false), (some (22, false)), .write, 0, false⟩, oW 33 (.pick (.t 22) (oB true) (.t 32)), oM 17 33])
 (.cond (.t 17) (.seq (.region [oW 5 (.move (oI (-1)))])
 .ret) .skip)))))
 (.seq (.region [oW 5 (.move (oI 1))])
 .ret))) }

theorem c313 : compFunc Tryz.prog Tryz.f313 .full = some t313 := by kernel_rfl

/-- slices.rotateRight[broadside/api.Entry] -/
def t315 : DFunc := { ntmps := 10, results := [], mode := .full, body :=
 (.region [oM 4 0, oM 5 0, oW 6 (.len 1 (.t 5)), oM 7 1, oW 8 (.arith .sub (.t 6) (.t 7)), oW 9 (.call (oF 352) [(.t 4), (.t 8)])]) }

theorem c315 : compFunc Tryz.prog Tryz.f315 .full = some t315 := by kernel_rfl

/-- slices.Delete[[]broadside/api.Entry,broadside/api.Entry] -/
def t316 : DFunc := { ntmps := 33, results := [(.t 6)], mode := .full, body :=
 (.seq (.region [oW 6 (.move (.c .nsl))])
 (.seq (.region [oM 8 0, oM 9 1, oM 10 2, oM 11 0, oW 12 (.len 1 (.t 11)), oW 13 (.slice3 (.t 8) (.t 9) (.t 10) (.t 12))])
 (.seq (.seq (.region [oM 14 1, oM 15 2, oW 16 (.arith .eql (.t 14) (.t 15))])
 (.cond (.t 16) (.seq (.region [oM 17 0, oM 6 17])
 .ret) .skip))
 (.seq (.region [oM 18 0, oW 19 (.len 1 (.t 18)), oM 7 19])
 (.seq (.draw [oRM 20 0, oRM 21 1, oR 22 (.sliceSl 7 (.t 20) none (some (.t 21))), oRM 23 0, oRM 24 2, oR 25 (.sliceSl 7 (.t 23) (some (.t 24)) none), oW 26 (.append 88 7 72 (.t 22) (.t 25)), ⟨(some 0), .move (.t 26), none, .read, 1, false⟩])
 (.seq (.region [oM 27 0, oM 28 0, oW 29 (.len 1 (.t 28)), oM 30 7, oW 31 (.sliceSl 7 (.t 27) (some (.t 29)) (some (.t 30))), oZ (.clear 7 (.agg [(.int .i64 0), (.int .i64 0), (.int .i64 0), (.int .i64 0), .nsl, (.int .i64 0), (.bool false)]) (.t 31))])
 (.seq (.region [oM 32 0, oM 6 32])
 .ret))))))) }

theorem c316 : compFunc Tryz.prog Tryz.f316 .full = some t316 := by kernel_rfl

def t317l0 : DCode :=
 (.seq (.region [oW 11 (.arith .lss (.t 10) (.t 9))])
 (.seq (.cond (.t 11) .skip (.exit 0))
 (.seq (.block 1 (.seq (.region [oW 12 (.indexAddr 4 (.t 8) (.t 10)), oL 13 4 12, oW 7 (.alloc 176 4 (.agg [(.str []), (.bool false), (.int .i64 0), (.str [])])), oS 4 7 13])
 (.seq (.region [oA 14 0 7, oD 15 14, oM 16 1, oW 17 (.arith .eql (.t 15) (.t 16))])
 (.cond (.t 17) (.seq (.region [oA 18 1 7, oL 19 3 18, oS 3 4 19, oW 5 (.move (oB true))])
 .ret) .skip))))
 (.region [oW 20 (.arith .add (.t 10) (oI 1)), oM 10 20]))))

def t317k0 : DCode :=
 (.seq (.region [oW 21 (.build [(.bool false), (.int .i64 0), (.str [])] []), oS 3 4 21, oW 5 (.move (oB false))])
 .ret)

/-- broadside/tuple.Get -/
def t317 : DFunc := { ntmps := 22, results := [(.cell 4 (some 3)), (.t 5)], mode := .full, body :=
 (.seq (.region [oW 4 (.alloc 174 3 (.agg [(.bool false), (.int .i64 0), (.str [])])), oW 5 (.move (oB false))])
 (.seq (.seq (.region [oM 8 0, oW 9 (.len 1 (.t 8)), oW 10 (.move (oI 0))])
 (.block 0 (.loop t317l0)))
 t317k0)) }

theorem c317 : compFunc Tryz.prog Tryz.f317 .full = some t317 := by kernel_rfl

/-- broadside/pred.Holds -/
def t318 : DFunc := { ntmps := 48, results := [(.t 4)], mode := .full, body :=
 (.seq (.region [oW 2 (.box 119 5 (.t 0)), oW 3 (.box 174 3 (.t 1)), oW 4 (.move (oB false))])
 (.seq (.seq (.region [oA 5 1 2, oD 6 5])
 (.block 0 (.seq (.region [oW 8 (.arith .eql (.t 6) (oI 1)), oM 7 8])
 (.cond (.t 7) (.seq (.region [oA 9 0 3, oD 10 9, oW 11 (.un .not (.t 10)), oM 12 11, ⟨(some 13), .fieldAddr 2 (.t 2), (some (12, true)), .write, 0, false⟩, ⟨(some 14), .load none (.t 13), (some (12, true)), .write, 0, false⟩, ⟨(some 15), .fieldAddr 1 (.t 3), (some (12, true)), .write, 0, false⟩, ⟨(some 16), .load none (.t 15), (some (12, true)), .write, 0, false⟩, ⟨(some 17), .arith .leq (.t 14) (.t 16), (some (12, true)), .write, 0, false⟩, oW 18 (.pick (.t 12) (.t 17) (oB false)), oM 19 18, ⟨(some 20), .fieldAddr 1 (.t 3), (some (19, true)), .write, 0, false⟩, ⟨(some 21), .load none (.t 20), (some (19, true)), .write, 0, false⟩, ⟨(some 22), .fieldAddr 3 (.t 2), (some (19, true)), .write, 0, false⟩, ⟨(some 23), .load none (.t 22), (some (19, true)), .write, 0, false⟩, ⟨(some 24), .arith .leq (.t 21) (.t 23), (some (19, true)), .write, 0, false⟩, oW 25 (.pick (.t 19) (.t 24) (oB false)), oM 4 25])
 .ret) (.seq (.region [oW 27 (.arith .eql (.t 6) (oI 2)), oM 26 27])
 (.cond (.t 26) (.seq (.region [oA 28 0 3, oD 29 28, oM 30 29, ⟨(some 31), .fieldAddr 2 (.t 3), (some (30, true)), .write, 0, false⟩, ⟨(some 32), .load none (.t 31), (some (30, true)), .write, 0, false⟩, ⟨(some 33), .fieldAddr 4 (.t 2), (some (30, true)), .write, 0, false⟩, ⟨(some 34), .load none (.t 33), (some (30, true)), .write, 0, false⟩, ⟨(some 35), .arith .eql (.t 32) (.t 34), (some (30, true)), .write, 0, false⟩, oW 36 (.pick (.t 30) (.t 35) (oB false)), oM 4 36])
 .ret) (.seq (.region [oW 38 (.arith .eql (.t 6) (oI 3)), oM 37 38])
 (.cond (.t 37) (.seq (.region [oA 39 0 3, oD 40 39, oM 41 40, ⟨(some 42), .fieldAddr 2 (.t 3), (some (41, true)), .write, 0, false⟩, ⟨(some 43), .load none (.t 42), (some (41, true)), .write, 0, false⟩, ⟨(some 44), .fieldAddr 4 (.t 2), (some (41, true)), .write, 0, false⟩, ⟨(some 45), .load none (.t 44), (some (41, true)), .write, 0, false⟩, ⟨(some 46), .call (oF 320) [(.t 43), (.t 45)], (some (41, true)), .write, 0, false⟩, oW 47 (.pick (.t 41) (.t 46) (oB false)), oM 4 47])
 .ret) .skip))))))))
 (.seq (.region [oW 4 (.move (oB false))])
 .ret))) }

theorem c318 : compFunc Tryz.prog Tryz.f318 .full = some t318 := by kernel_rfl

/-- strings.HasPrefix -/
def t320 : DFunc := { ntmps := 8, results := [(.t 4)], mode := .full, body :=
 (.seq (.region [oW 4 (.move (oB false))])
 (.seq (.region [oM 5 0, oM 6 1, oW 7 (.call (oF 353) [(.t 5), (.t 6)]), oM 4 7])
 .ret)) }

theorem c320 : compFunc Tryz.prog Tryz.f320 .full = some t320 := by kernel_rfl

/-- broadside/value.Text -/
def t321 : DFunc := { ntmps := 5, results := [(.cell 2 (some 3))], mode := .full, body :=
 (.seq (.region [oW 2 (.alloc 174 3 (.agg [(.bool false), (.int .i64 0), (.str [])]))])
 (.seq (.region [oM 3 0, oW 4 (.build [(.bool false), (.int .i64 0), (.str [])] [(0, 1, (oB true)), (2, 1, (.t 3))]), oS 3 2 4])
 .ret)) }

theorem c321 : compFunc Tryz.prog Tryz.f321 .full = some t321 := by kernel_rfl

/-- (*broadside/inbox.Boxes).Look -/
def t325 : DFunc := { ntmps := 12, results := [(.t 4)], mode := .full, body :=
 (.seq (.region [oW 4 (.move (.c .nsl))])
 (.seq (.region [oM 5 0, oW 6 (.nilCheck (.t 5)), oA 7 0 6, oD 8 7, oM 9 1, oW 10 (.lookup (.prim 1) .nsl false (.t 8) (.t 9)), oW 11 (.call (oF 354) [(.t 10)]), oM 4 11])
 .ret)) }

theorem c325 : compFunc Tryz.prog Tryz.f325 .full = some t325 := by kernel_rfl

/-- broadside/world.place -/
def t326 : DFunc := { ntmps := 13, results := [(.t 4), (.t 5)], mode := .full, body :=
 (.seq (.region [oW 3 (.box 3 1 (.t 1)), oW 4 (.move (oI 0)), oW 5 (.move (oB false))])
 (.seq (.region [oM 7 0, oW 8 (.makeFunc 356 [(.t 3)]), oW 9 (.call (oF 355) [(.t 7), (.t 8)]), oM 6 9])
 (.seq (.region [oM 10 6, oM 11 6, oW 12 (.arith .geq (.t 11) (oI 0)), oM 4 10, oM 5 12])
 .ret))) }

theorem c326 : compFunc Tryz.prog Tryz.f326 .full = some t326 := by kernel_rfl

def t327l0 : DCode :=
 (.seq (.region [oW 12 (.arith .lss (.t 11) (.t 10))])
 (.seq (.cond (.t 12) .skip (.exit 0))
 (.seq (.block 1 (.seq (.region [oW 13 (.indexAddr 2 (.t 9) (.t 11)), oL 14 2 13, oW 7 (.alloc 420 2 (.agg [(.int .i64 0), .nsl])), oS 2 7 14])
 (.seq (.region [oA 15 1 7, oD 16 15, oM 17 1, oW 18 (.call (oF 255) [(.t 16), (.t 17)])])
 (.cond (.t 18) (.region [oM 19 5, oL 20 2 7, oW 21 (.buildSlice 420 2 (.agg [(.int .i64 0), .nsl]) 1 [(0, (.t 20))]), oW 22 (.append 420 2 32 (.t 19) (.t 21)), oM 5 22]) .skip))))
 (.region [oW 23 (.arith .add (.t 11) (oI 1)), oM 11 23]))))

def t327k0 : DCode :=
 (.seq (.region [oM 24 5, oM 4 24])
 .ret)

/-- broadside/world.fits -/
def t327 : DFunc := { ntmps := 25, results := [(.t 4)], mode := .full, body :=
 (.seq (.region [oW 2 (.box 371 6 (.t 0)), oW 4 (.move (.c .nsl))])
 (.seq (.region [oW 5 (.move (.c .nsl))])
 (.seq (.seq (.region [oA 8 1 2, oD 9 8, oW 10 (.len 1 (.t 9)), oW 11 (.move (oI 0))])
 (.block 0 (.loop t327l0)))
 t327k0))) }

theorem c327 : compFunc Tryz.prog Tryz.f327 .full = some t327 := by kernel_rfl

/-- (*broadside/world.World).told$1 -/
def t328 : DFunc := { ntmps := 8, results := [(.cell 3 (some 2))], mode := .full, body :=
 (.seq (.region [oW 3 (.alloc 45 2 (.agg [(.int .i64 0), (.int .i64 0)]))])
 (.seq (.region [oA 4 1 1, oD 5 4, oM 6 0, oW 7 (.build [(.int .i64 0), (.int .i64 0)] [(0, 1, (.t 5)), (1, 1, (.t 6))]), oS 2 3 7])
 .ret)) }

theorem c328 : compFunc Tryz.prog Tryz.f328 .full = some t328 := by kernel_rfl

/-- broadside/world.without -/
def t329 : DFunc := { ntmps := 9, results := [(.t 4)], mode := .full, body :=
 (.seq (.region [oW 3 (.box 3 1 (.t 1)), oW 4 (.move (.c .nsl))])
 (.seq (.region [oM 5 0, oW 6 (.call (oF 358) [(.t 5)]), oW 7 (.makeFunc 359 [(.t 3)]), oW 8 (.call (oF 357) [(.t 6), (.t 7)]), oM 4 8])
 .ret)) }

theorem c329 : compFunc Tryz.prog Tryz.f329 .full = some t329 := by kernel_rfl

/-- (*broadside/net.Net).Unadvertise -/
def t330 : DFunc := { ntmps := 11, results := [(.t 6)], mode := .full, body :=
 (.seq (.region [oW 5 (.box 45 2 (.t 2)), oW 6 (.move (.c .nili))])
 (.seq (.region [oM 7 0, oM 8 1, oW 9 (.makeFunc 360 [(.t 5)]), oW 10 (.call (oF 138) [(.t 7), (.t 8), (.t 9)]), oM 6 10])
 .ret)) }

theorem c330 : compFunc Tryz.prog Tryz.f330 .full = some t330 := by kernel_rfl

/-- (*broadside/net.Net).Unsubscribe -/
def t331 : DFunc := { ntmps := 11, results := [(.t 6)], mode := .full, body :=
 (.seq (.region [oW 5 (.box 45 2 (.t 2)), oW 6 (.move (.c .nili))])
 (.seq (.region [oM 7 0, oM 8 1, oW 9 (.makeFunc 361 [(.t 5)]), oW 10 (.call (oF 138) [(.t 7), (.t 8), (.t 9)]), oM 6 10])
 .ret)) }

theorem c331 : compFunc Tryz.prog Tryz.f331 .full = some t331 := by kernel_rfl

end Go.Dm.Tr7
