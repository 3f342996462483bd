/-
The table of functions, brought into the machine's form (Tr7, part 5). Written by program (wip/tools/table3.lean.txt).
-/
import Derived.Test.YtloabemenciijaaGreatDoorMm4
import Derived.Test.YtloabemenciijaaGreatDoorRows
import Derived.KernelRfl
namespace Go.Dm.Tr7
open Go.Proofs

def t332l0 : DCode :=
 (.block 1 (.seq (.region [oM 13 10, oW 14 (.arith .mul (oI 2) (.t 13)), oW 15 (.arith .add (.t 14) (oI 1)), oM 11 15])
 (.seq (.seq (.region [oM 16 11, oM 17 2, oW 18 (.arith .geq (.t 16) (.t 17))])
 (.cond (.t 18) (.exit 0) .skip))
 (.seq (.seq (.draw [oRM 19 11, oR 20 (.arith .add (.t 19) (oI 1)), oRM 21 2, oR 22 (.arith .lss (.t 20) (.t 21)), oRM 23 22, ⟨(some 25), .move (.t 0), (some (23, true)), .read, 0, false⟩, ⟨(some 26), .move (.t 3), (some (23, true)), .read, 0, false⟩, ⟨(some 27), .move (.t 11), (some (23, true)), .read, 0, false⟩, ⟨(some 28), .arith .add (.t 26) (.t 27), (some (23, true)), .read, 0, false⟩, ⟨(some 29), .indexAddr 2 (.t 25) (.t 28), (some (23, true)), .read, 0, false⟩, ⟨(some 30), .load (some 2) (.t 29), (some (23, true)), .read, 0, false⟩, ⟨(some 31), .move (.t 0), (some (23, true)), .read, 0, false⟩, ⟨(some 32), .move (.t 3), (some (23, true)), .read, 0, false⟩, ⟨(some 33), .move (.t 11), (some (23, true)), .read, 0, false⟩, ⟨(some 34), .arith .add (.t 32) (.t 33), (some (23, true)), .read, 0, false⟩, ⟨(some 35), .arith .add (.t 34) (oI 1), (some (23, true)), .read, 0, false⟩, ⟨(some 36), .indexAddr 2 (.t 31) (.t 35), (some (23, true)), .read, 0, false⟩, ⟨(some 37), .load (some 2) (.t 36), (some (23, true)), .read, 0, false⟩, ⟨(some 24), .move (.t 4), (some (23, true)), .read, 0, false⟩, ⟨(some 38), .call (.t 24) [(.t 30), (.t 37)], (some (23, true)), .write, 0, false⟩, ⟨(some 39), .arith .lss (.t 38) (oI 0), (some (23, true)), .read, 1, false⟩, ⟨(some 40), .pick (.t 23) (.t 39) (oB false), none, .read, 1, false⟩])
 (.cond (.t 40) (.region [oM 41 11, oW 42 (.arith .add (.t 41) (oI 1)), oM 11 42]) .skip))
 (.seq (.seq (.draw [oRM 44 0, oRM 45 3, oRM 46 10, oR 47 (.arith .add (.t 45) (.t 46)), oR 48 (.indexAddr 2 (.t 44) (.t 47)), oRL 49 2 48, oRM 50 0, oRM 51 3, oRM 52 11, oR 53 (.arith .add (.t 51) (.t 52)), oR 54 (.indexAddr 2 (.t 50) (.t 53)), oRL 55 2 54, oRM 43 4, oW 56 (.call (.t 43) [(.t 49), (.t 55)]), ⟨(some 57), .arith .lss (.t 56) (oI 0), none, .read, 1, false⟩, ⟨(some 58), .un .not (.t 57), none, .read, 1, false⟩])
 (.cond (.t 58) .ret .skip))
 (.seq (.draw [oRM 67 0, oRM 68 3, oRM 69 11, oR 70 (.arith .add (.t 68) (.t 69)), oR 71 (.indexAddr 2 (.t 67) (.t 70)), oRL 72 2 71, oRM 73 0, oRM 74 3, oRM 75 10, oR 76 (.arith .add (.t 74) (.t 75)), oR 77 (.indexAddr 2 (.t 73) (.t 76)), oRL 78 2 77, oRM 59 0, oRM 60 3, oRM 61 10, oR 62 (.arith .add (.t 60) (.t 61)), oR 79 (.indexAddr 2 (.t 59) (.t 62)), oS 2 79 72, oRM 63 0, oRM 64 3, oRM 65 11, oR 66 (.arith .add (.t 64) (.t 65)), ⟨(some 80), .indexAddr 2 (.t 63) (.t 66), none, .read, 1, false⟩, ⟨none, .store 2 (.t 80) (.t 78), none, .write, 1, false⟩])
 (.region [oM 81 11, oM 10 81])))))))

/-- slices.siftDownCmpFunc[[2]int] -/
def t332 : DFunc := { ntmps := 82, results := [], mode := .full, body :=
 (.seq (.region [oM 12 1, oM 10 12])
 (.block 0 (.loop t332l0))) }

theorem c332 : compFunc Tryz.prog Tryz.f332 .full = some t332 := by kernel_rfl

/-- slices.nextPowerOfTwo -/
def t333 : DFunc := { ntmps := 7, results := [(.t 2)], mode := .full, body :=
 (.seq (.region [oW 2 (.move (.c (.int .u64 0)))])
 (.seq (.region [oM 3 0, oW 4 (.conv .u64 (.t 3)), oW 5 (.call (oF 219) [(.t 4)]), oW 6 (.arith .shl (.c (.int .u64 1)) (.t 5)), oM 2 6])
 .ret)) }

theorem c333 : compFunc Tryz.prog Tryz.f333 .full = some t333 := by kernel_rfl

/-- (*slices.xorshift).Next -/
def t334 : DFunc := { ntmps := 33, results := [(.t 2)], mode := .full, body :=
 (.seq (.region [oW 2 (.move (.c (.int .u64 0)))])
 (.seq (.draw [oRM 3 0, oR 4 (.nilCheck (.t 3)), oRD 5 4, oRM 6 0, oR 7 (.nilCheck (.t 6)), oRD 8 7, oR 9 (.arith .shl (.t 8) (.c (.int .u64 13))), oR 10 (.arith .xor (.t 5) (.t 9)), oR 11 (.nilCheck (.t 3)), oS 1 11 10])
 (.seq (.draw [oRM 12 0, oR 13 (.nilCheck (.t 12)), oRD 14 13, oRM 15 0, oR 16 (.nilCheck (.t 15)), oRD 17 16, oR 18 (.arith .shr (.t 17) (.c (.int .u64 7))), oR 19 (.arith .xor (.t 14) (.t 18)), oR 20 (.nilCheck (.t 12)), oS 1 20 19])
 (.seq (.draw [oRM 21 0, oR 22 (.nilCheck (.t 21)), oRD 23 22, oRM 24 0, oR 25 (.nilCheck (.t 24)), oRD 26 25, oR 27 (.arith .shl (.t 26) (.c (.int .u64 17))), oR 28 (.arith .xor (.t 23) (.t 27)), oR 29 (.nilCheck (.t 21)), oS 1 29 28])
 (.seq (.region [oM 30 0, oW 31 (.nilCheck (.t 30)), oD 32 31, oM 2 32])
 .ret))))) }

theorem c334 : compFunc Tryz.prog Tryz.f334 .full = some t334 := by kernel_rfl

/-- slices.medianAdjacentCmpFunc[[2]int] -/
def t335 : DFunc := { ntmps := 18, results := [(.t 8)], mode := .full, body :=
 (.seq (.region [oW 8 (.move (oI 0))])
 (.seq (.region [oM 9 0, oM 10 1, oW 11 (.arith .sub (.t 10) (oI 1)), oM 12 1, oM 13 1, oW 14 (.arith .add (.t 13) (oI 1)), oM 15 2, oM 16 3, oW 17 (.call (oF 336) [(.t 9), (.t 11), (.t 12), (.t 14), (.t 15), (.t 16)]), oM 8 17])
 .ret)) }

theorem c335 : compFunc Tryz.prog Tryz.f335 .full = some t335 := by kernel_rfl

/-- slices.medianCmpFunc[[2]int] -/
def t336 : DFunc := { ntmps := 41, results := [(.t 12)], mode := .full, body :=
 (.seq (.region [oW 12 (.move (oI 0))])
 (.seq (.region [oM 14 0, oM 15 1, oM 16 2, oM 17 4, oM 18 5, oW 19 (.call (oF 363) [(.t 14), (.t 15), (.t 16), (.t 17), (.t 18)]), oM 13 19, oX 20 13 0, oX 21 13 1, oM 1 20, oM 2 21])
 (.seq (.region [oM 23 0, oM 24 2, oM 25 3, oM 26 4, oM 27 5, oW 28 (.call (oF 363) [(.t 23), (.t 24), (.t 25), (.t 26), (.t 27)]), oM 22 28, oX 29 22 0, oX 30 22 1, oM 2 29, oM 3 30])
 (.seq (.region [oM 32 0, oM 33 1, oM 34 2, oM 35 4, oM 36 5, oW 37 (.call (oF 363) [(.t 32), (.t 33), (.t 34), (.t 35), (.t 36)]), oM 31 37, oX 38 31 0, oX 39 31 1, oM 1 38, oM 2 39])
 (.seq (.region [oM 40 2, oM 12 40])
 .ret))))) }

theorem c336 : compFunc Tryz.prog Tryz.f336 .full = some t336 := by kernel_rfl

/-- slices.Contains[[][2]int,[2]int] -/
def t337 : DFunc := { ntmps := 9, results := [(.t 4)], mode := .full, body :=
 (.seq (.region [oW 3 (.box 90 2 (.t 1)), oW 4 (.move (oB false))])
 (.seq (.region [oM 5 0, oL 6 2 3, oW 7 (.call (oF 364) [(.t 5), (.t 6)]), oW 8 (.arith .geq (.t 7) (oI 0)), oM 4 8])
 .ret)) }

theorem c337 : compFunc Tryz.prog Tryz.f337 .full = some t337 := by kernel_rfl

/-- slices.Grow[[]broadside/api.Message,broadside/api.Message] -/
def t338 : DFunc := { ntmps := 27, results := [(.t 4)], mode := .full, body :=
 (.seq (.region [oW 4 (.move (.c .nsl))])
 (.seq (.seq (.region [oM 5 1, oW 6 (.arith .lss (.t 5) (oI 0))])
 (.cond (.t 6) (.region [oW 7 (.makeIface 9 (.c (.str [99, 97, 110, 110, 111, 116, 32, 98, 101, 32, 110, 101, 103, 97, 116, 105, 118, 101]))), oZ (.extract (.c .nilp) 0)]) .skip))
 (.seq (.seq (.region [oM 8 1, oM 9 0, oW 10 (.cap (.t 9)), oM 11 0, oW 12 (.len 1 (.t 11)), oW 13 (.arith .sub (.t 10) (.t 12)), oW 14 (.arith .sub (.t 8) (.t 13)), oM 1 14])
 (.seq (.region [oM 15 1, oW 16 (.arith .gtr (.t 15) (oI 0))])
 (.cond (.t 16) (.region [oM 17 0, oM 18 0, oW 19 (.cap (.t 18)), oW 20 (.sliceSl 7 (.t 17) none (some (.t 19))), oM 21 1, oW 22 (.appendZ 49 7 88 (.agg [(.int .i64 0), (.int .i64 0), (.int .i64 0), (.int .i64 0), (.int .i64 0), .nsl, .nsl]) (.t 20) (.t 21)), oM 23 0, oW 24 (.len 1 (.t 23)), oW 25 (.sliceSl 7 (.t 22) none (some (.t 24))), oM 0 25]) .skip)))
 (.seq (.region [oM 26 0, oM 4 26])
 .ret)))) }

theorem c338 : compFunc Tryz.prog Tryz.f338 .full = some t338 := by kernel_rfl

/-- slices.rotateLeft[broadside/api.Own] -/
def t339 : DFunc := { ntmps := 14, results := [], mode := .full, body :=
 (.seq (.region [oM 4 0, oM 5 1, oW 6 (.sliceSl 3 (.t 4) none (some (.t 5))), oW 7 (.call (oF 365) [(.t 6)])])
 (.seq (.region [oM 8 0, oM 9 1, oW 10 (.sliceSl 3 (.t 8) (some (.t 9)) none), oW 11 (.call (oF 365) [(.t 10)])])
 (.region [oM 12 0, oW 13 (.call (oF 365) [(.t 12)])]))) }

theorem c339 : compFunc Tryz.prog Tryz.f339 .full = some t339 := by kernel_rfl

def t341l0 : DCode :=
 (.block 1 (.seq (.region [oM 11 8, oW 12 (.arith .mul (oI 2) (.t 11)), oW 13 (.arith .add (.t 12) (oI 1)), oM 9 13])
 (.seq (.seq (.region [oM 14 9, oM 15 2, oW 16 (.arith .geq (.t 14) (.t 15))])
 (.cond (.t 16) (.exit 0) .skip))
 (.seq (.seq (.draw [oRM 17 9, oR 18 (.arith .add (.t 17) (oI 1)), oRM 19 2, oR 20 (.arith .lss (.t 18) (.t 19)), oRM 21 20, ⟨(some 22), .move (.t 0), (some (21, true)), .read, 0, false⟩, ⟨(some 23), .move (.t 3), (some (21, true)), .read, 0, false⟩, ⟨(some 24), .move (.t 9), (some (21, true)), .read, 0, false⟩, ⟨(some 25), .arith .add (.t 23) (.t 24), (some (21, true)), .read, 0, false⟩, ⟨(some 26), .indexAddr 1 (.t 22) (.t 25), (some (21, true)), .read, 0, false⟩, ⟨(some 27), .load none (.t 26), (some (21, true)), .read, 0, false⟩, ⟨(some 28), .move (.t 0), (some (21, true)), .read, 0, false⟩, ⟨(some 29), .move (.t 3), (some (21, true)), .read, 0, false⟩, ⟨(some 30), .move (.t 9), (some (21, true)), .read, 0, false⟩, ⟨(some 31), .arith .add (.t 29) (.t 30), (some (21, true)), .read, 0, false⟩, ⟨(some 32), .arith .add (.t 31) (oI 1), (some (21, true)), .read, 0, false⟩, ⟨(some 33), .indexAddr 1 (.t 28) (.t 32), (some (21, true)), .read, 0, false⟩, ⟨(some 34), .load none (.t 33), (some (21, true)), .read, 0, false⟩, ⟨(some 35), .call (oF 303) [(.t 27), (.t 34)], (some (21, true)), .write, 0, false⟩, ⟨(some 36), .pick (.t 21) (.t 35) (oB false), none, .read, 1, false⟩])
 (.cond (.t 36) (.region [oM 37 9, oW 38 (.arith .add (.t 37) (oI 1)), oM 9 38]) .skip))
 (.seq (.seq (.draw [oRM 39 0, oRM 40 3, oRM 41 8, oR 42 (.arith .add (.t 40) (.t 41)), oR 43 (.indexAddr 1 (.t 39) (.t 42)), oRD 44 43, oRM 45 0, oRM 46 3, oRM 47 9, oR 48 (.arith .add (.t 46) (.t 47)), oR 49 (.indexAddr 1 (.t 45) (.t 48)), oRD 50 49, oW 51 (.call (oF 303) [(.t 44), (.t 50)]), ⟨(some 52), .un .not (.t 51), none, .read, 1, false⟩])
 (.cond (.t 52) .ret .skip))
 (.seq (.draw [oRM 61 0, oRM 62 3, oRM 63 9, oR 64 (.arith .add (.t 62) (.t 63)), oR 65 (.indexAddr 1 (.t 61) (.t 64)), oRD 66 65, oRM 67 0, oRM 68 3, oRM 69 8, oR 70 (.arith .add (.t 68) (.t 69)), oR 71 (.indexAddr 1 (.t 67) (.t 70)), oRD 72 71, oRM 53 0, oRM 54 3, oRM 55 8, oR 56 (.arith .add (.t 54) (.t 55)), oR 73 (.indexAddr 1 (.t 53) (.t 56)), oS 1 73 66, oRM 57 0, oRM 58 3, oRM 59 9, oR 60 (.arith .add (.t 58) (.t 59)), ⟨(some 74), .indexAddr 1 (.t 57) (.t 60), none, .read, 1, false⟩, ⟨none, .store 1 (.t 74) (.t 72), none, .write, 1, false⟩])
 (.region [oM 75 9, oM 8 75])))))))

/-- slices.siftDownOrdered[int] -/
def t341 : DFunc := { ntmps := 76, results := [], mode := .full, body :=
 (.seq (.region [oM 10 1, oM 8 10])
 (.block 0 (.loop t341l0))) }

theorem c341 : compFunc Tryz.prog Tryz.f341 .full = some t341 := by kernel_rfl

/-- slices.medianAdjacentOrdered[int] -/
def t342 : DFunc := { ntmps := 15, results := [(.t 6)], mode := .full, body :=
 (.seq (.region [oW 6 (.move (oI 0))])
 (.seq (.region [oM 7 0, oM 8 1, oW 9 (.arith .sub (.t 8) (oI 1)), oM 10 1, oM 11 1, oW 12 (.arith .add (.t 11) (oI 1)), oM 13 2, oW 14 (.call (oF 343) [(.t 7), (.t 9), (.t 10), (.t 12), (.t 13)]), oM 6 14])
 .ret)) }

theorem c342 : compFunc Tryz.prog Tryz.f342 .full = some t342 := by kernel_rfl

/-- slices.medianOrdered[int] -/
def t343 : DFunc := { ntmps := 36, results := [(.t 10)], mode := .full, body :=
 (.seq (.region [oW 10 (.move (oI 0))])
 (.seq (.region [oM 12 0, oM 13 1, oM 14 2, oM 15 4, oW 16 (.call (oF 366) [(.t 12), (.t 13), (.t 14), (.t 15)]), oM 11 16, oX 17 11 0, oX 18 11 1, oM 1 17, oM 2 18])
 (.seq (.region [oM 20 0, oM 21 2, oM 22 3, oM 23 4, oW 24 (.call (oF 366) [(.t 20), (.t 21), (.t 22), (.t 23)]), oM 19 24, oX 25 19 0, oX 26 19 1, oM 2 25, oM 3 26])
 (.seq (.region [oM 28 0, oM 29 1, oM 30 2, oM 31 4, oW 32 (.call (oF 366) [(.t 28), (.t 29), (.t 30), (.t 31)]), oM 27 32, oX 33 27 0, oX 34 27 1, oM 1 33, oM 2 34])
 (.seq (.region [oM 35 2, oM 10 35])
 .ret))))) }

theorem c343 : compFunc Tryz.prog Tryz.f343 .full = some t343 := by kernel_rfl

/-- slices.rotateLeft[broadside/api.Advert] -/
def t344 : DFunc := { ntmps := 14, results := [], mode := .full, body :=
 (.seq (.region [oM 4 0, oM 5 1, oW 6 (.sliceSl 4 (.t 4) none (some (.t 5))), oW 7 (.call (oF 367) [(.t 6)])])
 (.seq (.region [oM 8 0, oM 9 1, oW 10 (.sliceSl 4 (.t 8) (some (.t 9)) none), oW 11 (.call (oF 367) [(.t 10)])])
 (.region [oM 12 0, oW 13 (.call (oF 367) [(.t 12)])]))) }

theorem c344 : compFunc Tryz.prog Tryz.f344 .full = some t344 := by kernel_rfl

/-- slices.rotateLeft[broadside/api.ID] -/
def t345 : DFunc := { ntmps := 14, results := [], mode := .full, body :=
 (.seq (.region [oM 4 0, oM 5 1, oW 6 (.sliceSl 2 (.t 4) none (some (.t 5))), oW 7 (.call (oF 368) [(.t 6)])])
 (.seq (.region [oM 8 0, oM 9 1, oW 10 (.sliceSl 2 (.t 8) (some (.t 9)) none), oW 11 (.call (oF 368) [(.t 10)])])
 (.region [oM 12 0, oW 13 (.call (oF 368) [(.t 12)])]))) }

theorem c345 : compFunc Tryz.prog Tryz.f345 .full = some t345 := by kernel_rfl

def t346l0 : DCode :=
 (.seq (.seq (.region [oM 15 9, oM 16 10, oW 17 (.arith .lss (.t 15) (.t 16))])
 (.cond (.t 17) .skip (.exit 0)))
 (.block 1 (.seq (.region [oM 18 9, oM 19 10, oW 20 (.arith .add (.t 18) (.t 19)), oW 21 (.conv .u64 (.t 20)), oW 22 (.arith .shr (.t 21) (.c (.int .u64 1))), oW 23 (.conv .i64 (.t 22)), oM 11 23])
 (.seq (.region [oM 24 2, oM 25 0, oM 26 11, oW 27 (.indexAddr 5 (.t 25) (.t 26)), oL 28 5 27, oM 29 1, oW 30 (.call (.t 24) [(.t 28), (.t 29)]), oW 31 (.arith .lss (.t 30) (oI 0))])
 (.cond (.t 31) (.region [oM 32 11, oW 33 (.arith .add (.t 32) (oI 1)), oM 9 33]) (.region [oM 34 11, oM 10 34]))))))

def t346k0 : DCode :=
 (.seq (.region [oM 35 9, oM 36 9, oM 37 8, oW 38 (.arith .lss (.t 36) (.t 37)), oM 39 38, ⟨(some 40), .move (.t 2), (some (39, true)), .write, 0, false⟩, ⟨(some 41), .move (.t 0), (some (39, true)), .write, 0, false⟩, ⟨(some 42), .move (.t 9), (some (39, true)), .write, 0, false⟩, ⟨(some 43), .indexAddr 5 (.t 41) (.t 42), (some (39, true)), .write, 0, false⟩, ⟨(some 44), .load (some 5) (.t 43), (some (39, true)), .write, 0, false⟩, ⟨(some 45), .move (.t 1), (some (39, true)), .write, 0, false⟩, ⟨(some 46), .call (.t 40) [(.t 44), (.t 45)], (some (39, true)), .write, 0, false⟩, ⟨(some 47), .arith .eql (.t 46) (oI 0), (some (39, true)), .write, 0, false⟩, oW 48 (.pick (.t 39) (.t 47) (oB false)), oM 6 35, oM 7 48])
 .ret)

/-- slices.BinarySearchFunc[[]broadside/api.Constraint,broadside/api.Constraint,string] -/
def t346 : DFunc := { ntmps := 49, results := [(.t 6), (.t 7)], mode := .full, body :=
 (.seq (.region [oW 6 (.move (oI 0)), oW 7 (.move (oB false))])
 (.seq (.region [oM 12 0, oW 13 (.len 1 (.t 12)), oM 8 13])
 (.seq (.region [oM 14 8, oW 9 (.move (oI 0)), oM 10 14])
 (.seq (.block 0 (.loop t346l0))
 t346k0)))) }

theorem c346 : compFunc Tryz.prog Tryz.f346 .full = some t346 := by kernel_rfl

/-- broadside/pred.Make$1 -/
def t347 : DFunc := { ntmps := 9, results := [(.t 4)], mode := .full, body :=
 (.seq (.region [oW 2 (.box 119 5 (.t 0)), oW 4 (.move (oI 0))])
 (.seq (.region [oA 5 0 2, oD 6 5, oM 7 1, oW 8 (.call (oF 348) [(.t 6), (.t 7)]), oM 4 8])
 .ret)) }

theorem c347 : compFunc Tryz.prog Tryz.f347 .full = some t347 := by kernel_rfl

/-- strings.Compare -/
def t348 : DFunc := { ntmps := 8, results := [(.t 4)], mode := .full, body :=
 (.seq (.region [oW 4 (.move (oI 0))])
 (.seq (.region [oM 5 0, oM 6 1, oW 7 (.call (oF 369) [(.t 5), (.t 6)]), oM 4 7])
 .ret)) }

theorem c348 : compFunc Tryz.prog Tryz.f348 .full = some t348 := by kernel_rfl

/-- broadside/pred.Both -/
def t349 : DFunc := { ntmps := 69, results := [(.cell 4 (some 5)), (.t 5)], mode := .full, body :=
 (.seq (.region [oW 2 (.box 119 5 (.t 0)), oW 3 (.box 119 5 (.t 1)), oW 4 (.alloc 119 5 (.agg [(.str []), (.int .i64 0), (.int .i64 0), (.int .i64 0), (.str [])])), oW 5 (.move (oB false))])
 (.seq (.region [oW 7 (.build [(.str []), (.int .i64 0), (.int .i64 0), (.int .i64 0), (.str [])] []), oW 6 (.alloc 119 5 (.agg [(.str []), (.int .i64 0), (.int .i64 0), (.int .i64 0), (.str [])])), oS 5 6 7])
 (.seq (.seq (.region [oA 8 1 2, oD 9 8, oA 10 1 3, oD 11 10, oW 12 (.arith .gtr (.t 9) (.t 11))])
 (.cond (.t 12) (.region [oL 13 5 3, oL 14 5 2, oS 5 2 13, oS 5 3 14]) .skip))
 (.seq (.seq (.region [oA 15 1 2, oD 16 15])
 (.block 0 (.seq (.block 3 (.seq (.block 2 (.seq (.block 1 (.seq (.seq (.seq (.region [oW 18 (.arith .eql (.t 16) (oI 1)), oM 17 18])
 (.cond (.t 17) (.exit 1) .skip))
 (.seq (.seq (.region [oW 20 (.arith .eql (.t 16) (oI 3)), oM 19 20])
 (.cond (.t 19) (.exit 2) .skip))
 (.seq (.region [oW 22 (.arith .eql (.t 16) (oI 2)), oM 21 22])
 (.cond (.t 21) (.exit 3) .skip))))
 (.exit 0)))
 (.seq (.seq (.seq (.region [oA 23 1 3, oD 24 23, oW 25 (.arith .neq (.t 24) (oI 1)), oM 26 25, ⟨(some 27), .fieldAddr 2 (.t 2), (some (26, false)), .write, 0, false⟩, ⟨(some 28), .load none (.t 27), (some (26, false)), .write, 0, false⟩, ⟨(some 29), .fieldAddr 2 (.t 3), (some (26, false)), .write, 0, false⟩, ⟨(some 30), .load none (.t 29), (some (26, false)), .write, 0, false⟩, ⟨(some 31), .minmax true (.t 28) (.t 30), (some (26, false)), .write, 0, false⟩, ⟨(some 32), .fieldAddr 3 (.t 2), (some (26, false)), .write, 0, false⟩, ⟨(some 33), .load none (.t 32), (some (26, false)), .write, 0, false⟩, ⟨(some 34), .fieldAddr 3 (.t 3), (some (26, false)), .write, 0, false⟩, ⟨(some 35), .load none (.t 34), (some (26, false)), .write, 0, false⟩, ⟨(some 36), .minmax false (.t 33) (.t 35), (some (26, false)), .write, 0, false⟩, ⟨(some 37), .arith .gtr (.t 31) (.t 36), (some (26, false)), .write, 0, false⟩, oW 38 (.pick (.t 26) (oB true) (.t 37))])
 (.cond (.t 38) (.seq (.region [oL 39 5 6, oS 5 4 39, oW 5 (.move (oB false))])
 .ret) .skip))
 (.seq (.draw [oRA 40 2 2, ⟨(some 41), .load none (.t 40), none, .read, 0, true⟩, oRA 42 2 3, ⟨(some 43), .load none (.t 42), none, .read, 0, true⟩, oRA 45 3 2, ⟨(some 46), .load none (.t 45), none, .read, 0, true⟩, oRA 47 3 3, oRD 48 47, oR 44 (.minmax true (.t 41) (.t 43)), oRA 50 2 2, ⟨none, .store 1 (.t 50) (.t 44), none, .create, 0, false⟩, oR 49 (.minmax false (.t 46) (.t 48)), ⟨(some 51), .fieldAddr 3 (.t 2), none, .read, 1, false⟩, ⟨none, .store 1 (.t 51) (.t 49), none, .write, 1, false⟩])
 (.seq (.region [oL 52 5 2, oS 5 4 52, oW 5 (.move (oB true))])
 .ret)))
 (.exit 0))))
 (.seq (.region [oA 53 4 2, oD 54 53, oW 55 (.len 0 (.t 54)), oA 56 4 3, oD 57 56, oW 58 (.len 0 (.t 57)), oW 59 (.arith .lss (.t 55) (.t 58))])
 (.cond (.t 59) (.region [oL 60 5 3, oL 61 5 2, oS 5 2 60, oS 5 3 61]) .skip))))
 (.seq (.seq (.draw [oRL 62 5 3, oRA 63 4 2, oRD 64 63, ⟨(some 65), .call (oF 321) [(.t 64)], none, .create, 0, false⟩, ⟨(some 66), .call (oF 318) [(.t 62), (.t 65)], none, .write, 1, false⟩])
 (.cond (.t 66) (.seq (.region [oL 67 5 2, oS 5 4 67, oW 5 (.move (oB true))])
 .ret) .skip))
 (.exit 0)))))
 (.seq (.region [oL 68 5 6, oS 5 4 68, oW 5 (.move (oB false))])
 .ret))))) }

theorem c349 : compFunc Tryz.prog Tryz.f349 .full = some t349 := by kernel_rfl

/-- slices.Insert[[]broadside/api.Constraint,broadside/api.Constraint] -/
def t350 : DFunc := { ntmps := 95, results := [(.t 6)], mode := .split, body :=
 (.seq (.region [oW 6 (.move (.c .nsl))])
 (.seq (.region [oM 10 0, oM 11 1, oW 12 (.sliceSl 5 (.t 10) (some (.t 11)) none)])
 (.seq (.region [oM 13 2, oW 14 (.len 1 (.t 13)), oM 7 14])
 (.seq (.seq (.region [oM 15 7, oW 16 (.arith .eql (.t 15) (oI 0))])
 (.cond (.t 16) (.seq (.region [oM 17 0, oM 6 17])
 .ret) .skip))
 (.seq (.region [oM 18 0, oW 19 (.len 1 (.t 18)), oM 8 19])
 (.seq (.seq (.region [oM 20 1, oM 21 8, oW 22 (.arith .eql (.t 20) (.t 21))])
 (.cond (.t 22) (.seq (.region [oM 23 0, oM 24 2, oW 25 (.append 119 5 56 (.t 23) (.t 24)), oM 6 25])
 .ret) .skip))
 (.seq (.seq (.region [oM 26 8, oM 27 7, oW 28 (.arith .add (.t 26) (.t 27)), oM 29 0, oW 30 (.cap (.t 29)), oW 31 (.arith .gtr (.t 28) (.t 30))])
 (.cond (.t 31) (.seq (.region [oM 32 0, oM 33 1, oW 34 (.sliceSl 5 (.t 32) none (some (.t 33))), oM 35 8, oM 36 7, oW 37 (.arith .add (.t 35) (.t 36)), oM 38 1, oW 39 (.arith .sub (.t 37) (.t 38)), oW 40 (.appendZ 119 5 56 (.agg [(.str []), (.int .i64 0), (.int .i64 0), (.int .i64 0), (.str [])]) (.t 34) (.t 39)), oM 9 40])
 (.seq (.region [oM 41 9, oM 42 1, oW 43 (.sliceSl 5 (.t 41) (some (.t 42)) none), oM 44 2, oW 45 (.copy 5 (.t 43) (.t 44))])
 (.seq (.draw [oRM 46 9, oRM 47 1, oRM 48 7, oR 49 (.arith .add (.t 47) (.t 48)), oR 50 (.sliceSl 5 (.t 46) (some (.t 49)) none), oRM 51 0, oRM 52 1, oR 53 (.sliceSl 5 (.t 51) (some (.t 52)) none), oW 54 (.copy 5 (.t 50) (.t 53))])
 (.seq (.region [oM 55 9, oM 6 55])
 .ret)))) .skip))
 (.seq (.region [oM 56 0, oM 57 8, oM 58 7, oW 59 (.arith .add (.t 57) (.t 58)), oW 60 (.sliceSl 5 (.t 56) none (some (.t 59))), oM 0 60])
 (.seq (.seq (.region [oM 61 2, oM 62 0, oM 63 1, oM 64 7, oW 65 (.arith .add (.t 63) (.t 64)), oW 66 (.sliceSl 5 (.t 62) (some (.t 65)) none), oW 67 (.call (oF 370) [(.t 61), (.t 66)]), oW 68 (.un .not (.t 67))])
 (.cond (.t 68) (.seq (.draw [oRM 69 0, oRM 70 1, oRM 71 7, oR 72 (.arith .add (.t 70) (.t 71)), oR 73 (.sliceSl 5 (.t 69) (some (.t 72)) none), oRM 74 0, oRM 75 1, oR 76 (.sliceSl 5 (.t 74) (some (.t 75)) none), oW 77 (.copy 5 (.t 73) (.t 76))])
 (.seq (.region [oM 78 0, oM 79 1, oW 80 (.sliceSl 5 (.t 78) (some (.t 79)) none), oM 81 2, oW 82 (.copy 5 (.t 80) (.t 81))])
 (.seq (.region [oM 83 0, oM 6 83])
 .ret))) .skip))
 (.seq (.region [oM 84 0, oM 85 8, oW 86 (.sliceSl 5 (.t 84) (some (.t 85)) none), oM 87 2, oW 88 (.copy 5 (.t 86) (.t 87))])
 (.seq (.region [oM 89 0, oM 90 1, oW 91 (.sliceSl 5 (.t 89) (some (.t 90)) none), oM 92 7, oW 93 (.call (oF 371) [(.t 91), (.t 92)])])
 (.seq (.region [oM 94 0, oM 6 94])
 .ret)))))))))))) }

theorem c350 : compFunc Tryz.prog Tryz.f350 .split = some t350 := by kernel_rfl

/-- broadside/value.Number -/
def t351 : DFunc := { ntmps := 5, results := [(.cell 2 (some 3))], mode := .full, body :=
 (.seq (.region [oW 2 (.alloc 174 3 (.agg [(.bool false), (.int .i64 0), (.str [])]))])
 (.seq (.region [oM 3 0, oW 4 (.build [(.bool false), (.int .i64 0), (.str [])] [(1, 1, (.t 3))]), oS 3 2 4])
 .ret)) }

theorem c351 : compFunc Tryz.prog Tryz.f351 .full = some t351 := by kernel_rfl

/-- slices.rotateLeft[broadside/api.Entry] -/
def t352 : DFunc := { ntmps := 14, results := [], mode := .full, body :=
 (.seq (.region [oM 4 0, oM 5 1, oW 6 (.sliceSl 7 (.t 4) none (some (.t 5))), oW 7 (.call (oF 372) [(.t 6)])])
 (.seq (.region [oM 8 0, oM 9 1, oW 10 (.sliceSl 7 (.t 8) (some (.t 9)) none), oW 11 (.call (oF 372) [(.t 10)])])
 (.region [oM 12 0, oW 13 (.call (oF 372) [(.t 12)])]))) }

theorem c352 : compFunc Tryz.prog Tryz.f352 .full = some t352 := by kernel_rfl

/-- internal/stringslite.HasPrefix -/
def t353 : DFunc := { ntmps := 18, results := [(.t 4)], mode := .full, body :=
 (.seq (.region [oW 4 (.move (oB false))])
 (.seq (.region [oM 5 0, oW 6 (.len 0 (.t 5)), oM 7 1, oW 8 (.len 0 (.t 7)), oW 9 (.arith .geq (.t 6) (.t 8)), oM 10 9, ⟨(some 11), .move (.t 0), (some (10, true)), .write, 0, false⟩, ⟨(some 12), .move (.t 1), (some (10, true)), .write, 0, false⟩, ⟨(some 13), .len 0 (.t 12), (some (10, true)), .write, 0, false⟩, ⟨(some 14), .sliceStr (.t 11) none (some (.t 13)), (some (10, true)), .write, 0, false⟩, ⟨(some 15), .move (.t 1), (some (10, true)), .write, 0, false⟩, ⟨(some 16), .arith .eql (.t 14) (.t 15), (some (10, true)), .write, 0, false⟩, oW 17 (.pick (.t 10) (.t 16) (oB false)), oM 4 17])
 .ret)) }

theorem c353 : compFunc Tryz.prog Tryz.f353 .full = some t353 := by kernel_rfl

def t355l0 : DCode :=
 (.seq (.region [oW 9 (.arith .lss (.t 8) (.t 7))])
 (.seq (.cond (.t 9) .skip (.exit 0))
 (.seq (.block 1 (.seq (.region [oM 10 8, oM 5 10])
 (.seq (.region [oM 11 1, oM 12 0, oM 13 5, oW 14 (.indexAddr 2 (.t 12) (.t 13)), oL 15 2 14, oW 16 (.call (.t 11) [(.t 15)])])
 (.cond (.t 16) (.seq (.region [oM 17 5, oM 4 17])
 .ret) .skip))))
 (.region [oW 18 (.arith .add (.t 8) (oI 1)), oM 8 18]))))

def t355k0 : DCode :=
 (.seq (.region [oW 4 (.move (oI (-1)))])
 .ret)

/-- slices.IndexFunc[[]broadside/world.live,broadside/world.live] -/
def t355 : DFunc := { ntmps := 19, results := [(.t 4)], mode := .full, body :=
 (.seq (.region [oW 4 (.move (oI 0))])
 (.seq (.seq (.region [oM 6 0, oW 7 (.len 1 (.t 6)), oW 8 (.move (oI 0))])
 (.block 0 (.loop t355l0)))
 t355k0)) }

theorem c355 : compFunc Tryz.prog Tryz.f355 .full = some t355 := by kernel_rfl

/-- broadside/world.place$1 -/
def t356 : DFunc := { ntmps := 8, results := [(.t 3)], mode := .full, body :=
 (.seq (.region [oW 2 (.box 420 2 (.t 0)), oW 3 (.move (oB false))])
 (.seq (.region [oA 4 0 2, oD 5 4, oD 6 1, oW 7 (.arith .eql (.t 5) (.t 6)), oM 3 7])
 .ret)) }

theorem c356 : compFunc Tryz.prog Tryz.f356 .full = some t356 := by kernel_rfl

def t357l0 : DCode :=
 (.seq (.seq (.region [oM 16 6, oM 17 0, oW 18 (.len 1 (.t 17)), oW 19 (.arith .lss (.t 16) (.t 18))])
 (.cond (.t 19) .skip (.exit 0)))
 (.seq (.block 1 (.seq (.region [oM 22 0, oM 23 6, oW 24 (.indexAddr 2 (.t 22) (.t 23)), oL 25 2 24, oW 7 (.alloc 420 2 (.agg [(.int .i64 0), .nsl])), oS 2 7 25])
 (.seq (.region [oM 26 1, oL 27 2 7, oW 28 (.call (.t 26) [(.t 27)]), oW 29 (.un .not (.t 28))])
 (.cond (.t 29) (.seq (.region [oM 30 0, oM 31 5, oL 32 2 7, oW 33 (.indexAddr 2 (.t 30) (.t 31)), oS 2 33 32])
 (.region [oM 34 5, oW 35 (.arith .add (.t 34) (oI 1)), oM 5 35])) .skip))))
 (.region [oM 20 6, oW 21 (.arith .add (.t 20) (oI 1)), oM 6 21])))

def t357k0 : DCode :=
 (.seq (.region [oM 36 0, oM 37 5, oW 38 (.sliceSl 2 (.t 36) (some (.t 37)) none), oZ (.clear 2 (.agg [(.int .i64 0), .nsl]) (.t 38))])
 (.seq (.region [oM 39 0, oM 40 5, oW 41 (.sliceSl 2 (.t 39) none (some (.t 40))), oM 4 41])
 .ret))

/-- slices.DeleteFunc[[]broadside/world.live,broadside/world.live] -/
def t357 : DFunc := { ntmps := 42, results := [(.t 4)], mode := .full, body :=
 (.seq (.region [oW 4 (.move (.c .nsl))])
 (.seq (.region [oM 8 0, oM 9 1, oW 10 (.call (oF 355) [(.t 8), (.t 9)]), oM 5 10])
 (.seq (.seq (.region [oM 11 5, oW 12 (.arith .eql (.t 11) (oI (-1)))])
 (.cond (.t 12) (.seq (.region [oM 13 0, oM 4 13])
 .ret) .skip))
 (.seq (.seq (.region [oM 14 5, oW 15 (.arith .add (.t 14) (oI 1)), oM 6 15])
 (.block 0 (.loop t357l0)))
 t357k0)))) }

theorem c357 : compFunc Tryz.prog Tryz.f357 .full = some t357 := by kernel_rfl

/-- broadside/world.without$1 -/
def t359 : DFunc := { ntmps := 8, results := [(.t 3)], mode := .full, body :=
 (.seq (.region [oW 2 (.box 420 2 (.t 0)), oW 3 (.move (oB false))])
 (.seq (.region [oA 4 0 2, oD 5 4, oD 6 1, oW 7 (.arith .eql (.t 5) (.t 6)), oM 3 7])
 .ret)) }

theorem c359 : compFunc Tryz.prog Tryz.f359 .full = some t359 := by kernel_rfl

/-- (*broadside/net.Net).Unadvertise$1 -/
def t360 : DFunc := { ntmps := 10, results := [(.cell 3 (some 6)), (.t 4)], mode := .full, body :=
 (.seq (.region [oW 2 (.box 37 6 (.t 0)), oW 3 (.alloc 37 6 (.agg [(.int .i64 0), .nsl, .nsl, .nsl, .nsl, .nsl])), oW 4 (.move (.c .nsl))])
 (.seq (.region [oL 5 6 2, oL 6 2 1, oW 7 (.call (oF 79) [(.t 5), (oI (-1)), (.t 6)]), oX 8 7 0, oX 9 7 1, oS 6 3 8, oM 4 9])
 .ret)) }

theorem c360 : compFunc Tryz.prog Tryz.f360 .full = some t360 := by kernel_rfl

/-- (*broadside/net.Net).Unsubscribe$1 -/
def t361 : DFunc := { ntmps := 10, results := [(.cell 3 (some 6)), (.t 4)], mode := .full, body :=
 (.seq (.region [oW 2 (.box 37 6 (.t 0)), oW 3 (.alloc 37 6 (.agg [(.int .i64 0), .nsl, .nsl, .nsl, .nsl, .nsl])), oW 4 (.move (.c .nsl))])
 (.seq (.region [oL 5 6 2, oL 6 2 1, oW 7 (.call (oF 362) [(.t 5), (.t 6)]), oX 8 7 0, oX 9 7 1, oS 6 3 8, oM 4 9])
 .ret)) }

theorem c361 : compFunc Tryz.prog Tryz.f361 .full = some t361 := by kernel_rfl

def t362l0 : DCode :=
 (.seq (.region [oW 34 (.arith .lss (.t 33) (.t 32))])
 (.seq (.cond (.t 34) .skip (.exit 0))
 (.seq (.block 1 (.seq (.region [oW 35 (.indexAddr 4 (.t 31) (.t 33)), oL 36 4 35, oW 10 (.alloc 86 4 (.agg [(.int .i64 0), (.int .i64 0), .nsl, (.int .i64 0)])), oS 4 10 36])
 (.seq (.region [oL 38 6 2, oA 39 0 10, oL 40 2 39, oL 41 2 3, oW 42 (.call (oF 187) [(.t 38), (.t 40), (.t 41), (oI (-1))]), oM 37 42, oX 43 37 0, oX 44 37 1, oW 11 (.alloc 37 6 (.agg [(.int .i64 0), .nsl, .nsl, .nsl, .nsl, .nsl])), oS 6 11 43, oM 12 44])
 (.draw [oRL 45 6 11, oRM 46 8, oRM 47 12, ⟨(some 48), .append 168 8 96 (.t 46) (.t 47), none, .create, 0, false⟩, ⟨none, .store 6 (.t 2) (.t 45), none, .write, 1, false⟩, ⟨(some 8), .move (.t 48), none, .read, 2, false⟩]))))
 (.region [oW 49 (.arith .add (.t 33) (oI 1)), oM 33 49]))))

def t362k0 : DCode :=
 (.seq (.region [oL 50 6 2, oM 51 8, oS 6 4 50, oM 5 51])
 .ret)

/-- broadside/route.Unsubscribe -/
def t362 : DFunc := { ntmps := 52, results := [(.cell 4 (some 6)), (.t 5)], mode := .full, body :=
 (.seq (.region [oW 2 (.box 37 6 (.t 0)), oW 3 (.box 45 2 (.t 1)), oW 4 (.alloc 37 6 (.agg [(.int .i64 0), .nsl, .nsl, .nsl, .nsl, .nsl])), oW 5 (.move (.c .nsl))])
 (.seq (.region [oL 14 6 2, oL 15 2 3, oW 16 (.call (oF 230) [(.t 14), (.t 15)]), oM 13 16, oX 17 13 0, oX 18 13 1, oM 6 17, oM 7 18])
 (.seq (.seq (.region [oM 19 7, oW 20 (.un .not (.t 19))])
 (.cond (.t 20) (.seq (.region [oL 21 6 2, oS 6 4 21, oW 5 (.move (.c .nsl))])
 .ret) .skip))
 (.seq (.region [oA 22 5 2, oD 23 22, oW 24 (.call (oF 152) [(.t 23)]), oM 25 6, oM 26 6, oW 27 (.arith .add (.t 26) (oI 1)), oW 28 (.call (oF 373) [(.t 24), (.t 25), (.t 27)]), oA 29 5 2, oS 1 29 28])
 (.seq (.region [oW 8 (.move (.c .nsl))])
 (.seq (.seq (.region [oA 30 2 2, oD 31 30, oW 32 (.len 1 (.t 31)), oW 33 (.move (oI 0))])
 (.block 0 (.loop t362l0)))
 t362k0)))))) }

theorem c362 : compFunc Tryz.prog Tryz.f362 .full = some t362 := by kernel_rfl

/-- slices.order2CmpFunc[[2]int] -/
def t363 : DFunc := { ntmps := 32, results := [(.t 10), (.t 11)], mode := .full, body :=
 (.seq (.region [oW 10 (.move (oI 0)), oW 11 (.move (oI 0))])
 (.seq (.seq (.draw [oRM 13 0, oRM 14 2, oR 15 (.indexAddr 2 (.t 13) (.t 14)), oRL 16 2 15, oRM 17 0, oRM 18 1, oR 19 (.indexAddr 2 (.t 17) (.t 18)), oRL 20 2 19, oRM 12 4, oW 21 (.call (.t 12) [(.t 16), (.t 20)]), ⟨(some 22), .arith .lss (.t 21) (oI 0), none, .read, 1, false⟩])
 (.cond (.t 22) (.seq (.region [oM 23 3, oW 24 (.nilCheck (.t 23)), oD 25 24, oW 26 (.arith .add (.t 25) (oI 1)), oW 27 (.nilCheck (.t 23)), oS 1 27 26])
 (.seq (.region [oM 28 2, oM 29 1, oM 10 28, oM 11 29])
 .ret)) .skip))
 (.seq (.region [oM 30 1, oM 31 2, oM 10 30, oM 11 31])
 .ret))) }

theorem c363 : compFunc Tryz.prog Tryz.f363 .full = some t363 := by kernel_rfl

def t364l0 : DCode :=
 (.seq (.region [oW 9 (.arith .lss (.t 8) (.t 7))])
 (.seq (.cond (.t 9) .skip (.exit 0))
 (.seq (.block 1 (.seq (.region [oM 10 8, oM 5 10])
 (.seq (.draw [oRL 11 2 3, oRM 12 0, oRM 13 5, oR 14 (.indexAddr 2 (.t 12) (.t 13)), oRL 15 2 14, oR 16 (.eqa false [1, 1] (.t 11) (.t 15))])
 (.cond (.t 16) (.seq (.region [oM 17 5, oM 4 17])
 .ret) .skip))))
 (.region [oW 18 (.arith .add (.t 8) (oI 1)), oM 8 18]))))

def t364k0 : DCode :=
 (.seq (.region [oW 4 (.move (oI (-1)))])
 .ret)

/-- slices.Index[[][2]int,[2]int] -/
def t364 : DFunc := { ntmps := 19, results := [(.t 4)], mode := .full, body :=
 (.seq (.region [oW 3 (.box 90 2 (.t 1)), oW 4 (.move (oI 0))])
 (.seq (.seq (.region [oM 6 0, oW 7 (.len 1 (.t 6)), oW 8 (.move (oI 0))])
 (.block 0 (.loop t364l0)))
 t364k0)) }

theorem c364 : compFunc Tryz.prog Tryz.f364 .full = some t364 := by kernel_rfl

def t365l0 : DCode :=
 (.seq (.seq (.region [oM 7 2, oM 8 3, oW 9 (.arith .lss (.t 7) (.t 8))])
 (.cond (.t 9) .skip (.exit 0)))
 (.seq (.block 1 (.draw [oRM 18 0, oRM 19 3, oR 20 (.indexAddr 3 (.t 18) (.t 19)), oRL 21 3 20, oRM 22 0, oRM 23 2, oR 24 (.indexAddr 3 (.t 22) (.t 23)), oRL 25 3 24, oRM 14 0, oRM 15 2, oR 26 (.indexAddr 3 (.t 14) (.t 15)), oS 3 26 21, oRM 16 0, oRM 17 3, ⟨(some 27), .indexAddr 3 (.t 16) (.t 17), none, .read, 1, false⟩, ⟨none, .store 3 (.t 27) (.t 25), none, .write, 1, false⟩]))
 (.region [oM 10 2, oW 11 (.arith .add (.t 10) (oI 1)), oM 12 3, oW 13 (.arith .sub (.t 12) (oI 1)), oM 2 11, oM 3 13])))

/-- slices.Reverse[[]broadside/api.Own,broadside/api.Own] -/
def t365 : DFunc := { ntmps := 28, results := [], mode := .full, body :=
 (.seq (.region [oM 4 0, oW 5 (.len 1 (.t 4)), oW 6 (.arith .sub (.t 5) (oI 1)), oW 2 (.move (oI 0)), oM 3 6])
 (.block 0 (.loop t365l0))) }

theorem c365 : compFunc Tryz.prog Tryz.f365 .full = some t365 := by kernel_rfl

/-- slices.order2Ordered[int] -/
def t366 : DFunc := { ntmps := 28, results := [(.t 8), (.t 9)], mode := .full, body :=
 (.seq (.region [oW 8 (.move (oI 0)), oW 9 (.move (oI 0))])
 (.seq (.seq (.draw [oRM 10 0, oRM 11 2, oR 12 (.indexAddr 1 (.t 10) (.t 11)), oRD 13 12, oRM 14 0, oRM 15 1, oR 16 (.indexAddr 1 (.t 14) (.t 15)), oRD 17 16, oW 18 (.call (oF 303) [(.t 13), (.t 17)])])
 (.cond (.t 18) (.seq (.region [oM 19 3, oW 20 (.nilCheck (.t 19)), oD 21 20, oW 22 (.arith .add (.t 21) (oI 1)), oW 23 (.nilCheck (.t 19)), oS 1 23 22])
 (.seq (.region [oM 24 2, oM 25 1, oM 8 24, oM 9 25])
 .ret)) .skip))
 (.seq (.region [oM 26 1, oM 27 2, oM 8 26, oM 9 27])
 .ret))) }

theorem c366 : compFunc Tryz.prog Tryz.f366 .full = some t366 := by kernel_rfl

def t367l0 : DCode :=
 (.seq (.seq (.region [oM 7 2, oM 8 3, oW 9 (.arith .lss (.t 7) (.t 8))])
 (.cond (.t 9) .skip (.exit 0)))
 (.seq (.block 1 (.draw [oRM 18 0, oRM 19 3, oR 20 (.indexAddr 4 (.t 18) (.t 19)), oRL 21 4 20, oRM 22 0, oRM 23 2, oR 24 (.indexAddr 4 (.t 22) (.t 23)), oRL 25 4 24, oRM 14 0, oRM 15 2, oR 26 (.indexAddr 4 (.t 14) (.t 15)), oS 4 26 21, oRM 16 0, oRM 17 3, ⟨(some 27), .indexAddr 4 (.t 16) (.t 17), none, .read, 1, false⟩, ⟨none, .store 4 (.t 27) (.t 25), none, .write, 1, false⟩]))
 (.region [oM 10 2, oW 11 (.arith .add (.t 10) (oI 1)), oM 12 3, oW 13 (.arith .sub (.t 12) (oI 1)), oM 2 11, oM 3 13])))

/-- slices.Reverse[[]broadside/api.Advert,broadside/api.Advert] -/
def t367 : DFunc := { ntmps := 28, results := [], mode := .full, body :=
 (.seq (.region [oM 4 0, oW 5 (.len 1 (.t 4)), oW 6 (.arith .sub (.t 5) (oI 1)), oW 2 (.move (oI 0)), oM 3 6])
 (.block 0 (.loop t367l0))) }

theorem c367 : compFunc Tryz.prog Tryz.f367 .full = some t367 := by kernel_rfl

def t368l0 : DCode :=
 (.seq (.seq (.region [oM 7 2, oM 8 3, oW 9 (.arith .lss (.t 7) (.t 8))])
 (.cond (.t 9) .skip (.exit 0)))
 (.seq (.block 1 (.draw [oRM 18 0, oRM 19 3, oR 20 (.indexAddr 2 (.t 18) (.t 19)), oRL 21 2 20, oRM 22 0, oRM 23 2, oR 24 (.indexAddr 2 (.t 22) (.t 23)), oRL 25 2 24, oRM 14 0, oRM 15 2, oR 26 (.indexAddr 2 (.t 14) (.t 15)), oS 2 26 21, oRM 16 0, oRM 17 3, ⟨(some 27), .indexAddr 2 (.t 16) (.t 17), none, .read, 1, false⟩, ⟨none, .store 2 (.t 27) (.t 25), none, .write, 1, false⟩]))
 (.region [oM 10 2, oW 11 (.arith .add (.t 10) (oI 1)), oM 12 3, oW 13 (.arith .sub (.t 12) (oI 1)), oM 2 11, oM 3 13])))

/-- slices.Reverse[[]broadside/api.ID,broadside/api.ID] -/
def t368 : DFunc := { ntmps := 28, results := [], mode := .full, body :=
 (.seq (.region [oM 4 0, oW 5 (.len 1 (.t 4)), oW 6 (.arith .sub (.t 5) (oI 1)), oW 2 (.move (oI 0)), oM 3 6])
 (.block 0 (.loop t368l0))) }

theorem c368 : compFunc Tryz.prog Tryz.f368 .full = some t368 := by kernel_rfl

/-- internal/bytealg.CompareString -/
def t369 : DFunc := { ntmps := 8, results := [(.t 4)], mode := .full, body :=
 (.seq (.region [oW 4 (.move (oI 0))])
 (.seq (.region [oM 5 0, oM 6 1, oW 7 (.call (oF 374) [(.t 5), (.t 6)]), oM 4 7])
 .ret)) }

theorem c369 : compFunc Tryz.prog Tryz.f369 .full = some t369 := by kernel_rfl

/-- slices.rotateRight[broadside/api.Constraint] -/
def t371 : DFunc := { ntmps := 10, results := [], mode := .full, body :=
 (.region [oM 4 0, oM 5 0, oW 6 (.len 1 (.t 5)), oM 7 1, oW 8 (.arith .sub (.t 6) (.t 7)), oW 9 (.call (oF 375) [(.t 4), (.t 8)])]) }

theorem c371 : compFunc Tryz.prog Tryz.f371 .full = some t371 := by kernel_rfl

end Go.Dm.Tr7
