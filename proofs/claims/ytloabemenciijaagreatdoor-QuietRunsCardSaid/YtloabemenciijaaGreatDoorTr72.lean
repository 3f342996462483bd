/-
The table of functions, brought into the machine's form (Tr7, part 2). Written by program (wip/tools/table3.lean.txt).
-/
import Derived.Test.YtloabemenciijaaGreatDoorMm4
import Derived.Test.YtloabemenciijaaGreatDoorRows
import Derived.KernelRfl
namespace Go.Dm.Tr7
open Go.Proofs

/-- broadside/rel.Meets -/
def t182 : DFunc := { ntmps := 14, results := [(.t 4)], mode := .full, body :=
 (.seq (.region [oW 4 (.move (oB false))])
 (.seq (.region [oM 8 0, oM 9 1, oW 10 (.call (oF 248) [(.t 8), (.t 9)]), oM 7 10, oX 11 7 0, oX 12 7 1, oM 5 11, oM 6 12])
 (.seq (.region [oM 13 6, oM 4 13])
 .ret))) }

theorem c182 : compFunc Tryz.prog Tryz.f182 .full = some t182 := by kernel_rfl

/-- broadside/subs.Add -/
def t183 : DFunc := { ntmps := 73, results := [(.cell 4 (some 6)), (.t 5)], mode := .full, body :=
 (.seq (.region [oW 2 (.box 37 6 (.t 0)), oW 3 (.box 88 7 (.t 1)), oW 4 (.alloc 37 6 (.agg [(.int .i64 0), .nsl, .nsl, .nsl, .nsl, .nsl])), oW 5 (.move (oB false))])
 (.seq (.region [oA 11 4 2, oD 12 11, oW 13 (.call (oF 151) [(.t 12)]), oA 14 4 2, oS 1 14 13])
 (.seq (.region [oL 16 6 2, oA 17 0 3, oL 18 2 17, oW 19 (.call (oF 49) [(.t 16), (.t 18)]), oM 15 19, oX 20 15 0, oX 21 15 1, oW 6 (.alloc 86 4 (.agg [(.int .i64 0), (.int .i64 0), .nsl, (.int .i64 0)])), oS 4 6 20, oM 7 21])
 (.seq (.region [oL 23 6 2, oA 24 0 3, oL 25 2 24, oA 26 2 3, oL 27 2 26, oW 28 (.call (oF 249) [(.t 23), (.t 25), (.t 27)]), oM 22 28, oX 29 22 0, oX 30 22 1, oM 8 29, oM 9 30])
 (.seq (.region [oA 31 3 6, oD 32 31, oW 33 (.arith .eql (.t 32) (oI (-1))), oM 10 33])
 (.seq (.seq (.region [oM 34 7, oW 35 (.un .not (.t 34)), oM 36 35, ⟨(some 37), .move (.t 9), (some (36, false)), .write, 0, false⟩, oW 38 (.pick (.t 36) (oB true) (.t 37)), oM 39 38, ⟨(some 40), .fieldAddr 5 (.t 3), (some (39, false)), .write, 0, false⟩, ⟨(some 41), .load none (.t 40), (some (39, false)), .write, 0, false⟩, ⟨(some 42), .fieldAddr 3 (.t 6), (some (39, false)), .write, 0, false⟩, ⟨(some 43), .load none (.t 42), (some (39, false)), .write, 0, false⟩, ⟨(some 44), .arith .eql (.t 41) (.t 43), (some (39, false)), .write, 0, false⟩, ⟨(some 45), .move (.t 44), (some (39, false)), .write, 0, false⟩, ⟨(some 46), .move (.t 10), (some (45, true)), .write, 0, false⟩, ⟨(some 47), .un .not (.t 46), (some (45, true)), .write, 0, false⟩, ⟨(some 48), .pick (.t 45) (.t 47) (oB false), (some (39, false)), .write, 0, false⟩, oW 49 (.pick (.t 39) (oB true) (.t 48))])
 (.cond (.t 49) (.seq (.region [oL 50 6 2, oS 6 4 50, oW 5 (.move (oB false))])
 .ret) .skip))
 (.seq (.region [oM 51 10, oW 52 (.un .not (.t 51)), oM 53 52, ⟨(some 54), .load (some 6) (.t 2), (some (53, true)), .write, 0, false⟩, ⟨(some 55), .fieldAddr 0 (.t 3), (some (53, true)), .write, 0, false⟩, ⟨(some 56), .load (some 2) (.t 55), (some (53, true)), .write, 0, false⟩, ⟨(some 57), .fieldAddr 4 (.t 3), (some (53, true)), .write, 0, false⟩, ⟨(some 58), .load none (.t 57), (some (53, true)), .write, 0, false⟩, ⟨(some 59), .call (oF 118) [(.t 54), (.t 56), (.t 58)], (some (53, true)), .write, 0, false⟩, ⟨(some 60), .un .not (.t 59), (some (53, true)), .write, 0, false⟩, oW 61 (.pick (.t 53) (.t 60) (oB false)), oA 62 6 3, oS 1 62 61])
 (.seq (.region [oA 63 4 2, oD 64 63, oM 65 8, oL 66 7 3, oW 67 (.buildSlice 88 7 (.agg [(.int .i64 0), (.int .i64 0), (.int .i64 0), (.int .i64 0), .nsl, (.int .i64 0), (.bool false)]) 1 [(0, (.t 66))]), oW 68 (.call (oF 250) [(.t 64), (.t 65), (.t 67)]), oA 69 4 2, oS 1 69 68])
 (.seq (.draw [⟨(some 70), .load (some 6) (.t 2), none, .read, 0, true⟩, oRA 71 6 3, oRD 72 71, ⟨none, .store 6 (.t 4) (.t 70), none, .create, 0, false⟩, ⟨(some 5), .move (.t 72), none, .read, 1, false⟩])
 .ret))))))))) }

theorem c183 : compFunc Tryz.prog Tryz.f183 .full = some t183 := by kernel_rfl

/-- broadside/flood.Sub -/
def t184 : DFunc := { ntmps := 10, results := [(.cell 2 (some 7))], mode := .full, body :=
 (.seq (.region [oW 1 (.box 88 7 (.t 0)), oW 2 (.alloc 49 7 (.agg [(.int .i64 0), (.int .i64 0), (.int .i64 0), (.int .i64 0), (.int .i64 0), .nsl, .nsl]))])
 (.seq (.region [oA 3 0 1, oL 4 2 3, oA 5 2 1, oL 6 2 5, oA 7 4 1, oD 8 7, oW 9 (.build [(.int .i64 0), (.int .i64 0), (.int .i64 0), (.int .i64 0), (.int .i64 0), .nsl, .nsl] [(0, 1, (oI 3)), (1, 2, (.t 4)), (3, 2, (.t 6)), (5, 1, (.t 8))]), oS 7 2 9])
 .ret)) }

theorem c184 : compFunc Tryz.prog Tryz.f184 .full = some t184 := by kernel_rfl

/-- broadside/adverts.Forget -/
def t185 : DFunc := { ntmps := 44, results := [(.cell 6 (some 6)), (.t 7)], mode := .full, body :=
 (.seq (.region [oW 3 (.box 37 6 (.t 0)), oW 4 (.box 45 2 (.t 1)), oW 6 (.alloc 37 6 (.agg [(.int .i64 0), .nsl, .nsl, .nsl, .nsl, .nsl])), oW 7 (.move (oB false))])
 (.seq (.region [oL 10 6 3, oW 11 (.call (oF 245) [(.t 10)]), oS 6 3 11])
 (.seq (.region [oL 13 6 3, oL 14 2 4, oW 15 (.call (oF 146) [(.t 13), (.t 14)]), oM 12 15, oX 16 12 0, oX 17 12 1, oM 8 16, oM 9 17])
 (.seq (.seq (.region [oM 18 9, oW 19 (.un .not (.t 18)), oM 20 19, ⟨(some 21), .fieldAddr 2 (.t 3), (some (20, false)), .write, 0, false⟩, ⟨(some 22), .load none (.t 21), (some (20, false)), .write, 0, false⟩, ⟨(some 23), .move (.t 8), (some (20, false)), .write, 0, false⟩, ⟨(some 24), .indexAddr 4 (.t 22) (.t 23), (some (20, false)), .write, 0, false⟩, ⟨(some 25), .fieldAddr 3 (.t 24), (some (20, false)), .write, 0, false⟩, ⟨(some 26), .load none (.t 25), (some (20, false)), .write, 0, false⟩, ⟨(some 27), .move (.t 2), (some (20, false)), .write, 0, false⟩, ⟨(some 28), .arith .neq (.t 26) (.t 27), (some (20, false)), .write, 0, false⟩, oW 29 (.pick (.t 20) (oB true) (.t 28))])
 (.cond (.t 29) (.seq (.region [oL 30 6 3, oS 6 6 30, oW 7 (.move (oB false))])
 .ret) .skip))
 (.seq (.region [oA 31 2 3, oD 32 31, oM 33 8, oM 34 8, oW 35 (.arith .add (.t 34) (oI 1)), oW 36 (.call (oF 251) [(.t 32), (.t 33), (.t 35)]), oA 37 2 3, oS 1 37 36])
 (.seq (.region [oA 38 4 3, oD 39 38, oW 40 (.makeFunc 253 [(.t 4)]), oW 41 (.call (oF 252) [(.t 39), (.t 40)]), oA 42 4 3, oS 1 42 41])
 (.seq (.region [oL 43 6 3, oS 6 6 43, oW 7 (.move (oB true))])
 .ret))))))) }

theorem c185 : compFunc Tryz.prog Tryz.f185 .full = some t185 := by kernel_rfl

/-- broadside/route.add -/
def t186 : DFunc := { ntmps := 32, results := [(.cell 4 (some 6)), (.t 5)], mode := .full, body :=
 (.seq (.region [oW 2 (.box 37 6 (.t 0)), oW 3 (.box 88 7 (.t 1)), oW 4 (.alloc 37 6 (.agg [(.int .i64 0), .nsl, .nsl, .nsl, .nsl, .nsl])), oW 5 (.move (.c .nsl))])
 (.seq (.region [oL 10 6 2, oA 11 0 3, oL 12 2 11, oW 13 (.call (oF 49) [(.t 10), (.t 12)]), oM 9 13, oX 14 9 0, oX 15 9 1, oW 6 (.alloc 86 4 (.agg [(.int .i64 0), (.int .i64 0), .nsl, (.int .i64 0)])), oS 4 6 14, oM 7 15])
 (.seq (.region [oL 17 6 2, oL 18 7 3, oW 19 (.call (oF 183) [(.t 17), (.t 18)]), oM 16 19, oX 20 16 0, oX 21 16 1, oS 6 2 20, oM 8 21])
 (.seq (.seq (.region [oM 22 8, oW 23 (.un .not (.t 22))])
 (.cond (.t 23) (.seq (.region [oL 24 6 2, oS 6 4 24, oW 5 (.move (.c .nsl))])
 .ret) .skip))
 (.seq (.draw [oRL 25 6 2, oRA 26 3 6, oRD 27 26, ⟨(some 28), .load (some 7) (.t 3), none, .read, 0, true⟩, ⟨(some 29), .call (oF 184) [(.t 28)], none, .create, 0, false⟩, ⟨none, .store 6 (.t 4) (.t 25), none, .create, 0, false⟩, ⟨(some 30), .build [(.int .i64 0), (.int .i64 0), (.int .i64 0), (.int .i64 0), (.int .i64 0), (.int .i64 0), .nsl, .nsl] [(0, 1, (.t 27)), (1, 7, (.t 29))], none, .read, 1, false⟩, ⟨(some 31), .buildSlice 168 8 (.agg [(.int .i64 0), (.int .i64 0), (.int .i64 0), (.int .i64 0), (.int .i64 0), (.int .i64 0), .nsl, .nsl]) 1 [(0, (.t 30))], none, .create, 0, false⟩, ⟨(some 5), .move (.t 31), none, .read, 3, false⟩])
 .ret))))) }

theorem c186 : compFunc Tryz.prog Tryz.f186 .full = some t186 := by kernel_rfl

def t187l0 : DCode :=
 (.seq (.region [oW 38 (.arith .lss (.t 37) (.t 36))])
 (.seq (.cond (.t 38) .skip (.exit 0))
 (.seq (.block 1 (.seq (.region [oW 39 (.indexAddr 7 (.t 35) (.t 37)), oL 40 7 39, oW 16 (.alloc 88 7 (.agg [(.int .i64 0), (.int .i64 0), (.int .i64 0), (.int .i64 0), .nsl, (.int .i64 0), (.bool false)])), oS 7 16 40])
 (.draw [oRA 42 3 10, oRD 43 42, oRL 44 7 16, ⟨(some 45), .call (oF 184) [(.t 44)], none, .create, 0, false⟩, oRM 41 14, ⟨(some 46), .build [(.int .i64 0), (.int .i64 0), (.int .i64 0), (.int .i64 0), (.int .i64 0), (.int .i64 0), .nsl, .nsl] [(0, 1, (.t 43)), (1, 7, (.t 45))], none, .read, 1, false⟩, ⟨(some 47), .buildSlice 168 8 (.agg [(.int .i64 0), (.int .i64 0), (.int .i64 0), (.int .i64 0), (.int .i64 0), (.int .i64 0), .nsl, .nsl]) 1 [(0, (.t 46))], none, .create, 0, false⟩, ⟨(some 48), .append 168 8 96 (.t 41) (.t 47), none, .write, 2, false⟩, ⟨(some 14), .move (.t 48), none, .read, 3, false⟩])))
 (.region [oW 49 (.arith .add (.t 37) (oI 1)), oM 37 49]))))

def t187k0 : DCode :=
 (.seq (.draw [oRL 50 6 4, oRA 52 3 10, oRD 53 52, oRL 54 2 5, oRL 55 2 6, oRM 51 14, oR 56 (.build [(.int .i64 0), (.int .i64 0), (.int .i64 0), (.int .i64 0), (.int .i64 0), .nsl, .nsl] [(0, 1, (oI 4)), (1, 2, (.t 54)), (3, 2, (.t 55))]), oR 57 (.build [(.int .i64 0), (.int .i64 0), (.int .i64 0), (.int .i64 0), (.int .i64 0), (.int .i64 0), .nsl, .nsl] [(0, 1, (.t 53)), (1, 7, (.t 56))]), ⟨(some 58), .buildSlice 168 8 (.agg [(.int .i64 0), (.int .i64 0), (.int .i64 0), (.int .i64 0), (.int .i64 0), (.int .i64 0), .nsl, .nsl]) 1 [(0, (.t 57))], none, .create, 0, false⟩, ⟨(some 59), .append 168 8 96 (.t 51) (.t 58), none, .create, 0, false⟩, ⟨none, .store 6 (.t 8) (.t 50), none, .write, 2, false⟩, ⟨(some 9), .move (.t 59), none, .read, 3, false⟩])
 .ret)

/-- broadside/route.take -/
def t187 : DFunc := { ntmps := 60, results := [(.cell 8 (some 6)), (.t 9)], mode := .full, body :=
 (.seq (.region [oW 4 (.box 37 6 (.t 0)), oW 5 (.box 45 2 (.t 1)), oW 6 (.box 45 2 (.t 2)), oW 8 (.alloc 37 6 (.agg [(.int .i64 0), .nsl, .nsl, .nsl, .nsl, .nsl])), oW 9 (.move (.c .nsl))])
 (.seq (.region [oL 18 6 4, oL 19 2 5, oW 20 (.call (oF 49) [(.t 18), (.t 19)]), oM 17 20, oX 21 17 0, oX 22 17 1, oW 10 (.alloc 86 4 (.agg [(.int .i64 0), (.int .i64 0), .nsl, (.int .i64 0)])), oS 4 10 21, oM 11 22])
 (.seq (.region [oL 24 6 4, oL 25 2 5, oL 26 2 6, oM 27 3, oW 28 (.call (oF 254) [(.t 24), (.t 25), (.t 26), (.t 27)]), oM 23 28, oX 29 23 0, oX 30 23 1, oX 31 23 2, oS 6 4 29, oM 12 30, oM 13 31])
 (.seq (.seq (.region [oM 32 13, oW 33 (.un .not (.t 32))])
 (.cond (.t 33) (.seq (.region [oL 34 6 4, oS 6 8 34, oW 9 (.move (.c .nsl))])
 .ret) .skip))
 (.seq (.region [oW 14 (.move (.c .nsl))])
 (.seq (.seq (.region [oM 35 12, oW 36 (.len 1 (.t 35)), oW 37 (.move (oI 0))])
 (.block 0 (.loop t187l0)))
 t187k0)))))) }

theorem c187 : compFunc Tryz.prog Tryz.f187 .full = some t187 := by kernel_rfl

def t188l0 : DCode :=
 (.seq (.region [oW 15 (.arith .lss (.t 14) (.t 13))])
 (.seq (.cond (.t 15) .skip (.exit 0))
 (.seq (.block 1 (.seq (.region [oW 16 (.indexAddr 7 (.t 12) (.t 14)), oL 17 7 16, oW 9 (.alloc 88 7 (.agg [(.int .i64 0), (.int .i64 0), (.int .i64 0), (.int .i64 0), .nsl, (.int .i64 0), (.bool false)])), oS 7 9 17])
 (.seq (.region [oA 18 5 9, oD 19 18, oW 20 (.arith .neq (.t 19) (oI (-1))), oM 21 20, ⟨(some 22), .fieldAddr 4 (.t 9), (some (21, true)), .write, 0, false⟩, ⟨(some 23), .load none (.t 22), (some (21, true)), .write, 0, false⟩, ⟨(some 24), .move (.t 2), (some (21, true)), .write, 0, false⟩, ⟨(some 25), .call (oF 255) [(.t 23), (.t 24)], (some (21, true)), .write, 0, false⟩, oW 26 (.pick (.t 21) (.t 25) (oB false))])
 (.cond (.t 26) (.region [oM 27 7, oA 28 5 9, oD 29 28, oW 30 (.buildSlice 3 1 (.int .i64 0) 1 [(0, (.t 29))]), oW 31 (.append 3 1 8 (.t 27) (.t 30)), oM 7 31]) .skip))))
 (.region [oW 32 (.arith .add (.t 14) (oI 1)), oM 14 32]))))

def t188k0 : DCode :=
 (.seq (.region [oM 33 7, oW 34 (.call (oF 256) [(.t 33)]), oM 6 34])
 .ret)

/-- broadside/carry.To -/
def t188 : DFunc := { ntmps := 35, results := [(.t 6)], mode := .full, body :=
 (.seq (.region [oW 3 (.box 37 6 (.t 0)), oW 4 (.box 45 2 (.t 1)), oW 6 (.move (.c .nsl))])
 (.seq (.region [oW 7 (.move (.c .nsl))])
 (.seq (.seq (.region [oL 10 6 3, oL 11 2 4, oW 12 (.call (oF 204) [(.t 10), (.t 11)]), oW 13 (.len 1 (.t 12)), oW 14 (.move (oI 0))])
 (.block 0 (.loop t188l0)))
 t188k0))) }

theorem c188 : compFunc Tryz.prog Tryz.f188 .full = some t188 := by kernel_rfl

def t189l0 : DCode :=
 (.seq (.region [oW 12 (.arith .lss (.t 11) (.t 10))])
 (.seq (.cond (.t 12) .skip (.exit 0))
 (.seq (.block 1 (.seq (.region [oW 13 (.indexAddr 3 (.t 9) (.t 11)), oL 14 3 13, oW 7 (.alloc 151 3 (.agg [(.int .i64 0), (.int .i64 0), .nsl])), oS 3 7 14])
 (.seq (.region [oA 15 2 7, oD 16 15, oM 17 1, oW 18 (.call (oF 255) [(.t 16), (.t 17)])])
 (.cond (.t 18) (.region [oM 19 5, oA 20 0 7, oA 21 0 20, oD 22 21, oW 23 (.buildSlice 3 1 (.int .i64 0) 1 [(0, (.t 22))]), oW 24 (.append 3 1 8 (.t 19) (.t 23)), oM 5 24]) .skip))))
 (.region [oW 25 (.arith .add (.t 11) (oI 1)), oM 11 25]))))

def t189k0 : DCode :=
 (.seq (.region [oM 26 5, oW 27 (.call (oF 256) [(.t 26)]), oM 4 27])
 .ret)

/-- broadside/carry.Clients -/
def t189 : DFunc := { ntmps := 28, results := [(.t 4)], mode := .full, body :=
 (.seq (.region [oW 2 (.box 37 6 (.t 0)), oW 4 (.move (.c .nsl))])
 (.seq (.region [oW 5 (.move (.c .nsl))])
 (.seq (.seq (.region [oA 8 5 2, oD 9 8, oW 10 (.len 1 (.t 9)), oW 11 (.move (oI 0))])
 (.block 0 (.loop t189l0)))
 t189k0))) }

theorem c189 : compFunc Tryz.prog Tryz.f189 .full = some t189 := by kernel_rfl

/-- (*broadside/num.Reader).Byte -/
def t193 : DFunc := { ntmps := 12, results := [(.t 2)], mode := .full, body :=
 (.seq (.region [oW 2 (.move (.c (.int .u8 0)))])
 (.seq (.region [oM 4 0, oW 5 (.call (oF 258) [(.t 4), (oI 1)]), oM 3 5])
 (.seq (.seq (.region [oM 6 3, oW 7 (.len 1 (.t 6)), oW 8 (.arith .eql (.t 7) (oI 0))])
 (.cond (.t 8) (.seq (.region [oW 2 (.move (.c (.int .u8 0)))])
 .ret) .skip))
 (.seq (.region [oM 9 3, oW 10 (.indexAddr 1 (.t 9) (oI 0)), oD 11 10, oM 2 11])
 .ret)))) }

theorem c193 : compFunc Tryz.prog Tryz.f193 .full = some t193 := by kernel_rfl

/-- (*broadside/num.Reader).ID -/
def t194 : DFunc := { ntmps := 15, results := [(.cell 2 (some 2))], mode := .full, body :=
 (.seq (.region [oW 2 (.alloc 45 2 (.agg [(.int .i64 0), (.int .i64 0)]))])
 (.seq (.region [oM 4 0, oW 5 (.call (oF 259) [(.t 4)]), oM 6 0, oW 7 (.call (oF 259) [(.t 6)]), oW 8 (.build [(.int .i64 0), (.int .i64 0)] [(0, 1, (.t 5)), (1, 1, (.t 7))]), oW 3 (.alloc 45 2 (.agg [(.int .i64 0), (.int .i64 0)])), oS 2 3 8])
 (.seq (.seq (.region [oM 9 0, oW 10 (.nilCheck (.t 9)), oA 11 1 10, oD 12 11])
 (.cond (.t 12) (.seq (.region [oW 13 (.build [(.int .i64 0), (.int .i64 0)] []), oS 2 2 13])
 .ret) .skip))
 (.seq (.region [oL 14 2 3, oS 2 2 14])
 .ret)))) }

theorem c194 : compFunc Tryz.prog Tryz.f194 .full = some t194 := by kernel_rfl

/-- (*broadside/num.Reader).Good -/
def t195 : DFunc := { ntmps := 8, results := [(.t 2)], mode := .full, body :=
 (.seq (.region [oW 2 (.move (oB false))])
 (.seq (.region [oM 3 0, oW 4 (.nilCheck (.t 3)), oA 5 1 4, oD 6 5, oW 7 (.un .not (.t 6)), oM 2 7])
 .ret)) }

theorem c195 : compFunc Tryz.prog Tryz.f195 .full = some t195 := by kernel_rfl

/-- broadside/wire.readConstraint -/
def t196 : DFunc := { ntmps := 23, results := [(.cell 2 (some 5))], mode := .full, body :=
 (.seq (.region [oW 2 (.alloc 119 5 (.agg [(.str []), (.int .i64 0), (.int .i64 0), (.int .i64 0), (.str [])]))])
 (.seq (.region [oM 4 0, oW 5 (.call (oF 260) [(.t 4)]), oM 6 0, oW 7 (.call (oF 193) [(.t 6)]), oW 8 (.conv .i64 (.t 7)), oW 9 (.build [(.str []), (.int .i64 0), (.int .i64 0), (.int .i64 0), (.str [])] [(0, 1, (.t 5)), (1, 1, (.t 8))]), oW 3 (.alloc 119 5 (.agg [(.str []), (.int .i64 0), (.int .i64 0), (.int .i64 0), (.str [])])), oS 5 3 9])
 (.seq (.seq (.region [oA 10 1 3, oD 11 10, oW 12 (.arith .eql (.t 11) (oI 1))])
 (.cond (.t 12) (.region [oM 13 0, oW 14 (.call (oF 259) [(.t 13)]), oM 15 0, oW 16 (.call (oF 259) [(.t 15)]), oA 17 2 3, oS 1 17 14, oA 18 3 3, oS 1 18 16]) (.region [oM 19 0, oW 20 (.call (oF 260) [(.t 19)]), oA 21 4 3, oS 1 21 20])))
 (.seq (.region [oL 22 5 3, oS 5 2 22])
 .ret)))) }

theorem c196 : compFunc Tryz.prog Tryz.f196 .full = some t196 := by kernel_rfl

/-- broadside/wire.readAttr -/
def t197 : DFunc := { ntmps := 24, results := [(.cell 2 (some 4))], mode := .full, body :=
 (.seq (.region [oW 2 (.alloc 176 4 (.agg [(.str []), (.bool false), (.int .i64 0), (.str [])]))])
 (.seq (.region [oM 4 0, oW 5 (.call (oF 260) [(.t 4)]), oW 6 (.build [(.str []), (.bool false), (.int .i64 0), (.str [])] [(0, 1, (.t 5))]), oW 3 (.alloc 176 4 (.agg [(.str []), (.bool false), (.int .i64 0), (.str [])])), oS 4 3 6])
 (.seq (.seq (.region [oM 7 0, oW 8 (.call (oF 193) [(.t 7)]), oW 9 (.arith .eql (.t 8) (.c (.int .u8 1))), oA 10 1 3, oA 11 0 10, oS 1 11 9])
 (.seq (.region [oA 12 1 3, oA 13 0 12, oD 14 13])
 (.cond (.t 14) (.region [oM 15 0, oW 16 (.call (oF 260) [(.t 15)]), oA 17 1 3, oA 18 2 17, oS 1 18 16]) (.region [oM 19 0, oW 20 (.call (oF 259) [(.t 19)]), oA 21 1 3, oA 22 1 21, oS 1 22 20]))))
 (.seq (.region [oL 23 4 3, oS 4 2 23])
 .ret)))) }

theorem c197 : compFunc Tryz.prog Tryz.f197 .full = some t197 := by kernel_rfl

/-- broadside/adverts.seen -/
def t199 : DFunc := { ntmps := 12, results := [(.t 4), (.t 5)], mode := .full, body :=
 (.seq (.region [oW 2 (.box 37 6 (.t 0)), oW 3 (.box 45 2 (.t 1)), oW 4 (.move (oI 0)), oW 5 (.move (oB false))])
 (.seq (.region [oA 6 3 2, oD 7 6, oL 8 2 3, oW 9 (.call (oF 261) [(.t 7), (.t 8), (oF 107)]), oX 10 9 0, oX 11 9 1, oM 4 10, oM 5 11])
 .ret)) }

theorem c199 : compFunc Tryz.prog Tryz.f199 .full = some t199 := by kernel_rfl

/-- slices.Contains[[]int,int] -/
def t200 : DFunc := { ntmps := 9, results := [(.t 4)], mode := .full, body :=
 (.seq (.region [oW 4 (.move (oB false))])
 (.seq (.region [oM 5 0, oM 6 1, oW 7 (.call (oF 262) [(.t 5), (.t 6)]), oW 8 (.arith .geq (.t 7) (oI 0)), oM 4 8])
 .ret)) }

theorem c200 : compFunc Tryz.prog Tryz.f200 .full = some t200 := by kernel_rfl

/-- broadside/pred.RightOne -/
def t201 : DFunc := { ntmps := 43, results := [(.t 2)], mode := .full, body :=
 (.seq (.region [oW 1 (.box 119 5 (.t 0)), oW 2 (.move (oB false))])
 (.seq (.seq (.region [oA 3 0 1, oD 4 3, oW 5 (.call (oF 237) [(.t 4)]), oW 6 (.un .not (.t 5))])
 (.cond (.t 6) (.seq (.region [oW 2 (.move (oB false))])
 .ret) .skip))
 (.seq (.seq (.region [oA 7 1 1, oD 8 7])
 (.block 0 (.seq (.block 3 (.seq (.block 2 (.seq (.block 1 (.seq (.seq (.seq (.region [oW 10 (.arith .eql (.t 8) (oI 1)), oM 9 10])
 (.cond (.t 9) (.exit 1) .skip))
 (.seq (.seq (.region [oW 12 (.arith .eql (.t 8) (oI 3)), oM 11 12])
 (.cond (.t 11) (.exit 2) .skip))
 (.seq (.region [oW 14 (.arith .eql (.t 8) (oI 2)), oM 13 14])
 (.cond (.t 13) (.exit 3) .skip))))
 (.exit 0)))
 (.seq (.seq (.region [oA 15 2 1, oD 16 15, oA 17 3 1, oD 18 17, oW 19 (.arith .leq (.t 16) (.t 18)), oM 20 19, ⟨(some 21), .fieldAddr 4 (.t 1), (some (20, true)), .write, 0, false⟩, ⟨(some 22), .load none (.t 21), (some (20, true)), .write, 0, false⟩, ⟨(some 23), .arith .eql (.t 22) (.c (.str [])), (some (20, true)), .write, 0, false⟩, oW 24 (.pick (.t 20) (.t 23) (oB false)), oM 2 24])
 .ret)
 (.exit 0))))
 (.seq (.region [oA 25 4 1, oD 26 25, oW 27 (.len 0 (.t 26)), oW 28 (.arith .eql (.t 27) (oI 12))])
 (.cond (.t 28) (.seq (.region [oW 2 (.move (oB false))])
 .ret) .skip))))
 (.seq (.seq (.region [oA 29 2 1, oD 30 29, oW 31 (.arith .eql (.t 30) (oI 0)), oM 32 31, ⟨(some 33), .fieldAddr 3 (.t 1), (some (32, true)), .write, 0, false⟩, ⟨(some 34), .load none (.t 33), (some (32, true)), .write, 0, false⟩, ⟨(some 35), .arith .eql (.t 34) (oI 0), (some (32, true)), .write, 0, false⟩, oW 36 (.pick (.t 32) (.t 35) (oB false)), oM 37 36, ⟨(some 38), .fieldAddr 4 (.t 1), (some (37, true)), .write, 0, false⟩, ⟨(some 39), .load none (.t 38), (some (37, true)), .write, 0, false⟩, ⟨(some 40), .len 0 (.t 39), (some (37, true)), .write, 0, false⟩, ⟨(some 41), .arith .leq (.t 40) (oI 12), (some (37, true)), .write, 0, false⟩, oW 42 (.pick (.t 37) (.t 41) (oB false)), oM 2 42])
 .ret)
 (.exit 0)))))
 (.seq (.region [oW 2 (.move (oB false))])
 .ret)))) }

theorem c201 : compFunc Tryz.prog Tryz.f201 .full = some t201 := by kernel_rfl

def t202l0 : DCode :=
 (.seq (.region [oW 9 (.arith .lss (.t 8) (.t 7))])
 (.seq (.cond (.t 9) .skip (.exit 0))
 (.seq (.block 1 (.seq (.region [oM 10 8, oM 5 10])
 (.seq (.region [oM 11 1, oM 12 0, oM 13 5, oW 14 (.indexAddr 7 (.t 12) (.t 13)), oL 15 7 14, oW 16 (.call (.t 11) [(.t 15)])])
 (.cond (.t 16) (.seq (.region [oM 17 5, oM 4 17])
 .ret) .skip))))
 (.region [oW 18 (.arith .add (.t 8) (oI 1)), oM 8 18]))))

def t202k0 : DCode :=
 (.seq (.region [oW 4 (.move (oI (-1)))])
 .ret)

/-- slices.IndexFunc[[]broadside/api.Entry,broadside/api.Entry] -/
def t202 : DFunc := { ntmps := 19, results := [(.t 4)], mode := .full, body :=
 (.seq (.region [oW 4 (.move (oI 0))])
 (.seq (.seq (.region [oM 6 0, oW 7 (.len 1 (.t 6)), oW 8 (.move (oI 0))])
 (.block 0 (.loop t202l0)))
 t202k0)) }

theorem c202 : compFunc Tryz.prog Tryz.f202 .full = some t202 := by kernel_rfl

def t204l0 : DCode :=
 (.seq (.region [oW 12 (.arith .lss (.t 11) (.t 10))])
 (.seq (.cond (.t 12) .skip (.exit 0))
 (.seq (.block 1 (.seq (.region [oW 13 (.indexAddr 7 (.t 9) (.t 11)), oL 14 7 13, oW 7 (.alloc 88 7 (.agg [(.int .i64 0), (.int .i64 0), (.int .i64 0), (.int .i64 0), .nsl, (.int .i64 0), (.bool false)])), oS 7 7 14])
 (.seq (.region [oA 15 0 7, oL 16 2 15, oL 17 2 3, oW 18 (.eqa false [1, 1] (.t 16) (.t 17))])
 (.cond (.t 18) (.region [oM 19 5, oL 20 7 7, oW 21 (.buildSlice 88 7 (.agg [(.int .i64 0), (.int .i64 0), (.int .i64 0), (.int .i64 0), .nsl, (.int .i64 0), (.bool false)]) 1 [(0, (.t 20))]), oW 22 (.append 88 7 72 (.t 19) (.t 21)), oM 5 22]) .skip))))
 (.region [oW 23 (.arith .add (.t 11) (oI 1)), oM 11 23]))))

def t204k0 : DCode :=
 (.seq (.region [oM 24 5, oM 4 24])
 .ret)

/-- broadside/subs.Of -/
def t204 : DFunc := { ntmps := 25, results := [(.t 4)], mode := .full, body :=
 (.seq (.region [oW 2 (.box 37 6 (.t 0)), oW 3 (.box 45 2 (.t 1)), oW 4 (.move (.c .nsl))])
 (.seq (.region [oW 5 (.move (.c .nsl))])
 (.seq (.seq (.region [oA 8 4 2, oD 9 8, oW 10 (.len 1 (.t 9)), oW 11 (.move (oI 0))])
 (.block 0 (.loop t204l0)))
 t204k0))) }

theorem c204 : compFunc Tryz.prog Tryz.f204 .full = some t204 := by kernel_rfl

/-- broadside/subs.Covered$1 -/
def t205 : DFunc := { ntmps := 12, results := [(.t 3)], mode := .full, body :=
 (.seq (.region [oW 2 (.box 88 7 (.t 0)), oW 3 (.move (oB false))])
 (.seq (.region [oA 4 6 2, oD 5 4, oM 6 5, ⟨(some 7), .fieldAddr 4 (.t 2), (some (6, true)), .write, 0, false⟩, ⟨(some 8), .load none (.t 7), (some (6, true)), .write, 0, false⟩, ⟨(some 9), .load none (.t 1), (some (6, true)), .write, 0, false⟩, ⟨(some 10), .call (oF 206) [(.t 8), (.t 9)], (some (6, true)), .write, 0, false⟩, oW 11 (.pick (.t 6) (.t 10) (oB false)), oM 3 11])
 .ret)) }

theorem c205 : compFunc Tryz.prog Tryz.f205 .full = some t205 := by kernel_rfl

def t206l0 : DCode :=
 (.seq (.region [oW 16 (.arith .lss (.t 15) (.t 14))])
 (.seq (.cond (.t 16) .skip (.exit 0))
 (.seq (.block 1 (.seq (.region [oW 17 (.indexAddr 5 (.t 13) (.t 15)), oL 18 5 17, oW 7 (.alloc 119 5 (.agg [(.str []), (.int .i64 0), (.int .i64 0), (.int .i64 0), (.str [])])), oS 5 7 18])
 (.region [oM 19 5, oA 20 0 7, oD 21 20, oL 22 5 7, oZ (.mapUpdate (.prim 2) (.t 19) (.t 21) (.t 22))])))
 (.region [oW 23 (.arith .add (.t 15) (oI 1)), oM 15 23]))))

def t206l1 : DCode :=
 (.seq (.region [oW 27 (.arith .lss (.t 26) (.t 25))])
 (.seq (.cond (.t 27) .skip (.exit 2))
 (.seq (.block 3 (.seq (.region [oW 28 (.indexAddr 5 (.t 24) (.t 26)), oL 29 5 28, oW 9 (.alloc 119 5 (.agg [(.str []), (.int .i64 0), (.int .i64 0), (.int .i64 0), (.str [])])), oS 5 9 29])
 (.seq (.region [oM 31 5, oA 32 0 9, oD 33 32, oW 34 (.lookup (.prim 2) (.agg [(.str []), (.int .i64 0), (.int .i64 0), (.int .i64 0), (.str [])]) true (.t 31) (.t 33)), oM 30 34, oX 35 30 0, oX 36 30 1, oW 10 (.alloc 119 5 (.agg [(.str []), (.int .i64 0), (.int .i64 0), (.int .i64 0), (.str [])])), oS 5 10 35, oM 11 36])
 (.seq (.region [oM 37 11, oW 38 (.un .not (.t 37)), oM 39 38, ⟨(some 40), .load (some 5) (.t 9), (some (39, false)), .write, 0, false⟩, ⟨(some 41), .load (some 5) (.t 10), (some (39, false)), .write, 0, false⟩, ⟨(some 42), .call (oF 263) [(.t 40), (.t 41)], (some (39, false)), .write, 0, false⟩, ⟨(some 43), .un .not (.t 42), (some (39, false)), .write, 0, false⟩, oW 44 (.pick (.t 39) (oB true) (.t 43))])
 (.cond (.t 44) (.seq (.region [oW 4 (.move (oB false))])
 .ret) .skip)))))
 (.region [oW 45 (.arith .add (.t 26) (oI 1)), oM 26 45]))))

def t206k0 : DCode :=
 (.seq (.region [oW 4 (.move (oB true))])
 .ret)

def t206k1 : DCode :=
 (.seq (.seq (.region [oM 24 0, oW 25 (.len 1 (.t 24)), oW 26 (.move (oI 0))])
 (.block 2 (.loop t206l1)))
 t206k0)

/-- broadside/rel.Covers -/
def t206 : DFunc := { ntmps := 46, results := [(.t 4)], mode := .full, body :=
 (.seq (.region [oW 4 (.move (oB false))])
 (.seq (.region [oW 12 (.makeMap), oM 5 12])
 (.seq (.seq (.region [oM 13 1, oW 14 (.len 1 (.t 13)), oW 15 (.move (oI 0))])
 (.block 0 (.loop t206l0)))
 t206k1))) }

theorem c206 : compFunc Tryz.prog Tryz.f206 .full = some t206 := by kernel_rfl

/-- (*broadside/world.World).attach -/
def t213 : DFunc := { ntmps := 48, results := [(.cell 4 (some 7)), (.t 5)], mode := .full, body :=
 (.seq (.region [oW 4 (.alloc 92 7 (.agg [(.int .i64 0), (.int .i64 0), (.int .i64 0), (.int .i64 0), (.int .i64 0), (.int .i64 0), .nsl])), oW 5 (.move (.c .nili))])
 (.seq (.block 0 (.seq (.region [oM 7 1, oW 8 (.arith .lss (.t 7) (oI 0)), oM 9 8, ⟨(some 10), .move (.t 1), (some (9, false)), .write, 0, false⟩, ⟨(some 11), .move (.t 0), (some (9, false)), .write, 0, false⟩, ⟨(some 12), .nilCheck (.t 11), (some (9, false)), .write, 0, false⟩, ⟨(some 13), .fieldAddr 0 (.t 12), (some (9, false)), .write, 0, false⟩, ⟨(some 14), .load none (.t 13), (some (9, false)), .write, 0, false⟩, ⟨(some 15), .call (oF 121) [(.t 14)], (some (9, false)), .write, 0, false⟩, ⟨(some 16), .field 0 none (.t 15), (some (9, false)), .write, 0, false⟩, ⟨(some 17), .arith .geq (.t 10) (.t 16), (some (9, false)), .write, 0, false⟩, oW 18 (.pick (.t 9) (oB true) (.t 17)), oM 6 18])
 (.cond (.t 6) (.seq (.region [oW 19 (.build [(.int .i64 0), (.int .i64 0), (.int .i64 0), (.int .i64 0), (.int .i64 0), (.int .i64 0), .nsl] []), oW 20 (.makeIface 57 (oI 3)), oS 7 4 19, oM 5 20])
 .ret) (.seq (.region [oM 22 0, oW 23 (.nilCheck (.t 22)), oA 24 1 23, oD 25 24, oW 26 (.len 1 (.t 25)), oW 27 (.arith .eql (.t 26) (oI 32)), oM 21 27])
 (.cond (.t 21) (.seq (.region [oW 28 (.build [(.int .i64 0), (.int .i64 0), (.int .i64 0), (.int .i64 0), (.int .i64 0), (.int .i64 0), .nsl] []), oW 29 (.makeIface 57 (oI 7)), oS 7 4 28, oM 5 29])
 .ret) .skip)))))
 (.seq (.region [oM 30 0, oM 31 0, oW 32 (.nilCheck (.t 31)), oA 33 1 32, oD 34 33, oM 35 1, oW 36 (.build [(.int .i64 0), .nsl, .nsl, (.int .i64 0), (.int .i64 0), (.int .i64 0)] [(0, 1, (.t 35))]), oW 37 (.buildSlice 371 6 (.agg [(.int .i64 0), .nsl, .nsl, (.int .i64 0), (.int .i64 0), (.int .i64 0)]) 1 [(0, (.t 36))]), oW 38 (.append 371 6 80 (.t 34) (.t 37)), oW 39 (.nilCheck (.t 30)), oA 40 1 39, oS 1 40 38])
 (.seq (.region [oM 41 0, oW 42 (.nilCheck (.t 41)), oA 43 1 42, oD 44 43, oW 45 (.len 1 (.t 44)), oW 46 (.arith .sub (.t 45) (oI 1)), oW 47 (.build [(.int .i64 0), (.int .i64 0), (.int .i64 0), (.int .i64 0), (.int .i64 0), (.int .i64 0), .nsl] [(1, 1, (.t 46))]), oS 7 4 47, oW 5 (.move (.c .nili))])
 .ret)))) }

theorem c213 : compFunc Tryz.prog Tryz.f213 .full = some t213 := by kernel_rfl

/-- (*broadside/world.World).link -/
def t214 : DFunc := { ntmps := 60, results := [(.cell 4 (some 7)), (.t 5)], mode := .full, body :=
 (.seq (.region [oW 3 (.box 95 9 (.t 1)), oW 4 (.alloc 92 7 (.agg [(.int .i64 0), (.int .i64 0), (.int .i64 0), (.int .i64 0), (.int .i64 0), (.int .i64 0), .nsl])), oW 5 (.move (.c .nili))])
 (.seq (.seq (.draw [oRM 10 0, oR 11 (.nilCheck (.t 10)), oRA 12 0 11, oRD 13 12, ⟨(some 14), .call (oF 121) [(.t 13)], none, .create, 0, false⟩, oRA 15 4 3, oRD 16 15, oRA 17 5 3, oRD 18 17, ⟨(some 19), .call (oF 265) [(.t 14), (.t 16), (.t 18)], none, .write, 1, false⟩, ⟨(some 20), .un .not (.t 19), none, .read, 2, false⟩])
 (.cond (.t 20) (.seq (.region [oW 21 (.build [(.int .i64 0), (.int .i64 0), (.int .i64 0), (.int .i64 0), (.int .i64 0), (.int .i64 0), .nsl] []), oW 22 (.makeIface 57 (oI 8)), oS 7 4 21, oM 5 22])
 .ret) .skip))
 (.seq (.seq (.region [oA 23 0 3, oD 24 23, oW 25 (.arith .eql (.t 24) (oI 9))])
 (.cond (.t 25) (.seq (.seq (.region [oA 27 8 3, oD 28 27, oW 29 (.call (oF 28) [(.t 28)]), oM 26 29, oX 30 26 0, oX 31 26 1, oW 6 (.alloc 49 7 (.agg [(.int .i64 0), (.int .i64 0), (.int .i64 0), (.int .i64 0), (.int .i64 0), .nsl, .nsl])), oS 7 6 30, oM 7 31])
 (.seq (.region [oM 32 7, oW 33 (.eqn 4 true (.t 32) (.c .nili))])
 (.cond (.t 33) (.seq (.region [oW 34 (.build [(.int .i64 0), (.int .i64 0), (.int .i64 0), (.int .i64 0), (.int .i64 0), (.int .i64 0), .nsl] []), oM 35 7, oS 7 4 34, oM 5 35])
 .ret) .skip)))
 (.seq (.region [oW 36 (.build [(.int .i64 0), (.int .i64 0), (.int .i64 0), (.int .i64 0), (.int .i64 0), (.int .i64 0), .nsl] []), oW 37 (.makeIface 57 (oI 6)), oS 7 4 36, oM 5 37])
 .ret)) .skip))
 (.seq (.draw [oRM 39 0, oR 40 (.nilCheck (.t 39)), oRA 41 0 40, oRD 42 41, oRA 43 4 3, oRD 44 43, oRA 45 5 3, oRD 46 45, oW 47 (.call (oF 48) [(.t 42), (.t 44), (.t 46)]), ⟨(some 38), .move (.t 47), none, .read, 1, false⟩, ⟨(some 48), .extract (.t 38) 0, none, .read, 1, false⟩, ⟨(some 49), .extract (.t 38) 1, none, .read, 1, false⟩, ⟨(some 8), .move (.t 48), none, .read, 1, false⟩, ⟨(some 9), .move (.t 49), none, .read, 1, false⟩])
 (.seq (.seq (.region [oM 50 9, oW 51 (.eqn 4 false (.t 50) (.c .nili))])
 (.cond (.t 51) (.region [oM 52 0, oW 53 (.nilCheck (.t 52)), oA 54 2 53, oD 55 54, oM 56 8, oW 57 (.call (oF 273) [(.t 55), (.t 56)])]) .skip))
 (.seq (.region [oW 58 (.build [(.int .i64 0), (.int .i64 0), (.int .i64 0), (.int .i64 0), (.int .i64 0), (.int .i64 0), .nsl] []), oM 59 9, oS 7 4 58, oM 5 59])
 .ret)))))) }

theorem c214 : compFunc Tryz.prog Tryz.f214 .full = some t214 := by kernel_rfl

/-- (*broadside/world.World).asked -/
def t215 : DFunc := { ntmps := 64, results := [(.cell 4 (some 7)), (.t 5)], mode := .full, body :=
 (.seq (.region [oW 3 (.box 95 9 (.t 1)), oW 4 (.alloc 92 7 (.agg [(.int .i64 0), (.int .i64 0), (.int .i64 0), (.int .i64 0), (.int .i64 0), (.int .i64 0), .nsl])), oW 5 (.move (.c .nili))])
 (.seq (.block 0 (.seq (.region [oM 9 0, oA 10 1 3, oD 11 10, oW 12 (.call (oF 274) [(.t 9), (.t 11)]), oW 13 (.un .not (.t 12)), oM 8 13])
 (.cond (.t 8) (.seq (.region [oW 14 (.build [(.int .i64 0), (.int .i64 0), (.int .i64 0), (.int .i64 0), (.int .i64 0), (.int .i64 0), .nsl] []), oW 15 (.makeIface 57 (oI 3)), oS 7 4 14, oM 5 15])
 .ret) (.seq (.region [oA 17 0 3, oD 18 17, oW 19 (.arith .eql (.t 18) (oI 7)), oM 16 19])
 (.cond (.t 16) (.seq (.draw [oRM 20 0, oR 21 (.nilCheck (.t 20)), oRA 22 2 21, oRD 23 22, oRA 24 1 3, oRD 25 24, oW 26 (.call (oF 275) [(.t 23), (.t 25)]), ⟨(some 27), .build [(.int .i64 0), (.int .i64 0), (.int .i64 0), (.int .i64 0), (.int .i64 0), (.int .i64 0), .nsl] [(6, 1, (.t 26))], none, .read, 1, false⟩, ⟨none, .store 7 (.t 4) (.t 27), none, .write, 1, false⟩, ⟨(some 5), .move (.c .nili), none, .read, 2, false⟩])
 .ret) .skip)))))
 (.seq (.draw [oRM 29 0, oR 30 (.nilCheck (.t 29)), oRA 31 1 30, oRD 32 31, oRA 33 1 3, oRD 34 33, oR 35 (.indexAddr 6 (.t 32) (.t 34)), oRL 36 6 35, oRL 37 9 3, oW 38 (.call (oF 276) [(.t 36), (.t 37)]), ⟨(some 28), .move (.t 38), none, .read, 1, false⟩, ⟨(some 39), .extract (.t 28) 0, none, .read, 1, false⟩, ⟨(some 40), .extract (.t 28) 1, none, .read, 1, false⟩, ⟨(some 6), .move (.t 39), none, .read, 1, false⟩, ⟨(some 7), .move (.t 40), none, .read, 1, false⟩])
 (.seq (.block 1 (.seq (.region [oM 42 7, oW 43 (.eqn 4 true (.t 42) (.c .nili)), oM 41 43])
 (.cond (.t 41) (.seq (.region [oW 44 (.build [(.int .i64 0), (.int .i64 0), (.int .i64 0), (.int .i64 0), (.int .i64 0), (.int .i64 0), .nsl] []), oM 45 7, oS 7 4 44, oM 5 45])
 .ret) (.seq (.region [oM 47 0, oW 48 (.nilCheck (.t 47)), oA 49 3 48, oD 50 49, oW 51 (.arith .eql (.t 50) (oI 400)), oM 46 51])
 (.cond (.t 46) (.seq (.region [oW 52 (.build [(.int .i64 0), (.int .i64 0), (.int .i64 0), (.int .i64 0), (.int .i64 0), (.int .i64 0), .nsl] []), oW 53 (.makeIface 57 (oI 7)), oS 7 4 52, oM 5 53])
 .ret) .skip)))))
 (.seq (.region [oA 54 7 3, oD 55 54, oW 56 (.call (oF 277) [(.t 55)]), oA 57 7 3, oS 1 57 56])
 (.seq (.region [oM 58 0, oL 59 9 3, oM 60 6, oW 61 (.call (oF 278) [(.t 58), (.t 59), (.t 60)]), oX 62 61 0, oX 63 61 1, oS 7 4 62, oM 5 63])
 .ret)))))) }

theorem c215 : compFunc Tryz.prog Tryz.f215 .full = some t215 := by kernel_rfl

/-- broadside/quiet.place -/
def t216 : DFunc := { ntmps := 18, results := [(.t 6)], mode := .full, body :=
 (.seq (.region [oW 6 (.move (oI 0))])
 (.seq (.seq (.region [oM 7 1, oM 8 0, oW 9 (.len 1 (.t 8)), oW 10 (.arith .geq (.t 7) (.t 9))])
 (.cond (.t 10) (.seq (.region [oW 6 (.move (oI 0))])
 .ret) .skip))
 (.seq (.region [oM 11 0, oM 12 1, oW 13 (.indexAddr 1 (.t 11) (.t 12)), oD 14 13, oW 15 (.minmax true (.t 14) (oI 0)), oM 16 2, oW 17 (.arith .rem (.t 15) (.t 16)), oM 6 17])
 .ret))) }

theorem c216 : compFunc Tryz.prog Tryz.f216 .full = some t216 := by kernel_rfl

/-- broadside/graph.broker -/
def t217 : DFunc := { ntmps := 13, results := [(.t 4)], mode := .full, body :=
 (.seq (.region [oW 2 (.box 79 2 (.t 0)), oW 4 (.move (oB false))])
 (.seq (.region [oM 5 1, oW 6 (.arith .geq (.t 5) (oI 0)), oM 7 6, ⟨(some 8), .move (.t 1), (some (7, true)), .write, 0, false⟩, ⟨(some 9), .fieldAddr 0 (.t 2), (some (7, true)), .write, 0, false⟩, ⟨(some 10), .load none (.t 9), (some (7, true)), .write, 0, false⟩, ⟨(some 11), .arith .lss (.t 8) (.t 10), (some (7, true)), .write, 0, false⟩, oW 12 (.pick (.t 7) (.t 11) (oB false)), oM 4 12])
 .ret)) }

theorem c217 : compFunc Tryz.prog Tryz.f217 .full = some t217 := by kernel_rfl

def t218l0 : DCode :=
 (.block 1 (.seq (.region [oM 21 2, oM 22 1, oW 23 (.arith .sub (.t 21) (.t 22)), oM 12 23])
 (.seq (.seq (.region [oM 24 12, oW 25 (.arith .leq (.t 24) (oI 12))])
 (.cond (.t 25) (.seq (.region [oM 26 0, oM 27 1, oM 28 2, oM 29 4, oW 30 (.call (oF 279) [(.t 26), (.t 27), (.t 28), (.t 29)])])
 .ret) .skip))
 (.seq (.seq (.region [oM 31 3, oW 32 (.arith .eql (.t 31) (oI 0))])
 (.cond (.t 32) (.seq (.region [oM 33 0, oM 34 1, oM 35 2, oM 36 4, oW 37 (.call (oF 280) [(.t 33), (.t 34), (.t 35), (.t 36)])])
 .ret) .skip))
 (.seq (.seq (.region [oM 38 10, oW 39 (.un .not (.t 38))])
 (.cond (.t 39) (.seq (.region [oM 40 0, oM 41 1, oM 42 2, oM 43 4, oW 44 (.call (oF 281) [(.t 40), (.t 41), (.t 42), (.t 43)])])
 (.region [oM 45 3, oW 46 (.arith .sub (.t 45) (oI 1)), oM 3 46])) .skip))
 (.seq (.region [oM 48 0, oM 49 1, oM 50 2, oM 51 4, oW 52 (.call (oF 282) [(.t 48), (.t 49), (.t 50), (.t 51)]), oM 47 52, oX 53 47 0, oX 54 47 1, oM 13 53, oM 14 54])
 (.seq (.seq (.region [oM 55 14, oW 56 (.arith .eql (.t 55) (oI 2))])
 (.cond (.t 56) (.seq (.region [oM 57 0, oM 58 1, oM 59 2, oM 60 4, oW 61 (.call (oF 283) [(.t 57), (.t 58), (.t 59), (.t 60)])])
 (.seq (.region [oM 62 2, oW 63 (.arith .sub (.t 62) (oI 1)), oM 64 13, oM 65 1, oW 66 (.arith .sub (.t 64) (.t 65)), oW 67 (.arith .sub (.t 63) (.t 66)), oM 13 67])
 (.region [oW 14 (.move (oI 1))]))) .skip))
 (.seq (.seq (.region [oM 68 10, oM 69 68, ⟨(some 70), .move (.t 11), (some (69, true)), .write, 0, false⟩, oW 71 (.pick (.t 69) (.t 70) (oB false)), oM 72 71, ⟨(some 73), .move (.t 14), (some (72, true)), .write, 0, false⟩, ⟨(some 74), .arith .eql (.t 73) (oI 1), (some (72, true)), .write, 0, false⟩, oW 75 (.pick (.t 72) (.t 74) (oB false))])
 (.cond (.t 75) (.seq (.region [oM 76 0, oM 77 1, oM 78 2, oM 79 4, oW 80 (.call (oF 284) [(.t 76), (.t 77), (.t 78), (.t 79)])])
 (.cond (.t 80) .ret .skip)) .skip))
 (.seq (.seq (.draw [oRM 81 1, oR 82 (.arith .gtr (.t 81) (oI 0)), oRM 83 82, ⟨(some 85), .move (.t 0), (some (83, true)), .read, 0, false⟩, ⟨(some 86), .move (.t 1), (some (83, true)), .read, 0, false⟩, ⟨(some 87), .arith .sub (.t 86) (oI 1), (some (83, true)), .read, 0, false⟩, ⟨(some 88), .indexAddr 2 (.t 85) (.t 87), (some (83, true)), .read, 0, false⟩, ⟨(some 89), .load (some 2) (.t 88), (some (83, true)), .read, 0, false⟩, ⟨(some 90), .move (.t 0), (some (83, true)), .read, 0, false⟩, ⟨(some 91), .move (.t 13), (some (83, true)), .read, 0, false⟩, ⟨(some 92), .indexAddr 2 (.t 90) (.t 91), (some (83, true)), .read, 0, false⟩, ⟨(some 93), .load (some 2) (.t 92), (some (83, true)), .read, 0, false⟩, ⟨(some 84), .move (.t 4), (some (83, true)), .read, 0, false⟩, ⟨(some 94), .call (.t 84) [(.t 89), (.t 93)], (some (83, true)), .write, 0, false⟩, ⟨(some 95), .arith .lss (.t 94) (oI 0), (some (83, true)), .read, 1, false⟩, ⟨(some 96), .un .not (.t 95), (some (83, true)), .read, 1, false⟩, ⟨(some 97), .pick (.t 83) (.t 96) (oB false), none, .read, 1, false⟩])
 (.cond (.t 97) (.seq (.region [oM 98 0, oM 99 1, oM 100 2, oM 101 13, oM 102 4, oW 103 (.call (oF 285) [(.t 98), (.t 99), (.t 100), (.t 101), (.t 102)]), oM 15 103])
 (.seq (.region [oM 104 15, oM 1 104])
 (.exit 1))) .skip))
 (.seq (.region [oM 106 0, oM 107 1, oM 108 2, oM 109 13, oM 110 4, oW 111 (.call (oF 286) [(.t 106), (.t 107), (.t 108), (.t 109), (.t 110)]), oM 105 111, oX 112 105 0, oX 113 105 1, oM 16 112, oM 17 113])
 (.seq (.region [oM 114 17, oM 11 114])
 (.seq (.region [oM 115 16, oM 116 1, oW 117 (.arith .sub (.t 115) (.t 116)), oM 118 2, oM 119 16, oW 120 (.arith .sub (.t 118) (.t 119)), oM 18 117, oM 19 120])
 (.seq (.region [oM 121 12, oW 122 (.arith .quo (.t 121) (oI 8)), oM 20 122])
 (.seq (.region [oM 123 18, oM 124 19, oW 125 (.arith .lss (.t 123) (.t 124))])
 (.cond (.t 125) (.seq (.region [oM 126 18, oM 127 20, oW 128 (.arith .geq (.t 126) (.t 127)), oM 10 128])
 (.seq (.region [oM 129 0, oM 130 1, oM 131 16, oM 132 3, oM 133 4, oW 134 (.call (oF 218) [(.t 129), (.t 130), (.t 131), (.t 132), (.t 133)])])
 (.region [oM 135 16, oW 136 (.arith .add (.t 135) (oI 1)), oM 1 136]))) (.seq (.region [oM 137 19, oM 138 20, oW 139 (.arith .geq (.t 137) (.t 138)), oM 10 139])
 (.seq (.region [oM 140 0, oM 141 16, oW 142 (.arith .add (.t 141) (oI 1)), oM 143 2, oM 144 3, oM 145 4, oW 146 (.call (oF 218) [(.t 140), (.t 142), (.t 143), (.t 144), (.t 145)])])
 (.region [oM 147 16, oM 2 147]))))))))))))))))))

/-- slices.pdqsortCmpFunc[[2]int] -/
def t218 : DFunc := { ntmps := 148, results := [], mode := .full, body :=
 (.seq (.region [oW 10 (.move (oB true))])
 (.seq (.region [oW 11 (.move (oB true))])
 (.block 0 (.loop t218l0)))) }

theorem c218 : compFunc Tryz.prog Tryz.f218 .full = some t218 := by kernel_rfl

/-- math/bits.Len -/
def t219 : DFunc := { ntmps := 8, results := [(.t 2)], mode := .full, body :=
 (.seq (.region [oW 2 (.move (oI 0))])
 (.seq (.cond (oB false) (.seq (.region [oM 3 0, oW 4 (.conv .u32 (.t 3)), oW 5 (.call (oF 287) [(.t 4)]), oM 2 5])
 .ret) .skip)
 (.seq (.region [oM 6 0, oW 7 (.call (oF 288) [(.t 6)]), oM 2 7])
 .ret))) }

theorem c219 : compFunc Tryz.prog Tryz.f219 .full = some t219 := by kernel_rfl

/-- cmp.isNaN[int] -/
def t220 : DFunc := { ntmps := 6, results := [(.t 2)], mode := .full, body :=
 (.seq (.region [oW 2 (.move (oB false))])
 (.seq (.region [oM 3 0, oM 4 0, oW 5 (.arith .neq (.t 3) (.t 4)), oM 2 5])
 .ret)) }

theorem c220 : compFunc Tryz.prog Tryz.f220 .full = some t220 := by kernel_rfl

/-- broadside/graph.joined -/
def t221 : DFunc := { ntmps := 14, results := [(.cell 2 (some 2))], mode := .full, body :=
 (.seq (.region [oW 1 (.box 90 2 (.t 0)), oW 2 (.alloc 90 2 (.agg [(.int .i64 0), (.int .i64 0)]))])
 (.seq (.region [oW 3 (.indexArr 2 1 (.t 1) (oI 0)), oD 4 3, oW 5 (.indexArr 2 1 (.t 1) (oI 1)), oD 6 5, oW 7 (.minmax false (.t 4) (.t 6)), oW 8 (.indexArr 2 1 (.t 1) (oI 0)), oD 9 8, oW 10 (.indexArr 2 1 (.t 1) (oI 1)), oD 11 10, oW 12 (.minmax true (.t 9) (.t 11)), oW 13 (.build [(.int .i64 0), (.int .i64 0)] [(0, 1, (.t 7)), (1, 1, (.t 12))]), oS 2 2 13])
 .ret)) }

theorem c221 : compFunc Tryz.prog Tryz.f221 .full = some t221 := by kernel_rfl

def t222l0 : DCode :=
 (.seq (.region [oW 28 (.arith .lss (.t 27) (.t 26))])
 (.seq (.cond (.t 28) .skip (.exit 2))
 (.seq (.block 3 (.seq (.region [oW 29 (.indexAddr 1 (.t 25) (.t 27)), oD 30 29, oM 8 30])
 (.seq (.region [oM 32 5, oM 33 8, oW 34 (.lookup (.prim 1) (.int .i64 0) true (.t 32) (.t 33)), oM 31 34, oX 35 31 0, oX 36 31 1, oM 9 35, oM 10 36])
 (.seq (.region [oM 37 10, oW 38 (.un .not (.t 37))])
 (.cond (.t 38) (.seq (.region [oM 39 5, oM 40 8, oM 41 5, oM 42 6, oW 43 (.indexAddr 1 (.t 42) (oI 0)), oD 44 43, oW 45 (.lookup (.prim 1) (.int .i64 0) false (.t 41) (.t 44)), oW 46 (.arith .add (.t 45) (oI 1)), oZ (.mapUpdate (.prim 1) (.t 39) (.t 40) (.t 46))])
 (.region [oM 47 6, oM 48 8, oW 49 (.buildSlice 3 1 (.int .i64 0) 1 [(0, (.t 48))]), oW 50 (.append 3 1 8 (.t 47) (.t 49)), oM 6 50])) .skip)))))
 (.region [oW 51 (.arith .add (.t 27) (oI 1)), oM 27 51]))))

def t222k0 : DCode :=
 (.region [oM 19 6, oW 20 (.sliceSl 1 (.t 19) (some (oI 1)) none), oM 6 20])

def t222l1 : DCode :=
 (.seq (.seq (.region [oM 16 6, oW 17 (.len 1 (.t 16)), oW 18 (.arith .gtr (.t 17) (oI 0))])
 (.cond (.t 18) .skip (.exit 0)))
 (.seq (.block 1 (.seq (.draw [oRL 21 2 2, oRM 22 6, oR 23 (.indexAddr 1 (.t 22) (oI 0)), oRD 24 23, oW 25 (.call (oF 137) [(.t 21), (.t 24)]), ⟨(some 26), .len 1 (.t 25), none, .read, 1, false⟩, oR 27 (.move (oI 0))])
 (.block 2 (.loop t222l0))))
 t222k0))

def t222k1 : DCode :=
 (.seq (.region [oM 52 5, oM 4 52])
 .ret)

/-- broadside/graph.reach -/
def t222 : DFunc := { ntmps := 53, results := [(.t 4)], mode := .full, body :=
 (.seq (.region [oW 2 (.box 79 2 (.t 0)), oW 4 (.move (.c .nmap))])
 (.seq (.region [oW 11 (.makeMap), oM 12 1, oZ (.mapUpdate (.prim 1) (.t 11) (.t 12) (oI 0)), oM 13 11, oM 5 13])
 (.seq (.seq (.region [oM 14 1, oW 15 (.buildSlice 3 1 (.int .i64 0) 1 [(0, (.t 14))]), oM 6 15])
 (.block 0 (.loop t222l1)))
 t222k1))) }

theorem c222 : compFunc Tryz.prog Tryz.f222 .full = some t222 := by kernel_rfl

/-- broadside/queue.none -/
def t226 : DFunc := { ntmps := 6, results := [(.t 2)], mode := .full, body :=
 (.seq (.region [oW 2 (.move (.c .nili))])
 (.seq (.region [oM 3 0, oW 4 (.makeIface 57 (oI 8)), oW 5 (.call (oF 64) [(.c (.str [113, 117, 101, 117, 101])), (.t 3), (.t 4)]), oM 2 5])
 .ret)) }

theorem c226 : compFunc Tryz.prog Tryz.f226 .full = some t226 := by kernel_rfl

/-- (*broadside/queue.Queues).Push -/
def t227 : DFunc := { ntmps := 34, results := [(.t 8)], mode := .full, body :=
 (.seq (.region [oW 8 (.move (.c .nili))])
 (.seq (.seq (.region [oM 10 0, oM 11 1, oM 12 2, oW 13 (.call (oF 289) [(.t 10), (.t 11), (.t 12)]), oW 14 (.un .not (.t 13))])
 (.cond (.t 14) (.seq (.region [oM 15 1, oW 16 (.call (oF 226) [(.t 15)]), oM 8 16])
 .ret) .skip))
 (.seq (.region [oM 17 1, oM 18 2, oW 19 (.build [(.int .i64 0), (.int .i64 0)] [(0, 1, (.t 17)), (1, 1, (.t 18))]), oW 9 (.alloc 90 2 (.agg [(.int .i64 0), (.int .i64 0)])), oS 2 9 19])
 (.seq (.draw [oRM 20 0, oR 21 (.nilCheck (.t 20)), oRA 22 1 21, oRD 23 22, oRL 24 2 9, oRM 25 0, oR 26 (.nilCheck (.t 25)), oRA 27 1 26, oRD 28 27, oRL 29 2 9, oR 30 (.lookup (.agg [1, 1]) .nsl false (.t 28) (.t 29)), oRM 31 3, ⟨(some 32), .buildSlice 110 1 .nsl 2 [(0, (.t 30)), (1, (.t 31))], none, .create, 0, false⟩, ⟨(some 33), .call (oF 290) [(.t 32)], none, .create, 0, false⟩, ⟨none, .mapUpdate (.agg [1, 1]) (.t 23) (.t 24) (.t 33), none, .write, 2, false⟩])
 (.seq (.region [oW 8 (.move (.c .nili))])
 .ret))))) }

theorem c227 : compFunc Tryz.prog Tryz.f227 .full = some t227 := by kernel_rfl

def t228l0 : DCode :=
 (.seq (.seq (.region [oM 15 9, oM 16 10, oW 17 (.arith .lss (.t 15) (.t 16))])
 (.cond (.t 17) .skip (.exit 0)))
 (.block 1 (.seq (.region [oM 18 9, oM 19 10, oW 20 (.arith .add (.t 18) (.t 19)), oW 21 (.conv .u64 (.t 20)), oW 22 (.arith .shr (.t 21) (.c (.int .u64 1))), oW 23 (.conv .i64 (.t 22)), oM 11 23])
 (.seq (.draw [oRM 25 0, oRM 26 11, oR 27 (.indexAddr 4 (.t 25) (.t 26)), oRL 28 4 27, oRL 29 2 4, oRM 24 2, oW 30 (.call (.t 24) [(.t 28), (.t 29)]), ⟨(some 31), .arith .lss (.t 30) (oI 0), none, .read, 1, false⟩])
 (.cond (.t 31) (.region [oM 32 11, oW 33 (.arith .add (.t 32) (oI 1)), oM 9 33]) (.region [oM 34 11, oM 10 34]))))))

def t228k0 : DCode :=
 (.seq (.draw [oRM 36 9, oRM 37 8, oR 38 (.arith .lss (.t 36) (.t 37)), oRM 39 38, ⟨(some 41), .move (.t 0), (some (39, true)), .read, 0, false⟩, ⟨(some 42), .move (.t 9), (some (39, true)), .read, 0, false⟩, ⟨(some 43), .indexAddr 4 (.t 41) (.t 42), (some (39, true)), .read, 0, false⟩, ⟨(some 44), .load (some 4) (.t 43), (some (39, true)), .read, 0, false⟩, ⟨(some 45), .load (some 2) (.t 4), (some (39, true)), .read, 0, false⟩, ⟨(some 40), .move (.t 2), (some (39, true)), .read, 0, false⟩, ⟨(some 46), .call (.t 40) [(.t 44), (.t 45)], (some (39, true)), .write, 0, false⟩, oRM 35 9, ⟨(some 47), .arith .eql (.t 46) (oI 0), (some (39, true)), .read, 1, false⟩, ⟨(some 48), .pick (.t 39) (.t 47) (oB false), none, .read, 1, false⟩, ⟨(some 6), .move (.t 35), none, .read, 1, false⟩, ⟨(some 7), .move (.t 48), none, .read, 1, false⟩])
 .ret)

/-- slices.BinarySearchFunc[[]broadside/api.Advert,broadside/api.Advert,broadside/api.ID] -/
def t228 : DFunc := { ntmps := 49, results := [(.t 6), (.t 7)], mode := .full, body :=
 (.seq (.region [oW 4 (.box 45 2 (.t 1)), oW 6 (.move (oI 0)), oW 7 (.move (oB false))])
 (.seq (.region [oM 12 0, oW 13 (.len 1 (.t 12)), oM 8 13])
 (.seq (.region [oM 14 8, oW 9 (.move (oI 0)), oM 10 14])
 (.seq (.block 0 (.loop t228l0))
 t228k0)))) }

theorem c228 : compFunc Tryz.prog Tryz.f228 .full = some t228 := by kernel_rfl

/-- broadside/adverts.place$1 -/
def t229 : DFunc := { ntmps := 9, results := [(.t 4)], mode := .full, body :=
 (.seq (.region [oW 2 (.box 86 4 (.t 0)), oW 3 (.box 45 2 (.t 1)), oW 4 (.move (oI 0))])
 (.seq (.region [oA 5 0 2, oL 6 2 5, oL 7 2 3, oW 8 (.call (oF 107) [(.t 6), (.t 7)]), oM 4 8])
 .ret)) }

theorem c229 : compFunc Tryz.prog Tryz.f229 .full = some t229 := by kernel_rfl

/-- broadside/route.own -/
def t230 : DFunc := { ntmps := 12, results := [(.t 4), (.t 5)], mode := .full, body :=
 (.seq (.region [oW 2 (.box 37 6 (.t 0)), oW 3 (.box 45 2 (.t 1)), oW 4 (.move (oI 0)), oW 5 (.move (oB false))])
 (.seq (.region [oA 6 5 2, oD 7 6, oL 8 2 3, oW 9 (.call (oF 291) [(.t 7), (.t 8), (oF 292)]), oX 10 9 0, oX 11 9 1, oM 4 10, oM 5 11])
 .ret)) }

theorem c230 : compFunc Tryz.prog Tryz.f230 .full = some t230 := by kernel_rfl

/-- slices.Insert[[]broadside/api.Own,broadside/api.Own] -/
def t231 : DFunc := { ntmps := 95, results := [(.t 6)], mode := .split, body :=
 (.seq (.region [oW 6 (.move (.c .nsl))])
 (.seq (.region [oM 10 0, oM 11 1, oW 12 (.sliceSl 3 (.t 10) (some (.t 11)) none)])
 (.seq (.region [oM 13 2, oW 14 (.len 1 (.t 13)), oM 7 14])
 (.seq (.seq (.region [oM 15 7, oW 16 (.arith .eql (.t 15) (oI 0))])
 (.cond (.t 16) (.seq (.region [oM 17 0, oM 6 17])
 .ret) .skip))
 (.seq (.region [oM 18 0, oW 19 (.len 1 (.t 18)), oM 8 19])
 (.seq (.seq (.region [oM 20 1, oM 21 8, oW 22 (.arith .eql (.t 20) (.t 21))])
 (.cond (.t 22) (.seq (.region [oM 23 0, oM 24 2, oW 25 (.append 151 3 40 (.t 23) (.t 24)), oM 6 25])
 .ret) .skip))
 (.seq (.seq (.region [oM 26 8, oM 27 7, oW 28 (.arith .add (.t 26) (.t 27)), oM 29 0, oW 30 (.cap (.t 29)), oW 31 (.arith .gtr (.t 28) (.t 30))])
 (.cond (.t 31) (.seq (.region [oM 32 0, oM 33 1, oW 34 (.sliceSl 3 (.t 32) none (some (.t 33))), oM 35 8, oM 36 7, oW 37 (.arith .add (.t 35) (.t 36)), oM 38 1, oW 39 (.arith .sub (.t 37) (.t 38)), oW 40 (.appendZ 151 3 40 (.agg [(.int .i64 0), (.int .i64 0), .nsl]) (.t 34) (.t 39)), oM 9 40])
 (.seq (.region [oM 41 9, oM 42 1, oW 43 (.sliceSl 3 (.t 41) (some (.t 42)) none), oM 44 2, oW 45 (.copy 3 (.t 43) (.t 44))])
 (.seq (.draw [oRM 46 9, oRM 47 1, oRM 48 7, oR 49 (.arith .add (.t 47) (.t 48)), oR 50 (.sliceSl 3 (.t 46) (some (.t 49)) none), oRM 51 0, oRM 52 1, oR 53 (.sliceSl 3 (.t 51) (some (.t 52)) none), oW 54 (.copy 3 (.t 50) (.t 53))])
 (.seq (.region [oM 55 9, oM 6 55])
 .ret)))) .skip))
 (.seq (.region [oM 56 0, oM 57 8, oM 58 7, oW 59 (.arith .add (.t 57) (.t 58)), oW 60 (.sliceSl 3 (.t 56) none (some (.t 59))), oM 0 60])
 (.seq (.seq (.region [oM 61 2, oM 62 0, oM 63 1, oM 64 7, oW 65 (.arith .add (.t 63) (.t 64)), oW 66 (.sliceSl 3 (.t 62) (some (.t 65)) none), oW 67 (.call (oF 293) [(.t 61), (.t 66)]), oW 68 (.un .not (.t 67))])
 (.cond (.t 68) (.seq (.draw [oRM 69 0, oRM 70 1, oRM 71 7, oR 72 (.arith .add (.t 70) (.t 71)), oR 73 (.sliceSl 3 (.t 69) (some (.t 72)) none), oRM 74 0, oRM 75 1, oR 76 (.sliceSl 3 (.t 74) (some (.t 75)) none), oW 77 (.copy 3 (.t 73) (.t 76))])
 (.seq (.region [oM 78 0, oM 79 1, oW 80 (.sliceSl 3 (.t 78) (some (.t 79)) none), oM 81 2, oW 82 (.copy 3 (.t 80) (.t 81))])
 (.seq (.region [oM 83 0, oM 6 83])
 .ret))) .skip))
 (.seq (.region [oM 84 0, oM 85 8, oW 86 (.sliceSl 3 (.t 84) (some (.t 85)) none), oM 87 2, oW 88 (.copy 3 (.t 86) (.t 87))])
 (.seq (.region [oM 89 0, oM 90 1, oW 91 (.sliceSl 3 (.t 89) (some (.t 90)) none), oM 92 7, oW 93 (.call (oF 294) [(.t 91), (.t 92)])])
 (.seq (.region [oM 94 0, oM 6 94])
 .ret)))))))))))) }

theorem c231 : compFunc Tryz.prog Tryz.f231 .split = some t231 := by kernel_rfl

end Go.Dm.Tr7
