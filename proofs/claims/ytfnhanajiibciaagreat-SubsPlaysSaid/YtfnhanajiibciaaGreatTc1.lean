/-
The table of functions, brought into the machine's form (Tc, part 1). Written by program (wip/tools/table.lean.txt).
-/
import Derived.Test.YtfnhanajiibciaaGreatMm3
import Derived.Test.YtfnhanajiibciaaGreatRows
import Derived.KernelRfl
namespace Go.Dm.Tc
open Go.Proofs

/-- slices.Insert[[]broadside/api.ID,broadside/api.ID] -/
def t74 : DFunc := { ntmps := 95, results := [(.t 6)], mode := .split, body :=
 (.seq (.region [oW 6 (.move (.c .nsl))])
 (.seq (.region [oW 10 (.move (.t 0)), oW 11 (.move (.t 1)), oW 12 (.sliceSl 2 (.t 10) (some (.t 11)) none)])
 (.seq (.region [oW 13 (.move (.t 2)), oW 14 (.len 1 (.t 13)), oW 7 (.move (.t 14))])
 (.seq (.seq (.region [oW 15 (.move (.t 7)), oW 16 (.arith .eql (.t 15) (oI 0))])
 (.cond (.t 16) (.seq (.region [oW 17 (.move (.t 0)), oW 6 (.move (.t 17))])
 .ret) .skip))
 (.seq (.region [oW 18 (.move (.t 0)), oW 19 (.len 1 (.t 18)), oW 8 (.move (.t 19))])
 (.seq (.seq (.region [oW 20 (.move (.t 1)), oW 21 (.move (.t 8)), oW 22 (.arith .eql (.t 20) (.t 21))])
 (.cond (.t 22) (.seq (.region [oW 23 (.move (.t 0)), oW 24 (.move (.t 2)), oW 25 (.append 37 2 16 (.t 23) (.t 24)), oW 6 (.move (.t 25))])
 .ret) .skip))
 (.seq (.seq (.region [oW 26 (.move (.t 8)), oW 27 (.move (.t 7)), oW 28 (.arith .add (.t 26) (.t 27)), oW 29 (.move (.t 0)), oW 30 (.cap (.t 29)), oW 31 (.arith .gtr (.t 28) (.t 30))])
 (.cond (.t 31) (.seq (.region [oW 32 (.move (.t 0)), oW 33 (.move (.t 1)), oW 34 (.sliceSl 2 (.t 32) none (some (.t 33))), oW 35 (.move (.t 8)), oW 36 (.move (.t 7)), oW 37 (.arith .add (.t 35) (.t 36)), oW 38 (.move (.t 1)), oW 39 (.arith .sub (.t 37) (.t 38)), oW 40 (.appendZ 37 2 16 (.agg [(.int .i64 0), (.int .i64 0)]) (.t 34) (.t 39)), oW 9 (.move (.t 40))])
 (.seq (.region [oW 41 (.move (.t 9)), oW 42 (.move (.t 1)), oW 43 (.sliceSl 2 (.t 41) (some (.t 42)) none), oW 44 (.move (.t 2)), oW 45 (.copy 2 (.t 43) (.t 44))])
 (.seq (.draw [oR 46 (.move (.t 9)), oR 47 (.move (.t 1)), oR 48 (.move (.t 7)), oR 49 (.arith .add (.t 47) (.t 48)), oR 50 (.sliceSl 2 (.t 46) (some (.t 49)) none), oR 51 (.move (.t 0)), oR 52 (.move (.t 1)), oR 53 (.sliceSl 2 (.t 51) (some (.t 52)) none), oW 54 (.copy 2 (.t 50) (.t 53))])
 (.seq (.region [oW 55 (.move (.t 9)), oW 6 (.move (.t 55))])
 .ret)))) .skip))
 (.seq (.region [oW 56 (.move (.t 0)), oW 57 (.move (.t 8)), oW 58 (.move (.t 7)), oW 59 (.arith .add (.t 57) (.t 58)), oW 60 (.sliceSl 2 (.t 56) none (some (.t 59))), oW 0 (.move (.t 60))])
 (.seq (.seq (.region [oW 61 (.move (.t 2)), oW 62 (.move (.t 0)), oW 63 (.move (.t 1)), oW 64 (.move (.t 7)), oW 65 (.arith .add (.t 63) (.t 64)), oW 66 (.sliceSl 2 (.t 62) (some (.t 65)) none), oW 67 (.call (oF 144) [(.t 61), (.t 66)]), oW 68 (.un .not (.t 67))])
 (.cond (.t 68) (.seq (.draw [oR 69 (.move (.t 0)), oR 70 (.move (.t 1)), oR 71 (.move (.t 7)), oR 72 (.arith .add (.t 70) (.t 71)), oR 73 (.sliceSl 2 (.t 69) (some (.t 72)) none), oR 74 (.move (.t 0)), oR 75 (.move (.t 1)), oR 76 (.sliceSl 2 (.t 74) (some (.t 75)) none), oW 77 (.copy 2 (.t 73) (.t 76))])
 (.seq (.region [oW 78 (.move (.t 0)), oW 79 (.move (.t 1)), oW 80 (.sliceSl 2 (.t 78) (some (.t 79)) none), oW 81 (.move (.t 2)), oW 82 (.copy 2 (.t 80) (.t 81))])
 (.seq (.region [oW 83 (.move (.t 0)), oW 6 (.move (.t 83))])
 .ret))) .skip))
 (.seq (.region [oW 84 (.move (.t 0)), oW 85 (.move (.t 8)), oW 86 (.sliceSl 2 (.t 84) (some (.t 85)) none), oW 87 (.move (.t 2)), oW 88 (.copy 2 (.t 86) (.t 87))])
 (.seq (.region [oW 89 (.move (.t 0)), oW 90 (.move (.t 1)), oW 91 (.sliceSl 2 (.t 89) (some (.t 90)) none), oW 92 (.move (.t 7)), oW 93 (.call (oF 145) [(.t 91), (.t 92)])])
 (.seq (.region [oW 94 (.move (.t 0)), oW 6 (.move (.t 94))])
 .ret)))))))))))) }

theorem c74 : compFunc Tryz.prog Tryz.f74 .split = some t74 := by kernel_rfl

def t75l0 : DCode :=
 (.seq (.region [oW 11 (.arith .lss (.t 10) (.t 9))])
 (.seq (.cond (.t 11) .skip (.exit 0))
 (.seq (.block 1 (.seq (.region [oW 12 (.indexAddr 2 (.t 8) (.t 10)), oW 13 (.load (some 2) (.t 12)), oW 6 (.alloc 37 2 (.agg [(.int .i64 0), (.int .i64 0)])), oZ (.store 2 (.t 6) (.t 13))])
 (.seq (.region [oW 14 (.load (some 2) (.t 6)), oW 15 (.load (some 2) (.t 3)), oW 16 (.eqa false [1, 1] (.t 14) (.t 15))])
 (.cond (.t 16) (.seq (.region [oW 4 (.move (oB true))])
 .ret) .skip))))
 (.region [oW 17 (.arith .add (.t 10) (oI 1)), oW 10 (.move (.t 17))]))))

def t75k0 : DCode :=
 (.seq (.region [oW 4 (.move (oB false))])
 .ret)

/-- broadside/broadsideref9.seen -/
def t75 : DFunc := { ntmps := 18, results := [(.t 4)], mode := .pure, body :=
 (.seq (.region [oW 2 (.box 29 6 (.t 0)), oW 3 (.box 37 2 (.t 1)), oW 4 (.move (oB false))])
 (.seq (.seq (.region [oW 7 (.fieldAddr 3 (.t 2)), oW 8 (.load none (.t 7)), oW 9 (.len 1 (.t 8)), oW 10 (.move (oI 0))])
 (.block 0 (.loop t75l0)))
 t75k0)) }

theorem c75 : compFunc Tryz.prog Tryz.f75 .pure = some t75 := by kernel_rfl

/-- broadside/broadsideref9.Less -/
def t76 : DFunc := { ntmps := 24, results := [(.t 4)], mode := .pure, body :=
 (.seq (.region [oW 2 (.box 37 2 (.t 0)), oW 3 (.box 37 2 (.t 1)), oW 4 (.move (oB false))])
 (.seq (.region [oW 5 (.fieldAddr 0 (.t 2)), oW 6 (.load none (.t 5)), oW 7 (.fieldAddr 0 (.t 3)), oW 8 (.load none (.t 7)), oW 9 (.arith .lss (.t 6) (.t 8)), oW 10 (.move (.t 9)), ⟨(some 11), .fieldAddr 0 (.t 2), (some (10, false)), .write, 0⟩, ⟨(some 12), .load none (.t 11), (some (10, false)), .write, 0⟩, ⟨(some 13), .fieldAddr 0 (.t 3), (some (10, false)), .write, 0⟩, ⟨(some 14), .load none (.t 13), (some (10, false)), .write, 0⟩, ⟨(some 15), .arith .eql (.t 12) (.t 14), (some (10, false)), .write, 0⟩, ⟨(some 16), .move (.t 15), (some (10, false)), .write, 0⟩, ⟨(some 17), .fieldAddr 1 (.t 2), (some (16, true)), .write, 0⟩, ⟨(some 18), .load none (.t 17), (some (16, true)), .write, 0⟩, ⟨(some 19), .fieldAddr 1 (.t 3), (some (16, true)), .write, 0⟩, ⟨(some 20), .load none (.t 19), (some (16, true)), .write, 0⟩, ⟨(some 21), .arith .lss (.t 18) (.t 20), (some (16, true)), .write, 0⟩, ⟨(some 22), .pick (.t 16) (.t 21) (oB false), (some (10, false)), .write, 0⟩, oW 23 (.pick (.t 10) (oB true) (.t 22)), oW 4 (.move (.t 23))])
 .ret)) }

theorem c76 : compFunc Tryz.prog Tryz.f76 .pure = some t76 := by kernel_rfl

/-- slices.Delete[[]broadside/api.Advert,broadside/api.Advert] -/
def t77 : DFunc := { ntmps := 33, results := [(.t 6)], mode := .full, body :=
 (.seq (.region [oW 6 (.move (.c .nsl))])
 (.seq (.region [oW 8 (.move (.t 0)), oW 9 (.move (.t 1)), oW 10 (.move (.t 2)), oW 11 (.move (.t 0)), oW 12 (.len 1 (.t 11)), oW 13 (.slice3 (.t 8) (.t 9) (.t 10) (.t 12))])
 (.seq (.seq (.region [oW 14 (.move (.t 1)), oW 15 (.move (.t 2)), oW 16 (.arith .eql (.t 14) (.t 15))])
 (.cond (.t 16) (.seq (.region [oW 17 (.move (.t 0)), oW 6 (.move (.t 17))])
 .ret) .skip))
 (.seq (.region [oW 18 (.move (.t 0)), oW 19 (.len 1 (.t 18)), oW 7 (.move (.t 19))])
 (.seq (.draw [oR 20 (.move (.t 0)), oR 21 (.move (.t 1)), oR 22 (.sliceSl 4 (.t 20) none (some (.t 21))), oR 23 (.move (.t 0)), oR 24 (.move (.t 2)), oR 25 (.sliceSl 4 (.t 23) (some (.t 24)) none), oW 26 (.append 42 4 48 (.t 22) (.t 25)), ⟨(some 0), .move (.t 26), none, .read, 1⟩])
 (.seq (.region [oW 27 (.move (.t 0)), oW 28 (.move (.t 0)), oW 29 (.len 1 (.t 28)), oW 30 (.move (.t 7)), oW 31 (.sliceSl 4 (.t 27) (some (.t 29)) (some (.t 30))), oZ (.clear 4 (.agg [(.int .i64 0), (.int .i64 0), .nsl, (.int .i64 0)]) (.t 31))])
 (.seq (.region [oW 32 (.move (.t 0)), oW 6 (.move (.t 32))])
 .ret))))))) }

theorem c77 : compFunc Tryz.prog Tryz.f77 .full = some t77 := by kernel_rfl

def t78l0 : DCode :=
 (.seq (.seq (.region [oW 16 (.move (.t 6)), oW 17 (.move (.t 0)), oW 18 (.len 1 (.t 17)), oW 19 (.arith .lss (.t 16) (.t 18))])
 (.cond (.t 19) .skip (.exit 0)))
 (.seq (.block 1 (.seq (.region [oW 22 (.move (.t 0)), oW 23 (.move (.t 6)), oW 24 (.indexAddr 7 (.t 22) (.t 23)), oW 25 (.load (some 7) (.t 24)), oW 7 (.alloc 58 7 (.agg [(.int .i64 0), (.int .i64 0), (.int .i64 0), (.int .i64 0), .nsl, (.int .i64 0), (.bool false)])), oZ (.store 7 (.t 7) (.t 25))])
 (.seq (.region [oW 26 (.move (.t 1)), oW 27 (.load (some 7) (.t 7)), oW 28 (.call (.t 26) [(.t 27)]), oW 29 (.un .not (.t 28))])
 (.cond (.t 29) (.seq (.region [oW 30 (.move (.t 0)), oW 31 (.move (.t 5)), oW 32 (.load (some 7) (.t 7)), oW 33 (.indexAddr 7 (.t 30) (.t 31)), oZ (.store 7 (.t 33) (.t 32))])
 (.region [oW 34 (.move (.t 5)), oW 35 (.arith .add (.t 34) (oI 1)), oW 5 (.move (.t 35))])) .skip))))
 (.region [oW 20 (.move (.t 6)), oW 21 (.arith .add (.t 20) (oI 1)), oW 6 (.move (.t 21))])))

def t78k0 : DCode :=
 (.seq (.region [oW 36 (.move (.t 0)), oW 37 (.move (.t 5)), oW 38 (.sliceSl 7 (.t 36) (some (.t 37)) none), oZ (.clear 7 (.agg [(.int .i64 0), (.int .i64 0), (.int .i64 0), (.int .i64 0), .nsl, (.int .i64 0), (.bool false)]) (.t 38))])
 (.seq (.region [oW 39 (.move (.t 0)), oW 40 (.move (.t 5)), oW 41 (.sliceSl 7 (.t 39) none (some (.t 40))), oW 4 (.move (.t 41))])
 .ret))

/-- slices.DeleteFunc[[]broadside/api.Entry,broadside/api.Entry] -/
def t78 : DFunc := { ntmps := 42, results := [(.t 4)], mode := .full, body :=
 (.seq (.region [oW 4 (.move (.c .nsl))])
 (.seq (.region [oW 8 (.move (.t 0)), oW 9 (.move (.t 1)), oW 10 (.call (oF 146) [(.t 8), (.t 9)]), oW 5 (.move (.t 10))])
 (.seq (.seq (.region [oW 11 (.move (.t 5)), oW 12 (.arith .eql (.t 11) (oI (-1)))])
 (.cond (.t 12) (.seq (.region [oW 13 (.move (.t 0)), oW 4 (.move (.t 13))])
 .ret) .skip))
 (.seq (.seq (.region [oW 14 (.move (.t 5)), oW 15 (.arith .add (.t 14) (oI 1)), oW 6 (.move (.t 15))])
 (.block 0 (.loop t78l0)))
 t78k0)))) }

theorem c78 : compFunc Tryz.prog Tryz.f78 .full = some t78 := by kernel_rfl

/-- broadside/adverts.Forget$1 -/
def t79 : DFunc := { ntmps := 8, results := [(.t 3)], mode := .pure, body :=
 (.seq (.region [oW 2 (.box 58 7 (.t 0)), oW 3 (.move (oB false))])
 (.seq (.region [oW 4 (.fieldAddr 0 (.t 2)), oW 5 (.load (some 2) (.t 4)), oW 6 (.load (some 2) (.t 1)), oW 7 (.eqa false [1, 1] (.t 5) (.t 6)), oW 3 (.move (.t 7))])
 .ret)) }

theorem c79 : compFunc Tryz.prog Tryz.f79 .pure = some t79 := by kernel_rfl

def t80l0 : DCode :=
 (.seq (.seq (.region [oW 11 (.move (.t 5)), oW 12 (.move (.t 0)), oW 13 (.len 1 (.t 12)), oW 14 (.arith .lss (.t 11) (.t 13))])
 (.cond (.t 14) .skip (.exit 0)))
 (.seq (.block 1 (.seq (.draw [oR 17 (.move (.t 0)), oR 18 (.move (.t 5)), oR 19 (.indexAddr 1 (.t 17) (.t 18)), oR 20 (.load none (.t 19)), oR 21 (.move (.t 1)), oR 22 (.move (.t 5)), oR 23 (.indexAddr 1 (.t 21) (.t 22)), oR 24 (.load none (.t 23)), oR 25 (.arith .neq (.t 20) (.t 24))])
 (.cond (.t 25) (.seq (.region [oW 4 (.move (oB false))])
 .ret) .skip)))
 (.region [oW 15 (.move (.t 5)), oW 16 (.arith .add (.t 15) (oI 1)), oW 5 (.move (.t 16))])))

def t80k0 : DCode :=
 (.seq (.region [oW 4 (.move (oB true))])
 .ret)

/-- broadside/broadsidebook.Same[int] -/
def t80 : DFunc := { ntmps := 26, results := [(.t 4)], mode := .pure, body :=
 (.seq (.region [oW 4 (.move (oB false))])
 (.seq (.seq (.region [oW 6 (.move (.t 0)), oW 7 (.len 1 (.t 6)), oW 8 (.move (.t 1)), oW 9 (.len 1 (.t 8)), oW 10 (.arith .neq (.t 7) (.t 9))])
 (.cond (.t 10) (.seq (.region [oW 4 (.move (oB false))])
 .ret) .skip))
 (.seq (.seq (.region [oW 5 (.move (oI 0))])
 (.block 0 (.loop t80l0)))
 t80k0))) }

theorem c80 : compFunc Tryz.prog Tryz.f80 .pure = some t80 := by kernel_rfl

def t81l0 : DCode :=
 (.seq (.seq (.region [oW 11 (.move (.t 5)), oW 12 (.move (.t 0)), oW 13 (.len 1 (.t 12)), oW 14 (.arith .lss (.t 11) (.t 13))])
 (.cond (.t 14) .skip (.exit 0)))
 (.seq (.block 1 (.seq (.draw [oR 17 (.move (.t 0)), oR 18 (.move (.t 5)), oR 19 (.indexAddr 2 (.t 17) (.t 18)), oR 20 (.load (some 2) (.t 19)), oR 21 (.move (.t 1)), oR 22 (.move (.t 5)), oR 23 (.indexAddr 2 (.t 21) (.t 22)), oR 24 (.load (some 2) (.t 23)), oR 25 (.eqa true [1, 1] (.t 20) (.t 24))])
 (.cond (.t 25) (.seq (.region [oW 4 (.move (oB false))])
 .ret) .skip)))
 (.region [oW 15 (.move (.t 5)), oW 16 (.arith .add (.t 15) (oI 1)), oW 5 (.move (.t 16))])))

def t81k0 : DCode :=
 (.seq (.region [oW 4 (.move (oB true))])
 .ret)

/-- broadside/broadsidebook.Same[broadside/api.ID] -/
def t81 : DFunc := { ntmps := 26, results := [(.t 4)], mode := .pure, body :=
 (.seq (.region [oW 4 (.move (oB false))])
 (.seq (.seq (.region [oW 6 (.move (.t 0)), oW 7 (.len 1 (.t 6)), oW 8 (.move (.t 1)), oW 9 (.len 1 (.t 8)), oW 10 (.arith .neq (.t 7) (.t 9))])
 (.cond (.t 10) (.seq (.region [oW 4 (.move (oB false))])
 .ret) .skip))
 (.seq (.seq (.region [oW 5 (.move (oI 0))])
 (.block 0 (.loop t81l0)))
 t81k0))) }

theorem c81 : compFunc Tryz.prog Tryz.f81 .pure = some t81 := by kernel_rfl

def t91l0 : DCode :=
 (.seq (.seq (.region [oW 6 (.move (.t 5)), oW 7 (.move (.t 0)), oW 8 (.len 1 (.t 7)), oW 9 (.arith .lss (.t 6) (.t 8))])
 (.cond (.t 9) .skip (.exit 0)))
 (.seq (.block 1 (.seq (.draw [oR 13 (.move (.t 0)), oR 14 (.move (.t 5)), oR 15 (.arith .sub (.t 14) (oI 1)), oR 16 (.indexAddr 1 (.t 13) (.t 15)), oR 17 (.load none (.t 16)), oR 18 (.move (.t 0)), oR 19 (.move (.t 5)), oR 20 (.indexAddr 1 (.t 18) (.t 19)), oR 21 (.load none (.t 20)), oR 12 (.move (.t 1)), oW 22 (.call (.t 12) [(.t 17), (.t 21)]), ⟨(some 23), .un .not (.t 22), none, .read, 1⟩])
 (.cond (.t 23) (.seq (.region [oW 4 (.move (oB false))])
 .ret) .skip)))
 (.region [oW 10 (.move (.t 5)), oW 11 (.arith .add (.t 10) (oI 1)), oW 5 (.move (.t 11))])))

def t91k0 : DCode :=
 (.seq (.region [oW 4 (.move (oB true))])
 .ret)

/-- broadside/adverts.rises[int] -/
def t91 : DFunc := { ntmps := 24, results := [(.t 4)], mode := .pure, body :=
 (.seq (.region [oW 4 (.move (oB false))])
 (.seq (.seq (.region [oW 5 (.move (oI 1))])
 (.block 0 (.loop t91l0)))
 t91k0)) }

theorem c91 : compFunc Tryz.prog Tryz.f91 .pure = some t91 := by kernel_rfl

/-- broadside/adverts.Right$1 -/
def t92 : DFunc := { ntmps := 8, results := [(.t 4)], mode := .pure, body :=
 (.seq (.region [oW 4 (.move (oB false))])
 (.seq (.region [oW 5 (.move (.t 0)), oW 6 (.move (.t 1)), oW 7 (.arith .lss (.t 5) (.t 6)), oW 4 (.move (.t 7))])
 .ret)) }

theorem c92 : compFunc Tryz.prog Tryz.f92 .pure = some t92 := by kernel_rfl

def t93l0 : DCode :=
 (.seq (.seq (.region [oW 6 (.move (.t 5)), oW 7 (.move (.t 0)), oW 8 (.len 1 (.t 7)), oW 9 (.arith .lss (.t 6) (.t 8))])
 (.cond (.t 9) .skip (.exit 0)))
 (.seq (.block 1 (.seq (.draw [oR 13 (.move (.t 0)), oR 14 (.move (.t 5)), oR 15 (.arith .sub (.t 14) (oI 1)), oR 16 (.indexAddr 2 (.t 13) (.t 15)), oR 17 (.load (some 2) (.t 16)), oR 18 (.move (.t 0)), oR 19 (.move (.t 5)), oR 20 (.indexAddr 2 (.t 18) (.t 19)), oR 21 (.load (some 2) (.t 20)), oR 12 (.move (.t 1)), oW 22 (.call (.t 12) [(.t 17), (.t 21)]), ⟨(some 23), .un .not (.t 22), none, .read, 1⟩])
 (.cond (.t 23) (.seq (.region [oW 4 (.move (oB false))])
 .ret) .skip)))
 (.region [oW 10 (.move (.t 5)), oW 11 (.arith .add (.t 10) (oI 1)), oW 5 (.move (.t 11))])))

def t93k0 : DCode :=
 (.seq (.region [oW 4 (.move (oB true))])
 .ret)

/-- broadside/adverts.rises[broadside/api.ID] -/
def t93 : DFunc := { ntmps := 24, results := [(.t 4)], mode := .pure, body :=
 (.seq (.region [oW 4 (.move (oB false))])
 (.seq (.seq (.region [oW 5 (.move (oI 1))])
 (.block 0 (.loop t93l0)))
 t93k0)) }

theorem c93 : compFunc Tryz.prog Tryz.f93 .pure = some t93 := by kernel_rfl

def t94l0 : DCode :=
 (.seq (.seq (.region [oW 6 (.move (.t 5)), oW 7 (.move (.t 0)), oW 8 (.len 1 (.t 7)), oW 9 (.arith .lss (.t 6) (.t 8))])
 (.cond (.t 9) .skip (.exit 0)))
 (.seq (.block 1 (.seq (.draw [oR 13 (.move (.t 0)), oR 14 (.move (.t 5)), oR 15 (.arith .sub (.t 14) (oI 1)), oR 16 (.indexAddr 4 (.t 13) (.t 15)), oR 17 (.load (some 4) (.t 16)), oR 18 (.move (.t 0)), oR 19 (.move (.t 5)), oR 20 (.indexAddr 4 (.t 18) (.t 19)), oR 21 (.load (some 4) (.t 20)), oR 12 (.move (.t 1)), oW 22 (.call (.t 12) [(.t 17), (.t 21)]), ⟨(some 23), .un .not (.t 22), none, .read, 1⟩])
 (.cond (.t 23) (.seq (.region [oW 4 (.move (oB false))])
 .ret) .skip)))
 (.region [oW 10 (.move (.t 5)), oW 11 (.arith .add (.t 10) (oI 1)), oW 5 (.move (.t 11))])))

def t94k0 : DCode :=
 (.seq (.region [oW 4 (.move (oB true))])
 .ret)

/-- broadside/adverts.rises[broadside/api.Advert] -/
def t94 : DFunc := { ntmps := 24, results := [(.t 4)], mode := .pure, body :=
 (.seq (.region [oW 4 (.move (oB false))])
 (.seq (.seq (.region [oW 5 (.move (oI 1))])
 (.block 0 (.loop t94l0)))
 t94k0)) }

theorem c94 : compFunc Tryz.prog Tryz.f94 .pure = some t94 := by kernel_rfl

/-- broadside/adverts.Right$2 -/
def t95 : DFunc := { ntmps := 10, results := [(.t 4)], mode := .pure, body :=
 (.seq (.region [oW 2 (.box 42 4 (.t 0)), oW 3 (.box 42 4 (.t 1)), oW 4 (.move (oB false))])
 (.seq (.region [oW 5 (.fieldAddr 0 (.t 2)), oW 6 (.load (some 2) (.t 5)), oW 7 (.fieldAddr 0 (.t 3)), oW 8 (.load (some 2) (.t 7)), oW 9 (.call (oF 56) [(.t 6), (.t 8)]), oW 4 (.move (.t 9))])
 .ret)) }

theorem c95 : compFunc Tryz.prog Tryz.f95 .pure = some t95 := by kernel_rfl

def t96l0 : DCode :=
 (.seq (.seq (.region [oW 6 (.move (.t 5)), oW 7 (.move (.t 0)), oW 8 (.len 1 (.t 7)), oW 9 (.arith .lss (.t 6) (.t 8))])
 (.cond (.t 9) .skip (.exit 0)))
 (.seq (.block 1 (.seq (.draw [oR 13 (.move (.t 0)), oR 14 (.move (.t 5)), oR 15 (.arith .sub (.t 14) (oI 1)), oR 16 (.indexAddr 3 (.t 13) (.t 15)), oR 17 (.load (some 3) (.t 16)), oR 18 (.move (.t 0)), oR 19 (.move (.t 5)), oR 20 (.indexAddr 3 (.t 18) (.t 19)), oR 21 (.load (some 3) (.t 20)), oR 12 (.move (.t 1)), oW 22 (.call (.t 12) [(.t 17), (.t 21)]), ⟨(some 23), .un .not (.t 22), none, .read, 1⟩])
 (.cond (.t 23) (.seq (.region [oW 4 (.move (oB false))])
 .ret) .skip)))
 (.region [oW 10 (.move (.t 5)), oW 11 (.arith .add (.t 10) (oI 1)), oW 5 (.move (.t 11))])))

def t96k0 : DCode :=
 (.seq (.region [oW 4 (.move (oB true))])
 .ret)

/-- broadside/adverts.rises[broadside/api.Own] -/
def t96 : DFunc := { ntmps := 24, results := [(.t 4)], mode := .pure, body :=
 (.seq (.region [oW 4 (.move (oB false))])
 (.seq (.seq (.region [oW 5 (.move (oI 1))])
 (.block 0 (.loop t96l0)))
 t96k0)) }

theorem c96 : compFunc Tryz.prog Tryz.f96 .pure = some t96 := by kernel_rfl

/-- broadside/adverts.Right$3 -/
def t97 : DFunc := { ntmps := 10, results := [(.t 4)], mode := .pure, body :=
 (.seq (.region [oW 2 (.box 60 3 (.t 0)), oW 3 (.box 60 3 (.t 1)), oW 4 (.move (oB false))])
 (.seq (.region [oW 5 (.fieldAddr 0 (.t 2)), oW 6 (.load (some 2) (.t 5)), oW 7 (.fieldAddr 0 (.t 3)), oW 8 (.load (some 2) (.t 7)), oW 9 (.call (oF 56) [(.t 6), (.t 8)]), oW 4 (.move (.t 9))])
 .ret)) }

theorem c97 : compFunc Tryz.prog Tryz.f97 .pure = some t97 := by kernel_rfl

def t98l0 : DCode :=
 (.seq (.seq (.region [oW 6 (.move (.t 5)), oW 7 (.move (.t 0)), oW 8 (.len 1 (.t 7)), oW 9 (.arith .lss (.t 6) (.t 8))])
 (.cond (.t 9) .skip (.exit 0)))
 (.seq (.block 1 (.seq (.draw [oR 13 (.move (.t 0)), oR 14 (.move (.t 5)), oR 15 (.arith .sub (.t 14) (oI 1)), oR 16 (.indexAddr 7 (.t 13) (.t 15)), oR 17 (.load (some 7) (.t 16)), oR 18 (.move (.t 0)), oR 19 (.move (.t 5)), oR 20 (.indexAddr 7 (.t 18) (.t 19)), oR 21 (.load (some 7) (.t 20)), oR 12 (.move (.t 1)), oW 22 (.call (.t 12) [(.t 17), (.t 21)]), ⟨(some 23), .un .not (.t 22), none, .read, 1⟩])
 (.cond (.t 23) (.seq (.region [oW 4 (.move (oB false))])
 .ret) .skip)))
 (.region [oW 10 (.move (.t 5)), oW 11 (.arith .add (.t 10) (oI 1)), oW 5 (.move (.t 11))])))

def t98k0 : DCode :=
 (.seq (.region [oW 4 (.move (oB true))])
 .ret)

/-- broadside/adverts.rises[broadside/api.Entry] -/
def t98 : DFunc := { ntmps := 24, results := [(.t 4)], mode := .pure, body :=
 (.seq (.region [oW 4 (.move (oB false))])
 (.seq (.seq (.region [oW 5 (.move (oI 1))])
 (.block 0 (.loop t98l0)))
 t98k0)) }

theorem c98 : compFunc Tryz.prog Tryz.f98 .pure = some t98 := by kernel_rfl

/-- broadside/adverts.Right$4 -/
def t99 : DFunc := { ntmps := 18, results := [(.t 4)], mode := .pure, body :=
 (.seq (.region [oW 2 (.box 58 7 (.t 0)), oW 3 (.box 58 7 (.t 1)), oW 4 (.move (oB false))])
 (.seq (.draw [oR 5 (.fieldAddr 0 (.t 2)), oR 6 (.load (some 2) (.t 5)), oR 7 (.fieldAddr 0 (.t 3)), oR 8 (.load (some 2) (.t 7)), ⟨(some 9), .call (oF 101) [(.t 6), (.t 8)], none, .create, 0⟩, oR 10 (.fieldAddr 2 (.t 2)), oR 11 (.load (some 2) (.t 10)), oR 12 (.fieldAddr 2 (.t 3)), oR 13 (.load (some 2) (.t 12)), ⟨(some 14), .call (oF 101) [(.t 11), (.t 13)], none, .write, 1⟩, ⟨(some 15), .buildSlice 3 1 (.int .i64 0) 2 [(0, (.t 9)), (1, (.t 14))], none, .create, 0⟩, ⟨(some 16), .call (oF 100) [(.t 15)], none, .write, 3⟩, ⟨(some 17), .arith .lss (.t 16) (oI 0), none, .read, 4⟩, ⟨(some 4), .move (.t 17), none, .read, 4⟩])
 .ret)) }

theorem c99 : compFunc Tryz.prog Tryz.f99 .pure = some t99 := by kernel_rfl

def t100l0 : DCode :=
 (.seq (.region [oW 9 (.arith .lss (.t 8) (.t 7))])
 (.seq (.cond (.t 9) .skip (.exit 0))
 (.seq (.block 1 (.seq (.region [oW 10 (.indexAddr 1 (.t 6) (.t 8)), oW 11 (.load none (.t 10)), oW 5 (.move (.t 11))])
 (.seq (.region [oW 12 (.move (.t 5)), oW 13 (.move (.t 3)), oW 14 (.arith .neq (.t 12) (.t 13))])
 (.cond (.t 14) (.seq (.region [oW 15 (.move (.t 5)), oW 2 (.move (.t 15))])
 .ret) .skip))))
 (.region [oW 16 (.arith .add (.t 8) (oI 1)), oW 8 (.move (.t 16))]))))

def t100k0 : DCode :=
 (.seq (.region [oW 17 (.move (.t 3)), oW 2 (.move (.t 17))])
 .ret)

/-- cmp.Or[int] -/
def t100 : DFunc := { ntmps := 18, results := [(.t 2)], mode := .pure, body :=
 (.seq (.region [oW 2 (.move (oI 0))])
 (.seq (.region [oW 3 (.move (oI 0))])
 (.seq (.seq (.region [oW 6 (.move (.t 0)), oW 7 (.len 1 (.t 6)), oW 8 (.move (oI 0))])
 (.block 0 (.loop t100l0)))
 t100k0))) }

theorem c100 : compFunc Tryz.prog Tryz.f100 .pure = some t100 := by kernel_rfl

/-- broadside/adverts.compare -/
def t101 : DFunc := { ntmps := 17, results := [(.t 4)], mode := .pure, body :=
 (.seq (.region [oW 2 (.box 37 2 (.t 0)), oW 3 (.box 37 2 (.t 1)), oW 4 (.move (oI 0))])
 (.seq (.draw [oR 5 (.fieldAddr 0 (.t 2)), oR 6 (.load none (.t 5)), oR 7 (.fieldAddr 0 (.t 3)), oR 8 (.load none (.t 7)), ⟨(some 9), .call (oF 148) [(.t 6), (.t 8)], none, .create, 0⟩, oR 10 (.fieldAddr 1 (.t 2)), oR 11 (.load none (.t 10)), oR 12 (.fieldAddr 1 (.t 3)), oR 13 (.load none (.t 12)), ⟨(some 14), .call (oF 148) [(.t 11), (.t 13)], none, .write, 1⟩, ⟨(some 15), .buildSlice 3 1 (.int .i64 0) 2 [(0, (.t 9)), (1, (.t 14))], none, .create, 0⟩, ⟨(some 16), .call (oF 100) [(.t 15)], none, .write, 3⟩, ⟨(some 4), .move (.t 16), none, .read, 4⟩])
 .ret)) }

theorem c101 : compFunc Tryz.prog Tryz.f101 .pure = some t101 := by kernel_rfl

/-- slices.ContainsFunc[[]broadside/api.Advert,broadside/api.Advert] -/
def t102 : DFunc := { ntmps := 9, results := [(.t 4)], mode := .pure, body :=
 (.seq (.region [oW 4 (.move (oB false))])
 (.seq (.region [oW 5 (.move (.t 0)), oW 6 (.move (.t 1)), oW 7 (.call (oF 149) [(.t 5), (.t 6)]), oW 8 (.arith .geq (.t 7) (oI 0)), oW 4 (.move (.t 8))])
 .ret)) }

theorem c102 : compFunc Tryz.prog Tryz.f102 .pure = some t102 := by kernel_rfl

/-- broadside/adverts.Right$5 -/
def t103 : DFunc := { ntmps := 22, results := [(.t 3)], mode := .pure, body :=
 (.seq (.region [oW 2 (.box 42 4 (.t 0)), oW 3 (.move (oB false))])
 (.seq (.region [oW 4 (.load (some 6) (.t 1)), oW 5 (.fieldAddr 0 (.t 2)), oW 6 (.load (some 2) (.t 5)), oW 7 (.call (oF 57) [(.t 4), (.t 6)]), oW 8 (.un .not (.t 7)), oW 9 (.move (.t 8)), ⟨(some 10), .load (some 6) (.t 1), (some (9, false)), .write, 0⟩, ⟨(some 11), .fieldAddr 3 (.t 2), (some (9, false)), .write, 0⟩, ⟨(some 12), .load none (.t 11), (some (9, false)), .write, 0⟩, ⟨(some 13), .call (oF 104) [(.t 10), (.t 12)], (some (9, false)), .write, 0⟩, ⟨(some 14), .un .not (.t 13), (some (9, false)), .write, 0⟩, oW 15 (.pick (.t 9) (oB true) (.t 14)), oW 16 (.move (.t 15)), ⟨(some 17), .fieldAddr 2 (.t 2), (some (16, false)), .write, 0⟩, ⟨(some 18), .load none (.t 17), (some (16, false)), .write, 0⟩, ⟨(some 19), .call (oF 105) [(.t 18)], (some (16, false)), .write, 0⟩, ⟨(some 20), .un .not (.t 19), (some (16, false)), .write, 0⟩, oW 21 (.pick (.t 16) (oB true) (.t 20)), oW 3 (.move (.t 21))])
 .ret)) }

theorem c103 : compFunc Tryz.prog Tryz.f103 .pure = some t103 := by kernel_rfl

/-- broadside/adverts.link -/
def t104 : DFunc := { ntmps := 13, results := [(.t 4)], mode := .pure, body :=
 (.seq (.region [oW 2 (.box 29 6 (.t 0)), oW 4 (.move (oB false))])
 (.seq (.region [oW 5 (.move (.t 1)), oW 6 (.arith .eql (.t 5) (oI (-1))), oW 7 (.move (.t 6)), ⟨(some 8), .fieldAddr 1 (.t 2), (some (7, false)), .write, 0⟩, ⟨(some 9), .load none (.t 8), (some (7, false)), .write, 0⟩, ⟨(some 10), .move (.t 1), (some (7, false)), .write, 0⟩, ⟨(some 11), .call (oF 150) [(.t 9), (.t 10)], (some (7, false)), .write, 0⟩, oW 12 (.pick (.t 7) (oB true) (.t 11)), oW 4 (.move (.t 12))])
 .ret)) }

theorem c104 : compFunc Tryz.prog Tryz.f104 .pure = some t104 := by kernel_rfl

def t105l0 : DCode :=
 (.seq (.region [oW 8 (.arith .lss (.t 7) (.t 6))])
 (.seq (.cond (.t 8) .skip (.exit 0))
 (.seq (.block 1 (.seq (.region [oW 9 (.move (.t 7)), oW 10 (.indexAddr 5 (.t 5) (.t 7)), oW 11 (.load (some 5) (.t 10)), oW 4 (.alloc 62 5 (.agg [(.str []), (.int .i64 0), (.int .i64 0), (.int .i64 0), (.str [])])), oW 3 (.move (.t 9)), oZ (.store 5 (.t 4) (.t 11))])
 (.seq (.draw [oR 12 (.load (some 5) (.t 4)), oW 13 (.call (oF 151) [(.t 12)]), ⟨(some 14), .un .not (.t 13), none, .read, 1⟩, ⟨(some 15), .move (.t 14), none, .read, 1⟩, ⟨(some 16), .move (.t 3), (some (15, false)), .read, 1⟩, ⟨(some 17), .arith .gtr (.t 16) (oI 0), (some (15, false)), .read, 1⟩, ⟨(some 18), .move (.t 17), (some (15, false)), .read, 1⟩, ⟨(some 19), .move (.t 0), (some (18, true)), .read, 1⟩, ⟨(some 20), .move (.t 3), (some (18, true)), .read, 1⟩, ⟨(some 21), .arith .sub (.t 20) (oI 1), (some (18, true)), .read, 1⟩, ⟨(some 22), .indexAddr 5 (.t 19) (.t 21), (some (18, true)), .read, 1⟩, ⟨(some 23), .fieldAddr 0 (.t 22), (some (18, true)), .read, 1⟩, ⟨(some 24), .load none (.t 23), (some (18, true)), .read, 1⟩, ⟨(some 25), .fieldAddr 0 (.t 4), (some (18, true)), .read, 1⟩, ⟨(some 26), .load none (.t 25), (some (18, true)), .read, 1⟩, ⟨(some 27), .arith .geq (.t 24) (.t 26), (some (18, true)), .read, 1⟩, ⟨(some 28), .pick (.t 18) (.t 27) (oB false), (some (15, false)), .read, 1⟩, ⟨(some 29), .pick (.t 15) (oB true) (.t 28), none, .read, 1⟩])
 (.cond (.t 29) (.seq (.region [oW 2 (.move (oB false))])
 .ret) .skip))))
 (.region [oW 30 (.arith .add (.t 7) (oI 1)), oW 7 (.move (.t 30))]))))

def t105k0 : DCode :=
 (.seq (.region [oW 31 (.move (.t 0)), oW 32 (.len 1 (.t 31)), oW 33 (.arith .leq (.t 32) (oI 5)), oW 2 (.move (.t 33))])
 .ret)

/-- broadside/pred.Right -/
def t105 : DFunc := { ntmps := 34, results := [(.t 2)], mode := .pure, body :=
 (.seq (.region [oW 2 (.move (oB false))])
 (.seq (.seq (.region [oW 5 (.move (.t 0)), oW 6 (.len 1 (.t 5)), oW 7 (.move (oI 0))])
 (.block 0 (.loop t105l0)))
 t105k0)) }

theorem c105 : compFunc Tryz.prog Tryz.f105 .pure = some t105 := by kernel_rfl

/-- slices.ContainsFunc[[]broadside/api.Entry,broadside/api.Entry] -/
def t106 : DFunc := { ntmps := 9, results := [(.t 4)], mode := .pure, body :=
 (.seq (.region [oW 4 (.move (oB false))])
 (.seq (.region [oW 5 (.move (.t 0)), oW 6 (.move (.t 1)), oW 7 (.call (oF 146) [(.t 5), (.t 6)]), oW 8 (.arith .geq (.t 7) (oI 0)), oW 4 (.move (.t 8))])
 .ret)) }

theorem c106 : compFunc Tryz.prog Tryz.f106 .pure = some t106 := by kernel_rfl

/-- broadside/adverts.Right$6 -/
def t107 : DFunc := { ntmps := 8, results := [(.t 3)], mode := .pure, body :=
 (.seq (.region [oW 2 (.box 58 7 (.t 0)), oW 3 (.move (oB false))])
 (.seq (.region [oW 4 (.load (some 6) (.t 1)), oW 5 (.load (some 7) (.t 2)), oW 6 (.call (oF 108) [(.t 4), (.t 5)]), oW 7 (.un .not (.t 6)), oW 3 (.move (.t 7))])
 .ret)) }

theorem c107 : compFunc Tryz.prog Tryz.f107 .pure = some t107 := by kernel_rfl

/-- broadside/adverts.rightEntry -/
def t108 : DFunc := { ntmps := 48, results := [(.t 4)], mode := .pure, body :=
 (.seq (.region [oW 2 (.box 29 6 (.t 0)), oW 3 (.box 58 7 (.t 1)), oW 4 (.move (oB false))])
 (.seq (.region [oW 9 (.load (some 6) (.t 2)), oW 10 (.fieldAddr 0 (.t 3)), oW 11 (.load (some 2) (.t 10)), oW 12 (.call (oF 23) [(.t 9), (.t 11)]), oW 8 (.move (.t 12)), oW 13 (.extract (.t 8) 0), oW 14 (.extract (.t 8) 1), oW 5 (.alloc 42 4 (.agg [(.int .i64 0), (.int .i64 0), .nsl, (.int .i64 0)])), oZ (.store 4 (.t 5) (.t 13)), oW 6 (.move (.t 14))])
 (.seq (.region [oW 15 (.fieldAddr 3 (.t 5)), oW 16 (.load none (.t 15)), oW 17 (.arith .eql (.t 16) (oI (-1))), oW 7 (.move (.t 17))])
 (.seq (.region [oW 18 (.move (.t 6)), oW 19 (.move (.t 18)), ⟨(some 20), .load (some 6) (.t 2), (some (19, true)), .write, 0⟩, ⟨(some 21), .fieldAddr 5 (.t 3), (some (19, true)), .write, 0⟩, ⟨(some 22), .load none (.t 21), (some (19, true)), .write, 0⟩, ⟨(some 23), .call (oF 104) [(.t 20), (.t 22)], (some (19, true)), .write, 0⟩, oW 24 (.pick (.t 19) (.t 23) (oB false)), oW 25 (.move (.t 24)), ⟨(some 26), .fieldAddr 5 (.t 3), (some (25, true)), .write, 0⟩, ⟨(some 27), .load none (.t 26), (some (25, true)), .write, 0⟩, ⟨(some 28), .fieldAddr 3 (.t 5), (some (25, true)), .write, 0⟩, ⟨(some 29), .load none (.t 28), (some (25, true)), .write, 0⟩, ⟨(some 30), .arith .neq (.t 27) (.t 29), (some (25, true)), .write, 0⟩, ⟨(some 31), .move (.t 30), (some (25, true)), .write, 0⟩, ⟨(some 32), .move (.t 7), (some (31, false)), .write, 0⟩, ⟨(some 33), .pick (.t 31) (oB true) (.t 32), (some (25, true)), .write, 0⟩, oW 34 (.pick (.t 25) (.t 33) (oB false)), oW 35 (.move (.t 34)), ⟨(some 36), .fieldAddr 6 (.t 3), (some (35, true)), .write, 0⟩, ⟨(some 37), .load none (.t 36), (some (35, true)), .write, 0⟩, ⟨(some 38), .move (.t 37), (some (35, true)), .write, 0⟩, ⟨(some 39), .move (.t 7), (some (38, true)), .write, 0⟩, ⟨(some 40), .pick (.t 38) (.t 39) (oB false), (some (35, true)), .write, 0⟩, ⟨(some 41), .un .not (.t 40), (some (35, true)), .write, 0⟩, oW 42 (.pick (.t 35) (.t 41) (oB false)), oW 43 (.move (.t 42)), ⟨(some 44), .fieldAddr 4 (.t 3), (some (43, true)), .write, 0⟩, ⟨(some 45), .load none (.t 44), (some (43, true)), .write, 0⟩, ⟨(some 46), .call (oF 105) [(.t 45)], (some (43, true)), .write, 0⟩, oW 47 (.pick (.t 43) (.t 46) (oB false)), oW 4 (.move (.t 47))])
 .ret)))) }

theorem c108 : compFunc Tryz.prog Tryz.f108 .pure = some t108 := by kernel_rfl

/-- slices.ContainsFunc[[]broadside/api.Own,broadside/api.Own] -/
def t109 : DFunc := { ntmps := 9, results := [(.t 4)], mode := .pure, body :=
 (.seq (.region [oW 4 (.move (oB false))])
 (.seq (.region [oW 5 (.move (.t 0)), oW 6 (.move (.t 1)), oW 7 (.call (oF 152) [(.t 5), (.t 6)]), oW 8 (.arith .geq (.t 7) (oI 0)), oW 4 (.move (.t 8))])
 .ret)) }

theorem c109 : compFunc Tryz.prog Tryz.f109 .pure = some t109 := by kernel_rfl

/-- broadside/adverts.Right$7 -/
def t110 : DFunc := { ntmps := 7, results := [(.t 2)], mode := .pure, body :=
 (.seq (.region [oW 1 (.box 60 3 (.t 0)), oW 2 (.move (oB false))])
 (.seq (.region [oW 3 (.fieldAddr 2 (.t 1)), oW 4 (.load none (.t 3)), oW 5 (.call (oF 105) [(.t 4)]), oW 6 (.un .not (.t 5)), oW 2 (.move (.t 6))])
 .ret)) }

theorem c110 : compFunc Tryz.prog Tryz.f110 .pure = some t110 := by kernel_rfl

/-- broadside/subs.place -/
def t113 : DFunc := { ntmps := 15, results := [(.t 6), (.t 7)], mode := .pure, body :=
 (.seq (.region [oW 3 (.box 29 6 (.t 0)), oW 4 (.box 37 2 (.t 1)), oW 5 (.box 37 2 (.t 2)), oW 6 (.move (oI 0)), oW 7 (.move (oB false))])
 (.seq (.region [oW 8 (.fieldAddr 4 (.t 3)), oW 9 (.load none (.t 8)), oW 10 (.load (some 2) (.t 5)), oW 11 (.makeFunc 155 [(.t 4)]), oW 12 (.call (oF 154) [(.t 9), (.t 10), (.t 11)]), oW 13 (.extract (.t 12) 0), oW 14 (.extract (.t 12) 1), oW 6 (.move (.t 13)), oW 7 (.move (.t 14))])
 .ret)) }

theorem c113 : compFunc Tryz.prog Tryz.f113 .pure = some t113 := by kernel_rfl

/-- slices.Insert[[]broadside/api.Entry,broadside/api.Entry] -/
def t114 : DFunc := { ntmps := 95, results := [(.t 6)], mode := .split, body :=
 (.seq (.region [oW 6 (.move (.c .nsl))])
 (.seq (.region [oW 10 (.move (.t 0)), oW 11 (.move (.t 1)), oW 12 (.sliceSl 7 (.t 10) (some (.t 11)) none)])
 (.seq (.region [oW 13 (.move (.t 2)), oW 14 (.len 1 (.t 13)), oW 7 (.move (.t 14))])
 (.seq (.seq (.region [oW 15 (.move (.t 7)), oW 16 (.arith .eql (.t 15) (oI 0))])
 (.cond (.t 16) (.seq (.region [oW 17 (.move (.t 0)), oW 6 (.move (.t 17))])
 .ret) .skip))
 (.seq (.region [oW 18 (.move (.t 0)), oW 19 (.len 1 (.t 18)), oW 8 (.move (.t 19))])
 (.seq (.seq (.region [oW 20 (.move (.t 1)), oW 21 (.move (.t 8)), oW 22 (.arith .eql (.t 20) (.t 21))])
 (.cond (.t 22) (.seq (.region [oW 23 (.move (.t 0)), oW 24 (.move (.t 2)), oW 25 (.append 58 7 72 (.t 23) (.t 24)), oW 6 (.move (.t 25))])
 .ret) .skip))
 (.seq (.seq (.region [oW 26 (.move (.t 8)), oW 27 (.move (.t 7)), oW 28 (.arith .add (.t 26) (.t 27)), oW 29 (.move (.t 0)), oW 30 (.cap (.t 29)), oW 31 (.arith .gtr (.t 28) (.t 30))])
 (.cond (.t 31) (.seq (.region [oW 32 (.move (.t 0)), oW 33 (.move (.t 1)), oW 34 (.sliceSl 7 (.t 32) none (some (.t 33))), oW 35 (.move (.t 8)), oW 36 (.move (.t 7)), oW 37 (.arith .add (.t 35) (.t 36)), oW 38 (.move (.t 1)), oW 39 (.arith .sub (.t 37) (.t 38)), oW 40 (.appendZ 58 7 72 (.agg [(.int .i64 0), (.int .i64 0), (.int .i64 0), (.int .i64 0), .nsl, (.int .i64 0), (.bool false)]) (.t 34) (.t 39)), oW 9 (.move (.t 40))])
 (.seq (.region [oW 41 (.move (.t 9)), oW 42 (.move (.t 1)), oW 43 (.sliceSl 7 (.t 41) (some (.t 42)) none), oW 44 (.move (.t 2)), oW 45 (.copy 7 (.t 43) (.t 44))])
 (.seq (.draw [oR 46 (.move (.t 9)), oR 47 (.move (.t 1)), oR 48 (.move (.t 7)), oR 49 (.arith .add (.t 47) (.t 48)), oR 50 (.sliceSl 7 (.t 46) (some (.t 49)) none), oR 51 (.move (.t 0)), oR 52 (.move (.t 1)), oR 53 (.sliceSl 7 (.t 51) (some (.t 52)) none), oW 54 (.copy 7 (.t 50) (.t 53))])
 (.seq (.region [oW 55 (.move (.t 9)), oW 6 (.move (.t 55))])
 .ret)))) .skip))
 (.seq (.region [oW 56 (.move (.t 0)), oW 57 (.move (.t 8)), oW 58 (.move (.t 7)), oW 59 (.arith .add (.t 57) (.t 58)), oW 60 (.sliceSl 7 (.t 56) none (some (.t 59))), oW 0 (.move (.t 60))])
 (.seq (.seq (.region [oW 61 (.move (.t 2)), oW 62 (.move (.t 0)), oW 63 (.move (.t 1)), oW 64 (.move (.t 7)), oW 65 (.arith .add (.t 63) (.t 64)), oW 66 (.sliceSl 7 (.t 62) (some (.t 65)) none), oW 67 (.call (oF 156) [(.t 61), (.t 66)]), oW 68 (.un .not (.t 67))])
 (.cond (.t 68) (.seq (.draw [oR 69 (.move (.t 0)), oR 70 (.move (.t 1)), oR 71 (.move (.t 7)), oR 72 (.arith .add (.t 70) (.t 71)), oR 73 (.sliceSl 7 (.t 69) (some (.t 72)) none), oR 74 (.move (.t 0)), oR 75 (.move (.t 1)), oR 76 (.sliceSl 7 (.t 74) (some (.t 75)) none), oW 77 (.copy 7 (.t 73) (.t 76))])
 (.seq (.region [oW 78 (.move (.t 0)), oW 79 (.move (.t 1)), oW 80 (.sliceSl 7 (.t 78) (some (.t 79)) none), oW 81 (.move (.t 2)), oW 82 (.copy 7 (.t 80) (.t 81))])
 (.seq (.region [oW 83 (.move (.t 0)), oW 6 (.move (.t 83))])
 .ret))) .skip))
 (.seq (.region [oW 84 (.move (.t 0)), oW 85 (.move (.t 8)), oW 86 (.sliceSl 7 (.t 84) (some (.t 85)) none), oW 87 (.move (.t 2)), oW 88 (.copy 7 (.t 86) (.t 87))])
 (.seq (.region [oW 89 (.move (.t 0)), oW 90 (.move (.t 1)), oW 91 (.sliceSl 7 (.t 89) (some (.t 90)) none), oW 92 (.move (.t 7)), oW 93 (.call (oF 157) [(.t 91), (.t 92)])])
 (.seq (.region [oW 94 (.move (.t 0)), oW 6 (.move (.t 94))])
 .ret)))))))))))) }

theorem c114 : compFunc Tryz.prog Tryz.f114 .split = some t114 := by kernel_rfl

/-- broadside/broadsidelaw10.SubsRuns$1 -/
def t115 : DFunc := { ntmps := 9, results := [(.t 4)], mode := .pure, body :=
 (.seq (.region [oW 4 (.move (.c .nsl))])
 (.seq (.region [oW 5 (.move (.t 0)), oW 6 (.move (.t 1)), oW 7 (.build [(.str []), (.int .i64 0), (.int .i64 0), (.int .i64 0), (.str [])] [(0, 1, (.c (.str [97]))), (1, 1, (oI 1)), (2, 1, (.t 5)), (3, 1, (.t 6))]), oW 8 (.buildSlice 62 5 (.agg [(.str []), (.int .i64 0), (.int .i64 0), (.int .i64 0), (.str [])]) 1 [(0, (.t 7))]), oW 4 (.move (.t 8))])
 .ret)) }

theorem c115 : compFunc Tryz.prog Tryz.f115 .pure = some t115 := by kernel_rfl

/-- slices.Delete[[]broadside/api.Entry,broadside/api.Entry] -/
def t116 : DFunc := { ntmps := 33, results := [(.t 6)], mode := .full, body :=
 (.seq (.region [oW 6 (.move (.c .nsl))])
 (.seq (.region [oW 8 (.move (.t 0)), oW 9 (.move (.t 1)), oW 10 (.move (.t 2)), oW 11 (.move (.t 0)), oW 12 (.len 1 (.t 11)), oW 13 (.slice3 (.t 8) (.t 9) (.t 10) (.t 12))])
 (.seq (.seq (.region [oW 14 (.move (.t 1)), oW 15 (.move (.t 2)), oW 16 (.arith .eql (.t 14) (.t 15))])
 (.cond (.t 16) (.seq (.region [oW 17 (.move (.t 0)), oW 6 (.move (.t 17))])
 .ret) .skip))
 (.seq (.region [oW 18 (.move (.t 0)), oW 19 (.len 1 (.t 18)), oW 7 (.move (.t 19))])
 (.seq (.draw [oR 20 (.move (.t 0)), oR 21 (.move (.t 1)), oR 22 (.sliceSl 7 (.t 20) none (some (.t 21))), oR 23 (.move (.t 0)), oR 24 (.move (.t 2)), oR 25 (.sliceSl 7 (.t 23) (some (.t 24)) none), oW 26 (.append 58 7 72 (.t 22) (.t 25)), ⟨(some 0), .move (.t 26), none, .read, 1⟩])
 (.seq (.region [oW 27 (.move (.t 0)), oW 28 (.move (.t 0)), oW 29 (.len 1 (.t 28)), oW 30 (.move (.t 7)), oW 31 (.sliceSl 7 (.t 27) (some (.t 29)) (some (.t 30))), oZ (.clear 7 (.agg [(.int .i64 0), (.int .i64 0), (.int .i64 0), (.int .i64 0), .nsl, (.int .i64 0), (.bool false)]) (.t 31))])
 (.seq (.region [oW 32 (.move (.t 0)), oW 6 (.move (.t 32))])
 .ret))))))) }

theorem c116 : compFunc Tryz.prog Tryz.f116 .full = some t116 := by kernel_rfl

/-- broadside/subs.Covered$1 -/
def t117 : DFunc := { ntmps := 12, results := [(.t 3)], mode := .pure, body :=
 (.seq (.region [oW 2 (.box 58 7 (.t 0)), oW 3 (.move (oB false))])
 (.seq (.region [oW 4 (.fieldAddr 6 (.t 2)), oW 5 (.load none (.t 4)), oW 6 (.move (.t 5)), ⟨(some 7), .fieldAddr 4 (.t 2), (some (6, true)), .write, 0⟩, ⟨(some 8), .load none (.t 7), (some (6, true)), .write, 0⟩, ⟨(some 9), .load none (.t 1), (some (6, true)), .write, 0⟩, ⟨(some 10), .call (oF 54) [(.t 8), (.t 9)], (some (6, true)), .write, 0⟩, oW 11 (.pick (.t 6) (.t 10) (oB false)), oW 3 (.move (.t 11))])
 .ret)) }

theorem c117 : compFunc Tryz.prog Tryz.f117 .pure = some t117 := by kernel_rfl

def t118l0 : DCode :=
 (.seq (.region [oW 19 (.arith .lss (.t 18) (.t 17))])
 (.seq (.cond (.t 19) .skip (.exit 2))
 (.seq (.block 3 (.seq (.region [oW 20 (.indexAddr 5 (.t 16) (.t 18)), oW 21 (.load (some 5) (.t 20)), oW 9 (.alloc 62 5 (.agg [(.str []), (.int .i64 0), (.int .i64 0), (.int .i64 0), (.str [])])), oZ (.store 5 (.t 9) (.t 21))])
 (.region [oW 22 (.move (.t 7)), oW 23 (.move (.t 22)), ⟨(some 24), .fieldAddr 0 (.t 9), (some (23, false)), .write, 0⟩, ⟨(some 25), .load none (.t 24), (some (23, false)), .write, 0⟩, ⟨(some 26), .fieldAddr 0 (.t 6), (some (23, false)), .write, 0⟩, ⟨(some 27), .load none (.t 26), (some (23, false)), .write, 0⟩, ⟨(some 28), .arith .eql (.t 25) (.t 27), (some (23, false)), .write, 0⟩, ⟨(some 29), .move (.t 28), (some (23, false)), .write, 0⟩, ⟨(some 30), .load (some 5) (.t 9), (some (29, true)), .write, 0⟩, ⟨(some 31), .load (some 5) (.t 6), (some (29, true)), .write, 0⟩, ⟨(some 32), .call (oF 158) [(.t 30), (.t 31)], (some (29, true)), .write, 0⟩, ⟨(some 33), .pick (.t 29) (.t 32) (oB false), (some (23, false)), .write, 0⟩, oW 34 (.pick (.t 23) (oB true) (.t 33)), oW 7 (.move (.t 34))])))
 (.region [oW 35 (.arith .add (.t 18) (oI 1)), oW 18 (.move (.t 35))]))))

def t118k0 : DCode :=
 (.seq (.region [oW 36 (.move (.t 7)), oW 37 (.un .not (.t 36))])
 (.cond (.t 37) (.seq (.region [oW 4 (.move (oB false))])
 .ret) .skip))

def t118k1 : DCode :=
 (.region [oW 38 (.arith .add (.t 12) (oI 1)), oW 12 (.move (.t 38))])

def t118l1 : DCode :=
 (.seq (.region [oW 13 (.arith .lss (.t 12) (.t 11))])
 (.seq (.cond (.t 13) .skip (.exit 0))
 (.seq (.block 1 (.seq (.region [oW 14 (.indexAddr 5 (.t 10) (.t 12)), oW 15 (.load (some 5) (.t 14)), oW 6 (.alloc 62 5 (.agg [(.str []), (.int .i64 0), (.int .i64 0), (.int .i64 0), (.str [])])), oZ (.store 5 (.t 6) (.t 15))])
 (.seq (.region [oW 7 (.move (oB false))])
 (.seq (.seq (.region [oW 16 (.move (.t 1)), oW 17 (.len 1 (.t 16)), oW 18 (.move (oI 0))])
 (.block 2 (.loop t118l0)))
 t118k0))))
 t118k1)))

def t118k2 : DCode :=
 (.seq (.region [oW 4 (.move (oB true))])
 .ret)

/-- broadside/broadsideref1.Covers -/
def t118 : DFunc := { ntmps := 39, results := [(.t 4)], mode := .pure, body :=
 (.seq (.region [oW 4 (.move (oB false))])
 (.seq (.seq (.region [oW 10 (.move (.t 0)), oW 11 (.len 1 (.t 10)), oW 12 (.move (oI 0))])
 (.block 0 (.loop t118l1)))
 t118k2)) }

theorem c118 : compFunc Tryz.prog Tryz.f118 .pure = some t118 := by kernel_rfl

def t119l0 : DCode :=
 (.seq (.region [oW 13 (.arith .lss (.t 12) (.t 11))])
 (.seq (.cond (.t 13) .skip (.exit 0))
 (.seq (.block 1 (.seq (.region [oW 14 (.move (.t 12)), oW 15 (.indexAddr 7 (.t 10) (.t 12)), oW 16 (.load (some 7) (.t 15)), oW 8 (.alloc 58 7 (.agg [(.int .i64 0), (.int .i64 0), (.int .i64 0), (.int .i64 0), .nsl, (.int .i64 0), (.bool false)])), oW 7 (.move (.t 14)), oZ (.store 7 (.t 8) (.t 16))])
 (.seq (.region [oW 17 (.fieldAddr 0 (.t 8)), oW 18 (.load (some 2) (.t 17)), oW 19 (.load (some 2) (.t 4)), oW 20 (.eqa false [1, 1] (.t 18) (.t 19)), oW 21 (.move (.t 20)), ⟨(some 22), .fieldAddr 2 (.t 8), (some (21, true)), .write, 0⟩, ⟨(some 23), .load (some 2) (.t 22), (some (21, true)), .write, 0⟩, ⟨(some 24), .load (some 2) (.t 5), (some (21, true)), .write, 0⟩, ⟨(some 25), .eqa false [1, 1] (.t 23) (.t 24), (some (21, true)), .write, 0⟩, oW 26 (.pick (.t 21) (.t 25) (oB false))])
 (.cond (.t 26) (.seq (.region [oW 27 (.move (.t 7)), oW 6 (.move (.t 27))])
 .ret) .skip))))
 (.region [oW 28 (.arith .add (.t 12) (oI 1)), oW 12 (.move (.t 28))]))))

def t119k0 : DCode :=
 (.seq (.region [oW 6 (.move (oI (-1)))])
 .ret)

/-- broadside/broadsideref9.entry -/
def t119 : DFunc := { ntmps := 29, results := [(.t 6)], mode := .pure, body :=
 (.seq (.region [oW 3 (.box 29 6 (.t 0)), oW 4 (.box 37 2 (.t 1)), oW 5 (.box 37 2 (.t 2)), oW 6 (.move (oI 0))])
 (.seq (.seq (.region [oW 9 (.fieldAddr 4 (.t 3)), oW 10 (.load none (.t 9)), oW 11 (.len 1 (.t 10)), oW 12 (.move (oI 0))])
 (.block 0 (.loop t119l0)))
 t119k0)) }

theorem c119 : compFunc Tryz.prog Tryz.f119 .pure = some t119 := by kernel_rfl

/-- broadside/rel.wider -/
def t130 : DFunc := { ntmps := 45, results := [(.t 4)], mode := .pure, body :=
 (.seq (.region [oW 2 (.box 62 5 (.t 0)), oW 3 (.box 62 5 (.t 1)), oW 4 (.move (oB false))])
 (.seq (.seq (.region [oW 5 (.fieldAddr 1 (.t 3)), oW 6 (.load none (.t 5))])
 (.block 0 (.seq (.region [oW 8 (.arith .eql (.t 6) (oI 1)), oW 7 (.move (.t 8))])
 (.cond (.t 7) (.seq (.region [oW 9 (.fieldAddr 1 (.t 2)), oW 10 (.load none (.t 9)), oW 11 (.arith .eql (.t 10) (oI 1)), oW 12 (.move (.t 11)), ⟨(some 13), .fieldAddr 2 (.t 2), (some (12, true)), .write, 0⟩, ⟨(some 14), .load none (.t 13), (some (12, true)), .write, 0⟩, ⟨(some 15), .fieldAddr 2 (.t 3), (some (12, true)), .write, 0⟩, ⟨(some 16), .load none (.t 15), (some (12, true)), .write, 0⟩, ⟨(some 17), .arith .leq (.t 14) (.t 16), (some (12, true)), .write, 0⟩, oW 18 (.pick (.t 12) (.t 17) (oB false)), oW 19 (.move (.t 18)), ⟨(some 20), .fieldAddr 3 (.t 3), (some (19, true)), .write, 0⟩, ⟨(some 21), .load none (.t 20), (some (19, true)), .write, 0⟩, ⟨(some 22), .fieldAddr 3 (.t 2), (some (19, true)), .write, 0⟩, ⟨(some 23), .load none (.t 22), (some (19, true)), .write, 0⟩, ⟨(some 24), .arith .leq (.t 21) (.t 23), (some (19, true)), .write, 0⟩, oW 25 (.pick (.t 19) (.t 24) (oB false)), oW 4 (.move (.t 25))])
 .ret) (.seq (.region [oW 27 (.arith .eql (.t 6) (oI 3)), oW 26 (.move (.t 27))])
 (.cond (.t 26) (.seq (.region [oW 28 (.fieldAddr 1 (.t 2)), oW 29 (.load none (.t 28)), oW 30 (.arith .eql (.t 29) (oI 3)), oW 31 (.move (.t 30)), ⟨(some 32), .fieldAddr 4 (.t 3), (some (31, true)), .write, 0⟩, ⟨(some 33), .load none (.t 32), (some (31, true)), .write, 0⟩, ⟨(some 34), .fieldAddr 4 (.t 2), (some (31, true)), .write, 0⟩, ⟨(some 35), .load none (.t 34), (some (31, true)), .write, 0⟩, ⟨(some 36), .call (oF 166) [(.t 33), (.t 35)], (some (31, true)), .write, 0⟩, oW 37 (.pick (.t 31) (.t 36) (oB false)), oW 4 (.move (.t 37))])
 .ret) (.seq (.region [oW 39 (.arith .eql (.t 6) (oI 2)), oW 38 (.move (.t 39))])
 (.cond (.t 38) (.seq (.draw [oR 40 (.load (some 5) (.t 2)), oR 41 (.fieldAddr 4 (.t 3)), oR 42 (.load none (.t 41)), ⟨(some 43), .call (oF 168) [(.t 42)], none, .create, 0⟩, ⟨(some 44), .call (oF 167) [(.t 40), (.t 43)], none, .write, 1⟩, ⟨(some 4), .move (.t 44), none, .read, 2⟩])
 .ret) .skip))))))))
 (.seq (.region [oW 4 (.move (oB false))])
 .ret))) }

theorem c130 : compFunc Tryz.prog Tryz.f130 .pure = some t130 := by kernel_rfl

end Go.Dm.Tc
