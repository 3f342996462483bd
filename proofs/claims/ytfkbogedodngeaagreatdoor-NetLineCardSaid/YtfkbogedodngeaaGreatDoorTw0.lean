/- A part of the proof. -/
import Derived.Test.YtfkbogedodngeaaGreatDoorMm4
import Derived.Test.YtfkbogedodngeaaGreatDoorRows
import Derived.KernelRfl
namespace Go.Dm.Tw
open Go.Proofs

/-- broadside/graph.Ways$1 -/
def Fw : aL := { ntmps := 17, results := [(.t 4)], mode := .pure, body :=
 (.seq (.region [oW 2 (.box 86 2 (.t 0)), oW 3 (.box 86 2 (.t 1)), oW 4 (.move (oI 0))])
 (.seq (.draw [oR 5 (.indexArr 2 1 (.t 2) (oI 0)), oRD 6 5, oR 7 (.indexArr 2 1 (.t 3) (oI 0)), oRD 8 7, ⟨(some 9), .call (oF 105) [(.t 6), (.t 8)], none, .create, 0, false⟩, oR 10 (.indexArr 2 1 (.t 2) (oI 1)), oRD 11 10, oR 12 (.indexArr 2 1 (.t 3) (oI 1)), oRD 13 12, ⟨(some 14), .call (oF 105) [(.t 11), (.t 13)], none, .write, 1, false⟩, ⟨(some 15), .buildSlice 3 1 (.int .i64 0) 2 [(0, (.t 9)), (1, (.t 14))], none, .create, 0, false⟩, ⟨(some 16), .call (oF 104) [(.t 15)], none, .write, 3, false⟩, ⟨(some 4), .move (.t 16), none, .read, 4, false⟩])
 .ret)) }

theorem XN : aD Tryz.prog Tryz.f103 .pure = some Fw := by kernel_rfl

def sW : aI :=
 (.seq (.region [oW 9 (.arith .lss (.t 8) (.t 7))])
 (.seq (.cond (.t 9) .skip (.exit 0))
 (.seq (.block 1 (.seq (.region [oW 10 (.indexAddr 1 (.t 6) (.t 8)), oD 11 10, oM 5 11])
 (.seq (.region [oM 12 5, oM 13 3, oW 14 (.arith .neq (.t 12) (.t 13))])
 (.cond (.t 14) (.seq (.region [oM 15 5, oM 2 15])
 .ret) .skip))))
 (.region [oW 16 (.arith .add (.t 8) (oI 1)), oM 8 16]))))

def Fv : aI :=
 (.seq (.region [oM 17 3, oM 2 17])
 .ret)

/-- cmp.Or[int] -/
def Ca : aL := { ntmps := 18, results := [(.t 2)], mode := .pure, body :=
 (.seq (.region [oW 2 (.move (oI 0))])
 (.seq (.region [oW 3 (.move (oI 0))])
 (.seq (.seq (.region [oM 6 0, oW 7 (.len 1 (.t 6)), oW 8 (.move (oI 0))])
 (.block 0 (.loop sW)))
 Fv))) }

theorem XM : aD Tryz.prog Tryz.f104 .pure = some Ca := by kernel_rfl

/-- cmp.Compare[int] -/
def uR : aL := { ntmps := 20, results := [(.t 4)], mode := .pure, body :=
 (.seq (.region [oW 4 (.move (oI 0))])
 (.seq (.region [oM 7 0, oW 8 (.call (oF 193) [(.t 7)]), oM 5 8])
 (.seq (.region [oM 9 1, oW 10 (.call (oF 193) [(.t 9)]), oM 6 10])
 (.seq (.seq (.region [oM 11 5])
 (.cond (.t 11) (.seq (.seq (.region [oM 12 6])
 (.cond (.t 12) (.seq (.region [oW 4 (.move (oI 0))])
 .ret) .skip))
 (.seq (.region [oW 4 (.move (oI (-1)))])
 .ret)) .skip))
 (.seq (.seq (.region [oM 13 6])
 (.cond (.t 13) (.seq (.region [oW 4 (.move (oI 1))])
 .ret) .skip))
 (.seq (.seq (.region [oM 14 0, oM 15 1, oW 16 (.arith .lss (.t 14) (.t 15))])
 (.cond (.t 16) (.seq (.region [oW 4 (.move (oI (-1)))])
 .ret) .skip))
 (.seq (.seq (.region [oM 17 0, oM 18 1, oW 19 (.arith .gtr (.t 17) (.t 18))])
 (.cond (.t 19) (.seq (.region [oW 4 (.move (oI 1))])
 .ret) .skip))
 (.seq (.region [oW 4 (.move (oI 0))])
 .ret)))))))) }

theorem XL : aD Tryz.prog Tryz.f105 .pure = some uR := by kernel_rfl

/-- cmp.isNaN[int] -/
def Bz : aL := { ntmps := 6, results := [(.t 2)], mode := .pure, body :=
 (.seq (.region [oW 2 (.move (oB false))])
 (.seq (.region [oM 3 0, oM 4 0, oW 5 (.arith .neq (.t 3) (.t 4)), oM 2 5])
 .ret)) }

theorem XK : aD Tryz.prog Tryz.f193 .pure = some Bz := by kernel_rfl

end Go.Dm.Tw
