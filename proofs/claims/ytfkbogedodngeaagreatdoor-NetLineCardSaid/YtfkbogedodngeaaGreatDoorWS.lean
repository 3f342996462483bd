/-
How the ways of a graph are compared; the sorting's contracts at this program.
-/
import Derived.Test.YtfkbogedodngeaaGreatDoorTwE
import Derived.Test.YtfkbogedodngeaaGreatDoorMm5
namespace Go.Dm.Tw

theorem Za(a : Int) : pcF D Bz [.int .i64 a] = some (.bool false) := by
  unfold pcF
  rw[aP _ _ _ _ (by simp[Bz])]
  simp[Bz]
def cmpI(a b : Int) : Int := if a < b then -1 else if b < a then 1 else 0
theorem UR(a b : Int) : pcF D uR [.int .i64 a, .int .i64 b] = some (.int .i64 (cmpI a b)) := by
  unfold pcF
  rw[aP _ _ _ _ (by simp[uR])]
  by_cases h1 : a < b
  · simp[uR, K7, Za, h1, cmpI]
  · by_cases h2 : b < a
    · simp[uR, K7, Za, h1, h2, cmpI]
    · simp[uR, K7, Za, h1, h2, cmpI]
def orI(a b : Int) : Int := if a = 0 then b else a
theorem US(t : Bool)(a b : Int) : pcF D Ca [.isl t 1 [.int .i64 a, .int .i64 b]] = some (.int .i64 (orI a b)) := by
  unfold pcF
  rw[aP _ _ _ _ (by simp[Ca])]
  simp[Ca]
  rw[aO sW.eq_1]
  by_cases h1 : a = 0
  · simp[h1, orI, aS, asI]
    rw[aO sW.eq_1]
    by_cases h2 : b = 0
    · simp[h2, aS, asI]
      rw[aO sW.eq_1]
      simp[Fv]
    · simp[h2, aS, asI]
  · simp[h1, orI, aS, asI]
theorem s103(a b c d : Int) : pcF D Fw [.agg [.int .i64 a, .int .i64 b], .agg [.int .i64 c, .int .i64 d]] = some (.int .i64 (orI (cmpI a c) (cmpI b d))) := by
  have x0 : ∀ id, jI 2 1 (.ptr id 2 0 0) (.int .i64 0) = some (.ptr id 2 0 0) := fun id => _root_.id rfl
  have x1 : ∀ id, jI 2 1 (.ptr id 2 0 0) (.int .i64 1) = some (.ptr id 2 0 1) := fun id => _root_.id rfl
  have hO := US true (cmpI a c) (cmpI b d)
  unfold pcF
  rw[aP _ _ _ _ (by simp[Fw])]
  simp[Fw, x0, x1, XC, UR, XD, hO, mkIsl, turn]
theorem q103(a b c d : Int) : fc D 103 [.agg [.int .i64 a, .int .i64 b], .agg [.int .i64 c, .int .i64 d]] jA = some (.int .i64 (orI (cmpI a c) (cmpI b d)), jA) := by
  rw[e103]
  show sQ D Fw jA (some [.agg [.int .i64 a, .int .i64 b], .agg [.int .i64 c, .int .i64 d]]) = _
  rw[qC, s103 a b c d]
  rfl
end Go.Dm.Tw
