/-
How the ways of a graph are compared; the sorting's contracts at this program.
-/
import Derived.Test.YtloabemenciijaaGreatDoorTwE
import Derived.Test.YtloabemenciijaaGreatDoorMm5
namespace Go.Dm.Tw

theorem Pk(a : Int) : pcF D vL [.int .i64 a] = some (.bool false) := by
  unfold pcF
  rw[dI _ _ _ _ (by simp[vL])]
  simp[vL]
def cmpI(a b : Int) : Int := if a < b then -1 else if b < a then 1 else 0
theorem RM(a b : Int) : pcF D pF [.int .i64 a, .int .i64 b] = some (.int .i64 (cmpI a b)) := by
  unfold pcF
  rw[dI _ _ _ _ (by simp[pF])]
  by_cases h1 : a < b
  · simp[pF, So, Pk, h1, cmpI]
  · by_cases h2 : b < a
    · simp[pF, So, Pk, h1, h2, cmpI]
    · simp[pF, So, Pk, h1, h2, cmpI]
def orI(a b : Int) : Int := if a = 0 then b else a
theorem RN(t : Bool)(a b : Int) : pcF D vM [.isl t 1 [.int .i64 a, .int .i64 b]] = some (.int .i64 (orI a b)) := by
  unfold pcF
  rw[dI _ _ _ _ (by simp[vM])]
  simp[vM]
  rw[cL nN.eq_1]
  by_cases h1 : a = 0
  · simp[h1, orI, bG, asI]
    rw[cL nN.eq_1]
    by_cases h2 : b = 0
    · simp[h2, bG, asI]
      rw[cL nN.eq_1]
      simp[yU]
    · simp[h2, bG, asI]
  · simp[h1, orI, bG, asI]
theorem s131(a b c d : Int) : pcF D yT [.agg [.int .i64 a, .int .i64 b], .agg [.int .i64 c, .int .i64 d]] = some (.int .i64 (orI (cmpI a c) (cmpI b d))) := by
  have x0 : ∀ id, jB 2 1 (.ptr id 2 0 0) (.int .i64 0) = some (.ptr id 2 0 0) := fun id => _root_.id rfl
  have x1 : ∀ id, jB 2 1 (.ptr id 2 0 0) (.int .i64 1) = some (.ptr id 2 0 1) := fun id => _root_.id rfl
  have hO := RN true (cmpI a c) (cmpI b d)
  unfold pcF
  rw[dI _ _ _ _ (by simp[yT])]
  simp[yT, x0, x1, SO, RM, SR, hO, mkIsl, turn]
theorem q131(a b c d : Int) : fc D 131 [.agg [.int .i64 a, .int .i64 b], .agg [.int .i64 c, .int .i64 d]] fM = some (.int .i64 (orI (cmpI a c) (cmpI b d)), fM) := by
  rw[SP]
  show nA D yT fM (some [.agg [.int .i64 a, .int .i64 b], .agg [.int .i64 c, .int .i64 d]]) = _
  rw[oV, s131 a b c d]
  rfl
end Go.Dm.Tw
