/-
How the ways of a graph are compared; the sorting's contracts at this program.
-/
import Derived.Test.YtfkbogedodngeaaGreatTwE
import Derived.Test.YtfkbogedodngeaaGreatMm5
namespace Go.Dm.Tw

theorem Wy(a : Int) : pcF D Ad [.int .i64 a] = some (.bool false) := by
  unfold pcF
  rw[aM _ _ _ _ (by simp[Ad])]
  simp[Ad]
def cmpI(a b : Int) : Int := if a < b then -1 else if b < a then 1 else 0
theorem QU(a b : Int) : pcF D tA [.int .i64 a, .int .i64 b] = some (.int .i64 (cmpI a b)) := by
  unfold pcF
  rw[aM _ _ _ _ (by simp[tA])]
  by_cases h1 : a < b
  · simp[tA, A9, Wy, h1, cmpI]
  · by_cases h2 : b < a
    · simp[tA, A9, Wy, h1, h2, cmpI]
    · simp[tA, A9, Wy, h1, h2, cmpI]
def orI(a b : Int) : Int := if a = 0 then b else a
theorem QV(t : Bool)(a b : Int) : pcF D Ae [.isl t 1 [.int .i64 a, .int .i64 b]] = some (.int .i64 (orI a b)) := by
  unfold pcF
  rw[aM _ _ _ _ (by simp[Ae])]
  simp[Ae]
  rw[aG rP.eq_1]
  by_cases h1 : a = 0
  · simp[h1, orI, aR, asI]
    rw[aG rP.eq_1]
    by_cases h2 : b = 0
    · simp[h2, aR, asI]
      rw[aG rP.eq_1]
      simp[Du]
    · simp[h2, aR, asI]
  · simp[h1, orI, aR, asI]
theorem s133(a b c d : Int) : pcF D Dt [.agg [.int .i64 a, .int .i64 b], .agg [.int .i64 c, .int .i64 d]] = some (.int .i64 (orI (cmpI a c) (cmpI b d))) := by
  have x0 : ∀ id, jB 2 1 (.ptr id 2 0 0) (.int .i64 0) = some (.ptr id 2 0 0) := fun id => _root_.id rfl
  have x1 : ∀ id, jB 2 1 (.ptr id 2 0 0) (.int .i64 1) = some (.ptr id 2 0 1) := fun id => _root_.id rfl
  have hO := QV true (cmpI a c) (cmpI b d)
  unfold pcF
  rw[aM _ _ _ _ (by simp[Dt])]
  simp[Dt, x0, x1, SU, QU, SV, hO, mkIsl, turn]
theorem q133(a b c d : Int) : fc D 133 [.agg [.int .i64 a, .int .i64 b], .agg [.int .i64 c, .int .i64 d]] iH = some (.int .i64 (orI (cmpI a c) (cmpI b d)), iH) := by
  rw[WS]
  show rH D Dt iH (some [.agg [.int .i64 a, .int .i64 b], .agg [.int .i64 c, .int .i64 d]]) = _
  rw[sO, s133 a b c d]
  rfl
end Go.Dm.Tw
