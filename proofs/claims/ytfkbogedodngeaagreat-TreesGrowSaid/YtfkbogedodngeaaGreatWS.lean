/-
How the ways of a graph are compared; the sorting's contracts at this program.
-/
import Derived.Test.YtfkbogedodngeaaGreatTwE
import Derived.Test.YtfkbogedodngeaaGreatMm5
namespace Go.Dm.Tw

theorem Xb(a : Int) : pcF D Af [.int .i64 a] = some (.bool false) := by
  unfold pcF
  rw[aM _ _ _ _ (by simp[Af])]
  simp[Af]
def cmpI(a b : Int) : Int := if a < b then -1 else if b < a then 1 else 0
theorem RF(a b : Int) : pcF D tG [.int .i64 a, .int .i64 b] = some (.int .i64 (cmpI a b)) := by
  unfold pcF
  rw[aM _ _ _ _ (by simp[tG])]
  by_cases h1 : a < b
  · simp[tG, B4, Xb, h1, cmpI]
  · by_cases h2 : b < a
    · simp[tG, B4, Xb, h1, h2, cmpI]
    · simp[tG, B4, Xb, h1, h2, cmpI]
def orI(a b : Int) : Int := if a = 0 then b else a
theorem RG(t : Bool)(a b : Int) : pcF D Ag [.isl t 1 [.int .i64 a, .int .i64 b]] = some (.int .i64 (orI a b)) := by
  unfold pcF
  rw[aM _ _ _ _ (by simp[Ag])]
  simp[Ag]
  rw[aG rS.eq_1]
  by_cases h1 : a = 0
  · simp[h1, orI, aS, asI]
    rw[aG rS.eq_1]
    by_cases h2 : b = 0
    · simp[h2, aS, asI]
      rw[aG rS.eq_1]
      simp[Ea]
    · simp[h2, aS, asI]
  · simp[h1, orI, aS, asI]
theorem s133(a b c d : Int) : pcF D Dz [.agg [.int .i64 a, .int .i64 b], .agg [.int .i64 c, .int .i64 d]] = some (.int .i64 (orI (cmpI a c) (cmpI b d))) := by
  have x0 : ∀ id, iZ 2 1 (.ptr id 2 0 0) (.int .i64 0) = some (.ptr id 2 0 0) := fun id => _root_.id rfl
  have x1 : ∀ id, iZ 2 1 (.ptr id 2 0 0) (.int .i64 1) = some (.ptr id 2 0 1) := fun id => _root_.id rfl
  have hO := RG true (cmpI a c) (cmpI b d)
  unfold pcF
  rw[aM _ _ _ _ (by simp[Dz])]
  simp[Dz, x0, x1, TF, RF, TG, hO, mkIsl, turn]
theorem q133(a b c d : Int) : fc D 133 [.agg [.int .i64 a, .int .i64 b], .agg [.int .i64 c, .int .i64 d]] iH = some (.int .i64 (orI (cmpI a c) (cmpI b d)), iH) := by
  rw[XA]
  show rI D Dz iH (some [.agg [.int .i64 a, .int .i64 b], .agg [.int .i64 c, .int .i64 d]]) = _
  rw[sS, s133 a b c d]
  rfl
end Go.Dm.Tw
