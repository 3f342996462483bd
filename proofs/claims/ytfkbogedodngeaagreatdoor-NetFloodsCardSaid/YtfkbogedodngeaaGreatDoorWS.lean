/-
How the ways of a graph are compared; the sorting's contracts at this program.
-/
import Derived.Test.YtfkbogedodngeaaGreatDoorTwE
import Derived.Test.YtfkbogedodngeaaGreatDoorMm5
namespace Go.Dm.Tw

theorem Yw(a : Int) : pcF D Bf [.int .i64 a] = some (.bool false) := by
  unfold pcF
  rw[aM _ _ _ _ (by simp[Bf])]
  simp[Bf]
def cmpI(a b : Int) : Int := if a < b then -1 else if b < a then 1 else 0
theorem UK(a b : Int) : pcF D uJ [.int .i64 a, .int .i64 b] = some (.int .i64 (cmpI a b)) := by
  unfold pcF
  rw[aM _ _ _ _ (by simp[uJ])]
  by_cases h1 : a < b
  · simp[uJ, I8, Yw, h1, cmpI]
  · by_cases h2 : b < a
    · simp[uJ, I8, Yw, h1, h2, cmpI]
    · simp[uJ, I8, Yw, h1, h2, cmpI]
def orI(a b : Int) : Int := if a = 0 then b else a
theorem UL(t : Bool)(a b : Int) : pcF D Bg [.isl t 1 [.int .i64 a, .int .i64 b]] = some (.int .i64 (orI a b)) := by
  unfold pcF
  rw[aM _ _ _ _ (by simp[Bg])]
  simp[Bg]
  rw[aJ sP.eq_1]
  by_cases h1 : a = 0
  · simp[h1, orI, aQ, asI]
    rw[aJ sP.eq_1]
    by_cases h2 : b = 0
    · simp[h2, aQ, asI]
      rw[aJ sP.eq_1]
      simp[Fj]
    · simp[h2, aQ, asI]
  · simp[h1, orI, aQ, asI]
theorem s103(a b c d : Int) : pcF D Fk [.agg [.int .i64 a, .int .i64 b], .agg [.int .i64 c, .int .i64 d]] = some (.int .i64 (orI (cmpI a c) (cmpI b d))) := by
  have x0 : ∀ id, jJ 2 1 (.ptr id 2 0 0) (.int .i64 0) = some (.ptr id 2 0 0) := fun id => _root_.id rfl
  have x1 : ∀ id, jJ 2 1 (.ptr id 2 0 0) (.int .i64 1) = some (.ptr id 2 0 1) := fun id => _root_.id rfl
  have hO := UL true (cmpI a c) (cmpI b d)
  unfold pcF
  rw[aM _ _ _ _ (by simp[Fk])]
  simp[Fk, x0, x1, WO, UK, WP, hO, mkIsl, turn]
theorem q103(a b c d : Int) : fc D 103 [.agg [.int .i64 a, .int .i64 b], .agg [.int .i64 c, .int .i64 d]] iK = some (.int .i64 (orI (cmpI a c) (cmpI b d)), iK) := by
  rw[t9]
  show sG D Fk iK (some [.agg [.int .i64 a, .int .i64 b], .agg [.int .i64 c, .int .i64 d]]) = _
  rw[tP, s103 a b c d]
  rfl
end Go.Dm.Tw
