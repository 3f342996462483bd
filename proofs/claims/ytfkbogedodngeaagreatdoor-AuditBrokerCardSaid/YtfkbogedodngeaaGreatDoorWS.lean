/-
How the ways of a graph are compared; the sorting's contracts at this program.
-/
import Derived.Test.YtfkbogedodngeaaGreatDoorTwE
import Derived.Test.YtfkbogedodngeaaGreatDoorMm5
namespace Go.Dm.Tw

theorem F0(a : Int) : pcF D Ct [.int .i64 a] = some (.bool false) := by
  unfold pcF
  rw[aP _ _ _ _ (by simp[Ct])]
  simp[Ct]
def cmpI(a b : Int) : Int := if a < b then -1 else if b < a then 1 else 0
theorem VV(a b : Int) : pcF D wA [.int .i64 a, .int .i64 b] = some (.int .i64 (cmpI a b)) := by
  unfold pcF
  rw[aP _ _ _ _ (by simp[wA])]
  by_cases h1 : a < b
  · simp[wA, P7, F0, h1, cmpI]
  · by_cases h2 : b < a
    · simp[wA, P7, F0, h1, h2, cmpI]
    · simp[wA, P7, F0, h1, h2, cmpI]
def orI(a b : Int) : Int := if a = 0 then b else a
theorem PM(t : Bool)(a b : Int) : pcF D Cv [.isl t 1 [.int .i64 a, .int .i64 b]] = some (.int .i64 (orI a b)) := by
  unfold pcF
  rw[aP _ _ _ _ (by simp[Cv])]
  simp[Cv]
  rw[aC uA.eq_1]
  by_cases h1 : a = 0
  · simp[h1, orI, bY, asI]
    rw[aC uA.eq_1]
    by_cases h2 : b = 0
    · simp[h2, bY, asI]
      rw[aC uA.eq_1]
      simp[Hg]
    · simp[h2, bY, asI]
  · simp[h1, orI, bY, asI]
theorem s103(a b c d : Int) : pcF D Hh [.agg [.int .i64 a, .int .i64 b], .agg [.int .i64 c, .int .i64 d]] = some (.int .i64 (orI (cmpI a c) (cmpI b d))) := by
  have x0 : ∀ id, tH 2 1 (.ptr id 2 0 0) (.int .i64 0) = some (.ptr id 2 0 0) := fun id => _root_.id rfl
  have x1 : ∀ id, tH 2 1 (.ptr id 2 0 0) (.int .i64 1) = some (.ptr id 2 0 1) := fun id => _root_.id rfl
  have hO := PM true (cmpI a c) (cmpI b d)
  unfold pcF
  rw[aP _ _ _ _ (by simp[Hh])]
  simp[Hh, x0, x1, XW, VV, SD, hO, mkIsl, turn]
theorem q103(a b c d : Int) : fc D 103 [.agg [.int .i64 a, .int .i64 b], .agg [.int .i64 c, .int .i64 d]] lQ = some (.int .i64 (orI (cmpI a c) (cmpI b d)), lQ) := by
  rw[w7]
  show tP D Hh lQ (some [.agg [.int .i64 a, .int .i64 b], .agg [.int .i64 c, .int .i64 d]]) = _
  rw[vI, s103 a b c d]
  rfl
end Go.Dm.Tw
