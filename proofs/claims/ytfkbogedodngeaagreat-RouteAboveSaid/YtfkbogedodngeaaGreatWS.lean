/-
How the ways of a graph are compared; the sorting's contracts at this program.
-/
import Derived.Test.YtfkbogedodngeaaGreatTwE
import Derived.Test.YtfkbogedodngeaaGreatMm5
namespace Go.Dm.Tw

theorem Wy(a : Int) : pcF D Av [.int .i64 a] = some (.bool false) := by
  unfold pcF
  rw[aM _ _ _ _ (by simp[Av])]
  simp[Av]
def cmpI(a b : Int) : Int := if a < b then -1 else if b < a then 1 else 0
theorem NZ(a b : Int) : pcF D uO [.int .i64 a, .int .i64 b] = some (.int .i64 (cmpI a b)) := by
  unfold pcF
  rw[aM _ _ _ _ (by simp[uO])]
  by_cases h1 : a < b
  · simp[uO, Zy, Wy, h1, cmpI]
  · by_cases h2 : b < a
    · simp[uO, Zy, Wy, h1, h2, cmpI]
    · simp[uO, Zy, Wy, h1, h2, cmpI]
def orI(a b : Int) : Int := if a = 0 then b else a
theorem OA(t : Bool)(a b : Int) : pcF D Aw [.isl t 1 [.int .i64 a, .int .i64 b]] = some (.int .i64 (orI a b)) := by
  unfold pcF
  rw[aM _ _ _ _ (by simp[Aw])]
  simp[Aw]
  rw[aO sY.eq_1]
  by_cases h1 : a = 0
  · simp[h1, orI, cF, asI]
    rw[aO sY.eq_1]
    by_cases h2 : b = 0
    · simp[h2, cF, asI]
      rw[aO sY.eq_1]
      simp[Ek]
    · simp[h2, cF, asI]
  · simp[h1, orI, cF, asI]
theorem s133(a b c d : Int) : pcF D Wi [.agg [.int .i64 a, .int .i64 b], .agg [.int .i64 c, .int .i64 d]] = some (.int .i64 (orI (cmpI a c) (cmpI b d))) := by
  have x0 : ∀ id, sG 2 1 (.ptr id 2 0 0) (.int .i64 0) = some (.ptr id 2 0 0) := fun id => _root_.id rfl
  have x1 : ∀ id, sG 2 1 (.ptr id 2 0 0) (.int .i64 1) = some (.ptr id 2 0 1) := fun id => _root_.id rfl
  have hO := OA true (cmpI a c) (cmpI b d)
  unfold pcF
  rw[aM _ _ _ _ (by simp[Wi])]
  simp[Wi, x0, x1, PM, NZ, PN, hO, mkIsl, turn]
theorem q133(a b c d : Int) : fc D 133 [.agg [.int .i64 a, .int .i64 b], .agg [.int .i64 c, .int .i64 d]] lD = some (.int .i64 (orI (cmpI a c) (cmpI b d)), lD) := by
  rw[UD]
  show sN D Wi lD (some [.agg [.int .i64 a, .int .i64 b], .agg [.int .i64 c, .int .i64 d]]) = _
  rw[uA, s133 a b c d]
  rfl
end Go.Dm.Tw
