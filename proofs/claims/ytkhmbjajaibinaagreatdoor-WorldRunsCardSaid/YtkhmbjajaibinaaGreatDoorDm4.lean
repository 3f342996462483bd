/-
Part 4 of "Dm": operations that write nothing do what the machine says.
-/
import Derived.Test.YtkhmbjajaibinaaGreatDoorDm3
namespace Go.Dm

section
variable {P : Program} {h h' : Heap} {c : Ctx} {env : Env} {a : Act} {o : Oper} {r : DV}

theorem s_move {x : Operand} {x' : Opd} (ho : o.op = .move x ∨ o.op = .assign x) (hx : opd x = some x') (_hR : Rel h c) (hE : EnvR c env a) (hs : stepOp h env (.move x') = some (r, h')) : Steps0 P h c o a h' r := by
  simp only [stepOp, Option.some.injEq, Prod.mk.injEq] at hs
  obtain ⟨rfl, rfl⟩ := hs
  refine Steps0.value (a.eval x) ?_ (opd_VR hx hE)
  rcases ho with ho | ho <;> simp [execOp, ho]

theorem s_pick {x y z : Operand} {x' y' z' : Opd} (ho : o.op = .pick x y z) (hx : opd x = some x') (hy : opd y = some y') (hz : opd z = some z') (_hR : Rel h c) (hE : EnvR c env a)
    (hs : stepOp h env (.pick x' y' z') = some (r, h')) : Steps0 P h c o a h' r := by
  have vx := opd_VR hx hE
  simp only [stepOp] at hs
  split at hs
  · rename_i t ht
    rw [ht] at vx
    simp only [Option.some.injEq, Prod.mk.injEq] at hs
    obtain ⟨rfl, rfl⟩ := hs
    generalize hvx : a.eval x = vv at vx
    cases vx
    refine Steps0.value (if t then a.eval y else a.eval z) ?_ ?_
    · cases t <;> simp [execOp, ho, hvx, asBool]
    · cases t
      · exact opd_VR hz hE
      · exact opd_VR hy hE
  · cases hs

theorem arith_int {op : BinOp} {k k' : IntKind} {x y : Int} {t : TypeId} {w : World} (hs : arithD op (.int k x) (.int k' y) = some r) : ∃ v, (binOp op t (.int k x) (.int k' y)).run P w = .ok v w ∧ ∀ c, VR c r v := by
  cases op
  case shl =>
    simp only [arithD] at hs
    split at hs
    · cases hs
    · rename_i hy; cases hs; exact ⟨_, by simp [binOp, Op.shift, hy], fun c => .int _ _⟩
  case shr =>
    simp only [arithD] at hs
    split at hs
    · cases hs
    · rename_i hy; cases hs; exact ⟨_, by simp [binOp, Op.shift, hy], fun c => .int _ _⟩
  case quo =>
    simp only [arithD] at hs
    split at hs
    · rename_i hk; subst hk
      split at hs
      · cases hs
      · rename_i hy; cases hs; exact ⟨_, by simp [binOp, Op.intDiv, hy], fun c => .int _ _⟩
    · cases hs
  case rem =>
    simp only [arithD] at hs
    split at hs
    · rename_i hk; subst hk
      split at hs
      · cases hs
      · rename_i hy; cases hs; exact ⟨_, by simp [binOp, Op.intDiv, hy], fun c => .int _ _⟩
    · cases hs
  case andNot =>
    simp only [arithD] at hs
    split at hs
    · rename_i hk; subst hk
      cases hs
      refine ⟨.int k (k.wrap (BitVec.ofInt k.bits x &&& ~~~ BitVec.ofInt k.bits y).toNat), ?_, fun c => .int _ _⟩
      unfold binOp
      simp only [ne_eq, not_true_eq_false, if_false, Op.intBits]
      rfl
    · cases hs
  all_goals
    simp only [arithD] at hs
    split at hs
    · rename_i hk; subst hk
      cases hs
      refine ⟨_, by simp [binOp, Op.intArith, Op.intBits, Op.intCmp]; rfl, fun c => ?_⟩
      first | exact .int _ _ | exact .bool _
    · cases hs

/-- Against an integer of which only a lower bound is known. -/
theorem arith_atl {op : BinOp} {k : IntKind} {x m : Int} {n : Nat} {t : TypeId} {w : World} (hm : (n : Int) ≤ m) (hs : arithD op (.int k x) (.atl n) = some r) : ∃ v, (binOp op t (.int k x) (.int .i64 m)).run P w = .ok v w ∧ ∀ c, VR c r v := by
  cases op <;> simp only [arithD] at hs <;> try (cases hs; done)
  case gtr =>
    split at hs
    · rename_i hk
      obtain ⟨hk, hle⟩ := hk
      subst hk
      cases hs
      exact arith_int (P := P) (t := t) (w := w) (op := .gtr) (k := .i64) (k' := .i64) (x := x) (y := m) (r := .bool false) (by
        simp only [arithD, if_true]
        have : ¬ m < x := by omega
        simp [this])
    · cases hs

theorem toList_mk (s : List UInt8) : (⟨s.toArray⟩ : ByteArray).toList = s := by rw [ByteArray.toList_eq]

theorem arith_str {op : BinOp} {x y : List UInt8} {t : TypeId} {w : World} (hs : arithD op (.str x) (.str y) = some r) : ∃ v, (binOp op t (.string ⟨x.toArray⟩) (.string ⟨y.toArray⟩)).run P w = .ok v w ∧ ∀ c, VR c r v := by
  cases op
  case add =>
    simp only [arithD] at hs
    split at hs
    · rename_i hle
      cases hs
      refine ⟨.string ⟨(x ++ y).toArray⟩, ?_, fun c => .str _⟩
      have h1 : ¬ (((x.length + y.length : Nat) : Int) > IntKind.i64.max) := by
        have : IntKind.i64.max = 9223372036854775807 := by decide
        omega
      have h2 : (⟨x.toArray⟩ : ByteArray) ++ (⟨y.toArray⟩ : ByteArray) = ⟨(x ++ y).toArray⟩ := by
        apply ByteArray.ext
        simp [ByteArray.data_append]
      have e1 : (⟨x.toArray⟩ : ByteArray).size = x.length := by simp [ByteArray.size]
      have e2 : (⟨y.toArray⟩ : ByteArray).size = y.length := by simp [ByteArray.size]
      simp only [binOp, Op.stringOp, e1, e2, if_neg h1, h2]
      rfl
    · cases hs
  all_goals
    simp only [arithD] at hs
    cases hs
    try (refine ⟨_, by simp only [binOp, Op.stringOp, toList_mk]; rfl, fun c => .bool _⟩)

theorem eqGuard_int {op : BinOp} {t : TypeId} {x y : Operand} {k k' : IntKind} {m n : Int} {w : World} : (eqGuard op t x y (.int k m) (.int k' n)).run P w = .ok () w := by
  unfold eqGuard; cases op <;> simp

theorem eqGuard_str {op : BinOp} {t : TypeId} {x y : Operand} {m n : ByteArray} {w : World} : (eqGuard op t x y (.string m) (.string n)).run P w = .ok () w := by
  unfold eqGuard; cases op <;> simp

theorem s_arith {op : BinOp} {t u : TypeId} {x y : Operand} {x' y' : Opd} (ho : o.op = .binOp op t x y u) (hx : opd x = some x') (hy : opd y = some y') (_hR : Rel h c) (hE : EnvR c env a)
    (hs : stepOp h env (.arith op x' y') = some (r, h')) : Steps0 P h c o a h' r := by
  have vx := opd_VR hx hE
  have vy := opd_VR hy hE
  simp only [stepOp] at hs
  split at hs
  · rename_i v hv
    simp only [Option.some.injEq, Prod.mk.injEq] at hs
    obtain ⟨rfl, rfl⟩ := hs
    generalize hvx : a.eval x = wx at vx
    generalize hvy : a.eval y = wy at vy
    generalize x'.eval env = dx at vx hv
    generalize y'.eval env = dy at vy hv
    cases vx <;> first | (simp [arithD] at hv; done) | skip
    · cases vy <;> first | (simp [arithD] at hv; done) | skip
      · obtain ⟨v', h1, h2⟩ := arith_int (P := P) (t := t) (w := c.w) hv
        exact Steps0.value v' (by simp [execOp, ho, hvx, hvy, eqGuard_int, h1]) (h2 c)
      · rename_i hm
        obtain ⟨v', h1, h2⟩ := arith_atl (P := P) (t := t) (w := c.w) hm hv
        exact Steps0.value v' (by simp [execOp, ho, hvx, hvy, eqGuard_int, h1]) (h2 c)
    · cases vy <;> first | (simp [arithD] at hv; done) | skip
      obtain ⟨v', h1, h2⟩ := arith_str (P := P) (t := t) (w := c.w) hv
      exact Steps0.value v' (by simp [execOp, ho, hvx, hvy, eqGuard_str, h1]) (h2 c)
  · cases hs

theorem s_eqb {neq : Bool} {t u : TypeId} {x y : Operand} {x' y' : Opd} (ho : o.op = .binOp (if neq then .neq else .eql) t x y u) (hu : P.underlying t = some .bool) (hx : opd x = some x') (hy : opd y = some y') (_hR : Rel h c) (hE : EnvR c env a)
    (hs : stepOp h env (.eqb neq x' y') = some (r, h')) : Steps0 P h c o a h' r := by
  have vx := opd_VR hx hE
  have vy := opd_VR hy hE
  simp only [stepOp] at hs
  split at hs
  · rename_i m n hm hn
    rw [hm] at vx; rw [hn] at vy
    simp only [Option.some.injEq, Prod.mk.injEq] at hs
    obtain ⟨rfl, rfl⟩ := hs
    generalize hvx : a.eval x = wx at vx
    generalize hvy : a.eval y = wy at vy
    cases vx; cases vy
    refine Steps0.value (.bool (if neq then !(m == n) else m == n)) ?_ (.bool _)
    cases neq
    · simp [execOp, ho, hvx, hvy, eqGuard, binOp, Op.equal, Op.maxDepth, run_equalIn_bool' _ _ _ _ _ hu]
    · simp [execOp, ho, hvx, hvy, eqGuard, binOp, Op.equal, Op.maxDepth, run_equalIn_bool' _ _ _ _ _ hu]
  · cases hs

/-- What nil compares with: the run. -/
theorem nilEq_in {k : Nat} {t : TypeId} {desc : TypeDesc} (hu : P.underlying t = some desc) (hk : nilKind desc = some k) {dx dy : DV} {b : Bool} (hn : nilEq k dx dy = some b) {vx vy : Value} (hx : VR c dx vx) (hy : VR c dy vy) (d : Nat) (w : World) :
    (Op.equalIn (d + 1) t vx vy).run P w = .ok b w := by
  unfold nilEq at hn
  split at hn <;> (try (cases hn; done)) <;> (split at hn) <;> (try (cases hn; done)) <;>
    (cases hn; rename_i hk'; subst hk'; cases hx; cases hy; cases desc <;> simp [nilKind] at hk <;> simp [Op.equalIn, run_underlying hu])

theorem nilEq_bin {k : Nat} {t : TypeId} {neq : Bool} {dx dy : DV} {b : Bool} (hn : nilEq k dx dy = some b) {vx vy : Value} (hx : VR c dx vx) (hy : VR c dy vy) (w : World) (h1 : (Op.equal t vx vy).run P w = .ok b w) :
    (binOp (if neq then .neq else .eql) t vx vy).run P w = .ok (.bool (if neq then !b else b)) w := by
  unfold nilEq at hn
  split at hn <;> (try (cases hn; done)) <;> (cases hx; cases hy; cases neq <;> simp [binOp, h1])

theorem nilEq_guard {k : Nat} {t : TypeId} {op : BinOp} {x y : Operand} {dx dy : DV} {b : Bool} (hc : (∃ v, x = .const v) ∨ (∃ v, y = .const v)) (hn : nilEq k dx dy = some b) {vx vy : Value} (hx : VR c dx vx) (hy : VR c dy vy) (w : World) :
    (eqGuard op t x y vx vy).run P w = .ok () w := by
  unfold nilEq at hn
  split at hn <;> (try (cases hn; done)) <;> (cases hx; cases hy; unfold eqGuard; cases op <;> simp)
  all_goals (rcases hc with ⟨v, rfl⟩ | ⟨v, rfl⟩ <;> simp)

theorem s_eqn {k : Nat} {neq : Bool} {t u : TypeId} {desc : TypeDesc} {x y : Operand} {x' y' : Opd} (ho : o.op = .binOp (if neq then .neq else .eql) t x y u) (hu : P.underlying t = some desc) (hk : nilKind desc = some k)
    (hc : isNilConst x || isNilConst y) (hx : opd x = some x') (hy : opd y = some y') (_hR : Rel h c) (hE : EnvR c env a)
    (hs : stepOp h env (.eqn k neq x' y') = some (r, h')) : Steps0 P h c o a h' r := by
  have vx := opd_VR hx hE
  have vy := opd_VR hy hE
  simp only [stepOp] at hs
  split at hs
  · rename_i b hb
    simp only [Option.some.injEq, Prod.mk.injEq] at hs
    obtain ⟨rfl, rfl⟩ := hs
    have h1 := nilEq_in (P := P) hu hk hb vx vy 9999 c.w
    have hxx : ∀ z : Operand, isNilConst z = true → ∃ v, z = .const v := by
      intro z hz; cases z <;> first | exact ⟨_, rfl⟩ | simp [isNilConst] at hz
    have hcc : (∃ v, x = .const v) ∨ (∃ v, y = .const v) := by
      simp only [Bool.or_eq_true] at hc
      exact hc.imp (hxx x) (hxx y)
    have hg := nilEq_guard (P := P) (t := t) (op := if neq then .neq else .eql) hcc hb vx vy c.w
    have hb' := nilEq_bin (P := P) (t := t) (neq := neq) hb vx vy c.w h1
    exact Steps0.value (.bool (if neq then !b else b)) (by simp [execOp, ho, hg, hb']) (.bool _)
  · cases hs

end
end Go.Dm
