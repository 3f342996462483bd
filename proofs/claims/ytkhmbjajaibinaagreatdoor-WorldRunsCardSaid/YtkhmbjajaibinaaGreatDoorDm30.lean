/-
Part 30 of "Dm": what stands in the place of functions without a body; tables with hooks.
-/
import Derived.Test.YtkhmbjajaibinaaGreatDoorDm28
import Derived.Lib.Overlaps
namespace Go.Dm

/-- What stands in the place of a function is right. -/
def HookOk (P : Program) (f : Nat) (hk : Hook) : Prop :=
  (∀ args h d h' c vals, hk h args = some (d, h') → Rel h c → VRs c args vals → CallOk P f vals.toArray h c h' d) ∧ ∀ h args v h', h.lim ≤ h.n → hk h args = some (v, h') → Keeps h h'

/-- Do two slices lie over one another? Of two rows: no. -/
def overlapsHook : Hook := fun h args =>
  match args with
  | [.sl i1 s1 _ _, .sl i2 s2 _ _] =>
    match h.get i1, h.get i2 with
    | some (.arr _ z1 _ _), some (.arr _ z2 xs _) => if i1 ≠ i2 ∧ s1 = z1 ∧ s2 = z2 ∧ xs.length ≠ 0 then some (.bool false, h) else none
    | _, _ => none
  | _ => none

theorem overlaps_ok {P : Program} {f : Nat} {fn : Func} {tS tR e : TypeId} (hf : P.funcs[f]? = some fn) (hname : (fn.name == "runtime.NumGoroutine") = false) (hb : fn.body.isNone = true) (hn : Extern.findNext fn = none)
    (he : Extern.find fn = some (Extern.SlicesOverlaps.overlaps #[tS, tS] #[tR])) (ht : P.underlying tS = some (.slice e)) (hi : (P.info? e).isSome = true) : HookOk P f overlapsHook := by
  obtain ⟨i, hi⟩ := Option.isSome_iff_exists.1 hi
  refine ⟨fun args h d h' c vals hs hR hv => ?_, fun h args v h' _ hs => ?_⟩
  · unfold overlapsHook at hs
    split at hs
    · rename_i i1 s1 o1 l1 i2 s2 o2 l2
      split at hs
      · rename_i e1 z1 x1 c1 e2 z2 x2 c2 g1 g2
        split at hs
        · rename_i hcond
          obtain ⟨hne, hs1, hs2, hx⟩ := hcond
          cases hs
          have hl := hv.1
          obtain ⟨v1, v2, rfl⟩ : ∃ v1 v2, vals = [v1, v2] := by
            cases vals with
            | nil => simp at hl
            | cons a r => cases r with
              | nil => simp at hl
              | cons b r => cases r with
                | nil => exact ⟨a, b, rfl⟩
                | cons c r => simp at hl
          have w1 : VR c (.sl i1 s1 o1 l1) v1 := hv.2 0 (by simp) (by simp)
          have w2 : VR c (.sl i2 s2 o2 l2) v2 := hv.2 1 (by simp) (by simp)
          obtain ⟨b1, base1, cap1, co1, n1, ty1, e1', r1, _⟩ := w1.sl_inv
          obtain ⟨b2, base2, cap2, co2, n2, ty2, e2', r2, _⟩ := w2.sl_inv
          obtain ⟨cur1, m1, p1, p2, p3, p4, p5, p6⟩ := hR.arr g1 r1
          obtain ⟨cur2, m2, q1, q2, q3, q4, q5, q6⟩ := hR.arr g2 r2
          have hbne : b1 ≠ b2 := fun eb => hne (hR.inj i1 i2 _ _ b1 base1 base2 g1 g2 rfl rfl r1 (eb ▸ r2))
          have hfr : ∀ a : Addr, a.block = b1 → c.w.frozen? a = false := fun a ha => calm_frozen (ob := .cells cur1 e1 (0, 0)) (by rw [ha]; exact p1) rfl
          refine .inl ⟨.bool false, c.w, ?_, Post.pure hR (.bool false)⟩
          rw [run_callFunc_extern hf hname hb hn he]
          have hrun := Lib.run_overlaps_apart (P := P) c.w tS tR e ht i.size (fun w => by simp [sizeOf, typeInfo, hi]) ⟨b1, co1, none⟩ ⟨b2, co2, none⟩ l1 cap1 l2 cap2 hbne e1 e2 cur1.size cur2.size (shape_of_heap p1) (shape_of_heap q1)
            (by
              have : 0 < m2 * z2 := Nat.mul_pos (by omega) q2
              omega) (hfr _ rfl) (hfr _ rfl)
          rw [e1', e2', hrun]
          rfl
        · cases hs
      · cases hs
    · cases hs
  · unfold overlapsHook at hs
    split at hs
    · split at hs
      · split at hs
        · cases hs; exact .refl _
        · cases hs
      · cases hs
    · cases hs

def HooksOk (P : Program) (hooks : List (Nat × Hook)) : Prop := ∀ x, x ∈ hooks → HookOk P x.1 x.2

theorem HooksOk.nil {P : Program} : HooksOk P [] := fun x hx => by cases hx
theorem HooksOk.cons {P : Program} {f : Nat} {hk : Hook} {hooks : List (Nat × Hook)} (h1 : HookOk P f hk) (h : HooksOk P hooks) : HooksOk P ((f, hk) :: hooks) := fun x hx => by
  rcases List.mem_cons.1 hx with rfl | hx
  · exact h1
  · exact h x hx

def lookH : List (Nat × Hook) → Nat → Option Hook
  | [], _ => none
  | (k, d) :: r, f => if Nat.beq k f then some d else lookH r f

theorem lookH_mem {hooks : List (Nat × Hook)} {f : Nat} {d : Hook} (h : lookH hooks f = some d) : (f, d) ∈ hooks := by
  induction hooks with
  | nil => cases h
  | cons x r ih =>
    obtain ⟨k, d'⟩ := x
    simp only [lookH] at h
    split at h
    · rename_i he
      cases h
      rw [Nat.eq_of_beq_eq_true he]
      exact List.mem_cons_self ..
    · exact List.mem_cons_of_mem _ (ih h)

def hookedD (tab : List (Nat × DFunc)) (hooks : List (Nat × Hook)) : DProg := { fn := lookT tab, hook := lookH hooks }

theorem hookedD_good {P : Program} {tab : List (Nat × DFunc)} {hooks : List (Nat × Hook)} (hm : P.follows .mixedOrders = true) (ht : TabOk P tab) (hh : HooksOk P hooks) : Good P (hookedD tab hooks) where
  mixed := hm
  comp := fun f df h => ht (f, df) (lookT_mem h)
  hooks := fun f hk h => (hh (f, hk) (lookH_mem h)).1
  keep := fun f hk h => (hh (f, hk) (lookH_mem h)).2

end Go.Dm
