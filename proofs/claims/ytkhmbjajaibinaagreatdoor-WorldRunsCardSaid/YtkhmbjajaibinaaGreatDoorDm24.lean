/-
Part 24 of "Dm": a region with an open order: what turns the heap; whatever order is picked.
-/
import Derived.Test.YtkhmbjajaibinaaGreatDoorDm23
namespace Go.Dm

section
variable {P : Program} {call : CallF} {ops : List Oper} {dis : List (Nat × DOper)} {bs : List Nat} {E : Nat → Env} {HS : Nat → List Heap} {LS : Nat → DLog} {V : Nat → DV} {B : Nat → Bool} {c ĉ ĉ1 : Ctx} {env : Env} {h : Heap}
  {listed : Array Bool} {a : Act} {k m0 : Nat}

/-- The next one that turns the heap has come up. -/
theorem InvM.turn (F : Fit P ops dis bs) (T : Trace call (dis.map (·.2)) env [h] .start E HS LS V B) (hc : CallKeeps call) (hl : h.lim ≤ h.n) (I : InvE ops dis HS V env listed a ĉ m0) (M : InvM dis E HS B c listed k ĉ)
    {x : Nat × DOper} {o : Oper} (U : Up ops dis listed k x o) {w' : World} {v : Value} {d : DV} (hp : Post (headH (HS k)) (ĉ.cut (headH (HS k)).n) (headH (HS (k + 1))) w' d v) :
    ∃ ĉ1 : Ctx, ĉ1.w = w' ∧ (∀ M, CtxLe (ĉ.cut M) (ĉ1.cut M)) ∧ InvM dis E HS B c (listed.setIfInBounds x.1 true) (k + 1) ĉ1 ∧ VR (ĉ1.cut (headH (HS (k + 1))).n) d v := by
  have hlt : x.1 < listed.size := by rw [I.size]; exact fit_lt F U.hx
  have hk : k < dis.length := (List.getElem?_eq_some_iff.1 U.hx).1
  have hk' : k + 1 ≤ (dis.map (·.2)).length := by simp; omega
  have hnk := (T.keeps hc hl (by omega : k ≤ k + 1) hk').n
  obtain ⟨ρ', k1, k2, k3⟩ := hp
  let ĉ1 : Ctx := ⟨w', fun id => if id < (headH (HS (k + 1))).n then ρ' id else ĉ.ρ id, fun b => ownB (headH (HS (k + 1))) ρ' b ∨ ĉ.E b, ĉ.X, ĉ.E, ĉ.τ⟩
  have hcut : ĉ1.cut (headH (HS (k + 1))).n = (ĉ.cut (headH (HS k)).n).next w' ρ' (headH (HS (k + 1))) := by
    have : (fun id => if id < (headH (HS (k + 1))).n then ĉ1.ρ id else none) = ρ' := by
      funext id
      split
      · rename_i hid; simp only [ĉ1, if_pos hid]
      · rename_i hid
        cases hr : ρ' id with
        | none => rfl
        | some p => exact absurd (k1.dom id (by show ρ' id ≠ none; rw [hr]; simp)) hid
    simp only [Ctx.cut, Ctx.next] at this ⊢
    rw [this]
  have far : ∀ id b z, (headH (HS k)).n ≤ id → ĉ.ρ id = some (b, z) → (headH (HS (k + 1))).n ≤ id ∧ ĉ1.ρ id = ĉ.ρ id ∧ ĉ.E b ∧ ¬ c.E b ∧
      ∃ (p : Nat) (y : Nat × DOper), k + 1 ≤ p ∧ dis[p]? = some y ∧ Li listed y.1 ∧ y.2.kind ≠ .read ∧ B p = true ∧ id = (headH (HS p)).n := by
    intro id b z hid hr
    obtain ⟨h1, h2, p, y, h3, h4, h5, h6, h7, h8⟩ := M.dom id b z hid hr
    have hne : p ≠ k := fun e => by
      subst e
      have : y = x := Option.some.inj (h4.symm.trans U.hx)
      subst this
      exact U.not h5
    have hp' : p < (dis.map (·.2)).length := by simp; exact (List.getElem?_eq_some_iff.1 h4).1
    have h9 := (T.keeps hc hl (by omega : k + 1 ≤ p) (by omega)).n
    have h10 : (headH (HS (k + 1))).n ≤ id := by omega
    exact ⟨h10, by simp only [ĉ1, if_neg (Nat.not_lt.2 h10)], h1, h2, p, y, by omega, h4, h5, h6, h7, h8⟩
  have hleM : ∀ M, CtxLe (ĉ.cut M) (ĉ1.cut M) := fun N =>
    ⟨fun id p hp => by
      obtain ⟨h1, h2⟩ := cut_some hp
      rw [cut_lt h1]
      by_cases hid : id < (headH (HS k)).n
      · have := k2.rho id p (by rw [cut_lt hid]; exact h2)
        have h3 : id < (headH (HS (k + 1))).n := by omega
        simp only [ĉ1, if_pos h3]; exact this
      · obtain ⟨b, z⟩ := p
        rw [(far id b z (by omega) h2).2.1]; exact h2, k2.size, k2.frame, k2.own, k2.shape, k2.X, k2.pend, k2.quiet, k2.tok⟩
  refine ⟨ĉ1, rfl, hleM, ⟨hk, fun p y hp hy hky => ?_, by rw [hcut]; exact k1, ?_, M.X, fun b hE => ?_, M.cE, fun id b z hid hr => ?_, fun p y hp hy hky hL => ?_, fun id id' b h1 h2 h3 h4 => ?_⟩, by rw [hcut]; exact k3⟩
  · rw [Li_set hlt]
    by_cases e : p = k
    · subst e
      have : y = x := Option.some.inj (hy.symm.trans U.hx)
      subst this
      exact .inr rfl
    · exact .inl (M.front p y (by omega) hy hky)
  · exact M.le.trans ((hleM _).trans (cut_le hnk))
  · exact (M.E b hE).imp (fun x => x) fun ⟨id, h1, h2⟩ => ⟨id, (far id b 0 h1 h2).1, by rw [(far id b 0 h1 h2).2.1]; exact h2⟩
  · have hr' : ĉ.ρ id = some (b, z) := by simp only [ĉ1, if_neg (Nat.not_lt.2 hid)] at hr; exact hr
    obtain ⟨_, _, g1, g2, p, y, g3, g4, g5, g6⟩ := far id b z (by omega) hr'
    exact ⟨g1, g2, p, y, g3, g4, (Li_set hlt).2 (.inl g5), g6⟩
  · rcases (Li_set hlt).1 hL with h1 | h1
    · obtain ⟨g1, g2⟩ := M.pend p y (by omega) hy hky h1
      refine ⟨g1, fun hB => ?_⟩
      obtain ⟨e', s', xs', b, f1, f2, f3⟩ := g2 hB
      have hp' : p < (dis.map (·.2)).length := by simp; exact (List.getElem?_eq_some_iff.1 hy).1
      have hn := (T.keeps hc hl (by omega : k ≤ p) (by omega)).n
      obtain ⟨_, g4, g5, _⟩ := far _ b 0 hn f2
      have hlt' := (M.rel.pend b g5).1
      exact ⟨e', s', xs', b, f1, by rw [g4]; exact f2, f3.mono (hleM _) (k2.pend b hlt' g5).2⟩
    · have := fit_inj F hy U.hx h1
      omega
  · have h3' : ĉ.ρ id = some (b, 0) := by simp only [ĉ1, if_neg (Nat.not_lt.2 h1)] at h3; exact h3
    have h4' : ĉ.ρ id' = some (b, 0) := by simp only [ĉ1, if_neg (Nat.not_lt.2 h2)] at h4; exact h4
    exact M.inj id id' b (by omega) (by omega) h3' h4'

/-- What was made early becomes an object. -/
theorem Rel.adopt {h : Heap} {c : Ctx} (hR : Rel h (c.cut h.n)) {b ety sz : Nat} {xs : List DV} (hr : c.ρ h.n = some (b, 0)) (hE : c.E b) (hf : FreshR (c.cut h.n) b ety sz xs) :
    Rel (h.push (.arr ety sz xs (some xs.length))) (Ctx.cut { c with E := fun y => c.E y ∧ y ≠ b } (h.n + 1)) := by
  obtain ⟨cur, f1, f2, f3, f4, f5⟩ := hf
  have hle : CtxLe (c.cut h.n) (Ctx.cut { c with E := fun y => c.E y ∧ y ≠ b } (h.n + 1)) :=
    ⟨fun id p hp => by
      obtain ⟨h1, h2⟩ := cut_some hp
      rw [cut_lt (by omega)]; exact h2, Nat.le_refl _, fun _ _ _ => rfl, fun _ h => .inl h, fun _ _ _ h => h, fun _ h => h, fun _ _ h => ⟨h.1, rfl⟩, .refl _, rfl⟩
  have rho : ∀ id, id < h.n → (Ctx.cut { c with E := fun y => c.E y ∧ y ≠ b } (h.n + 1)).ρ id = (c.cut h.n).ρ id := fun id hid => by rw [cut_lt (by omega), cut_lt hid]
  have rhon : (Ctx.cut { c with E := fun y => c.E y ∧ y ≠ b } (h.n + 1)).ρ h.n = some (b, 0) := by rw [cut_lt (by omega)]; exact hr
  have hnot := (hR.pend b hE).2
  have hown : ∀ y, ownB (h.push (.arr ety sz xs (some xs.length))) (Ctx.cut { c with E := fun y => c.E y ∧ y ≠ b } (h.n + 1)).ρ y ↔ ownB h (c.cut h.n).ρ y ∨ y = b := by
    intro y
    constructor
    · rintro ⟨id, o, x, hg, ha, hr'⟩
      rw [get_push] at hg
      split at hg
      · rename_i e; subst e
        rw [rhon] at hr'; cases hr'; exact .inr rfl
      · have := get_lt hg
        rw [rho id this] at hr'
        exact .inl ⟨id, o, x, hg, ha, hr'⟩
    · rintro (⟨id, o, x, hg, ha, hr'⟩ | e)
      · have := get_lt hg
        exact ⟨id, o, x, by rw [get_push_old this]; exact hg, ha, by rw [rho id this]; exact hr'⟩
      · subst e
        exact ⟨h.n, _, 0, get_push_new, rfl, rhon⟩
  refine ⟨len_push hR.len, Nat.le_succ_of_le hR.lim, fun id hid => ?_, fun id o hg => ?_, fun i j oi oj y x1 x2 hi hj hai haj hri hrj => ?_, fun y => ?_, hR.notX, hR.old, fun y hy => ⟨(hR.pend y hy.1).1, fun ho => ?_⟩, hR.glob.mono hle⟩
  · cases hr' : (Ctx.cut { c with E := fun y => c.E y ∧ y ≠ b } (h.n + 1)).ρ id with
    | none => exact absurd hr' hid
    | some p => exact (cut_some hr').1
  · rw [get_push] at hg
    split at hg
    · rename_i e; subst e
      cases hg
      exact ⟨b, 0, cur, xs.length, rhon, f5, f1, by omega, Nat.le_refl _, (fun k hk => by cases hk; exact ⟨rfl, rfl⟩), f3, fun i hi => ⟨(f4 i hi).1, fun j hj => by
        obtain ⟨v, a1, a2, a3⟩ := (f4 i hi).2 j hj
        exact ⟨v, a1, a2, a3.mono hle⟩⟩⟩
    · exact (hR.obj id o hg).mono hle (fun _ _ _ _ => rfl)
  · rw [get_push] at hi hj
    split at hi <;> split at hj
    · omega
    · rename_i e1 e2
      subst e1
      rw [rhon] at hri; cases hri
      have := get_lt hj
      rw [rho j this] at hrj
      exact absurd ⟨j, oj, x2, hj, haj, hrj⟩ hnot
    · rename_i e1 e2
      subst e2
      rw [rhon] at hrj; cases hrj
      have := get_lt hi
      rw [rho i this] at hri
      exact absurd ⟨i, oi, x1, hi, hai, hri⟩ hnot
    · have l1 := get_lt hi
      have l2 := get_lt hj
      rw [rho i l1] at hri
      rw [rho j l2] at hrj
      exact hR.inj i j oi oj y x1 x2 hi hj hai haj hri hrj
  · have := hR.own y
    show c.O y ↔ _ ∨ (c.E y ∧ y ≠ b)
    rw [hown y]
    have h2 : c.O y ↔ ownB h (c.cut h.n).ρ y ∨ c.E y := this
    rw [h2]
    by_cases e : y = b
    · subst e; simp [hE]
    · simp [e]
  · rcases (hown y).1 ho with h1 | h1
    · exact (hR.pend y hy.1).2 h1
    · exact hy.2 h1

theorem alloc_kind (F : Fit P ops dis bs) {p : Nat} {y : Nat × DOper} (hy : dis[p]? = some y) (ha : y.2.op.cls = .alloc) : y.2.kind = .create := by
  have := F.kind p y hy
  unfold kindFits at this
  rw [ha] at this
  cases hk : y.2.kind <;> rw [hk] at this <;> first | rfl | cases this

theorem InvM.adopt (F : Fit P ops dis bs) (T : Trace call (dis.map (·.2)) env [h] .start E HS LS V B) (M : InvM dis E HS B c listed k ĉ) {x : Nat × DOper} (hx : dis[k]? = some x) (hk : x.2.kind ≠ .read) (hL : Li listed x.1) (hb : B k = true) :
    ∃ ĉ1 : Ctx, ĉ1.w = ĉ.w ∧ (∀ M, CtxLe (ĉ.cut M) (ĉ1.cut M)) ∧ InvM dis E HS B c listed (k + 1) ĉ1 := by
  have hlt : k < dis.length := (List.getElem?_eq_some_iff.1 hx).1
  obtain ⟨ha, h2⟩ := M.pend k x (Nat.le_refl _) hx hk hL
  obtain ⟨ety, sz, xs, b, ho, hr, hf⟩ := h2 hb
  obtain ⟨hE, hcE, _⟩ := M.dom _ b 0 (Nat.le_refl _) hr
  obtain ⟨ety2, sz2, xs2, hm2, _, hh⟩ := T.alloc (map_get hx) ha (alloc_kind F hx ha) hb
  rw [ho] at hm2
  cases hm2
  have hn : (headH (HS (k + 1))).n = (headH (HS k)).n + 1 := by rw [hh]; rfl
  have hleM : ∀ N, CtxLe (ĉ.cut N) (Ctx.cut { ĉ with E := fun y => ĉ.E y ∧ y ≠ b } N) := fun N =>
    ⟨fun _ _ hp => hp, Nat.le_refl _, fun _ _ _ => rfl, fun _ h => .inl h, fun _ _ _ h => h, fun _ h => h, fun _ _ h => ⟨h.1, rfl⟩, .refl _, rfl⟩
  refine ⟨{ ĉ with E := fun y => ĉ.E y ∧ y ≠ b }, rfl, hleM, ⟨hlt, fun p y hp hy hky => ?_, ?_, M.le.trans ((hleM _).trans (cut_le (by omega))), M.X, fun y hy => ?_, fun y hy => ⟨M.cE y hy, fun e => hcE (e ▸ hy)⟩, fun id y x0 hid hr' => ?_, fun p y hp hy hky hL => ⟨(M.pend p y (by omega) hy hky hL).1, fun hB => by
    obtain ⟨e', s', xs', b', q1, q2, q3⟩ := (M.pend p y (by omega) hy hky hL).2 hB
    exact ⟨e', s', xs', b', q1, q2, q3.mono (hleM _) rfl⟩⟩, fun id id' y h1 h2 => M.inj id id' y (by omega) (by omega)⟩⟩
  · by_cases e : p = k
    · subst e
      have : y = x := Option.some.inj (hy.symm.trans hx)
      subst this
      exact hL
    · exact M.front p y (by omega) hy hky
  · rw [hn, hh]
    exact M.rel.adopt hr hE hf
  · refine (M.E y hy.1).imp (fun x => x) fun ⟨id, h1, h2⟩ => ⟨id, ?_, h2⟩
    have : id ≠ (headH (HS k)).n := fun e => by
      subst e
      rw [hr] at h2
      cases h2
      exact hy.2 rfl
    omega
  · obtain ⟨g1, g2, p, yy, g3, g4, g5, g6, g7, g8⟩ := M.dom id y x0 (by omega) hr'
    have hpk : p ≠ k := fun e => by subst e; omega
    refine ⟨⟨g1, fun e => ?_⟩, g2, p, yy, by omega, g4, g5, g6, g7, g8⟩
    subst e
    obtain ⟨_, _, _, b', _, f2, _⟩ := (M.pend p yy g3 g4 g6 g5).2 g7
    rw [← g8] at f2
    rw [f2] at hr'
    cases hr'
    have := M.inj id (headH (HS k)).n y (by omega) (Nat.le_refl _) f2 hr
    omega

/-- Is the next one that turns the heap not up yet? -/
def Max (dis : List (Nat × DOper)) (listed : Array Bool) (k : Nat) : Prop := k = dis.length ∨ ∃ x : Nat × DOper, dis[k]? = some x ∧ x.2.kind ≠ .read ∧ ¬ Li listed x.1

theorem Trace.same (T : Trace call (dis.map (·.2)) env [h] .start E HS LS V B) {x : Nat × DOper} (hx : dis[k]? = some x) (hk : x.2.kind = .read ∨ B k = false) : headH (HS (k + 1)) = headH (HS k) := by
  obtain ⟨⟨hw, g, gs, hg, hf, ht⟩, _⟩ := T.step k x.2 (map_get hx)
  cases hb : B k with
  | false =>
    obtain ⟨_, e, _⟩ := hf hb
    rw [e]
    split
    · rfl
    · rw [hg]; rfl
  | true =>
    rcases hk with hk | hk
    · rcases ht hb with ⟨_, e, _⟩ | ⟨hk', _⟩ | ⟨hk', _⟩ | ⟨hk', _⟩
      · rw [e]
      · rw [hk] at hk'; cases hk'
      · rw [hk] at hk'; cases hk'
      · rw [hk] at hk'; cases hk'
    · rw [hb] at hk; cases hk

theorem InvM.advance (F : Fit P ops dis bs) (T : Trace call (dis.map (·.2)) env [h] .start E HS LS V B) (hc : CallKeeps call) (hl : h.lim ≤ h.n) : ∀ (j k : Nat) (ĉ : Ctx), dis.length - k = j → InvM dis E HS B c listed k ĉ →
    ∃ k1 ĉ1, k ≤ k1 ∧ (headH (HS k)).n ≤ (headH (HS k1)).n ∧ ĉ1.w = ĉ.w ∧ (∀ M, CtxLe (ĉ.cut M) (ĉ1.cut M)) ∧ InvM dis E HS B c listed k1 ĉ1 ∧ Max dis listed k1 := by
  intro j
  induction j with
  | zero =>
    intro k ĉ hj M
    exact ⟨k, ĉ, Nat.le_refl _, Nat.le_refl _, rfl, fun _ => .refl _, M, .inl (by have := M.k_le; omega)⟩
  | succ j ih =>
    intro k ĉ hj M
    have hlt : k < dis.length := by omega
    have hx : dis[k]? = some dis[k] := List.getElem?_eq_getElem hlt
    have hn := (T.keeps hc hl (by omega : k ≤ k + 1) (by simp; omega)).n
    have go : ∀ ĉ1 : Ctx, ĉ1.w = ĉ.w → (∀ M, CtxLe (ĉ.cut M) (ĉ1.cut M)) → InvM dis E HS B c listed (k + 1) ĉ1 →
        ∃ k1 ĉ1, k ≤ k1 ∧ (headH (HS k)).n ≤ (headH (HS k1)).n ∧ ĉ1.w = ĉ.w ∧ (∀ M, CtxLe (ĉ.cut M) (ĉ1.cut M)) ∧ InvM dis E HS B c listed k1 ĉ1 ∧ Max dis listed k1 := by
      intro ĉ1 h1 h2 h3
      obtain ⟨k2, ĉ2, g0, g1, g2, g3, g4, g5⟩ := ih (k + 1) ĉ1 (by omega) h3
      exact ⟨k2, ĉ2, by omega, by omega, g2.trans h1, fun N => (h2 N).trans (g3 N), g4, g5⟩
    by_cases hk : dis[k].2.kind = .read
    · exact go ĉ rfl (fun _ => .refl _) (M.skip hlt (T.same hx (.inl hk)) (fun x hx' hk' => by
        have : x = dis[k] := Option.some.inj (hx'.symm.trans hx)
        subst this
        exact absurd hk hk'))
    · by_cases hL : Li listed dis[k].1
      · cases hb : B k with
        | false =>
          exact go ĉ rfl (fun _ => .refl _) (M.skip hlt (T.same hx (.inr hb)) (fun x hx' hk' => by
            have : x = dis[k] := Option.some.inj (hx'.symm.trans hx)
            subst this
            exact ⟨hL, hb⟩))
        | true =>
          obtain ⟨ĉ1, h1, h2, h3⟩ := M.adopt F T hx hk hL hb
          exact go ĉ1 h1 h2 h3
      · exact ⟨k, ĉ, Nat.le_refl _, Nat.le_refl _, rfl, fun _ => .refl _, M, .inr ⟨_, hx, hk, hL⟩⟩

end
end Go.Dm
