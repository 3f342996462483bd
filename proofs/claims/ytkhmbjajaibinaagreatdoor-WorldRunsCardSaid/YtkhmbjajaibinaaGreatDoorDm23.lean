/-
Part 23 of "Dm": a region with an open order: how its state moves on.
-/
import Derived.Test.YtkhmbjajaibinaaGreatDoorDm22
namespace Go.Dm

section
variable {P : Program} {call : CallF} {ops : List Oper} {dis : List (Nat × DOper)} {bs : List Nat} {E : Nat → Env} {HS : Nat → List Heap} {LS : Nat → DLog} {V : Nat → DV} {B : Nat → Bool} {c ĉ ĉ1 : Ctx} {env : Env} {h : Heap}
  {listed : Array Bool} {a : Act} {k m0 : Nat}

theorem getD_put (a : Act) (dst : Option Nat) (v : Value) (t : Nat) : (a.put dst v).tmps.getD t Go.undef = if dst = some t ∧ t < a.tmps.size then v else a.tmps.getD t Go.undef := by
  cases dst with
  | none => simp [Act.put]
  | some d =>
    simp only [Act.put, Array.getD_eq_getD_getElem?, Array.getElem?_setIfInBounds]
    by_cases e : d = t
    · subst e
      by_cases hlt : d < a.tmps.size
      · simp [hlt]
      · simp [hlt]
    · simp [e]

theorem InvE.mark (F : Fit P ops dis bs) (I : InvE ops dis HS V env listed a ĉ m0) (hle : ∀ M, CtxLe (ĉ.cut M) (ĉ1.cut M)) {m1 : Nat} (hm : m0 ≤ m1) {q : Nat} {x : Nat × DOper} {o : Oper} (U : Up ops dis listed q x o) {v : Value}
    (hv : VR (ĉ1.cut (max (headH (HS (q + 1))).n m1)) (V q) v) : InvE ops dis HS V env (listed.setIfInBounds x.1 true) (a.put x.2.dst v) ĉ1 m1 := by
  have hlt : x.1 < listed.size := by rw [I.size]; exact fit_lt F U.hx
  refine ⟨by simp [I.size], fun j o' ho' hj e he hb => ?_, ?_, ?_, fun p y t hy hL hd ht => ?_, fun t hno => ?_⟩
  · rw [Li_set hlt] at hj ⊢
    rcases hj with hj | hj
    · exact .inl (I.closed j o' ho' hj e he hb)
    · subst hj
      have : o' = o := Option.some.inj (ho'.symm.trans U.ho)
      subst this
      exact .inl (U.all e he hb)
  · cases x.2.dst <;> simp [Act.put, I.asize]
  · cases x.2.dst <;> simp [Act.put, I.defers]
  · rw [getD_put]
    by_cases hpq : p = q
    · subst hpq
      have : y = x := Option.some.inj (hy.symm.trans U.hx)
      subst this
      rw [if_pos ⟨hd, by rw [I.asize]; exact ht⟩]
      exact hv
    · have hne : x.2.dst ≠ some t := by
        rcases Nat.lt_or_gt_of_ne hpq with h1 | h1
        · exact fit_dst F h1 hy U.hx hd
        · exact fun e => fit_dst F h1 U.hx hy e hd
      rw [if_neg (fun e => hne e.1)]
      rw [Li_set hlt] at hL
      have hL : Li listed y.1 := hL.resolve_right fun e => hpq (fit_inj F hy U.hx e)
      exact ((I.vals p y t hy hL hd ht).mono (hle _)).mono (cut_le (by omega))
  · rw [getD_put, if_neg (fun e => hno q x U.hx ((Li_set hlt).2 (.inr rfl)) e.1)]
    exact ((I.olds t fun p y hy hL => hno p y hy ((Li_set hlt).2 (.inl hL))).mono (hle _)).mono (cut_le (by omega))

theorem InvE.mono (I : InvE ops dis HS V env listed a ĉ m0) (hle : ∀ M, CtxLe (ĉ.cut M) (ĉ1.cut M)) {m1 : Nat} (hm : m0 ≤ m1) : InvE ops dis HS V env listed a ĉ1 m1 :=
  ⟨I.size, I.closed, I.asize, I.defers, fun p x t h1 h2 h3 h4 => ((I.vals p x t h1 h2 h3 h4).mono (hle _)).mono (cut_le (by omega)), fun t h1 => ((I.olds t h1).mono (hle _)).mono (cut_le (by omega))⟩

/-! ## memory -/

/-- Something that only reads has come up. -/
theorem InvM.same (F : Fit P ops dis bs) (I : InvE ops dis HS V env listed a ĉ m0) (M : InvM dis E HS B c listed k ĉ) {q : Nat} {x : Nat × DOper} {o : Oper} (U : Up ops dis listed q x o) (hk : x.2.kind = .read) :
    InvM dis E HS B c (listed.setIfInBounds x.1 true) k ĉ := by
  have hlt : x.1 < listed.size := by rw [I.size]; exact fit_lt F U.hx
  refine ⟨M.k_le, fun p y hp hy hky => (Li_set hlt).2 (.inl (M.front p y hp hy hky)), M.rel, M.le, M.X, M.E, M.cE, fun id b z hid hr => ?_, fun p y hp hy hky hL => ?_, M.inj⟩
  · obtain ⟨h1, h2, p, y, h3, h4, h5, h6⟩ := M.dom id b z hid hr
    exact ⟨h1, h2, p, y, h3, h4, (Li_set hlt).2 (.inl h5), h6⟩
  · rcases (Li_set hlt).1 hL with h1 | h1
    · exact M.pend p y hp hy hky h1
    · have := fit_inj F hy U.hx h1
      subst this
      have : y = x := Option.some.inj (hy.symm.trans U.hx)
      subst this
      exact absurd hk hky

/-- A making that is not asked for has come up. -/
theorem InvM.idle (F : Fit P ops dis bs) (I : InvE ops dis HS V env listed a ĉ m0) (M : InvM dis E HS B c listed k ĉ) {q : Nat} {x : Nat × DOper} {o : Oper} (U : Up ops dis listed q x o) (ha : x.2.op.cls = .alloc) (hb : B q = false) :
    InvM dis E HS B c (listed.setIfInBounds x.1 true) k ĉ := by
  have hlt : x.1 < listed.size := by rw [I.size]; exact fit_lt F U.hx
  refine ⟨M.k_le, fun p y hp hy hky => (Li_set hlt).2 (.inl (M.front p y hp hy hky)), M.rel, M.le, M.X, M.E, M.cE, fun id b z hid hr => ?_, fun p y hp hy hky hL => ?_, M.inj⟩
  · obtain ⟨h1, h2, p, y, h3, h4, h5, h6⟩ := M.dom id b z hid hr
    exact ⟨h1, h2, p, y, h3, h4, (Li_set hlt).2 (.inl h5), h6⟩
  · rcases (Li_set hlt).1 hL with h1 | h1
    · exact M.pend p y hp hy hky h1
    · have := fit_inj F hy U.hx h1
      subst this
      have : y = x := Option.some.inj (hy.symm.trans U.hx)
      subst this
      exact ⟨ha, fun e => by rw [hb] at e; cases e⟩

/-- One that leaves the heap as it is lies behind. -/
theorem InvM.skip (M : InvM dis E HS B c listed k ĉ) (hk : k < dis.length) (hh : headH (HS (k + 1)) = headH (HS k)) (hf : ∀ x : Nat × DOper, dis[k]? = some x → x.2.kind ≠ .read → Li listed x.1 ∧ B k = false) :
    InvM dis E HS B c listed (k + 1) ĉ := by
  refine ⟨hk, fun p y hp hy hky => ?_, by rw [hh]; exact M.rel, by rw [hh]; exact M.le, M.X, by rw [hh]; exact M.E, M.cE, fun id b z hid hr => ?_, fun p y hp => M.pend p y (by omega), by rw [hh]; exact M.inj⟩
  · by_cases e : p = k
    · subst e; exact (hf y hy hky).1
    · exact M.front p y (by omega) hy hky
  · rw [hh] at hid
    obtain ⟨h1, h2, p, y, h3, h4, h5, h6, h7, h8⟩ := M.dom id b z hid hr
    refine ⟨h1, h2, p, y, ?_, h4, h5, h6, h7, h8⟩
    by_cases e : p = k
    · subst e; rw [(hf y h4 h6).2] at h7; cases h7
    · omega

theorem Rel.early {h : Heap} {c : Ctx} (hR : Rel h c) {w' : World} (hsize : w'.heap.size = c.w.heap.size + 1) (hframe : ∀ k, k < c.w.heap.size → w'.heap[k]? = c.w.heap[k]?) (hq : Quiet c.w w') :
    Rel h ⟨w', c.ρ, fun b => c.O b ∨ b = c.w.heap.size, c.X, fun b => c.E b ∨ b = c.w.heap.size, c.τ⟩ ∧ CtxLe c ⟨w', c.ρ, fun b => c.O b ∨ b = c.w.heap.size, c.X, fun b => c.E b ∨ b = c.w.heap.size, c.τ⟩ := by
  have hle : CtxLe c ⟨w', c.ρ, fun b => c.O b ∨ b = c.w.heap.size, c.X, fun b => c.E b ∨ b = c.w.heap.size, c.τ⟩ :=
    ⟨fun _ _ h => h, by simp only [hsize]; omega, fun b hb _ => hframe b hb, fun b hb => hb.imp id (fun e => by omega), fun b e n hs => by
      have := shape_lt hs
      simp only [World.shape?] at hs ⊢
      rw [hframe b this]; exact hs, fun _ h => h, fun b hb hE => ⟨hE.resolve_right (by omega), hframe b hb⟩, hq, rfl⟩
  have hown : ∀ b, ownB h c.ρ b → b < c.w.heap.size := fun b ⟨id, o, x, hg, ha, hr⟩ => hR.block_lt hg ha hr
  refine ⟨⟨hR.len, hR.lim, hR.dom, fun id o hg => (hR.obj id o hg).mono hle (fun ha b x hr => hframe b (hR.block_lt hg ha hr)), hR.inj, fun b => ?_, fun b hb hx => ?_, fun b hb => ?_, fun b hb => ?_, hR.glob.mono hle⟩, hle⟩
  · show c.O b ∨ _ ↔ ownB h c.ρ b ∨ (c.E b ∨ _)
    rw [hR.own b, or_assoc]
  · rcases hb with hb | hb
    · exact hR.notX b hb hx
    · have := hR.old b hx; omega
  · have := hR.old b hb
    show b < w'.heap.size
    omega
  · rcases hb with hb | hb
    · exact ⟨by show b < w'.heap.size; have := (hR.pend b hb).1; omega, (hR.pend b hb).2⟩
    · exact ⟨by show b < w'.heap.size; omega, fun ho => by have := hown b ho; omega⟩

/-- Something made before its turn. -/
theorem InvM.early (F : Fit P ops dis bs) (T : Trace call (dis.map (·.2)) env [h] .start E HS LS V B) (hc : CallKeeps call) (hl : h.lim ≤ h.n) (I : InvE ops dis HS V env listed a ĉ m0) (M : InvM dis E HS B c listed k ĉ)
    {q : Nat} {x : Nat × DOper} {o : Oper} (U : Up ops dis listed q x o) (hkq : k ≤ q) (hcls : x.2.op.cls = .alloc) {ety sz : Nat} {xs : List DV} (hmd : made (E q) x.2.op = some (ety, sz, xs)) (hb : B q = true)
    {w' : World} (hsize : w'.heap.size = ĉ.w.heap.size + 1) (hframe : ∀ k, k < ĉ.w.heap.size → w'.heap[k]? = ĉ.w.heap[k]?) (hqt : Quiet ĉ.w w') {cur : Array Value} (hnew : w'.heap[ĉ.w.heap.size]? = some (.cells cur ety (0, 0))) (hs0 : 0 < sz) (hcs : cur.size = xs.length * sz) (hone : OneRow cur) (hel : ElemsR (ĉ.cut (headH (HS q)).n) xs sz cur 0) :
    ∃ ĉ1 : Ctx, ĉ1.w = w' ∧ (∀ M, CtxLe (ĉ.cut M) (ĉ1.cut M)) ∧ InvM dis E HS B c (listed.setIfInBounds x.1 true) k ĉ1 ∧ ĉ1.ρ (headH (HS q)).n = some (ĉ.w.heap.size, 0) := by
  have hlt : x.1 < listed.size := by rw [I.size]; exact fit_lt F U.hx
  have hq : q < dis.length := (List.getElem?_eq_some_iff.1 U.hx).1
  have hq' : q < (dis.map (·.2)).length := by simp; omega
  have hnk : (headH (HS k)).n ≤ (headH (HS q)).n := (T.keeps hc hl hkq (by omega)).n
  have hkind : ∀ (p : Nat) (y : Nat × DOper), dis[p]? = some y → y.2.op.cls = .alloc → y.2.kind = .create := fun p y hy ha => by
    have := F.kind p y hy
    unfold kindFits at this
    rw [ha] at this
    cases hk : y.2.kind <;> rw [hk] at this <;> first | rfl | cases this
  -- the numbers of things made are apart
  have apart : ∀ (p p' : Nat) (y y' : Nat × DOper), dis[p]? = some y → dis[p']? = some y' → y.2.op.cls = .alloc → B p = true → p < p' → (headH (HS p)).n < (headH (HS p')).n := by
    intro p p' y y' hy hy' ha hB hpp
    obtain ⟨e', s', xs', _, _, h1⟩ := T.alloc (map_get hy) ha (hkind p y hy ha) hB
    have hp' : p' < (dis.map (·.2)).length := by simp; exact (List.getElem?_eq_some_iff.1 hy').1
    have h2 := (T.keeps hc hl (by omega : p + 1 ≤ p') (by omega)).n
    rw [h1, n_push] at h2
    omega
  have hnone : ĉ.ρ (headH (HS q)).n = none := by
    cases hr : ĉ.ρ (headH (HS q)).n with
    | none => rfl
    | some pr =>
      obtain ⟨b, x0⟩ := pr
      obtain ⟨_, _, p, y, h3, h4, h5, h6, h7, h8⟩ := M.dom _ b x0 hnk hr
      have ha := (M.pend p y h3 h4 h6 h5).1
      rcases Nat.lt_trichotomy p q with hh | hh | hh
      · have := apart p q y x h4 U.hx ha h7 hh; omega
      · subst hh
        have : y = x := Option.some.inj (h4.symm.trans U.hx)
        subst this
        exact absurd h5 U.not
      · have := apart q p x y U.hx h4 hcls hb hh; omega
  let ĉ1 : Ctx := ⟨w', fun id => if id = (headH (HS q)).n then some (ĉ.w.heap.size, 0) else ĉ.ρ id, fun b => ĉ.O b ∨ b = ĉ.w.heap.size, ĉ.X, fun b => ĉ.E b ∨ b = ĉ.w.heap.size, ĉ.τ⟩
  have hrho : ∀ id p, ĉ.ρ id = some p → ĉ1.ρ id = some p := fun id p hp => by
    have : id ≠ (headH (HS q)).n := fun e => by subst e; rw [hnone] at hp; cases hp
    simp only [ĉ1, if_neg this]; exact hp
  obtain ⟨hrel, hle0⟩ := M.rel.early (w' := w') hsize hframe hqt
  have hcut : ĉ1.cut (headH (HS k)).n = ⟨w', (ĉ.cut (headH (HS k)).n).ρ, fun b => ĉ.O b ∨ b = ĉ.w.heap.size, ĉ.X, fun b => ĉ.E b ∨ b = ĉ.w.heap.size, ĉ.τ⟩ := by
    have : (fun id => if id < (headH (HS k)).n then ĉ1.ρ id else none) = (ĉ.cut (headH (HS k)).n).ρ := by
      funext id
      simp only [Ctx.cut]
      split
      · have : id ≠ (headH (HS q)).n := by omega
        simp only [ĉ1, if_neg this]
      · rfl
    simp only [Ctx.cut] at this ⊢
    rw [this]
  have hleM : ∀ M, CtxLe (ĉ.cut M) (ĉ1.cut M) := fun M =>
    ⟨fun id p hp => by
      obtain ⟨h1, h2⟩ := cut_some hp
      rw [cut_lt h1]; exact hrho id p h2, hle0.size, hle0.frame, hle0.own, hle0.shape, hle0.X, hle0.pend, hle0.quiet, hle0.tok⟩
  have hElt : ∀ b, ĉ.E b → b < ĉ.w.heap.size := fun b hb => (M.rel.pend b hb).1
  refine ⟨ĉ1, rfl, hleM, ⟨M.k_le, fun p y hp hy hky => (Li_set hlt).2 (.inl (M.front p y hp hy hky)), by rw [hcut]; exact hrel, M.le.trans (hleM _), M.X, fun b hE => ?_, fun b hE => .inl (M.cE b hE), fun id b z' hid hr => ?_, fun p y hp hy hky hL => ?_, fun id id' b h1 h2 h3 h4 => ?_⟩, by simp [ĉ1]⟩
  · rcases hE with hE | hE
    · exact (M.E b hE).imp (fun x => x) fun ⟨id, h1, h2⟩ => ⟨id, h1, hrho id _ h2⟩
    · subst hE; exact .inr ⟨(headH (HS q)).n, hnk, by simp [ĉ1]⟩
  · by_cases e : id = (headH (HS q)).n
    · simp only [ĉ1, if_pos e, Option.some.injEq, Prod.mk.injEq] at hr
      refine ⟨.inr hr.1.symm, fun hE => ?_, q, x, hkq, U.hx, (Li_set hlt).2 (.inr rfl), ?_, hb, e⟩
      · have := hElt b (M.cE b hE); omega
      · rw [hkind q x U.hx hcls]; simp
    · simp only [ĉ1, if_neg e] at hr
      obtain ⟨g1, g2, p, y, g3, g4, g5, g6⟩ := M.dom id b z' hid hr
      exact ⟨.inl g1, g2, p, y, g3, g4, (Li_set hlt).2 (.inl g5), g6⟩
  · rcases (Li_set hlt).1 hL with h1 | h1
    · obtain ⟨g1, g2⟩ := M.pend p y hp hy hky h1
      refine ⟨g1, fun hB => ?_⟩
      obtain ⟨e', s', xs', b, f1, f2, f3⟩ := g2 hB
      have hp' : p < (dis.map (·.2)).length := by simp; exact (List.getElem?_eq_some_iff.1 hy).1
      have hE := (M.dom _ b 0 (T.keeps hc hl hp (by omega)).n f2).1
      exact ⟨e', s', xs', b, f1, hrho _ _ f2, f3.mono (hleM _) (hframe b (hElt b hE))⟩
    · have := fit_inj F hy U.hx h1
      subst this
      have : y = x := Option.some.inj (hy.symm.trans U.hx)
      subst this
      exact ⟨hcls, fun _ => ⟨ety, sz, xs, _, hmd, by simp [ĉ1], cur, hs0, hcs, hone, fun i hi => ⟨(hel i hi).1, fun j hj => by
        obtain ⟨v, a1, a2, a3⟩ := (hel i hi).2 j hj
        exact ⟨v, a1, a2, a3.mono (hleM _)⟩⟩, hnew⟩⟩
  · by_cases e1 : id = (headH (HS q)).n <;> by_cases e2 : id' = (headH (HS q)).n
    · omega
    · simp only [ĉ1, if_pos e1, if_neg e2, Option.some.injEq, Prod.mk.injEq] at h3 h4
      have := hElt b (M.dom _ b 0 h2 h4).1
      omega
    · simp only [ĉ1, if_neg e1, if_pos e2, Option.some.injEq, Prod.mk.injEq] at h3 h4
      have := hElt b (M.dom _ b 0 h1 h3).1
      omega
    · simp only [ĉ1, if_neg e1, if_neg e2] at h3 h4
      exact M.inj id id' b h1 h2 h3 h4

end
end Go.Dm
