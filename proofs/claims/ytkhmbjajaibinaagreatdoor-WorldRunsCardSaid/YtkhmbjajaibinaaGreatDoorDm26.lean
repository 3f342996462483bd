/-
Part 26 of "Dm": runs do what the machine says.
-/
import Derived.Test.YtkhmbjajaibinaaGreatDoorDm25
namespace Go.Dm

theorem gd_both {listed : Array Bool} {i : Nat} (h : listed.getD i true = false) : listed.getD i false = false := by
  rcases Nat.lt_or_ge i listed.size with h' | h'
  · simp [h'] at h ⊢; exact h
  · simp [h'] at h

theorem gd_in {listed : Array Bool} {i : Nat} (hi : i < listed.size) (h : listed.getD i false = false) : listed.getD i true = false := by
  simp [hi] at h ⊢; exact h

theorem gd_rep (m j : Nat) : (Array.replicate m false).getD j false = false := by
  rcases Nat.lt_or_ge j m with h | h
  · simp [h]
  · simp [h]

section
variable {P : Program} {call : CallF} {ops : List Oper} {dis : List (Nat × DOper)} {bs : List Nat} {E : Nat → Env} {HS : Nat → List Heap} {LS : Nat → DLog} {V : Nat → DV} {B : Nat → Bool} {c ĉ ĉ1 : Ctx} {env : Env} {h : Heap}
  {listed : Array Bool} {a : Act} {k m0 : Nat}

theorem ready_up {j : Nat} (hj : j ∈ Region.ready .any ops.toArray listed) (F : Fit P ops dis bs) : ∃ q x o, Up ops dis listed q x o ∧ x.1 = j := by
  obtain ⟨h1, o, ho, hall⟩ := mem_ready.1 hj
  have ho' : ops[j]? = some o := by simpa using ho
  have hlt : j < ops.length := (List.getElem?_eq_some_iff.1 ho').1
  obtain ⟨q, x, hx, he⟩ := F.all j hlt
  subst he
  refine ⟨q, x, o, ⟨hx, ho', ?_, fun e he hb => hall e (Array.mem_toList_iff.1 he) hb⟩, rfl⟩
  unfold Li
  rw [gd_both h1]
  simp

/-- If none may come up, all have. -/
theorem none_ready (F : Fit P ops dis bs) (hsize : listed.size = ops.length) (hr : Region.ready .any ops.toArray listed = []) : ∀ (q : Nat) (x : Nat × DOper), dis[q]? = some x → Li listed x.1 := by
  intro q
  induction q using Nat.strongRecOn with
  | _ q ih =>
    intro x hx
    refine Classical.byContradiction fun hn => ?_
    obtain ⟨o, _, _, ho, _⟩ := F.comp q x hx
    have hmem : x.1 ∈ Region.ready .any ops.toArray listed := by
      rw [mem_ready]
      refine ⟨gd_in (by rw [hsize]; exact fit_lt F hx) (by unfold Li at hn; simpa using hn), o, by simpa using ho, fun e he hb => ?_⟩
      have he' := Array.mem_toList_iff.2 he
      obtain ⟨h1, h2⟩ := F.edge x.1 o e ho he' hb
      obtain ⟨p, y, hy, hye⟩ := F.all e.on (Nat.lt_trans h2 (fit_lt F hx))
      rcases Nat.lt_trichotomy p q with hh | hh | hh
      · have := ih p hh y hy
        rw [hye] at this
        exact this
      · subst hh
        have : y = x := Option.some.inj (hy.symm.trans hx)
        subst this
        omega
      · have := (F.pair q p x y hh hx hy).2.1
        rw [hye] at this
        rw [h1] at this
        cases this
    rw [hr] at hmem
    cases hmem

theorem draw_done (F : Fit P ops dis bs) (T : Trace call (dis.map (·.2)) env [h] .start E HS LS V B) (hc : CallKeeps call) (hl : h.lim ≤ h.n) (I : InvE ops dis HS V env listed a ĉ (headH (HS k)).n) (M : InvM dis E HS B c listed k ĉ) (hmax : Max dis listed k)
    (hall : ∀ (q : Nat) (x : Nat × DOper), dis[q]? = some x → Li listed x.1) : St c (headH (HS dis.length)) (E dis.length) a ĉ.w := by
  have hk : k = dis.length := hmax.resolve_right fun ⟨x, hx, _, hn⟩ => hn (hall k x hx)
  subst hk
  have hE : ĉ.E = c.E := by
    funext b
    refine propext ⟨fun hb => (M.E b hb).resolve_right fun ⟨id, h1, h2⟩ => ?_, M.cE b⟩
    obtain ⟨_, _, p, y, h3, h4, _⟩ := M.dom id b 0 h1 h2
    have := (List.getElem?_eq_some_iff.1 h4).1
    omega
  have hcut : ĉ.cut (headH (HS dis.length)).n = c.next ĉ.w (ĉ.cut (headH (HS dis.length)).n).ρ (headH (HS dis.length)) := by
    have hO : ĉ.O = fun b => ownB (headH (HS dis.length)) (ĉ.cut (headH (HS dis.length)).n).ρ b ∨ c.E b := by
      funext b
      have := M.rel.own b
      rw [← hE]
      exact propext this
    have hτ : ĉ.τ = c.τ := M.le.tok
    simp only [Ctx.next, Ctx.cut] at hO ⊢
    rw [hO, hE, M.X, hτ]
  refine ⟨(ĉ.cut (headH (HS dis.length)).n).ρ, by rw [← hcut]; exact M.rel, by rw [← hcut]; exact M.le, ?_⟩
  rw [← hcut]
  have hlen : dis.length ≤ (dis.map (·.2)).length := by simp
  refine ⟨by rw [T.len _ hlen]; exact I.asize, I.defers, fun t ht => ?_⟩
  have ht' : t < env.length := by rw [T.len _ hlen] at ht; exact ht
  by_cases hw : ∃ (p : Nat) (y : Nat × DOper), dis[p]? = some y ∧ y.2.dst = some t
  · obtain ⟨p, y, hy, hd⟩ := hw
    have hp := (List.getElem?_eq_some_iff.1 hy).1
    have e := T.new (map_get hy) hd ht' dis.length hp hlen (fun p' d' a1 a2 hd' => by
      obtain ⟨y', e1, e2⟩ := get_map hd'
      subst e2
      exact fit_dst F a1 hy e1 hd)
    have e2 : (E dis.length)[t] = V p := by rw [List.getElem?_eq_getElem ht] at e; exact Option.some.inj e
    rw [e2]
    have hn := (T.keeps hc hl (by omega : p + 1 ≤ dis.length) hlen).n
    exact (I.vals p y t hy (hall p y hy) hd ht').mono (cut_le (by omega))
  · have e := T.old (t := t) dis.length hlen (fun p d hp hd e => by
      obtain ⟨y, e1, e2⟩ := get_map hd
      subst e2
      exact hw ⟨p, y, e1, e⟩)
    have hn := (T.keeps hc hl (Nat.zero_le dis.length) hlen).n
    have := (I.olds t fun p y hy _ hd => hw ⟨p, y, hy, hd⟩).mono (cut_le (M := (headH (HS dis.length)).n) (by omega))
    rw [← e, List.getElem?_eq_getElem ht] at this
    exact this

def unl (ops : List Oper) (listed : Array Bool) : Nat := (List.range ops.length).countP fun i => !(listed.getD i false)

theorem draw_any (F : Fit P ops dis bs) (T : Trace call (dis.map (·.2)) env [h] .start E HS LS V B) (hc : CallKeeps call) (hcall : CallSound P call) (hl : h.lim ≤ h.n) {Q : Exit → Act → World → Prop}
    (hQ : ∀ a' w', St c (headH (HS dis.length)) (E dis.length) a' w' → Q .normal a' w') : ∀ (fuel : Nat) (listed : Array Bool) (a : Act) (ĉ : Ctx) (k : Nat), unl ops listed ≤ fuel →
    InvE ops dis HS V env listed a ĉ (headH (HS k)).n → InvM dis E HS B c listed k ĉ → Max dis listed k → wpAny P .any ops.toArray Q fuel listed a ĉ.w := by
  intro fuel
  induction fuel with
  | zero =>
    intro listed a ĉ k hu I M hmax
    have hz : unl ops listed = 0 := by omega
    unfold unl at hz
    rw [List.countP_eq_zero] at hz
    have hr : Region.ready .any ops.toArray listed = [] := by
      rw [List.eq_nil_iff_forall_not_mem]
      intro j hj
      obtain ⟨q, x, o, U, e⟩ := ready_up hj F
      refine U.not ?_
      have := hz x.1 (List.mem_range.2 (fit_lt F U.hx))
      unfold Li
      simpa using this
    exact ⟨hr, hQ _ _ (draw_done F T hc hl I M hmax (none_ready F I.size hr))⟩
  | succ fuel ih =>
    intro listed a ĉ k hu I M hmax
    refine ⟨fun hr => hQ _ _ (draw_done F T hc hl I M hmax (none_ready F I.size hr)), fun j hj => ?_⟩
    obtain ⟨q, x, o, U, e⟩ := ready_up hj F
    subst e
    refine draw_step F T hc hcall hl I M hmax U fun a' ĉ1 k1 I1 M1 hmax1 => ih _ a' ĉ1 k1 ?_ I1 M1 hmax1
    have hlt : x.1 < listed.size := by rw [I.size]; exact fit_lt F U.hx
    have : unl ops (listed.setIfInBounds x.1 true) < unl ops listed := by
      refine countP_lt (i := x.1) ?_ ?_ _ (fun y _ hy => ?_) (List.mem_range.2 (fit_lt F U.hx))
      · have := U.not; unfold Li at this; simpa using this
      · have := (Li_set (listed := listed) (i := x.1) hlt).2 (.inr rfl)
        unfold Li at this
        rw [this]; rfl
      · have h2 : ¬ Li (listed.setIfInBounds x.1 true) y := by unfold Li; simpa using hy
        have h3 : ¬ Li listed y := fun h3 => h2 ((Li_set hlt).2 (.inl h3))
        unfold Li at h3
        simpa using h3
    omega

/-- A region with an open order does what the machine says. -/
theorem draw_sound (hm : P.follows .mixedOrders = true) {id : Nat} {ops : Array Oper} {ds : List DOper} (hcomp : compRegion P ops.toList true = some (.draw ds)) (hc : CallKeeps call) (hcall : CallSound P call) {env' : Env} {h' : Heap}
    (hrun : runDraw call ds env [h] .start = some (env', h')) (hR : Rel h c) (hE : EnvR c env a) {Q : Exit → Act → World → Prop} (hQ : ∀ a' w', St c h' env' a' w' → Q .normal a' w') : (Code.region id ops true).wp P Q a c.w := by
  obtain ⟨dis, bs, e, F⟩ := compRegion_fit hcomp
  have e : ds = dis.map (·.2) := by cases e; rfl
  subst e
  obtain ⟨E, HS, LS, V, B, T, t1, gs, t2⟩ := trace_of_run _ _ _ _ _ _ hrun
  refine wp_region_any hm ?_
  have hlen : (dis.map (·.2)).length = dis.length := by simp
  rw [hlen] at t1 t2
  have hQ' : ∀ a' w', St c (headH (HS dis.length)) (E dis.length) a' w' → Q .normal a' w' := fun a' w' hst => hQ a' w' (by rw [t2] at hst; rw [← t1]; exact hst)
  let ĉ : Ctx := { c with w := { c.w with drawn := c.w.drawn + 1 } }
  have hH0 : headH (HS 0) = h := by rw [T.H0]; rfl
  have hself : c.next c.w c.ρ h = c := hR.same
  have hĉ : ĉ = c.next { c.w with drawn := c.w.drawn + 1 } c.ρ h := by
    have : c.O = fun b => ownB h c.ρ b ∨ c.E b := by funext b; exact propext (hR.own b)
    simp only [ĉ, Ctx.next]
    rw [this]
  obtain ⟨r1, r2⟩ := hR.heapEq { c.w with drawn := c.w.drawn + 1 } rfl
  rw [← hĉ] at r1 r2
  have hcs := cut_self r1
  have hsz : (Array.replicate ops.size false).size = ops.toList.length := by simp
  have hno : ∀ i, ¬ Li (Array.replicate ops.size false) i := fun i => by unfold Li; rw [gd_rep]; simp
  have I0 : InvE ops.toList dis HS V env (Array.replicate ops.size false) a ĉ (headH (HS 0)).n :=
    ⟨hsz, fun j o _ hj => absurd hj (hno j), hE.size, hE.defers, fun p x t _ hL => absurd hL (hno _), fun t _ => by
      rw [Nat.max_self, hH0, hcs]
      exact (hE.get t).mono r2⟩
  have hdom : ∀ id, (headH (HS 0)).n ≤ id → ĉ.ρ id = none := fun id hid => by
    cases hr : ĉ.ρ id with
    | none => rfl
    | some p =>
      have := r1.dom id (by rw [hr]; simp)
      rw [hH0] at hid
      omega
  have M0 : InvM dis E HS B c (Array.replicate ops.size false) 0 ĉ :=
    ⟨Nat.zero_le _, fun p x hp => absurd hp (Nat.not_lt_zero _), by rw [hH0, hcs]; exact r1, by rw [hH0, hcs]; exact r2, rfl, fun b hb => .inl hb, fun b hb => hb, fun id b x hid hr => (by rw [hdom id hid] at hr; cases hr),
      fun p x _ _ _ hL => absurd hL (hno _), fun id id' b h1 _ h3 => (by rw [hdom id h1] at h3; cases h3)⟩
  obtain ⟨k1, ĉ1, _, g1, g2, g3, g4, g5⟩ := M0.advance F T hc (by exact hR.lim) _ 0 ĉ rfl
  have := draw_any F T hc hcall hR.lim hQ' ops.size (Array.replicate ops.size false) a ĉ1 k1 (by
    unfold unl
    refine Nat.le_trans List.countP_le_length ?_
    simp) (I0.mono g3 g1) g4 g5
  rw [g2] at this
  have e : ops.toList.toArray = ops := by simp
  rw [e] at this
  exact this

end
end Go.Dm
