/-
Part 33 of "Dm": what stands in the place of errors.As, at the two targets that occur: an error number, a fault.
-/
import Derived.Test.YtkhmbjajaibinaaGreatDoorDm32
import Derived.Below
namespace Go.Dm
open Go.RowKit

/-- The third cell behind a pointer. -/
def shift2 : DV → Option DV
  | .ptr id sz idx off => some (.ptr id sz idx (off + 2))
  | .iptr l cs off => some (.iptr l cs (off + 2))
  | _ => none

/-- The number at the end of a chain of faults. -/
def findNum (tE tF : TypeId) (h : Heap) : Nat → DV → Option (Option DV)
  | 0, _ => none
  | n + 1, d => match d with
    | .iface t x =>
      if t = tE then (match x with | .int .i64 k => some (some (.int .i64 k)) | _ => none)
      else if t = tF then
        match shift2 x with
        | some y => match loadP h none y with
          | some .nili => some none
          | some d' => findNum tE tF h n d'
          | none => none
        | none => none
      else none
    | _ => none

def asHook (tE tF tPE tPF : TypeId) : Hook := fun h args =>
  match args with
  | [.nili, _] => some (.bool false, h)
  | [.iface t x, .iface t' (.ptr id sz idx off)] =>
    if t' = tPE then
      match findNum tE tF h 50 (.iface t x) with
      | some (some k) => match storeP h 1 (.ptr id sz idx off) k with | some h' => some (.bool true, h') | none => none
      | some none => if (storeP h 1 (.ptr id sz idx off) (.int .i64 0)).isSome then some (.bool false, h) else none
      | none => none
    else if t' = tPF then
      if t = tF then
        match shift2 x with
        | some _ => match storeP h 1 (.ptr id sz idx off) x with | some h' => some (.bool true, h') | none => none
        | none => none
      else if t = tE then (match x with | .int .i64 _ => some (.bool false, h) | _ => none)
      else none
    else none
  | _ => none

/-- A chain of faults in memory, down to an error number or to nil. -/
inductive ErrChain (tE tF : TypeId) (w : World) : Value → Option Int → Nat → Prop
  | hit (n : Int) : ErrChain tE tF w (.iface tE (.int .i64 n)) (some n) 0
  | step (b o : Nat) (v : Value) (r : Option Int) (n : Nat) : w.cell? ⟨b, o + 2, none⟩ = some v → ErrChain tE tF w v r n → ErrChain tE tF w (.iface tF (.pointer (some ⟨b, o, none⟩))) r (n + 1)
  | stop (b o : Nat) : w.cell? ⟨b, o + 2, none⟩ = some .nilIface → ErrChain tE tF w (.iface tF (.pointer (some ⟨b, o, none⟩))) none 0

/-- What errors.As answers, in the program: its contracts. -/
structure AsText (P : Program) (f : Nat) (fn : Func) (tE tF tPE tPF : TypeId) : Prop where
  hf : P.funcs[f]? = some fn
  hb : fn.body.isSome = true
  hn : (fn.name == "runtime.NumGoroutine") = false
  nil : ∀ (t : Value) (w : World), Calls P f #[.nilIface, t] w fun e w' => e = .returned (.bool false) ∧ w' = w
  num : ∀ (v : Value) (r : Option Int) (n : Nat) (p : Addr) (old : Value) (w : World), Laid w → ErrChain tE tF w v r n → w.cell? p = some old → w.frozen? p = false →
    Calls P f #[v, .iface tPE (.pointer (some p))] w fun e w' => e = .returned (.bool r.isSome) ∧ ∃ w1, (Below w.heap.size w w1 ∧ ∀ a, w1.frozen? a = w.frozen? a) ∧ w' = match r with | some n => w1.setCell p (.int .i64 n) | none => w1
  hit : ∀ (q p : Addr) (old : Value) (w : World), Laid w → w.cell? p = some old → w.frozen? p = false →
    Calls P f #[.iface tF (.pointer (some q)), .iface tPF (.pointer (some p))] w fun e w' => e = .returned (.bool true) ∧ ∃ w1, (Below w.heap.size w w1 ∧ ∀ a, w1.frozen? a = w.frozen? a) ∧ w' = w1.setCell p (.pointer (some q))
  miss : ∀ (n : Int) (p : Addr) (w : World), Laid w →
    Calls P f #[.iface tE (.int .i64 n), .iface tPF (.pointer (some p))] w fun e w' => e = .returned (.bool false) ∧ Below w.heap.size w w' ∧ ∀ a, w'.frozen? a = w.frozen? a

theorem Rel.laid {h : Heap} {c : Ctx} (hR : Rel h c) : Laid c.w := fun b v hv => ⟨(hR.glob b v hv).1, (hR.glob b v hv).2.2⟩

/-- New blocks that are nobody's. -/
theorem Rel.grow {h : Heap} {c : Ctx} (hR : Rel h c) {w1 : World} (hb : Below c.w.heap.size c.w w1) (hf : ∀ a, w1.frozen? a = c.w.frozen? a) : Rel h (c.next w1 c.ρ h) ∧ CtxLe c (c.next w1 c.ρ h) := by
  have hO : ∀ b, (ownB h c.ρ b ∨ c.E b) ↔ c.O b := fun b => (hR.own b).symm
  have hsame : ∀ b, b < c.w.heap.size → w1.heap[b]? = c.w.heap[b]? := hb.block
  have hle3 : CtxLe c (c.next w1 c.ρ h) :=
    ⟨fun _ _ hp => hp, hb.size, fun b hbl _ => hsame b hbl, fun b hbl => .inl ((hO b).1 hbl), fun b e n hs => by
      have := shape_lt hs
      simp only [World.shape?, Ctx.next] at hs ⊢
      rw [hsame b this]; exact hs, fun _ hx => hx, fun b hbl hE => ⟨hE, hsame b hbl⟩, ⟨hb.os, hb.output, hf⟩, rfl⟩
  exact ⟨⟨hR.len, hR.lim, hR.dom, fun id o hg => (hR.obj id o hg).mono hle3 (fun ha b x hr => hsame b (hR.block_lt hg ha hr)), hR.inj, fun _ => Iff.rfl, fun b hbl => hR.notX b ((hO b).1 hbl), fun b hbl => Nat.lt_of_lt_of_le (hR.old b hbl) hb.size,
    fun b hbl => ⟨Nat.lt_of_lt_of_le (hR.pend b hbl).1 hb.size, (hR.pend b hbl).2⟩, hR.glob.mono hle3⟩, hle3⟩

theorem shift2_sound {c : Ctx} {x y : DV} {v : Value} (hs : shift2 x = some y) (hv : VR c x v) : ∃ b o, v = .pointer (some ⟨b, o, none⟩) ∧ VR c y (.pointer (some ⟨b, o + 2, none⟩)) := by
  unfold shift2 at hs
  split at hs
  · cases hs
    obtain ⟨b, base, rfl, hρ⟩ := hv.ptr_inv
    exact ⟨b, _, rfl, .ptr hρ⟩
  · cases hs
    obtain ⟨b, o, vals, rfl, hb, hO, hX, hc, hvv⟩ := hv.iptr_inv
    exact ⟨b, _, rfl, .iptr vals hb hO hX hc hvv⟩
  · cases hs

theorem loadP_one {h : Heap} {c : Ctx} (hR : Rel h c) {y d : DV} {b o : Nat} (hy : VR c y (.pointer (some ⟨b, o, none⟩))) (hl : loadP h none y = some d) : ∃ u, c.w.cell? ⟨b, o, none⟩ = some u ∧ VR c d u := by
  obtain ⟨b', o', off, cs, e, hp, hc⟩ := loadP_view hR hy hl
  cases e
  simp only [pickCells] at hp
  obtain ⟨hj, rfl⟩ := List.getElem?_eq_some_iff.1 hp
  obtain ⟨u, h1, _, h3⟩ := hc off hj
  exact ⟨u, h1, h3⟩

theorem findNum_sound {tE tF : TypeId} {h : Heap} {c : Ctx} (hR : Rel h c) : ∀ (n : Nat) {d : DV} {v : Value} {r : Option DV}, VR c d v → findNum tE tF h n d = some r →
    ∃ (q : Option Int) (k : Nat), ErrChain tE tF c.w v q k ∧ r = q.map (.int .i64 ·) := by
  intro n
  induction n with
  | zero => intro d v r _ hf; cases hf
  | succ n ih =>
    intro d v r hv hf
    simp only [findNum] at hf
    split at hf
    · rename_i t x
      cases hv with
      | iface hv =>
        split at hf
        · rename_i ht
          subst ht
          split at hf
          · cases hf
            rw [hv.int_inv]
            exact ⟨some _, 0, .hit _, rfl⟩
          · cases hf
        · split at hf
          · rename_i ht
            subst ht
            split at hf
            · rename_i y hy
              obtain ⟨b, o, rfl, hvy⟩ := shift2_sound hy hv
              split at hf
              · rename_i hl
                cases hf
                obtain ⟨u, h1, h2⟩ := loadP_one hR hvy hl
                cases h2
                exact ⟨none, 0, .stop b o h1, rfl⟩
              · rename_i d' hl
                obtain ⟨u, h1, h2⟩ := loadP_one hR hvy hl
                obtain ⟨q, k, k1, k2⟩ := ih h2 hf
                exact ⟨q, k + 1, .step b o u q k h1 k1, k2⟩
              · cases hf
            · cases hf
          · cases hf
    · cases hf

theorem storeP_id {h h' : Heap} {id sz idx off n : Nat} {x : DV} (hs : storeP h n (.ptr id sz idx off) x = some h') : ∃ ety xs cap e, h.get id = some (.arr ety sz xs cap) ∧ h.lim ≤ id ∧ storable n x = true ∧ off + n ≤ sz ∧ xs[idx]? = some e ∧ (ecells sz e).length = sz ∧ h' = h.set id (.arr ety sz (xs.set idx (turn sz off n e x)) cap) := by
  unfold storeP at hs
  simp only at hs
  split at hs
  · rename_i ety sz' xs cap hg
    split at hs
    · rename_i hc
      obtain ⟨h1, h2, h3, h4⟩ := hc
      subst h1
      split at hs
      · rename_i e he
        split at hs
        · rename_i hl
          cases hs
          exact ⟨ety, xs, cap, e, hg, h2, h3, h4, he, hl, rfl⟩
        · cases hs
      · cases hs
    · cases hs
  · cases hs

theorem spl_one {cur : Array Value} {p : Nat} {u : Value} (hp : p < cur.size) : spl cur p [u] = cur.setIfInBounds p u := by
  have hle : p + [u].length ≤ cur.size := by simp only [List.length_singleton]; omega
  apply Array.ext_getElem?
  intro q
  rw [spl_get hle, Array.getElem?_setIfInBounds]
  by_cases hq : q < p
  · rw [if_pos hq, if_neg (by omega)]
  · rw [if_neg hq]
    by_cases he : q = p
    · subst he
      rw [if_pos (by simp), if_pos rfl, if_pos hp]
      simp
    · rw [if_neg (by simp; omega), if_neg (by omega)]

/-- A cell behind a pointer, set. -/
theorem store_setCell {h h' : Heap} {c : Ctx} (hR : Rel h c) {id sz idx off : Nat} {x : DV} {p : Addr} {u : Value} (vx : VR c (.ptr id sz idx off) (.pointer (some p))) (hs : storeP h 1 (.ptr id sz idx off) x = some h')
    (vy : VR c x u) (hone : u.cells = #[u]) : (∃ old, c.w.cell? p = some old) ∧ c.w.frozen? p = false ∧ ∃ ρ', Rel h' (c.next (c.w.setCell p u) ρ' h') ∧ CtxLe c (c.next (c.w.setCell p u) ρ' h') := by
  obtain ⟨ety, xs, cap, e, hg, hlim, hstor, hoff, he, hel, rfl⟩ := storeP_id hs
  obtain ⟨b, base, hvx, hρ⟩ := vx.ptr_inv
  cases hvx
  obtain ⟨cur, m, g1, g2, g3, g4, g5, g6⟩ := hR.arr hg hρ
  obtain ⟨s1, s2, s4, s3⟩ := storable_list hstor vy
  obtain ⟨hidx, hee⟩ := List.getElem?_eq_some_iff.1 he
  have hb1 : idx * sz + sz ≤ m * sz := by
    have : (idx + 1) * sz ≤ m * sz := Nat.mul_le_mul_right _ (by omega)
    rw [Nat.add_mul] at this; omega
  have hu : u.cells.toList = [u] := by rw [hone]
  rw [hu] at s2 s4 s3
  have hp : base + idx * sz + off + [u].length ≤ cur.size := by rw [s2]; omega
  have hp' : base + idx * sz + off < cur.size := by simp at hp; omega
  have hturn : ecells sz (turn sz off 1 e x) = (ecells sz e).take off ++ ecells 1 x ++ (ecells sz e).drop (off + 1) := by
    unfold turn
    split
    · rename_i hc
      obtain ⟨e1, e2⟩ := hc
      subst e1
      rw [e2]
      simp [hel]
    · rfl
  obtain ⟨k1, k2⟩ := hR.write hg hρ g1 g2 g3 (xs.set idx (turn sz off 1 e x)) (by simp) g4 g5 (base + idx * sz + off) [u] hp s4 (elemsR_iff.2 fun k d hk => by
    rw [List.getElem?_set] at hk
    have g6' := elemsR_iff.1 g6
    by_cases hki : idx = k
    · subst hki
      rw [if_pos rfl, if_pos hidx] at hk
      cases hk
      obtain ⟨w1, w2⟩ := g6' idx e he
      rw [hturn]
      refine ⟨by simp only [List.length_append, List.length_take, List.length_drop, hel, s1]; omega, ?_⟩
      have l1 : ((ecells sz e).take off).length = off := by rw [List.length_take, hel]; omega
      refine CellsOk.append (CellsOk.append ?_ ?_) ?_
      · exact (w2.take off).other hp (.inl (by rw [l1]; exact Nat.le_refl _))
      · rw [l1]
        exact CellsOk.same hp (by rw [s1, s2]; exact Nat.le_refl _) s3
      · rw [List.length_append, l1, s1]
        have := (w2.drop (off + 1)).other hp (.inr (by rw [s2]; omega))
        simpa [Nat.add_assoc] using this
    · rw [if_neg hki] at hk
      obtain ⟨w1, w2⟩ := g6' k d hk
      refine ⟨w1, w2.other hp ?_⟩
      rw [w1, s2]
      rcases Nat.lt_or_gt_of_ne hki with hlt | hgt
      · have : idx * sz + (sz - 1) < k * sz := mul_lt_of hlt (by omega)
        right; omega
      · have : k * sz + (sz - 1) < idx * sz := mul_lt_of hgt (by omega)
        left; omega)
  refine ⟨⟨cur[base + idx * sz + off], ?_⟩, calm_frozen (ob := .cells cur ety (0, 0)) (by exact g1) rfl, c.ρ, ?_⟩
  · simp [World.cell?, g1, hp']
  · rw [setCell_eq_setRow c.w b _ cur ety (0, 0) u g1, ← spl_one hp']
    exact ⟨k1, k2⟩

/-- A cell set behind new blocks. -/
theorem set_post {h h' : Heap} {c : Ctx} (hR : Rel h c) {w1 : World} (hb : Below c.w.heap.size c.w w1) (hf : ∀ a, w1.frozen? a = c.w.frozen? a) {id sz idx off : Nat} {x : DV} {p : Addr} {u : Value} (hp : VR c (.ptr id sz idx off) (.pointer (some p)))
    (hs : storeP h 1 (.ptr id sz idx off) x = some h') (hx : VR c x u) (hone : u.cells = #[u]) {d : DV} {v : Value} (hv : VR c d v) : Post h c h' (w1.setCell p u) d v := by
  obtain ⟨k1, k2⟩ := hR.grow hb hf
  obtain ⟨_, _, ρ', m1, m2⟩ := store_setCell k1 (hp.mono k2) hs (hx.mono k2) hone
  exact ⟨ρ', m1, k2.trans m2, (hv.mono k2).mono m2⟩

theorem two_vals {c : Ctx} {d1 d2 : DV} {vals : List Value} (hv : VRs c [d1, d2] vals) : ∃ v1 v2, vals = [v1, v2] ∧ VR c d1 v1 ∧ VR c d2 v2 := by
  have hl := hv.1
  cases vals with
  | nil => simp at hl
  | cons a r => cases r with
    | nil => simp at hl
    | cons b r => cases r with
      | nil => exact ⟨a, b, rfl, hv.2 0 (by simp) (by simp), hv.2 1 (by simp) (by simp)⟩
      | cons c r => simp at hl

theorem as_ok {P : Program} {f : Nat} {fn : Func} {tE tF tPE tPF : TypeId} (T : AsText P f fn tE tF tPE tPF) : HookOk P f (asHook tE tF tPE tPF) := by
  have hname : fn.name ≠ "runtime.NumGoroutine" := by simpa using T.hn
  obtain ⟨body, hbody⟩ := Option.isSome_iff_exists.1 T.hb
  refine ⟨fun args h d h' c vals hs hR hv => ?_, fun h args v h' hl hs => ?_⟩
  · have hent := fun a => callFunc_enter T.hf hbody hname (w := c.w) a
    refine .inr ⟨f, vals.toArray, hent _, ?_⟩
    unfold asHook at hs
    split at hs
    · -- nil
      cases hs
      obtain ⟨v1, v2, rfl, h1, h2⟩ := two_vals hv
      cases h1
      refine (T.nil v2 c.w).mono fun e w' hp => ?_
      obtain ⟨rfl, rfl⟩ := hp
      exact ⟨_, rfl, Post.pure hR (.bool false)⟩
    · rename_i t x t' id sz idx off
      obtain ⟨v1, v2, rfl, h1, h2⟩ := two_vals hv
      cases h1 with
      | iface h1 =>
      rename_i v1
      cases h2 with
      | iface h2 =>
      obtain ⟨b, base, rfl, hρ⟩ := h2.ptr_inv
      split at hs
      · rename_i ht
        subst ht
        split at hs
        · rename_i k hk
          split at hs
          · rename_i h'' hst
            cases hs
            obtain ⟨q, n, hch, hq⟩ := findNum_sound hR 50 (.iface h1) hk
            cases q with
            | none => cases hq
            | some q =>
              cases hq
              obtain ⟨⟨old, ho⟩, hfr, _⟩ := store_setCell hR h2 hst (VR.int .i64 q) rfl
              refine (T.num _ _ n _ old c.w hR.laid hch ho hfr).mono fun e w' hp => ?_
              obtain ⟨rfl, w1, ⟨hb, hf⟩, rfl⟩ := hp
              exact ⟨_, rfl, set_post hR hb hf h2 hst (.int .i64 q) rfl (.bool true)⟩
          · cases hs
        · rename_i hk
          split at hs
          · rename_i hsome
            cases hs
            obtain ⟨h'', hst⟩ := Option.isSome_iff_exists.1 hsome
            obtain ⟨q, n, hch, hq⟩ := findNum_sound hR 50 (.iface h1) hk
            cases q with
            | some q => cases hq
            | none =>
              obtain ⟨⟨old, ho⟩, hfr, _⟩ := store_setCell hR h2 hst (VR.int .i64 0) rfl
              refine (T.num _ _ n _ old c.w hR.laid hch ho hfr).mono fun e w' hp => ?_
              obtain ⟨rfl, w1, ⟨hb, hf⟩, rfl⟩ := hp
              obtain ⟨k1, k2⟩ := hR.grow hb hf
              exact ⟨_, rfl, _, k1, k2, .bool false⟩
          · cases hs
        · cases hs
      · split at hs
        · rename_i ht
          subst ht
          split at hs
          · rename_i htF
            subst htF
            split at hs
            · rename_i y hy
              split at hs
              · rename_i h'' hst
                cases hs
                obtain ⟨bq, oq, rfl, _⟩ := shift2_sound hy h1
                obtain ⟨⟨old, ho⟩, hfr, _⟩ := store_setCell hR h2 hst h1 rfl
                refine (T.hit _ _ old c.w hR.laid ho hfr).mono fun e w' hp => ?_
                obtain ⟨rfl, w1, ⟨hb, hf⟩, rfl⟩ := hp
                exact ⟨_, rfl, set_post hR hb hf h2 hst h1 rfl (.bool true)⟩
              · cases hs
            · cases hs
          · split at hs
            · rename_i htE
              subst htE
              split at hs
              · cases hs
                rw [h1.int_inv]
                refine (T.miss _ _ c.w hR.laid).mono fun e w' hp => ?_
                obtain ⟨rfl, hb, hf⟩ := hp
                obtain ⟨k1, k2⟩ := hR.grow hb hf
                exact ⟨_, rfl, _, k1, k2, .bool false⟩
              · cases hs
            · cases hs
        · cases hs
    · cases hs
  · unfold asHook at hs
    split at hs
    · cases hs; exact .refl _
    · split at hs
      · split at hs
        · split at hs
          · rename_i hst
            cases hs; exact storeP_keeps hst
          · cases hs
        · split at hs
          · cases hs; exact .refl _
          · cases hs
        · cases hs
      · split at hs
        · split at hs
          · split at hs
            · split at hs
              · rename_i hst
                cases hs; exact storeP_keeps hst
              · cases hs
            · cases hs
          · split at hs
            · split at hs
              · cases hs; exact .refl _
              · cases hs
            · cases hs
        · cases hs
    · cases hs

end Go.Dm
