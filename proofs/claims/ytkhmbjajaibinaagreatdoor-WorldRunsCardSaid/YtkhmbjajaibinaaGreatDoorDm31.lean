/-
Part 31 of "Dm" (ahead of part 27): pure calls: what is handed in is read off; the callee starts with a heap of its own; what it answers is read off.
-/
import Derived.Test.YtkhmbjajaibinaaGreatDoorDm29
namespace Go.Dm

/-- What the callee of a pure call sees: nothing of it is its own. -/
def Ctx.lend (c : Ctx) : Ctx := ⟨c.w, fun _ => none, fun _ => False, fun b => c.O b ∨ c.X b, fun _ => False, c.τ⟩

theorem lend_still (c : Ctx) : c.lend.still = c.lend := rfl

theorem Rel.lend {h : Heap} {c : Ctx} (hR : Rel h c) : Rel { objs := [], n := 0, lim := 0 } c.lend := by
  have hg : ∀ id, ({ objs := [], n := 0, lim := 0 } : Heap).get id = none := fun id => by simp [Heap.get]
  exact ⟨rfl, Nat.le_refl _, fun id h => absurd rfl h, fun id o h => (by rw [hg] at h; cases h), fun i j oi oj b x y hi => (by rw [hg] at hi; cases hi), fun b => ⟨fun h => h.elim, fun h => by
    rcases h with ⟨id, o, x, hgi, _⟩ | h
    · rw [hg] at hgi; cases hgi
    · exact h.elim⟩, fun b h => h.elim, fun b h => h.elim (fun h1 => hR.O_lt h1) (fun h1 => hR.old b h1), fun b h => h.elim, fun b v hv => ⟨(hR.glob b v hv).1, fun h => h, (hR.glob b v hv).2.2⟩⟩

/-- What refers to no object, seen by the callee. -/
theorem VR.lendStill {c0 : Ctx} {d : DV} {v : Value} (h : VR c0 d v) : ∀ {c : Ctx}, c0 = c.still → VR c.lend d v := by
  induction h with
  | unk v => intro c _; exact .unk v
  | bool b => intro c _; exact .bool b
  | int k n => intro c _; exact .int k n
  | atl h => intro c _; exact .atl h
  | tok h => intro c e; exact .tok (by rw [e] at h; exact h)
  | str s => intro c _; exact .str s
  | nilp => intro c _; exact .nilp
  | ptr h => intro c e; rw [e] at h; cases h
  | iptr vals hb hO hX hc hv ih =>
    intro c e
    subst e
    exact .iptr vals hb (fun h => h) (fun hl hx => hx.elim hO (hX hl)) hc (fun j hj => ih j hj rfl)
  | nsl a => intro c _; exact .nsl a
  | sl h => intro c e; rw [e] at h; cases h
  | isl0 a cap => intro c _; exact .isl0 a cap
  | isl vals hlen hcap hb hO hX hsz hc hv ih =>
    intro c e
    subst e
    exact .isl vals hlen hcap hb (fun h => h) (fun hl hx => hx.elim hO (hX hl)) hsz hc (fun i hi j hj => ih i hi j hj rfl)
  | nmap => intro c _; exact .nmap
  | map h => intro c e; rw [e] at h; cases h
  | func hl _ ih => intro c e; exact .func hl fun i h1 h2 => ih i h1 h2 e
  | nilf => intro c _; exact .nilf
  | iface _ ih => intro c e; exact .iface (ih e)
  | nili => intro c _; exact .nili
  | agg hl h1 _ ih => intro c e; exact .agg hl h1 fun i a1 a2 => ih i a1 a2 e
  | tup hl _ ih => intro c e; exact .tup hl fun i a1 a2 => ih i a1 a2 e

/-- The row of a slice that was read off. -/
theorem VR.mkIsl {c : Ctx} {tag : Bool} {sz : Nat} {xs : List DV} {v : Value} (h : VR c (.isl tag sz xs) v) : VR c (Dm.mkIsl tag sz xs) v := by
  cases xs with
  | nil => rcases h.isl_inv with ⟨_, a, cap, rfl⟩ | ⟨b, o, cap, vals, rfl, _⟩
           · exact .isl0 a cap
           · exact .isl0 _ _
  | cons x xs => exact h

theorem ecells_agg {sz : Nat} {cs : List DV} : ecells sz (.agg cs) = cs := rfl

/-- The cells of an element that was read off. -/
theorem resolve_ecells {tag : Bool} {h : Heap} {sz : Nat} : ∀ {n : Nat} {e e' : DV}, resolve tag h n e = some e' →
    (ecells sz e').length = (ecells sz e).length ∧ ∀ j (h1 : j < (ecells sz e').length) (h2 : j < (ecells sz e).length), (∃ m, m ≤ n ∧ resolve tag h m (ecells sz e)[j] = some (ecells sz e')[j]) := by
  intro n e e' hr
  cases n with
  | zero => simp [resolve] at hr
  | succ n =>
    cases e with
    | agg cs =>
      simp only [resolve] at hr
      split at hr
      · rename_i c hc
        cases hr
        exact ⟨mapM_length _ _ _ hc, fun j h1 h2 => ⟨n, Nat.le_succ _, mapM_get _ _ _ hc j h2 h1⟩⟩
      · cases hr
    | tup cs =>
      simp only [resolve] at hr
      split at hr
      · cases hr
        exact ⟨rfl, fun j h1 _ => absurd h1 (by simp [ecells])⟩
      · cases hr
    | unk =>
      simp only [resolve] at hr
      cases hr
      refine ⟨rfl, fun j h1 h2 => ⟨n + 1, Nat.le_refl _, ?_⟩⟩
      simp [ecells, resolve]
    | ptr id s idx off =>
      have hr0 := hr
      simp only [resolve] at hr
      (repeat' split at hr) <;> first | (cases hr; done) | skip
      cases hr
      refine ⟨rfl, fun j h1 h2 => ⟨n + 1, Nat.le_refl _, ?_⟩⟩
      have hj : j = 0 := by simpa [ecells] using h1
      subst hj
      simpa [ecells] using hr0
    | sl id s off len =>
      have hr0 := hr
      simp only [resolve] at hr
      (repeat' split at hr) <;> first | (cases hr; done) | skip
      have e1 := Option.some.inj hr
      have key : ∀ q, ecells sz (Dm.mkIsl tag s q) = [Dm.mkIsl tag s q] := by intro q; cases q <;> rfl
      rw [← e1, key]
      refine ⟨rfl, fun j h1 h2 => ⟨n + 1, Nat.le_refl _, ?_⟩⟩
      have hj : j = 0 := by simpa using h1
      subst hj
      simp only [List.getElem_cons_zero]
      rw [e1]
      simpa [ecells] using hr0
    | map id => simp [resolve] at hr
    | func f cap =>
      have hr0 := hr
      simp only [resolve] at hr
      (repeat' split at hr) <;> first | (cases hr; done) | skip
      cases hr
      refine ⟨rfl, fun j h1 h2 => ⟨n + 1, Nat.le_refl _, ?_⟩⟩
      have hj : j = 0 := by simpa [ecells] using h1
      subst hj
      simpa [ecells] using hr0
    | iface t v =>
      have hr0 := hr
      simp only [resolve] at hr
      (repeat' split at hr) <;> first | (cases hr; done) | skip
      cases hr
      refine ⟨rfl, fun j h1 h2 => ⟨n + 1, Nat.le_refl _, ?_⟩⟩
      have hj : j = 0 := by simpa [ecells] using h1
      subst hj
      simpa [ecells] using hr0
    | isl l s xs =>
      have hr0 := hr
      simp only [resolve] at hr
      cases hr
      have key : ∀ q, ecells sz (Dm.mkIsl l s q) = [Dm.mkIsl l s q] := by intro q; cases q <;> rfl
      rw [key]
      refine ⟨rfl, fun j h1 h2 => ⟨n + 1, Nat.le_refl _, ?_⟩⟩
      have hj : j = 0 := by simpa using h1
      subst hj
      simpa [ecells] using hr0
    | _ =>
      simp only [resolve] at hr
      cases hr
      refine ⟨rfl, fun j h1 h2 => ⟨n + 1, Nat.le_refl _, ?_⟩⟩
      have hj : j = 0 := by simpa [ecells] using h1
      subst hj
      simp [ecells, resolve]

/-- A value that is handed to a pure call. -/
theorem resolve_in {h : Heap} {c : Ctx} (hR : Rel h c) : ∀ n {d d' : DV} {v : Value}, VR c d v → resolve true h n d = some d' → VR c.lend d' v := by
  intro n
  induction n using Nat.strongRecOn with
  | _ n ih =>
  cases n with
  | zero => intro d d' v _ hr; simp [resolve] at hr
  | succ n =>
    have many : ∀ {ds es : List DV} {vs : List Value}, ds.mapM (resolve true h n) = some es → (∀ i (h1 : i < ds.length) (h2 : i < vs.length), VR c ds[i] vs[i]) → ds.length = vs.length →
        es.length = vs.length ∧ ∀ i (h1 : i < es.length) (h2 : i < vs.length), VR c.lend es[i] vs[i] := by
      intro ds es vs hm hv hl
      have hl2 := mapM_length _ _ _ hm
      exact ⟨by omega, fun i h1 h2 => ih n (Nat.lt_succ_self n) (hv i (by omega) h2) (mapM_get _ _ _ hm i (by omega) h1)⟩
    intro d d' v hv hr
    cases d with
    | unk => simp only [resolve] at hr; cases hr; exact .unk v
    | bool b => simp only [resolve] at hr; cases hr; cases hv; exact .bool b
    | int k m => simp only [resolve] at hr; cases hr; cases hv; exact .int k m
    | atl m => simp only [resolve] at hr; cases hr; cases hv; exact .atl (by assumption)
    | tok m => simp only [resolve] at hr; cases hr; cases hv; exact .tok (by assumption)
    | str s => simp only [resolve] at hr; cases hr; cases hv; exact .str s
    | nilp => simp only [resolve] at hr; cases hr; cases hv; exact .nilp
    | nmap => simp only [resolve] at hr; cases hr; cases hv; exact .nmap
    | nilf => simp only [resolve] at hr; cases hr; cases hv; exact .nilf
    | nili => simp only [resolve] at hr; cases hr; cases hv; exact .nili
    | map id => simp [resolve] at hr
    | nsl => simp only [resolve] at hr; cases hr; obtain ⟨a, rfl⟩ := hv.nsl_inv; exact .isl0 a 0
    | ptr id sz idx off =>
      simp only [resolve] at hr
      split at hr
      · rename_i ety sz' xs cap hg
        split at hr
        · rename_i hsz
          subst hsz
          split at hr
          · rename_i e he
            split at hr
            · rename_i cs hcs
              cases hr
              obtain ⟨b, base, rfl, hρ⟩ := hv.ptr_inv
              obtain ⟨cur, m, g1, g2, g3, g4, g5, g6⟩ := hR.arr hg hρ
              obtain ⟨hi, hxe⟩ := List.getElem?_eq_some_iff.1 he
              obtain ⟨a1, a2⟩ := g6 idx hi
              rw [hxe] at a1 a2
              have hl := mapM_length _ _ _ hcs
              refine .iptr (fun j => (cur[base + idx * sz + j]?).getD undef) (Array.getElem?_eq_some_iff.1 g1).1 (fun h => h) (fun h => by cases h) (fun j hj => ?_) (fun j hj => ?_)
              · obtain ⟨u, b1, b2, b3⟩ := a2 j (by omega)
                exact ⟨by rw [cell_of_heap (show c.lend.w.heap[b]? = _ from g1), b1]; simp, by rw [b1]; exact b2⟩
              · obtain ⟨u, b1, b2, b3⟩ := a2 j (by omega)
                rw [b1]
                exact ih n (Nat.lt_succ_self n) b3 (mapM_get _ _ _ hcs j (by omega) hj)
            · cases hr
          · cases hr
        · cases hr
      · cases hr
    | sl id sz off len =>
      simp only [resolve] at hr
      split at hr
      · rename_i ety sz' xs cap hg
        split at hr
        · rename_i hcond
          obtain ⟨hsz, hlen⟩ := hcond
          subst hsz
          split at hr
          · rename_i ys hys
            cases hr
            apply VR.mkIsl
            obtain ⟨b, base, cap', coff, nn, ety', rfl, hρ, hshape, hmm, hlc, hco⟩ := hv.sl_inv
            obtain ⟨cur, m, g1, g2, g3, g4, g5, g6⟩ := hR.arr hg hρ
            have hl := mapM_length _ _ _ hys
            have hll : ((xs.drop off).take len).length = len := by simp; omega
            cases len with
            | zero =>
              have : ys = [] := List.length_eq_zero_iff.1 (by omega)
              subst this
              exact .isl0 _ _
            | succ len =>
              have hco' : coff = base + off * sz := hco.resolve_right (by omega)
              subst hco'
              have elem : ∀ i (hi : i < ys.length), ∃ hx : off + i < xs.length, resolve true h n xs[off + i] = some ys[i] := by
                intro i hi
                have h1 : i < ((xs.drop off).take (len + 1)).length := by omega
                have := mapM_get _ _ _ hys i h1 hi
                have hx : off + i < xs.length := by omega
                exact ⟨hx, by simpa using this⟩
              refine .isl (fun i j => (cur[base + off * sz + i * sz + j]?).getD undef) (by omega) hlc (Array.getElem?_eq_some_iff.1 g1).1 (fun h => h) (fun h => by cases h) (fun i hi => ?_) (fun i j hi hj => ?_) (fun i hi j hj => ?_)
              · obtain ⟨hx, he⟩ := elem i hi
                rw [(resolve_ecells (sz := sz) he).1]; exact (g6 _ hx).1
              · obtain ⟨hx, he⟩ := elem i hi
                obtain ⟨a1, a2⟩ := g6 _ hx
                obtain ⟨u, b1, b2, b3⟩ := a2 j (by omega)
                have e0 : base + off * sz + i * sz + j = base + (off + i) * sz + j := by rw [Nat.add_mul]; omega
                exact ⟨by rw [cell_of_heap (show c.lend.w.heap[b]? = _ from g1), e0, b1]; simp, by rw [e0, b1]; exact b2⟩
              · obtain ⟨hx, he⟩ := elem i hi
                obtain ⟨a1, a2⟩ := g6 _ hx
                obtain ⟨k1, k2⟩ := resolve_ecells (sz := sz) he
                have hj' : j < (ecells sz xs[off + i]).length := by omega
                obtain ⟨u, b1, b2, b3⟩ := a2 j hj'
                have e0 : base + off * sz + i * sz + j = base + (off + i) * sz + j := by rw [Nat.add_mul]; omega
                rw [e0, b1]
                obtain ⟨q, hq, hq2⟩ := k2 j hj hj'
                exact ih q (by omega) b3 hq2
          · cases hr
        · cases hr
      · cases hr
    | iptr lent cs off =>
      simp only [resolve] at hr
      cases hr
      obtain ⟨b, o, vals, rfl, hb, hO, hX, hc, hvv⟩ := hv.iptr_inv
      exact .iptr vals hb (fun h => h) (fun hl hx => hx.elim hO (hX hl)) hc (fun j hj => (hvv j hj).lendStill rfl)
    | isl lent sz xs =>
      simp only [resolve] at hr
      cases hr
      apply VR.mkIsl
      rcases hv.isl_inv with ⟨rfl, a, cap, rfl⟩ | ⟨b, o, cap, vals, rfl, hcap, hb, hO, hX, hsz, hc, hvv⟩
      · exact .isl0 a cap
      · exact .isl vals rfl hcap hb (fun h => h) (fun hl hx => hx.elim hO (hX hl)) hsz hc (fun i hi j hj => (hvv i hi j hj).lendStill rfl)
    | func f cap =>
      simp only [resolve] at hr
      split at hr
      · rename_i es hes
        cases hr
        obtain ⟨vs, rfl, hl, hvv⟩ := hv.func_inv
        obtain ⟨k1, k2⟩ := many hes hvv hl
        exact .func k1 k2
      · cases hr
    | iface t x =>
      simp only [resolve] at hr
      split at hr
      · rename_i y hy
        cases hr
        cases hv with
        | iface hv => exact .iface (ih n (Nat.lt_succ_self n) hv hy)
      · cases hr
    | agg cs =>
      simp only [resolve] at hr
      split at hr
      · rename_i es hes
        cases hr
        obtain ⟨vs, rfl, hl, h1, hvv⟩ := hv.agg_inv
        obtain ⟨k1, k2⟩ := many hes hvv hl
        exact .agg k1 h1 k2
      · cases hr
    | tup cs =>
      simp only [resolve] at hr
      split at hr
      · rename_i es hes
        cases hr
        obtain ⟨vs, rfl, hl, hvv⟩ := hv.tup_inv
        obtain ⟨k1, k2⟩ := many hes hvv hl
        exact .tup k1 k2
      · cases hr

theorem unlent_ecells {sz m : Nat} {e : DV} (h : unlent m e = true) : ∀ j (hj : j < (ecells sz e).length), ∃ q, unlent q (ecells sz e)[j] = true := by
  intro j hj
  cases m with
  | zero => simp [unlent] at h
  | succ m =>
    cases e
    case agg cs =>
      simp only [unlent, List.all_eq_true] at h
      exact ⟨m, h _ (List.getElem_mem hj)⟩
    case unk => exact ⟨1, by simp [ecells, unlent]⟩
    case tup => simp [ecells] at hj
    all_goals
      simp only [ecells, List.length_singleton, Nat.lt_one_iff] at hj
      subst hj
      exact ⟨m + 1, h⟩

/-- What no part of which is lent, and refers to no object, holds for the caller too. -/
theorem VR.back {c0 : Ctx} {d : DV} {v : Value} (h : VR c0 d v) : ∀ {c2 c3 : Ctx} {n : Nat}, c0 = c2.still → unlent n d = true → c3.w = c2.w → c3.τ = c2.τ → (∀ b, ¬ c2.X b → ¬ c3.O b ∧ ¬ c3.X b) → VR c3.still d v := by
  induction h with
  | unk v => intros; exact .unk v
  | bool b => intros; exact .bool b
  | int k n => intros; exact .int k n
  | atl h => intros; exact .atl h
  | tok h => intro c2 c3 n e _ _ ht _; exact .tok (by rw [e] at h; show c3.τ _ = _; rw [ht]; exact h)
  | str s => intros; exact .str s
  | nilp => intros; exact .nilp
  | ptr h => intro c2 c3 n e; rw [e] at h; cases h
  | iptr vals hb hO hX hc hv ih =>
    intro c2 c3 n e hu hw ht hx
    subst e
    cases n with
    | zero => simp [unlent] at hu
    | succ n =>
      simp only [unlent, Bool.and_eq_true, Bool.not_eq_true', List.all_eq_true] at hu
      have hxx := hx _ (hX hu.1)
      exact .iptr vals (by show _ < c3.w.heap.size; rw [hw]; exact hb) hxx.1 (fun _ => hxx.2) (fun j hj => by show c3.w.cell? _ = _ ∧ _; rw [hw]; exact hc j hj) (fun j hj => ih j hj rfl (hu.2 _ (List.getElem_mem hj)) hw ht hx)
  | nsl a => intros; exact .nsl a
  | sl h => intro c2 c3 n e; rw [e] at h; cases h
  | isl0 a cap => intros; exact .isl0 a cap
  | isl vals hlen hcap hb hO hX hsz hc hv ih =>
    intro c2 c3 n e hu hw ht hx
    subst e
    cases n with
    | zero => simp [unlent] at hu
    | succ n =>
      simp only [unlent, Bool.and_eq_true, Bool.not_eq_true', List.all_eq_true] at hu
      have hxx := hx _ (hX hu.1)
      refine .isl vals hlen hcap (by show _ < c3.w.heap.size; rw [hw]; exact hb) hxx.1 (fun _ => hxx.2) hsz (fun i j hi hj => by show c3.w.cell? _ = _ ∧ _; rw [hw]; exact hc i j hi hj) (fun i hi j hj => ?_)
      have hm := hu.2 _ (List.getElem_mem hi)
      obtain ⟨q, hq⟩ := unlent_ecells hm j hj
      exact ih i hi j hj rfl hq hw ht hx
  | nmap => intros; exact .nmap
  | map h => intro c2 c3 n e; rw [e] at h; cases h
  | func hl _ ih =>
    intro c2 c3 n e hu hw ht hx
    cases n with
    | zero => simp [unlent] at hu
    | succ n =>
      simp only [unlent, List.all_eq_true] at hu
      exact .func hl fun i h1 h2 => ih i h1 h2 e (hu _ (List.getElem_mem h1)) hw ht hx
  | nilf => intros; exact .nilf
  | iface _ ih =>
    intro c2 c3 n e hu hw ht hx
    cases n with
    | zero => simp [unlent] at hu
    | succ n => simp only [unlent] at hu; exact .iface (ih e hu hw ht hx)
  | nili => intros; exact .nili
  | agg hl h1 _ ih =>
    intro c2 c3 n e hu hw ht hx
    cases n with
    | zero => simp [unlent] at hu
    | succ n =>
      simp only [unlent, List.all_eq_true] at hu
      exact .agg hl h1 fun i h1 h2 => ih i h1 h2 e (hu _ (List.getElem_mem h1)) hw ht hx
  | tup hl _ ih =>
    intro c2 c3 n e hu hw ht hx
    cases n with
    | zero => simp [unlent] at hu
    | succ n =>
      simp only [unlent, List.all_eq_true] at hu
      exact .tup hl fun i h1 h2 => ih i h1 h2 e (hu _ (List.getElem_mem h1)) hw ht hx

/-- A value that a pure call answers. -/
theorem resolve_out {h2 : Heap} {c2 : Ctx} (hR : Rel h2 c2) {c3 : Ctx} (hw : c3.w = c2.w) (ht : c3.τ = c2.τ) (hx : ∀ b, ¬ c2.X b → ¬ c3.O b ∧ ¬ c3.X b) : ∀ n {d d' : DV} {v : Value}, VR c2 d v → resolve false h2 n d = some d' → ∀ m, unlent m d' = true → VR c3.still d' v := by
  intro n
  induction n using Nat.strongRecOn with
  | _ n ih =>
  cases n with
  | zero => intro d d' v _ hr; simp [resolve] at hr
  | succ n =>
    have many : ∀ {ds es : List DV} {vs : List Value} {m : Nat}, ds.mapM (resolve false h2 n) = some es → (∀ x ∈ es, unlent m x = true) → (∀ i (h1 : i < ds.length) (h2 : i < vs.length), VR c2 ds[i] vs[i]) → ds.length = vs.length →
        es.length = vs.length ∧ ∀ i (h1 : i < es.length) (h2 : i < vs.length), VR c3.still es[i] vs[i] := by
      intro ds es vs m hm hu hv hl
      have hl2 := mapM_length _ _ _ hm
      exact ⟨by omega, fun i h1 h2 => ih n (Nat.lt_succ_self n) (hv i (by omega) h2) (mapM_get _ _ _ hm i (by omega) h1) m (hu _ (List.getElem_mem h1))⟩
    intro d d' v hv hr m hu
    have own : ∀ {id b base : Nat} {ety sz : Nat} {xs : List DV} {cap : Option Nat}, h2.get id = some (.arr ety sz xs cap) → c2.ρ id = some (b, base) → ¬ c3.O b ∧ ¬ c3.X b := fun hg hρ =>
      hx _ (hR.notX _ ((hR.own _).2 (.inl ⟨_, _, _, hg, rfl, hρ⟩)))
    cases d with
    | unk => simp only [resolve] at hr; cases hr; exact .unk v
    | bool b => simp only [resolve] at hr; cases hr; cases hv; exact .bool b
    | int k m => simp only [resolve] at hr; cases hr; cases hv; exact .int k m
    | atl m => simp only [resolve] at hr; cases hr; cases hv; exact .atl (by assumption)
    | tok m =>
      simp only [resolve] at hr; cases hr; cases hv; rename_i h
      exact .tok (by show c3.τ _ = _; rw [ht]; exact h)
    | str s => simp only [resolve] at hr; cases hr; cases hv; exact .str s
    | nilp => simp only [resolve] at hr; cases hr; cases hv; exact .nilp
    | nmap => simp only [resolve] at hr; cases hr; cases hv; exact .nmap
    | nilf => simp only [resolve] at hr; cases hr; cases hv; exact .nilf
    | nili => simp only [resolve] at hr; cases hr; cases hv; exact .nili
    | map id => simp [resolve] at hr
    | nsl => simp only [resolve] at hr; cases hr; obtain ⟨a, rfl⟩ := hv.nsl_inv; exact .isl0 a 0
    | ptr id sz idx off =>
      simp only [resolve] at hr
      split at hr
      · rename_i ety sz' xs cap hg
        split at hr
        · rename_i hsz
          subst hsz
          split at hr
          · rename_i e he
            split at hr
            · rename_i cs hcs
              cases hr
              obtain ⟨b, base, rfl, hρ⟩ := hv.ptr_inv
              obtain ⟨cur, mm, g1, g2, g3, g4, g5, g6⟩ := hR.arr hg hρ
              obtain ⟨hi, hxe⟩ := List.getElem?_eq_some_iff.1 he
              obtain ⟨a1, a2⟩ := g6 idx hi
              rw [hxe] at a1 a2
              have hl := mapM_length _ _ _ hcs
              have hxx := own hg hρ
              cases m with
              | zero => simp [unlent] at hu
              | succ m =>
              simp only [unlent, Bool.not_false, Bool.true_and, List.all_eq_true] at hu
              refine .iptr (fun j => (cur[base + idx * sz + j]?).getD undef) (by show b < c3.w.heap.size; rw [hw]; exact (Array.getElem?_eq_some_iff.1 g1).1) hxx.1 (fun _ => hxx.2) (fun j hj => ?_) (fun j hj => ?_)
              · obtain ⟨u, b1, b2, b3⟩ := a2 j (by omega)
                exact ⟨by show c3.w.cell? _ = _; rw [hw, cell_of_heap g1, b1]; simp, by rw [b1]; exact b2⟩
              · obtain ⟨u, b1, b2, b3⟩ := a2 j (by omega)
                rw [b1]
                exact ih n (Nat.lt_succ_self n) b3 (mapM_get _ _ _ hcs j (by omega) hj) m (hu _ (List.getElem_mem hj))
            · cases hr
          · cases hr
        · cases hr
      · cases hr
    | sl id sz off len =>
      simp only [resolve] at hr
      split at hr
      · rename_i ety sz' xs cap hg
        split at hr
        · rename_i hcond
          obtain ⟨hsz, hlen⟩ := hcond
          subst hsz
          split at hr
          · rename_i ys hys
            cases hr
            obtain ⟨b, base, cap', coff, nn, ety', rfl, hρ, hshape, hmm, hlc, hco⟩ := hv.sl_inv
            obtain ⟨cur, mm, g1, g2, g3, g4, g5, g6⟩ := hR.arr hg hρ
            have hl := mapM_length _ _ _ hys
            have hll : ((xs.drop off).take len).length = len := by simp; omega
            have hxx := own hg hρ
            cases ys with
            | nil =>
              have hz : len = 0 := by simp at hl; omega
              subst hz
              exact .isl0 _ _
            | cons y0 ys0 =>
              generalize hysd : y0 :: ys0 = ys at *
              have hmk : Dm.mkIsl false sz ys = .isl false sz ys := by rw [← hysd]; rfl
              rw [hmk] at hu ⊢
              have hco' : coff = base + off * sz := hco.resolve_right (by rw [← hysd] at hl; simp at hl; omega)
              subst hco'
              have elem : ∀ i (hi : i < ys.length), ∃ hx : off + i < xs.length, resolve false h2 n xs[off + i] = some ys[i] := by
                intro i hi
                have h1 : i < ((xs.drop off).take len).length := by omega
                have := mapM_get _ _ _ hys i h1 hi
                have hx : off + i < xs.length := by omega
                exact ⟨hx, by simpa using this⟩
              cases m with
              | zero => simp [unlent] at hu
              | succ m =>
              simp only [unlent, Bool.not_false, Bool.true_and, List.all_eq_true] at hu
              have hlc' : len ≤ cap' := hlc
              refine .isl (fun i j => (cur[base + off * sz + i * sz + j]?).getD undef) (by omega) hlc (by show b < c3.w.heap.size; rw [hw]; exact (Array.getElem?_eq_some_iff.1 g1).1) hxx.1 (fun _ => hxx.2) (fun i hi => ?_) (fun i j hi hj => ?_) (fun i hi j hj => ?_)
              · obtain ⟨hx, he⟩ := elem i hi
                rw [(resolve_ecells (sz := sz) he).1]; exact (g6 _ hx).1
              · obtain ⟨hx, he⟩ := elem i hi
                obtain ⟨a1, a2⟩ := g6 _ hx
                obtain ⟨u, b1, b2, b3⟩ := a2 j (by omega)
                have e0 : base + off * sz + i * sz + j = base + (off + i) * sz + j := by rw [Nat.add_mul]; omega
                exact ⟨by show c3.w.cell? _ = _; rw [hw, cell_of_heap g1, e0, b1]; simp, by rw [e0, b1]; exact b2⟩
              · obtain ⟨hx, he⟩ := elem i hi
                obtain ⟨a1, a2⟩ := g6 _ hx
                obtain ⟨k1, k2⟩ := resolve_ecells (sz := sz) he
                have hj' : j < (ecells sz xs[off + i]).length := by omega
                obtain ⟨u, b1, b2, b3⟩ := a2 j hj'
                have e0 : base + off * sz + i * sz + j = base + (off + i) * sz + j := by rw [Nat.add_mul]; omega
                rw [e0, b1]
                obtain ⟨q, hq, hq2⟩ := k2 j hj hj'
                obtain ⟨p, hp⟩ := unlent_ecells (hu _ (List.getElem_mem hi)) j hj
                exact ih q (by omega) b3 hq2 p hp
          · cases hr
        · cases hr
      · cases hr
    | iptr lent cs off =>
      simp only [resolve] at hr
      cases hr
      obtain ⟨b, o, vals, rfl, hb, hO, hX, hc, hvv⟩ := hv.iptr_inv
      exact (VR.iptr (c := c2.still) vals hb hO hX hc hvv).back (c2 := c2) rfl hu hw ht hx
    | isl lent sz xs =>
      simp only [resolve] at hr
      cases hr
      rcases hv.isl_inv with ⟨rfl, a, cap, rfl⟩ | ⟨b, o, cap, vals, rfl, hcap, hb, hO, hX, hsz, hc, hvv⟩
      · exact .isl0 a cap
      · exact (VR.mkIsl (VR.isl (c := c2.still) vals rfl hcap hb hO hX hsz hc hvv)).back (c2 := c2) rfl hu hw ht hx
    | func f cap =>
      simp only [resolve] at hr
      split at hr
      · rename_i es hes
        cases hr
        cases m with
        | zero => simp [unlent] at hu
        | succ m =>
        simp only [unlent, List.all_eq_true] at hu
        obtain ⟨vs, rfl, hl, hvv⟩ := hv.func_inv
        obtain ⟨k1, k2⟩ := many hes hu hvv hl
        exact .func k1 k2
      · cases hr
    | iface t x =>
      simp only [resolve] at hr
      split at hr
      · rename_i y hy
        cases hr
        cases m with
        | zero => simp [unlent] at hu
        | succ m =>
        simp only [unlent] at hu
        cases hv with
        | iface hv => exact .iface (ih n (Nat.lt_succ_self n) hv hy m hu)
      · cases hr
    | agg cs =>
      simp only [resolve] at hr
      split at hr
      · rename_i es hes
        cases hr
        cases m with
        | zero => simp [unlent] at hu
        | succ m =>
        simp only [unlent, List.all_eq_true] at hu
        obtain ⟨vs, rfl, hl, h1, hvv⟩ := hv.agg_inv
        obtain ⟨k1, k2⟩ := many hes hu hvv hl
        exact .agg k1 h1 k2
      · cases hr
    | tup cs =>
      simp only [resolve] at hr
      split at hr
      · rename_i es hes
        cases hr
        cases m with
        | zero => simp [unlent] at hu
        | succ m =>
        simp only [unlent, List.all_eq_true] at hu
        obtain ⟨vs, rfl, hl, hvv⟩ := hv.tup_inv
        obtain ⟨k1, k2⟩ := many hes hu hvv hl
        exact .tup k1 k2
      · cases hr

theorem resolveL_in {h : Heap} {c : Ctx} (hR : Rel h c) {n : Nat} {args ds : List DV} {vals : List Value} (hm : args.mapM (resolve true h n) = some ds) (hv : VRs c args vals) : VRs c.lend ds vals := by
  have hl := mapM_length _ _ _ hm
  exact ⟨by rw [hl]; exact hv.1, fun i h1 h2 => resolve_in hR n (hv.2 i (by omega) h2) (mapM_get _ _ _ hm i (by omega) h1)⟩

/-- Behind a pure call the caller's heap is as it was. -/
theorem pure_out {h : Heap} {c : Ctx} (hR : Rel h c) {h2 : Heap} {w2 : World} {ρ2 : Nat → Option (Nat × Nat)} (hR2 : Rel h2 (c.lend.next w2 ρ2 h2)) (hle : CtxLe c.lend (c.lend.next w2 ρ2 h2)) {d d' : DV} {v : Value} {n m : Nat}
    (hv : VR (c.lend.next w2 ρ2 h2) d v) (hr : resolve false h2 n d = some d') (hu : unlent m d' = true) : Post h c h w2 d' v := by
  have hO : ∀ b, (ownB h c.ρ b ∨ c.E b) ↔ c.O b := fun b => (hR.own b).symm
  have hsame : ∀ b, b < c.w.heap.size → w2.heap[b]? = c.w.heap[b]? := fun b hb => hle.frame b hb (fun h => h)
  have hle3 : CtxLe c (c.next w2 c.ρ h) :=
    ⟨fun _ _ hp => hp, hle.size, fun b hb _ => hsame b hb, fun b hb => .inl ((hO b).1 hb), hle.shape, fun _ hx => hx, fun b hb hE => ⟨hE, hsame b hb⟩, hle.quiet, rfl⟩
  refine ⟨c.ρ, ⟨hR.len, hR.lim, hR.dom, fun id o hg => (hR.obj id o hg).mono hle3 (fun ha b x hr => hsame b (hR.block_lt hg ha hr)), hR.inj, fun _ => Iff.rfl, fun b hb => hR.notX b ((hO b).1 hb), fun b hb => Nat.lt_of_lt_of_le (hR.old b hb) hle.size,
    fun b hb => ⟨Nat.lt_of_lt_of_le (hR.pend b hb).1 hle.size, (hR.pend b hb).2⟩, hR.glob.mono hle3⟩, hle3, ?_⟩
  refine VR.of_still (resolve_out hR2 (c3 := c.next w2 c.ρ h) rfl rfl (fun b hb => ?_) n hv hr m hu)
  exact ⟨fun ho => hb (.inl ((hO b).1 ho)), fun hx => hb (.inr hx)⟩

end Go.Dm
