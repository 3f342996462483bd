/-
Part 5 of "De": copies of rows; rows with room left over behind a deletion.
-/
import Derived.Test.YtkkbjjobdcjaiaaMm4
import Derived.Test.YtkkbjjobdcjaiaaMm3
import Derived.ChangeArms
import Derived.ChangeSame
namespace Go.Dm

/-- slices.Clone: a row of the call's own. -/
theorem clone_own {lo : Nat} {h : Heap} {v : DV} {ety sz bytes : Nat} {ys : List DV} {A : Option (DV × Heap)} (he : elems h sz v = some ys) (wf : WF h) (hlo : lo ≤ h.n) (hlim : h.lim ≤ h.n) (hb : ys.length * bytes ≤ 140737488355328) (hb1 : 1 ≤ bytes) (hA : cloneHook ety sz bytes h [v] = A) :
    ∃ v' h', A = some (v', h') ∧ Own lo h' v' ety sz ys ∧ Ext lo h h' ∧ Ext h.n h h' := by
  have hm : ys.length ≤ 140737488355328 := Nat.le_trans (Nat.le_mul_of_pos_right _ hb1) hb
  subst hA
  by_cases hy : ys = []
  · subst hy
    refine ⟨.nsl, h.push .dead, ?_, .nil rfl rfl, (Ext.refl hlo wf).push, (Ext.refl (Nat.le_refl _) wf).push⟩
    simp [cloneHook, he]
  · have hye : ys.isEmpty = false := by cases ys <;> simp_all
    refine ⟨.sl (h.n + 1) sz 0 ys.length, (h.push (.arr ety sz [] (some 0))).push (.arr ety sz ys none), ?_, .arr (h.n + 1) rfl ?_ ?_ (by omega), ((Ext.refl hlo wf).push).push, ((Ext.refl (Nat.le_refl _) wf).push).push⟩
    · simp only [cloneHook, he, hye]
      rw [if_neg (by simp), if_pos ⟨hb, by omega⟩]
    · exact get_push_new
    · show h.lim ≤ h.n + 1
      omega

/-- A row of the call's own, with room left over in its array, or in a full one. -/
inductive OwnR (lo : Nat) (h : Heap) (v : DV) (ety sz : Nat) (xs : List DV) : Prop where
  | nil (hv : v = .nsl) (hx : xs = [])
  | arr (id : Nat) (sp : List DV) (cap : Option Nat) (hv : v = .sl id sz 0 xs.length) (hg : h.get id = some (.arr ety sz (xs ++ sp) cap)) (hlim : h.lim ≤ id) (hlo : lo ≤ id)

theorem Own.toR {lo : Nat} {h : Heap} {v : DV} {ety sz : Nat} {xs : List DV} (w : Own lo h v ety sz xs) : OwnR lo h v ety sz xs := by
  cases w with
  | nil hv hx => exact .nil hv hx
  | arr id hv hg hl hi => exact .arr id [] none hv (by simpa using hg) hl hi

section OwnR
variable {lo : Nat} {h : Heap} {v : DV} {ety sz : Nat} {xs : List DV}
theorem OwnR.push {o : DO} (w : OwnR lo h v ety sz xs) : OwnR lo (h.push o) v ety sz xs := by
  cases w with
  | nil hv hx => exact .nil hv hx
  | arr id sp cap hv hg hlim hlo =>
    refine .arr id sp cap hv ?_ hlim hlo
    rw [get_push, if_neg (by have := get_some_lt hg; omega)]; exact hg
theorem OwnR.ext {h' : Heap} (w : OwnR lo h v ety sz xs) (x : Ext h.n h h') : OwnR lo h' v ety sz xs := by
  cases w with
  | nil hv hx => exact .nil hv hx
  | arr id sp cap hv hg hl hi => exact .arr id sp cap hv ((x.get id (get_some_lt hg)).trans hg) (by rw [x.lim]; exact hl) hi
theorem OwnR.lenV (w : OwnR lo h v ety sz xs) : lenV h 1 v = some (.int .i64 xs.length) := by
  cases w with
  | nil hv hx => subst hv; subst hx; rfl
  | arr id sp cap hv hg hl hi => subst hv; rfl
theorem OwnR.elems (w : OwnR lo h v ety sz xs) : elems h sz v = some xs := by
  cases w with
  | nil hv hx => subst hv; subst hx; rfl
  | arr id sp cap hv hg hl hi => subst hv; simp [Dm.elems, hg]
theorem OwnR.resolve {α : Type} {e : α → DV} {ys : List α} {k n : Nat} (tag : Bool) (w : OwnR lo h v ety sz (ys.map e)) (hf : ∀ y ∈ ys, Flat k (e y)) (hn : k + 1 ≤ n) : resolve tag h n v = some (eL tag sz e ys) := by
  obtain ⟨m, rfl, hm⟩ := pos_of_le hn
  cases w with
  | nil hv hx =>
    subst hv
    cases ys with
    | nil => rfl
    | cons y r => simp at hx
  | arr id sp cap hv hg hl hi =>
    subst hv
    have hmm : (ys.map e).mapM (Dm.resolve tag h m) = some (ys.map e) := mapM_self fun x hx => by
      obtain ⟨y, hy, rfl⟩ := List.mem_map.1 hx
      exact hf y hy tag h m hm
    simp only [Dm.resolve, hg, true_and, Nat.zero_add, List.length_append, Nat.le_add_right, if_true, List.drop_zero, List.take_left, hmm]
    rfl
theorem OwnR.storable (w : OwnR lo h v ety sz xs) : storable 1 v = true := by
  cases w with
  | nil hv hx => subst hv; rfl
  | arr id sp cap hv hg hl hi => subst hv; rfl
theorem OwnR.ecells (w : OwnR lo h v ety sz xs) : ecells 1 v = [v] := by
  cases w with
  | nil hv hx => subst hv; rfl
  | arr id sp cap hv hg hl hi => subst hv; rfl
theorem OwnR.out {α : Type} {e : α → DV} {ys : List α} {k : Nat} (w : OwnR lo h v ety sz (ys.map e)) (hf : ∀ y ∈ ys, Flat k (e y)) (hu : ∀ y ∈ ys, Unl k (e y)) (hk : k ≤ 198) :
    pcOut (some (v, h)) = some (eL false sz e ys) :=
  pcOut_ok (k := k + 1) (w.resolve false hf (by show k + 1 ≤ 200; omega)) (unl_eL hu) (by omega)
/-- An element of it, by its address. -/
theorem OwnR.index (w : OwnR lo h v ety sz xs) {i : Nat} {x : DV} (hx : xs[i]? = some x) (k : IntKind) :
    ∃ id sp cap, v = .sl id sz 0 xs.length ∧ h.get id = some (.arr ety sz (xs ++ sp) cap) ∧ h.lim ≤ id ∧ lo ≤ id ∧ indexAddrV sz v (.int k (i : Int)) = some (.ptr id sz i 0) ∧ (xs ++ sp)[i]? = some x := by
  have hi : i < xs.length := by
    by_cases hlt : i < xs.length
    · exact hlt
    · rw [List.getElem?_eq_none (by omega)] at hx; cases hx
  cases w with
  | nil hv hx' => subst hx'; simp at hi
  | arr id sp cap hv hg hl hlo =>
    refine ⟨id, sp, cap, hv, hg, hl, hlo, ?_, by rw [List.getElem?_append_left hi]; exact hx⟩
    subst hv
    simp [indexAddrV, asI, hi]
end OwnR

theorem Own.storable {lo : Nat} {h : Heap} {v : DV} {ety sz : Nat} {xs : List DV} (w : Own lo h v ety sz xs) : storable 1 v = true := w.toR.storable
theorem Own.ecells {lo : Nat} {h : Heap} {v : DV} {ety sz : Nat} {xs : List DV} (w : Own lo h v ety sz xs) : ecells 1 v = [v] := w.toR.ecells

theorem Own.wl {lo : Nat} {h : Heap} {v : DV} {ety sz : Nat} {xs : List DV} (w : Own lo h v ety sz xs) {m : Nat} (hm : m ≤ lo) : Own lo (Dm.wl h m) v ety sz xs := by
  cases w with
  | nil hv hx => exact .nil hv hx
  | arr id hv hg hl hi => exact .arr id hv hg (Nat.le_trans hm hi) hi
theorem Own.setLow {lo : Nat} {h : Heap} {v : DV} {ety sz : Nat} {xs : List DV} (w : Own lo h v ety sz xs) (wf : WF h) {id : Nat} {o : DO} (hid : id < lo) (hn : id < h.n) : Own lo (h.set id o) v ety sz xs := by
  cases w with
  | nil hv hx => exact .nil hv hx
  | arr k hv hg hl hi => exact .arr k hv (by rw [get_set wf hn, if_neg (by omega)]; exact hg) hl hi
theorem Own.lower {lo lo' : Nat} {h : Heap} {v : DV} {ety sz : Nat} {xs : List DV} (w : Own lo h v ety sz xs) (hl : lo' ≤ lo) : Own lo' h v ety sz xs := by
  cases w with
  | nil hv hx => exact .nil hv hx
  | arr k hv hg hlim hi => exact .arr k hv hg hlim (Nat.le_trans hl hi)
theorem Ext.wl {lo : Nat} {h h' : Heap} (x : Ext lo h h') (m : Nat) (hm : m = h.lim) : Ext lo h (Dm.wl h' m) := ⟨x.le, hm, x.get, x.wf⟩
theorem Ext.lower {lo lo' : Nat} {h h' : Heap} (x : Ext lo h h') (hl : lo' ≤ lo) : Ext lo' h h' := ⟨Nat.le_trans hl x.le, x.lim, fun id hid => x.get id (by omega), x.wf⟩

/-- A clone in a region with an open order: under a limit of its own. -/
theorem clone_wl {lo m : Nat} {h : Heap} {v : DV} {ety sz bytes : Nat} {ys : List DV} {A : Option (DV × Heap)} (hA : cloneHook ety sz bytes (Dm.wl h m) [v] = A) (he : elems h sz v = some ys) (wf : WF h) (hlo : lo ≤ h.n) (hm : m ≤ h.n) (hlim : h.lim ≤ h.n) (hb : ys.length * bytes ≤ 140737488355328) (hb1 : 1 ≤ bytes) :
    ∃ v' h', A = some (v', h') ∧ Own lo (Dm.wl h' h.lim) v' ety sz ys ∧ Ext lo h (Dm.wl h' h.lim) ∧ Ext h.n h (Dm.wl h' h.lim) := by
  have he' : elems (Dm.wl h m) sz v = some ys := he
  obtain ⟨v', h', e, o, x, y⟩ := clone_own (lo := h.n) (h := Dm.wl h m) he' (wf.wl m) (Nat.le_refl _) hm hb hb1 hA
  exact ⟨v', h', e, (o.wl hlim).lower hlo, ⟨Nat.le_trans hlo x.le, rfl, fun id hid => x.get id (by omega), x.wf⟩, ⟨x.le, rfl, x.get, x.wf⟩⟩

/-- All objects but arrays of one element type stay. -/
def Keep (ety : Nat) (h h' : Heap) : Prop := ∀ k o, h.get k = some o → (∀ s xs c, o ≠ .arr ety s xs c) → h'.get k = some o
theorem Keep.refl (ety : Nat) (h : Heap) : Keep ety h h := fun _ _ h _ => h
theorem Keep.push {ety : Nat} {h h' : Heap} {o : DO} (x : Keep ety h h') : Keep ety h (h'.push o) := fun k ob hg hne => by
  have := x k ob hg hne
  rw [get_push, if_neg (by have := get_some_lt this; omega)]; exact this
theorem Keep.set {ety : Nat} {h h' : Heap} {id s : Nat} {xs : List DV} {c : Option Nat} {o : DO} (x : Keep ety h h') (w : WF h') (hg : h.get id = some (.arr ety s xs c)) (hid : id < h'.n) : Keep ety h (h'.set id o) := fun k ob hk hne => by
  have hki : k ≠ id := by
    intro e
    subst e
    rw [hg] at hk
    injection hk with hk
    exact hne _ _ _ hk.symm
  rw [get_set w hid, if_neg hki]
  exact x k ob hk hne
theorem Own.keep {lo : Nat} {h h' : Heap} {v : DV} {ety e2 sz : Nat} {xs : List DV} (w : Own lo h v e2 sz xs) (x : Keep ety h h') (hl : h'.lim = h.lim) (hne : e2 ≠ ety) : Own lo h' v e2 sz xs := by
  cases w with
  | nil hv hx => exact .nil hv hx
  | arr id hv hg hlim hlo =>
    exact .arr id hv (x _ _ hg (fun s ys c e => by injection e with e1; exact hne e1)) (by rw [hl]; exact hlim) hlo
theorem OwnR.keep {lo : Nat} {h h' : Heap} {v : DV} {ety e2 sz : Nat} {xs : List DV} (w : OwnR lo h v e2 sz xs) (x : Keep ety h h') (hl : h'.lim = h.lim) (hne : e2 ≠ ety) : OwnR lo h' v e2 sz xs := by
  cases w with
  | nil hv hx => exact .nil hv hx
  | arr id sp cap hv hg hlim hlo =>
    exact .arr id sp cap hv (x _ _ hg (fun s ys c e => by injection e with e1; exact hne e1)) (by rw [hl]; exact hlim) hlo
theorem OwnR.setLow {lo : Nat} {h : Heap} {v : DV} {ety sz : Nat} {xs : List DV} (w : OwnR lo h v ety sz xs) (wf : WF h) {id : Nat} {o : DO} (hid : id < lo) (hn : id < h.n) : OwnR lo (h.set id o) v ety sz xs := by
  cases w with
  | nil hv hx => exact .nil hv hx
  | arr k sp cap hv hg hl hi => exact .arr k sp cap hv (by rw [get_set wf hn, if_neg (by omega)]; exact hg) hl hi
theorem OwnR.lower {lo lo' : Nat} {h : Heap} {v : DV} {ety sz : Nat} {xs : List DV} (w : OwnR lo h v ety sz xs) (hl : lo' ≤ lo) : OwnR lo' h v ety sz xs := by
  cases w with
  | nil hv hx => exact .nil hv hx
  | arr k sp cap hv hg hlim hi => exact .arr k sp cap hv hg hlim (Nat.le_trans hl hi)

/-! ## elements put behind a part of a row, in place or in a new array -/
theorem appendD_in {h : Heap} {id ety sz bytes len : Nat} {xs ys : List DV} {cap : Option Nat} (hg : h.get id = some (.arr ety sz xs cap)) (hlen : len + ys.length ≤ xs.length) (hlim : h.lim ≤ id) (hb : (len + ys.length) * bytes ≤ 140737488355328) (hb1 : 1 ≤ bytes) (hy : ys ≠ []) :
    appendD h ety sz bytes (.sl id sz 0 len) ys = some (.sl id sz 0 (len + ys.length), h.set id (.arr ety sz (splice xs ys len) cap)) := by
  have hm : len + ys.length ≤ 140737488355328 := Nat.le_trans (Nat.le_mul_of_pos_right _ hb1) hb
  have hye : ys.isEmpty = false := by cases ys <;> simp_all
  simp only [appendD, hye, hg, Bool.false_eq_true, if_false, true_and, Nat.zero_add]
  rw [if_pos ⟨by omega, hb, by omega⟩, if_pos hlen, if_pos hlim]
theorem appendD_new {h : Heap} {id ety sz bytes len c : Nat} {xs ys : List DV} (hg : h.get id = some (.arr ety sz xs (some c))) (hl : len ≤ xs.length) (hlen : xs.length < len + ys.length) (hb : (len + ys.length) * bytes ≤ 140737488355328) (hb1 : 1 ≤ bytes) (hy : ys ≠ []) :
    appendD h ety sz bytes (.sl id sz 0 len) ys = some (.sl h.n sz 0 (len + ys.length), h.push (.arr ety sz (xs.take len ++ ys) none)) := by
  have hm : len + ys.length ≤ 140737488355328 := Nat.le_trans (Nat.le_mul_of_pos_right _ hb1) hb
  have hye : ys.isEmpty = false := by cases ys <;> simp_all
  simp only [appendD, hye, hg, Bool.false_eq_true, if_false, true_and, Nat.zero_add, List.drop_zero]
  rw [if_pos ⟨hl, hb, by omega⟩, if_neg (by omega)]

theorem splice_len {xs ys : List DV} {k : Nat} (h : k + ys.length ≤ xs.length) : (splice xs ys k).length = xs.length := by
  simp [splice]; omega
theorem ins_shift (X : List DV) (u : DV) (i : Nat) (hi : i < X.length) : splice (X ++ [u]) (List.take (X.length - i) (List.take (X.length + 1 - i) (List.drop i (X ++ [u])))) (i + 1) = X.take (i + 1) ++ X.drop i := by
  have e1 : List.take (X.length - i) (List.take (X.length + 1 - i) (List.drop i (X ++ [u]))) = X.drop i := by
    rw [List.take_take, Nat.min_eq_left (by omega), List.drop_append_of_le_length (by omega), List.take_left' (by simp)]
  rw [e1]
  unfold splice
  have e2 : List.drop (i + 1 + (X.drop i).length) (X ++ [u]) = [] := List.drop_eq_nil_of_le (by simp only [List.length_append, List.length_drop, List.length_cons, List.length_nil]; omega)
  rw [e2, List.take_append_of_le_length (by omega), List.append_nil]
theorem ins_put (X : List DV) (x : DV) (i : Nat) (hi : i < X.length) : splice (X.take (i + 1) ++ X.drop i) [x] i = X.take i ++ x :: X.drop i := by
  unfold splice
  have h1 : (X.take (i + 1)).length = i + 1 := by simp; omega
  rw [List.take_append_of_le_length (by omega), List.take_take, Nat.min_eq_left (by omega)]
  have : List.drop (i + [x].length) (X.take (i + 1) ++ X.drop i) = X.drop i := by
    rw [List.drop_left' (by simpa using h1)]
  rw [this]; simp
/-- In a new array: what was ahead, noughts; the element; what was behind. -/
theorem ins_new1 (X : List DV) (z x : DV) (i : Nat) (hi : i < X.length) : splice (X.take i ++ List.replicate (X.length + 1 - i) z) [x] i = X.take i ++ x :: List.replicate (X.length - i) z := by
  unfold splice
  have h1 : (X.take i).length = i := by simp; omega
  rw [List.take_left' h1]
  have h2 : List.replicate (X.length + 1 - i) z = z :: List.replicate (X.length - i) z := by
    rw [show X.length + 1 - i = (X.length - i) + 1 by omega, List.replicate_succ]
  rw [h2]
  have : List.drop (i + [x].length) (X.take i ++ z :: List.replicate (X.length - i) z) = List.replicate (X.length - i) z := by
    rw [List.drop_append, h1, List.drop_eq_nil_of_le (by simp; omega)]
    simp
  rw [this]; simp
theorem ins_new2 (X : List DV) (z x : DV) (i : Nat) (hi : i < X.length) : splice (X.take i ++ x :: List.replicate (X.length - i) z) (X.drop i) (i + 1) = X.take i ++ x :: X.drop i := by
  unfold splice
  have h1 : (X.take i).length = i := by simp; omega
  have h2 : List.take (i + 1) (X.take i ++ x :: List.replicate (X.length - i) z) = X.take i ++ [x] := by
    rw [List.take_append, h1, List.take_of_length_le (by omega)]
    simp
  have h3 : List.drop (i + 1 + (X.drop i).length) (X.take i ++ x :: List.replicate (X.length - i) z) = [] := by
    apply List.drop_eq_nil_of_le
    simp; omega
  rw [h2, h3]; simp

theorem OwnR.start (lo : Nat) (h : Heap) (ety sz : Nat) : OwnR lo h .nsl ety sz [] := .nil rfl rfl
/-- A new row of so many elements. -/
theorem OwnR.fresh {lo : Nat} {h : Heap} {ety sz : Nat} {xs : List DV} {cap : Option Nat} (hlim : h.lim ≤ h.n) (hlo : lo ≤ h.n) : OwnR lo (h.push (.arr ety sz xs cap)) (.sl h.n sz 0 xs.length) ety sz xs := .arr h.n [] cap rfl (by simp [get_push]) hlim hlo

/-- Elements go behind an own row. -/
theorem OwnR.append {lo : Nat} {h : Heap} {v : DV} {ety sz bytes : Nat} {xs ys : List DV} {A : Option (DV × Heap)} (w : OwnR lo h v ety sz xs) (wf : WF h) (hlo : lo ≤ h.n) (hlim : h.lim ≤ h.n) (hA : appendD h ety sz bytes v ys = A)
    (hb : (xs.length + ys.length) * bytes ≤ 140737488355328) (hb1 : 1 ≤ bytes) : ∃ v' h', A = some (v', h') ∧ OwnR lo h' v' ety sz (xs ++ ys) ∧ Ext lo h h' ∧ Keep ety h h' := by
  have hm : xs.length + ys.length ≤ 140737488355328 := Nat.le_trans (Nat.le_mul_of_pos_right _ hb1) hb
  by_cases hy : ys = []
  · subst hy
    refine ⟨v, h, ?_, by simpa using w, .refl hlo wf, .refl _ _⟩
    rw [← hA]
    cases w with
    | nil hv hx => subst hv; rfl
    | arr id sp cap hv hg _ _ => subst hv; rfl
  · have hye : ys.isEmpty = false := by cases ys <;> simp_all
    have hyl : 0 < ys.length := List.length_pos_iff.2 hy
    cases w with
    | nil hv hx =>
      subst hv; subst hx
      simp only [List.length_nil, Nat.zero_add] at hb hm
      refine ⟨.sl h.n sz 0 ys.length, h.push (.arr ety sz ys none), ?_, .arr h.n [] none rfl (by simp [get_push]) (by exact hlim) hlo, (Ext.refl hlo wf).push, (Keep.refl _ _).push⟩
      rw [← hA]
      simp only [appendD, hye]
      rw [if_neg (by simp), if_pos ⟨hb, by omega⟩]
    | arr id sp cap hv hg hl hi =>
      subst hv
      have hlt := get_some_lt hg
      by_cases hin : xs.length + ys.length ≤ (xs ++ sp).length
      · refine ⟨.sl id sz 0 (xs.length + ys.length), h.set id (.arr ety sz (splice (xs ++ sp) ys xs.length) cap), ?_, .arr id (sp.drop ys.length) cap (by simp) ?_ (by exact hl) hi, (Ext.refl hlo wf).set hi hlt, (Keep.refl _ _).set wf hg hlt⟩
        · rw [← hA]; exact appendD_in hg hin hl hb hb1 hy
        · rw [get_set wf hlt, if_pos rfl]
          simp only [splice, List.take_left', List.append_assoc]
          congr 3
          rw [List.drop_append]
          simp
      · cases cap with
        | none =>
          refine ⟨.sl h.n sz 0 (xs.length + ys.length), (h.set id .dead).push (.arr ety sz (xs ++ ys) none), ?_, .arr h.n [] none (by simp) ?_ (by exact hlim) hlo, ((Ext.refl hlo wf).set hi hlt).push, ((Keep.refl _ _).set wf hg hlt).push⟩
          · rw [← hA]
            simp only [appendD, hye, hg]
            simp only [Bool.false_eq_true, if_false, true_and, Nat.zero_add, List.drop_zero]
            rw [if_pos ⟨by simp, hb, by omega⟩, if_neg hin, if_pos hl]
            simp
          · simp
        | some c =>
          refine ⟨.sl h.n sz 0 (xs.length + ys.length), h.push (.arr ety sz (xs ++ ys) none), ?_, .arr h.n [] none (by simp) ?_ (by exact hlim) hlo, (Ext.refl hlo wf).push, (Keep.refl _ _).push⟩
          · rw [← hA]
            rw [appendD_new hg (by simp) (by omega) hb hb1 hy]
            simp
          · simp

/-- The object of a row of the call's own. -/
structure OwnI (lo : Nat) (h : Heap) (id ety sz : Nat) (xs : List DV) : Prop where
  get : ∃ sp cap, h.get id = some (.arr ety sz (xs ++ sp) cap)
  lim : h.lim ≤ id
  lo : lo ≤ id

theorem OwnI.toR {lo : Nat} {h : Heap} {id ety sz : Nat} {xs : List DV} (w : OwnI lo h id ety sz xs) : OwnR lo h (.sl id sz 0 xs.length) ety sz xs := by
  obtain ⟨⟨sp, cap, hg⟩, hl, hi⟩ := w
  exact .arr id sp cap rfl hg hl hi
theorem OwnI.lt {lo : Nat} {h : Heap} {id ety sz : Nat} {xs : List DV} (w : OwnI lo h id ety sz xs) : id < h.n := by
  obtain ⟨⟨sp, cap, hg⟩, _, _⟩ := w
  exact get_some_lt hg
theorem OwnI.fresh {lo : Nat} {h : Heap} {ety sz : Nat} {xs : List DV} {cap : Option Nat} (hlim : h.lim ≤ h.n) (hlo : lo ≤ h.n) : OwnI lo (h.push (.arr ety sz xs cap)) h.n ety sz xs := ⟨⟨[], cap, by simp [get_push]⟩, hlim, hlo⟩
theorem OwnI.push {lo : Nat} {h : Heap} {id ety sz : Nat} {xs : List DV} {o : DO} (w : OwnI lo h id ety sz xs) : OwnI lo (h.push o) id ety sz xs := by
  obtain ⟨⟨sp, cap, hg⟩, hl, hi⟩ := w
  exact ⟨⟨sp, cap, by rw [get_push, if_neg (by have := get_some_lt hg; omega)]; exact hg⟩, hl, hi⟩
theorem OwnI.keep {lo : Nat} {h h' : Heap} {id ety e2 sz : Nat} {xs : List DV} (w : OwnI lo h id e2 sz xs) (x : Keep ety h h') (hl : h'.lim = h.lim) (hne : e2 ≠ ety) : OwnI lo h' id e2 sz xs := by
  obtain ⟨⟨sp, cap, hg⟩, hlim, hi⟩ := w
  exact ⟨⟨sp, cap, x _ _ hg (fun s ys c e => by injection e with e1; exact hne e1)⟩, by rw [hl]; exact hlim, hi⟩
theorem OwnI.setLow {lo : Nat} {h : Heap} {id ety sz : Nat} {xs : List DV} (w : OwnI lo h id ety sz xs) (wf : WF h) {k : Nat} {o : DO} (hid : k < lo) (hn : k < h.n) : OwnI lo (h.set k o) id ety sz xs := by
  obtain ⟨⟨sp, cap, hg⟩, hl, hi⟩ := w
  exact ⟨⟨sp, cap, by rw [get_set wf hn, if_neg (by omega)]; exact hg⟩, hl, hi⟩
theorem OwnI.wl {lo : Nat} {h : Heap} {id ety sz : Nat} {xs : List DV} (w : OwnI lo h id ety sz xs) {m : Nat} (hm : m ≤ lo) : OwnI lo (Dm.wl h m) id ety sz xs := by
  obtain ⟨⟨sp, cap, hg⟩, hl, hi⟩ := w
  exact ⟨⟨sp, cap, hg⟩, Nat.le_trans hm hi, hi⟩
theorem OwnI.ext {lo : Nat} {h h' : Heap} {id ety sz : Nat} {xs : List DV} (w : OwnI lo h id ety sz xs) (x : Ext h.n h h') : OwnI lo h' id ety sz xs := by
  have := w.lt
  obtain ⟨⟨sp, cap, hg⟩, hl, hi⟩ := w
  exact ⟨⟨sp, cap, (x.get id this).trans hg⟩, by rw [x.lim]; exact hl, hi⟩

/-- Elements go behind an own row. -/
theorem OwnI.append {lo : Nat} {h : Heap} {id ety sz bytes : Nat} {xs ys : List DV} {A : Option (DV × Heap)} {n : Nat} (w : OwnI lo h id ety sz xs) (hn : n = xs.length) (wf : WF h) (hlo : lo ≤ h.n) (hlim : h.lim ≤ h.n) (hA : appendD h ety sz bytes (.sl id sz 0 n) ys = A)
    (hb : (xs.length + ys.length) * bytes ≤ 140737488355328) (hb1 : 1 ≤ bytes) : ∃ id' h', A = some (.sl id' sz 0 (xs.length + ys.length), h') ∧ OwnI lo h' id' ety sz (xs ++ ys) ∧ Ext lo h h' ∧ Keep ety h h' ∧ (id' = id ∨ h.n ≤ id') := by
  subst hn
  have hm : xs.length + ys.length ≤ 140737488355328 := Nat.le_trans (Nat.le_mul_of_pos_right _ hb1) hb
  by_cases hy : ys = []
  · subst hy
    refine ⟨id, h, ?_, by simpa using w, .refl hlo wf, .refl _ _, .inl rfl⟩
    rw [← hA]; rfl
  · have hye : ys.isEmpty = false := by cases ys <;> simp_all
    obtain ⟨⟨sp, cap, hg⟩, hl, hi⟩ := w
    have hlt := get_some_lt hg
    by_cases hin : xs.length + ys.length ≤ (xs ++ sp).length
    · refine ⟨id, h.set id (.arr ety sz (splice (xs ++ sp) ys xs.length) cap), ?_, ⟨⟨sp.drop ys.length, cap, ?_⟩, hl, hi⟩, (Ext.refl hlo wf).set hi hlt, (Keep.refl _ _).set wf hg hlt, .inl rfl⟩
      · rw [← hA]; exact appendD_in hg hin hl hb hb1 hy
      · rw [get_set wf hlt, if_pos rfl]
        simp only [splice, List.take_left', List.append_assoc]
        congr 3
        rw [List.drop_append]
        simp
    · cases cap with
      | none =>
        refine ⟨h.n, (h.set id .dead).push (.arr ety sz (xs ++ ys) none), ?_, ⟨⟨[], none, ?_⟩, hlim, hlo⟩, ((Ext.refl hlo wf).set hi hlt).push, ((Keep.refl _ _).set wf hg hlt).push, .inr (Nat.le_refl _)⟩
        · rw [← hA]
          simp only [appendD, hye, hg]
          simp only [Bool.false_eq_true, if_false, true_and, Nat.zero_add, List.drop_zero]
          rw [if_pos ⟨by simp, hb, by omega⟩, if_neg hin, if_pos hl]
          simp
        · simp
      | some c =>
        refine ⟨h.n, h.push (.arr ety sz (xs ++ ys) none), ?_, ⟨⟨[], none, ?_⟩, hlim, hlo⟩, (Ext.refl hlo wf).push, (Keep.refl _ _).push, .inr (Nat.le_refl _)⟩
        · rw [← hA]
          rw [appendD_new hg (by simp) (by omega) hb hb1 hy]
          simp
        · simp

/-! parts of rows read off -/
theorem elems_isl (h : Heap) (t : Bool) (sz : Nat) (xs : List DV) : elems h sz (.isl t sz xs) = some xs := by simp [elems]
theorem slId_isl (t : Bool) (sz : Nat) (xs : List DV) : slId (.isl t sz xs) = none := _root_.id rfl
theorem mapId_isl (t : Bool) (sz : Nat) (xs : List DV) : mapId (.isl t sz xs) = none := _root_.id rfl
theorem sliceV_take {α : Type} (h : Heap) (t : Bool) (sz : Nat) (e : α → DV) (xs : List α) (k : IntKind) (i : Nat) (hi : i ≤ xs.length) : sliceV h sz (eL t sz e xs) none (some (.int k (i : Int))) = some (.isl (t && !xs.isEmpty) sz ((xs.take i).map e)) := by
  cases xs with
  | nil =>
    have h0 : i = 0 := by simpa using hi
    subst h0
    simp [eL_nil, sliceV, boundV, asI]
  | cons x xs =>
    have h2 : (i : Int) ≤ ((xs.length + 1 : Nat) : Int) := by simp at hi; omega
    rw [eL_cons]
    simp only [sliceV, List.length_cons, List.length_map, boundV, asI]
    simp only [List.isEmpty_cons, Bool.not_false, Bool.and_true, true_or, if_true, Int.natCast_nonneg, h2, and_self, Int.toNat_natCast, List.drop_zero, Nat.sub_zero]
    rw [← List.map_cons, ← List.map_take]
theorem sliceV_dropN {α : Type} (h : Heap) (t : Bool) (sz : Nat) (e : α → DV) (xs : List α) (k : IntKind) (i : Nat) (hi : i ≤ xs.length) : sliceV h sz (eL t sz e xs) (some (.int k (i : Int))) none = some (.isl (t && !xs.isEmpty) sz ((xs.drop i).map e)) := by
  cases xs with
  | nil =>
    have h0 : i = 0 := by simpa using hi
    subst h0
    simp [eL_nil, sliceV, boundV, asI]
  | cons x xs =>
    have h2 : (i : Int) ≤ ((xs.length + 1 : Nat) : Int) := by simp at hi; omega
    rw [eL_cons]
    simp only [sliceV, List.length_cons, List.length_map, boundV, asI]
    simp only [List.isEmpty_cons, Bool.not_false, Bool.and_true, true_or, if_true, Int.natCast_nonneg, h2, and_self, Int.toNat_natCast]
    rw [← List.map_cons, ← List.map_drop, List.take_of_length_le (by simp)]
theorem sliceV_dropS {α : Type} (h : Heap) (t : Bool) (sz : Nat) (e : α → DV) (xs : List α) (k : IntKind) (i : Nat) (hi : i + 1 ≤ xs.length) : sliceV h sz (eL t sz e xs) (some (.int k ((i : Int) + 1))) none = some (.isl (t && !xs.isEmpty) sz ((xs.drop (i + 1)).map e)) := by
  have := sliceV_dropN h t sz e xs k (i + 1) hi
  rwa [Int.natCast_add] at this
attribute [simp] elems_isl slId_isl mapId_isl sliceV_take sliceV_dropN sliceV_dropS

/-! ## a datum is what it is -/
theorem all_zip_self {α : Type} {f : α × α → Bool} : ∀ {l : List α}, (∀ x ∈ l, f (x, x) = true) → (l.zip l).all f = true := by
  intro l
  induction l with
  | nil => intro _; rfl
  | cons x r ih =>
    intro h
    rw [List.zip_cons_cons, List.all_cons, h x (List.mem_cons_self ..), ih fun y hy => h y (List.mem_cons_of_mem _ hy)]; rfl

theorem nat_beq_self (n : Nat) : Nat.beq n n = true := by simp [Nat.beq_eq]

/-- Its depth is at most so much (and no map lies in it). -/
inductive Dep : Nat → DV → Prop where
  | int (k : IntKind) (n : Int) {d : Nat} : Dep (d + 1) (.int k n)
  | bool (b : Bool) {d : Nat} : Dep (d + 1) (.bool b)
  | str (s : List UInt8) {d : Nat} : Dep (d + 1) (.str s)
  | isl (t : Bool) (sz : Nat) (xs : List DV) {d : Nat} (h : ∀ x ∈ xs, Dep d x) : Dep (d + 1) (.isl t sz xs)
  | agg (xs : List DV) {d : Nat} (h : ∀ x ∈ xs, Dep d x) : Dep (d + 1) (.agg xs)

theorem Dep.same {d : Nat} {v : DV} (h : Dep d v) : ∀ {n : Nat}, d ≤ n → same n v v = true := by
  induction h with
  | int k n => intro m hm; obtain ⟨q, rfl, _⟩ := pos_of_le hm; simp [Dm.same]
  | bool b => intro m hm; obtain ⟨q, rfl, _⟩ := pos_of_le hm; simp [Dm.same]
  | str s => intro m hm; obtain ⟨q, rfl, _⟩ := pos_of_le hm; simp [Dm.same]
  | isl t sz xs h ih =>
    intro m hm; obtain ⟨q, rfl, hq⟩ := pos_of_le hm
    simp only [Dm.same, nat_beq_self, beq_self_eq_true, Bool.true_and]
    exact all_zip_self fun x hx => ih x hx hq
  | agg xs h ih =>
    intro m hm; obtain ⟨q, rfl, hq⟩ := pos_of_le hm
    simp only [Dm.same, nat_beq_self, Bool.true_and]
    exact all_zip_self fun x hx => ih x hx hq
theorem Dep.belowN {d : Nat} {v : DV} (h : Dep d v) : ∀ {n N : Nat}, d ≤ n → Dm.below n N v = true := by
  induction h with
  | int k n => intro m N hm; obtain ⟨q, rfl, _⟩ := pos_of_le hm; rfl
  | bool b => intro m N hm; obtain ⟨q, rfl, _⟩ := pos_of_le hm; rfl
  | str s => intro m N hm; obtain ⟨q, rfl, _⟩ := pos_of_le hm; rfl
  | isl t sz xs h ih => intro m N hm; obtain ⟨q, rfl, hq⟩ := pos_of_le hm; rfl
  | agg xs h ih =>
    intro m N hm; obtain ⟨q, rfl, hq⟩ := pos_of_le hm
    simp only [Dm.below, List.all_eq_true]
    exact fun x hx => ih x hx hq
theorem Dep.eL {α : Type} {d : Nat} (t : Bool) (sz : Nat) {e : α → DV} {xs : List α} (h : ∀ x ∈ xs, Dep d (e x)) : Dep (d + 1) (eL t sz e xs) := by
  cases xs with
  | nil => exact .isl _ _ _ (fun x hx => by cases hx)
  | cons x r =>
    rw [eL_cons, ← List.map_cons]
    refine .isl _ _ _ fun y hy => ?_
    obtain ⟨z, hz, rfl⟩ := List.mem_map.1 hy
    exact h z hz
theorem dep_cons (c : Cons) : Dep 2 (eCons c) := .agg _ (by
  intro x hx; simp only [List.mem_cons, List.not_mem_nil, or_false] at hx
  rcases hx with rfl | rfl | rfl | rfl | rfl <;> first | exact .int _ _ | exact .str _)
theorem dep_pred (p : Pred) : Dep 3 (ePred p) := .eL _ _ fun c _ => dep_cons c
theorem Dep.mono {d : Nat} {v : DV} (h : Dep d v) : ∀ {e : Nat}, d ≤ e → Dep e v := by
  induction h with
  | int k n => intro e he; obtain ⟨q, rfl, _⟩ := pos_of_le he; exact .int _ _
  | bool b => intro e he; obtain ⟨q, rfl, _⟩ := pos_of_le he; exact .bool _
  | str s => intro e he; obtain ⟨q, rfl, _⟩ := pos_of_le he; exact .str _
  | isl t sz xs h ih => intro e he; obtain ⟨q, rfl, hq⟩ := pos_of_le he; exact .isl _ _ _ fun x hx => ih x hx hq
  | agg xs h ih => intro e he; obtain ⟨q, rfl, hq⟩ := pos_of_le he; exact .agg _ fun x hx => ih x hx hq
theorem dep_id (x : ID) : Dep 4 (eID x) := .agg _ (by
  intro x hx; simp only [List.mem_cons, List.not_mem_nil, or_false] at hx
  rcases hx with rfl | rfl <;> exact .int _ _)
theorem dep_advert (a : Advert) : Dep 4 (eAdvert a) := .agg _ (by
  intro x hx; simp only [List.mem_cons, List.not_mem_nil, or_false] at hx
  rcases hx with rfl | rfl | rfl | rfl <;> first | exact .int _ _ | exact dep_pred _)
theorem dep_entry (a : Entry) : Dep 4 (eEntry a) := .agg _ (by
  intro x hx; simp only [List.mem_cons, List.not_mem_nil, or_false] at hx
  rcases hx with rfl | rfl | rfl | rfl | rfl | rfl | rfl <;> first | exact .int _ _ | exact dep_pred _ | exact .bool _)
theorem dep_own (a : OwnS) : Dep 4 (eOwn a) := .agg _ (by
  intro x hx; simp only [List.mem_cons, List.not_mem_nil, or_false] at hx
  rcases hx with rfl | rfl | rfl <;> first | exact .int _ _ | exact dep_pred _)
theorem dep_int (n : Int) : Dep 4 (cInt n) := .int _ _

/-! the program's data are read off, nothing of them is lent -/
theorem flat_cells {cs : List DV} (h : ∀ x ∈ cs, Flat 1 x) : Flat 20 (.agg cs) := (flat_agg h).mono (by decide)
theorem unl_cells {cs : List DV} (h : ∀ x ∈ cs, Unl 21 x) : Unl 22 (.agg cs) := unl_agg h
theorem plain_id (x : ID) : Flat 20 (eID x) ∧ Unl 22 (eID x) := ⟨flat_cells (by
  intro x hx; simp only [List.mem_cons, List.not_mem_nil, or_false] at hx
  rcases hx with rfl | rfl <;> exact flat_int _ _), unl_cells (by
  intro x hx; simp only [List.mem_cons, List.not_mem_nil, or_false] at hx
  rcases hx with rfl | rfl <;> exact (unl_int _ _).mono (by decide))⟩
theorem plain_advert (a : Advert) : Flat 20 (eAdvert a) ∧ Unl 22 (eAdvert a) := ⟨flat_cells (by
  intro x hx; simp only [List.mem_cons, List.not_mem_nil, or_false] at hx
  rcases hx with rfl | rfl | rfl | rfl <;> first | exact flat_int _ _ | exact flat_pred _), unl_cells (by
  intro x hx; simp only [List.mem_cons, List.not_mem_nil, or_false] at hx
  rcases hx with rfl | rfl | rfl | rfl <;> first | exact (unl_int _ _).mono (by decide) | exact unl_pred _)⟩
theorem plain_entry (a : Entry) : Flat 20 (eEntry a) ∧ Unl 22 (eEntry a) := ⟨flat_cells (by
  intro x hx; simp only [List.mem_cons, List.not_mem_nil, or_false] at hx
  rcases hx with rfl | rfl | rfl | rfl | rfl | rfl | rfl <;> first | exact flat_int _ _ | exact flat_pred _ | exact flat_bool _), unl_cells (by
  intro x hx; simp only [List.mem_cons, List.not_mem_nil, or_false] at hx
  rcases hx with rfl | rfl | rfl | rfl | rfl | rfl | rfl <;> first | exact (unl_int _ _).mono (by decide) | exact unl_pred _ | exact (unl_bool _).mono (by decide))⟩
theorem plain_own (a : OwnS) : Flat 20 (eOwn a) ∧ Unl 22 (eOwn a) := ⟨flat_cells (by
  intro x hx; simp only [List.mem_cons, List.not_mem_nil, or_false] at hx
  rcases hx with rfl | rfl | rfl <;> first | exact flat_int _ _ | exact flat_pred _), unl_cells (by
  intro x hx; simp only [List.mem_cons, List.not_mem_nil, or_false] at hx
  rcases hx with rfl | rfl | rfl <;> first | exact (unl_int _ _).mono (by decide) | exact unl_pred _)⟩
theorem plain_cint (n : Int) : Flat 20 (cInt n) ∧ Unl 22 (cInt n) := ⟨(flat_int _ _).mono (by decide), (unl_int _ _).mono (by decide)⟩
theorem plain_con (c : Cons) : Flat 20 (eCons c) ∧ Unl 22 (eCons c) := ⟨plain_cons.flat c, (plain_cons.unl c).mono (by decide)⟩
theorem plain_bool (b : Bool) : Flat 20 (.bool b) ∧ Unl 22 (.bool b) := ⟨(flat_bool b).mono (by decide), (unl_bool b).mono (by decide)⟩

theorem ul_ints (n : Nat) (xs : List Int) : unlent (n + 23) (eL false 1 cInt xs) = true := unl_eL (fun x _ => (plain_cint x).2) _ (by omega)
theorem ul_ids (n : Nat) (xs : List ID) : unlent (n + 23) (eL false 2 eID xs) = true := unl_eL (fun x _ => (plain_id x).2) _ (by omega)
theorem ul_adverts (n : Nat) (xs : List Advert) : unlent (n + 23) (eL false 4 eAdvert xs) = true := unl_eL (fun x _ => (plain_advert x).2) _ (by omega)
theorem ul_entries (n : Nat) (xs : List Entry) : unlent (n + 23) (eL false 7 eEntry xs) = true := unl_eL (fun x _ => (plain_entry x).2) _ (by omega)
theorem ul_owns (n : Nat) (xs : List OwnS) : unlent (n + 23) (eL false 3 eOwn xs) = true := unl_eL (fun x _ => (plain_own x).2) _ (by omega)
attribute [simp] ul_ints ul_ids ul_adverts ul_entries ul_owns

end Go.Dm

/-
Arguments of a call from outside: what the frame tells of them, in the machine's form; a function with arguments that answers true.
-/
namespace Go.Dm
open Go.RowKit

/-- A function that answers true to arguments that the world bears. -/
theorem args_true {P : Program} {D : DProg} (G : Good P D) {f : Nat} {fn : Func} {body : Code} (hf : P.funcs[f]? = some fn) (hb : fn.body = some body) (hn : fn.name ≠ "runtime.NumGoroutine") {ds : List DV} {vs : List Value} {h' : Heap} (hr : fc D f ds emptyH = some (.bool true, h')) (w : World) (hg : Laid w) (hv : VRs (ctx0 w) ds vs) :
    Calls P f vs.toArray w fun e w' => e = .returned (.bool true) ∧ Grown w w' ∧ ∀ b, b < w.heap.size → w'.heap[b]? = w.heap[b]? := by
  obtain ⟨n, he⟩ := fc_some.1 hr
  have hc := call_sound G n f ds emptyH _ h' (ctx0 w) vs he (rel0 w hg) hv
  have hen := callFunc_enter hf hb hn vs.toArray w
  rcases hc with ⟨v, w', hrun, _⟩ | ⟨f', vals', hrun, hcalls⟩
  · have : (callFunc f vs.toArray).run P w = .ok (.value v) w' := hrun
    rw [hen] at this
    cases this
  · have h2 : (callFunc f vs.toArray).run P w = .ok (.enter f' vals') w := hrun
    rw [hen] at h2
    cases h2
    refine hcalls.mono fun e w' hp => ?_
    obtain ⟨v, e1, ρ', k1, k2, k3⟩ := hp
    exact ⟨by rw [e1, k3.bool_inv], grown_of_le k2, fun b hb => k2.frame b hb fun h => h⟩

/-- A state in which nothing is ours. -/
structure Bare (c : Ctx) (w : World) : Prop where
  w : c.w = w
  O : ∀ b, ¬ c.O b
  X : ∀ b, ¬ c.X b
theorem Bare.zero (w : World) : Bare (ctx0 w) w := ⟨rfl, fun _ h => h, fun _ h => h⟩
theorem Bare.still {c : Ctx} {w : World} (h : Bare c w) : Bare c.still w := ⟨h.w, h.O, h.X⟩

theorem list_of {α : Type} {p : Nat → α → Prop} : ∀ n, (∀ i, i < n → ∃ a, p i a) → ∃ l : List α, l.length = n ∧ ∀ i (hi : i < l.length), p i l[i]
  | 0, _ => ⟨[], rfl, fun i hi => absurd hi (Nat.not_lt_zero _)⟩
  | n + 1, h => by
    obtain ⟨l, hl, hp⟩ := list_of n fun i hi => h i (Nat.lt_succ_of_lt hi)
    obtain ⟨a, ha⟩ := h n (Nat.lt_succ_self n)
    refine ⟨l ++ [a], by simp [hl], fun i hi => ?_⟩
    by_cases hlt : i < l.length
    · rw [List.getElem_append_left hlt]; exact hp i hlt
    · have : i = n := by simp at hi; omega
      subst this
      rw [List.getElem_append_right (by omega)]
      simpa [hl] using ha

theorem add_none (b o n : Nat) : (⟨b, o, none⟩ : Addr).add n = ⟨b, o + n, none⟩ := by
  unfold Addr.add
  split
  · rename_i h; subst h; rfl
  · rfl

theorem spot_of {w : World} {a : Addr} {v : Value} (h : w.cell? a = some v) : a.spot = none ∧ a.block < w.heap.size := by
  unfold World.cell? at h
  split at h
  · rename_i hb
    refine ⟨?_, ?_⟩
    · split at h
      · cases h
      · rename_i hs; cases hs2 : a.spot with | none => rfl | some x => simp [hs2] at hs
    · by_cases hlt : a.block < w.heap.size
      · exact hlt
      · rw [Array.getElem?_eq_none (by omega)] at hb; cases hb
  · cases h

/-- Cells that read as data. -/
def CellsR (c : Ctx) (ds : List DV) (cs : List Value) : Prop := ds.length = cs.length ∧ ∀ i (h1 : i < ds.length) (h2 : i < cs.length), VR c ds[i] cs[i] ∧ (cs[i]).oneCell' = true

theorem CellsR.append {c : Ctx} {ds ds' : List DV} {cs cs' : List Value} (h : CellsR c ds cs) (h' : CellsR c ds' cs') : CellsR c (ds ++ ds') (cs ++ cs') := by
  refine ⟨by rw [List.length_append, List.length_append, h.1, h'.1], fun i h1 h2 => ?_⟩
  by_cases hlt : i < ds.length
  · rw [List.getElem_append_left hlt, List.getElem_append_left (by rw [← h.1]; exact hlt)]
    exact h.2 i hlt _
  · rw [List.getElem_append_right (by omega), List.getElem_append_right (by rw [← h.1]; omega)]
    have : i - cs.length = i - ds.length := by rw [h.1]
    simp only [this]
    exact h'.2 (i - ds.length) (by rw [List.length_append] at h1; omega) _
theorem CellsR.one {c : Ctx} {d : DV} {v : Value} (h : VR c d v) (h1 : v.oneCell' = true) : CellsR c [d] [v] := by
  refine ⟨rfl, fun i h2 h3 => ?_⟩
  have : i = 0 := by simp at h2; omega
  subst this
  exact ⟨h, h1⟩
theorem CellsR.nil {c : Ctx} : CellsR c [] [] := ⟨rfl, fun i h => absurd h (Nat.not_lt_zero _)⟩

section
variable {H : Type} {enc : TypeId × Value → H} {P : Program} {w : World} {sp : Nat → Bool} {held : Bool}

theorem read_int {t : TypeId} {cs : List Value} {fuel : Nat} {x : DataW H × List MemPlace} (ht : P.underlying t = some (.int .i64)) (h : DataW.trod enc P w 0 sp held fuel t cs = some x) (c : Ctx) : ∃ n : Int, CellsR c [.int .i64 n] cs := by
  obtain ⟨n, rfl, _, _⟩ := DataW.trod_int ht h
  exact ⟨n, .one (.int _ _) rfl⟩
theorem read_bool {t : TypeId} {cs : List Value} {fuel : Nat} {x : DataW H × List MemPlace} (ht : P.underlying t = some .bool) (h : DataW.trod enc P w 0 sp held fuel t cs = some x) (c : Ctx) : ∃ b : Bool, CellsR c [.bool b] cs := by
  obtain ⟨n, rfl, _⟩ := DataW.trod_bool ht h
  exact ⟨n, .one (.bool _) rfl⟩

/-- A row that reads as data, element by element. -/
theorem read_slice {α : Type} {t e : TypeId} {cs : List Value} {fuel sz : Nat} {x : DataW H × List MemPlace} (ht : P.underlying t = some (.slice e)) (hz : P.cellsOf e = sz) (hz0 : 0 < sz) (h : DataW.trod enc P w 0 sp held fuel t cs = some x) {c : Ctx} (hc : Bare c w)
    (en : α → DV) (good : α → Prop) (hel : ∀ ecs y n, DataW.trod enc P w 0 sp held n e ecs = some y → ∃ a, good a ∧ CellsR c.still (ecells sz (en a)) ecs) :
    ∃ l : List α, (∀ a ∈ l, good a) ∧ l.length ≤ maxLen ∧ CellsR c [eL false sz en l] cs := by
  rcases DataW.trod_slice ht h with ⟨rfl, _⟩ | ⟨a, len, cap, elems, rest, n, _, rfl, _, hb, hl, hcap, hel1, hel2, _⟩
  · exact ⟨[], fun a h => (by cases h), Nat.zero_le _, .one (.isl0 _ _) rfl⟩
  · rw [hz] at hel2
    have hex : ∀ i, i < len → ∃ p : α × List Value, good p.1 ∧ w.cells? 0 (a.add (i * sz)) sz = some p.2 ∧ CellsR c.still (ecells sz (en p.1)) p.2 := fun i hi => by
      have h1 := hel2 i hi
      rw [List.getElem?_eq_getElem (by omega)] at h1
      simp only [Option.bind_eq_some_iff] at h1
      obtain ⟨ecs, h2, h3⟩ := h1
      obtain ⟨b, h4, h5⟩ := hel _ _ _ h3
      exact ⟨(b, ecs), h4, h2, h5⟩
    obtain ⟨l, hll, hlp⟩ := list_of len hex
    refine ⟨l.map (·.1), ?_, by rw [List.length_map, hll]; omega, .one ?_ rfl⟩
    · intro b hb
      obtain ⟨p, hp, rfl⟩ := List.mem_map.1 hb
      obtain ⟨i, hi, rfl⟩ := List.mem_iff_getElem.1 hp
      exact (hlp i hi).1
    · by_cases h0 : len = 0
      · have : l = [] := List.eq_nil_of_length_eq_zero (by omega)
        subst this
        subst h0
        exact .isl0 _ _
      · have hne : l ≠ [] := fun e => h0 (by rw [← hll, e]; rfl)
        have hne' : l.map (·.1) ≠ [] := by simpa using hne
        have hcell : ∀ i (hi : i < l.length) j, j < sz → w.cell? ((a.add (i * sz)).add j) = (l[i]).2[j]? ∧ (l[i]).2.length = sz := fun i hi j hj => by
          obtain ⟨_, k2, k3⟩ := World.cells?_some (hlp i hi).2.1
          exact ⟨k3 j hj, k2⟩
        have hpos : 0 < l.length := by omega
        have h00 := hcell 0 hpos 0 hz0
        have ha0 : (a.add (0 * sz)).add 0 = a := by simp [Addr.add]
        rw [ha0, List.getElem?_eq_getElem (by rw [h00.2]; exact hz0)] at h00
        obtain ⟨hs, hbk⟩ := spot_of h00.1
        obtain ⟨b, o, s⟩ := a
        simp only at hs hbk
        subst hs
        rw [eL_ne false sz en hne']
        have hcl : ∀ i (hi : i < l.length) j (hj : j < sz), w.cell? ⟨b, o + i * sz + j, none⟩ = some ((l[i]).2[j]'(by rw [(hcell i hi j hj).2]; exact hj)) := fun i hi j hj => by
          have k1 := (hcell i hi j hj).1
          rw [add_none, add_none] at k1
          exact k1.trans (List.getElem?_eq_getElem _)
        refine .isl (fun i j => (w.cell? ⟨b, o + i * sz + j, none⟩).getD undef) (by simp [hll]) hl (by rw [hc.w]; exact hbk) (hc.O b) (fun _ => hc.X b) ?_ ?_ ?_
        · intro i hi
          simp only [List.length_map] at hi
          simp only [List.getElem_map]
          have := (hlp i hi).2.2.1
          rw [this]
          exact (hcell i hi 0 hz0).2
        · intro i j hi hj
          simp only [List.length_map] at hi
          rw [hc.w, hcl i hi j hj]
          have h5 := (hlp i hi).2.2
          have h6 := (hcell i hi j hj).2
          exact ⟨rfl, (h5.2 j (by rw [h5.1, h6]; exact hj) (by rw [h6]; exact hj)).2⟩
        · intro i hi j hj
          simp only [List.length_map] at hi
          simp only [List.getElem_map] at hj ⊢
          have h5 := (hlp i hi).2.2
          have h6 := (hcell i hi 0 hz0).2
          have hj' : j < sz := by rw [h5.1, h6] at hj; exact hj
          have h7 := (h5.2 j hj (by rw [h6]; exact hj')).1
          have h8 : (w.cell? ⟨b, o + i * sz + j, none⟩).getD undef = (l[i]).2[j]'(by rw [h6]; exact hj') := by rw [hcl i hi j hj']; rfl
          simp only [h8]
          exact h7

/-- What was there reads as ever. -/
theorem same_of {w' : World} (hg : ∀ b, b < w.heap.size → w'.heap[b]? = w.heap[b]?) {p : MemPlace} (hp : p.block < w.heap.size) : w.sameAt w' p := by
  cases p with
  | cell b off =>
    show w'.cell? ⟨b, off, none⟩ = w.cell? ⟨b, off, none⟩
    unfold World.cell?
    rw [hg b hp]
  | map b => exact hg b hp

theorem trodAll_same {w' : World} (hg : ∀ b, b < w.heap.size → w'.heap[b]? = w.heap[b]?) (sp' : Nat → Bool) : ∀ {ts : List TypeId} {vs : List Value} {ds : List (DataW H)} {ps : List MemPlace}, DataW.TrodAll enc P w 0 sp' held ts vs ds ps → (∀ p ∈ ps, p.block < w.heap.size) → DataW.TrodAll enc P w' 0 sp' held ts vs ds ps
  | [], [], [], _, h, _ => h
  | t :: ts, v :: vs, d :: ds, ps, h, hl => by
    obtain ⟨p, q, ⟨fuel, h1⟩, h2, rfl⟩ := h
    exact ⟨p, q, ⟨fuel, DataW.trod_carry _ _ _ _ h1 fun x hx => same_of hg (hl x (List.mem_append.2 (.inl hx)))⟩, trodAll_same hg sp' h2 fun x hx => hl x (List.mem_append.2 (.inr hx)), rfl⟩
end
end Go.Dm

