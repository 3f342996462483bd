/-
Two rows of one element type side by side: what is put behind one leaves the other one alone.
-/
import Derived.Test.YtfnhanajiibciaaMs0
set_option linter.all false
namespace Go.Dm.Tc
def NotAt (v : DV) (k : Nat) : Prop := ∀ sz off len, v ≠ .sl k sz off len
theorem append_frame {lo : Nat} {h : Heap} {v : DV} {ety sz bytes : Nat} {xs ys : List DV} {A : Option (DV × Heap)} (w : OwnR lo h v ety sz xs) (wf : WF h) (hlo : lo ≤ h.n) (hlim : h.lim ≤ h.n) (hA : appendD h ety sz bytes v ys = A)
    (hb : (xs.length + ys.length) * bytes ≤ 140737488355328) (hb1 : 1 ≤ bytes) :
    ∃ v' h', A = some (v', h') ∧ OwnR lo h' v' ety sz (xs ++ ys) ∧ Ext lo h h' ∧ (∀ k, k < h.n → NotAt v k → h'.get k = h.get k) ∧ (∀ k, k < h.n → NotAt v k → NotAt v' k) := by
  have hm : xs.length + ys.length ≤ 140737488355328 := Nat.le_trans (Nat.le_mul_of_pos_right _ hb1) hb
  by_cases hy : ys = []
  · subst hy
    refine ⟨v, h, ?_, by simpa using w, .refl hlo wf, fun _ _ _ => rfl, fun _ _ q => q⟩
    rw [← hA]
    cases w with
    | nil hv hx => subst hv; rfl
    | arr id sp cap hv hg _ _ => subst hv; rfl
  · have hye : ys.isEmpty = false := by cases ys <;> simp_all
    have hyl : 0 < ys.length := List.length_pos_iff.2 hy
    cases w with
    | nil hv hx =>
      subst hv; subst hx
      simp only [List.length_nil, Nat.zero_add] at hb hm
      refine ⟨.sl h.n sz 0 ys.length, h.push (.arr ety sz ys none), ?_, .arr h.n [] none rfl (by simp [get_push]) (by exact hlim) hlo, (Ext.refl hlo wf).push, fun k hk _ => by rw [get_push, if_neg (by omega)], fun k hk _ sz' off' len' e => by injection e; omega⟩
      rw [← hA]
      simp only [appendD, hye]
      rw [if_neg (by simp), if_pos ⟨hb, by omega⟩]
    | arr id sp cap hv hg hl hi =>
      subst hv
      have hlt := get_some_lt hg
      have hne : ∀ k, NotAt (.sl id sz 0 xs.length) k → k ≠ id := fun k q e => by subst e; exact q _ _ _ rfl
      by_cases hin : xs.length + ys.length ≤ (xs ++ sp).length
      · refine ⟨.sl id sz 0 (xs.length + ys.length), h.set id (.arr ety sz (splice (xs ++ sp) ys xs.length) cap), ?_, .arr id (sp.drop ys.length) cap (by simp) ?_ (by exact hl) hi, (Ext.refl hlo wf).set hi hlt, fun k _ q => by rw [get_set wf hlt, if_neg (hne k q)], fun k _ q sz' off' len' e => by injection e with e1; exact hne k q e1.symm⟩
        · rw [← hA]; exact appendD_in hg hin hl hb hb1 hy
        · rw [get_set wf hlt, if_pos rfl]
          simp only [splice, List.take_left', List.append_assoc]
          congr 3
          rw [List.drop_append]
          simp
      · cases cap with
        | none =>
          refine ⟨.sl h.n sz 0 (xs.length + ys.length), (h.set id .dead).push (.arr ety sz (xs ++ ys) none), ?_, .arr h.n [] none (by simp) ?_ (by exact hlim) hlo, ((Ext.refl hlo wf).set hi hlt).push, fun k hk q => by rw [get_push, if_neg (by show ¬ k = h.n; omega), get_set wf hlt, if_neg (hne k q)], fun k hk _ sz' off' len' e => by injection e; omega⟩
          · rw [← hA]
            simp only [appendD, hye, hg]
            simp only [Bool.false_eq_true, if_false, true_and, Nat.zero_add, List.drop_zero]
            rw [if_pos ⟨by simp, hb, by omega⟩, if_neg hin, if_pos hl]
            simp
          · simpa using get_push_new (h := h.set id .dead)
        | some c =>
          refine ⟨.sl h.n sz 0 (xs.length + ys.length), h.push (.arr ety sz (xs ++ ys) none), ?_, .arr h.n [] none (by simp) ?_ (by exact hlim) hlo, (Ext.refl hlo wf).push, fun k hk _ => by rw [get_push, if_neg (by omega)], fun k hk _ sz' off' len' e => by injection e; omega⟩
          · rw [← hA]
            rw [appendD_new hg (by simp) (by omega) hb hb1 hy]
            simp
          · simpa using get_push_new (h := h)
def takeL (tree : ID) : List Entry → List Entry → List Entry → List Entry × List Entry
  | done, [], ups => (done, ups)
  | done, e :: r, ups => if e.tree = tree ∧ e.up = false ∧ coveredB (done ++ e :: r) tree e.pred = false then takeL tree (done ++ [{ e with up := true }]) r (ups ++ [{ e with up := true }]) else takeL tree (done ++ [e]) r ups
def takeB (b : Broker) (tree sub : ID) (frm : Int) : Broker × List Entry × Bool :=
  match b.entries.find? (isE tree sub) with
  | none => (b, [], false)
  | some e => if e.frm = frm then
      (if e.up = true then ({ b with entries := (takeL tree [] (b.entries.filter fun x => !isE tree sub x) []).1 }, (takeL tree [] (b.entries.filter fun x => !isE tree sub x) []).2, true)
       else ({ b with entries := b.entries.filter fun x => !isE tree sub x }, [], false))
    else (b, [], false)
end Go.Dm.Tc

/-
What functions of the program compute, part 19: an entry taken out (the loop).
-/
namespace Go.Dm.Tc
end Go.Dm.Tc

/-
What functions of the program compute, part 20: an entry taken out.
-/
namespace Go.Dm.Tc
end Go.Dm.Tc

/-
What the reference's functions compute, part 8: an entry taken out (the loop).
-/
namespace Go.Dm.Tc
end Go.Dm.Tc

/-
What the reference's functions compute, part 9: an entry taken out.
-/
namespace Go.Dm.Tc
end Go.Dm.Tc

/-
What every broker keeps that calls made: plain laws (learned, forgotten, added, taken out).
-/
namespace Go.Dm.Tc
theorem find_key {α : Type} (key : α → ID) {l : List α} (h : Rising (l.map key)) (x : ID) (a : α) : l.find? (fun b => decide (key b = x)) = some a ↔ a ∈ l ∧ key a = x := by
  constructor
  · intro hf
    exact ⟨List.mem_of_find?_eq_some hf, by simpa using List.find?_some hf⟩
  · rintro ⟨hm, hk⟩
    cases hf : l.find? (fun b => decide (key b = x)) with
    | none => exact absurd hk (by have := List.find?_eq_none.1 hf a hm; simpa using this)
    | some b =>
      have hb := List.mem_of_find?_eq_some hf
      have hkb : key b = x := by simpa using List.find?_some hf
      have : b = a := by
        by_cases e : b = a
        · exact e
        · exfalso
          unfold Rising at h
          rw [List.pairwise_map] at h
          obtain ⟨i, hi, rfl⟩ := List.mem_iff_getElem.1 hb
          obtain ⟨j, hj, rfl⟩ := List.mem_iff_getElem.1 hm
          rcases Nat.lt_trichotomy i j with hlt | he | hlt
          · have := List.pairwise_iff_getElem.1 h i j hi hj hlt
            rw [hkb, hk, cmpID_lt] at this; omega
          · subst he; exact e rfl
          · have := List.pairwise_iff_getElem.1 h j i hj hi hlt
            rw [hkb, hk, cmpID_lt] at this; omega
      rw [this]
theorem find_key_none {α : Type} (key : α → ID) {l : List α} (x : ID) : l.find? (fun b => decide (key b = x)) = none ↔ ∀ a ∈ l, key a ≠ x := by
  rw [List.find?_eq_none]
  exact ⟨fun h a ha => by simpa using h a ha, fun h a ha => by simpa using h a ha⟩
theorem advOf_some {b : Broker} (h : Rising (b.adverts.map (·.id))) {x : ID} {a : Advert} : advOf b x = some a ↔ a ∈ b.adverts ∧ a.id = x := find_key (fun a : Advert => a.id) h x a
theorem advOf_none {b : Broker} {x : ID} : advOf b x = none ↔ ∀ a ∈ b.adverts, a.id ≠ x := find_key_none (fun a : Advert => a.id) x
theorem parentOf_eq (b : Broker) (x : ID) : parentOf b x = ((advOf b x).getD advZero).parent := rfl
theorem coveredB_iff {l : List Entry} {t : ID} {p : Pred} : coveredB l t p = true ↔ ∃ e ∈ l, e.tree = t ∧ e.up = true ∧ coversP e.pred p = true := by
  unfold coveredB ofT
  rw [List.any_eq_true]
  constructor
  · rintro ⟨e, he, h⟩
    have := List.mem_filter.1 he
    rw [Bool.and_eq_true] at h
    exact ⟨e, this.1, by simpa using this.2, h.1, h.2⟩
  · rintro ⟨e, he, h1, h2, h3⟩
    exact ⟨e, List.mem_filter.2 ⟨he, by simpa using h1⟩, by rw [h2, h3]; rfl⟩
theorem insE_mem {e x : Entry} {l : List Entry} : x ∈ insE e l ↔ x = e ∨ x ∈ l := by
  unfold insE
  rw [List.mem_append, List.mem_cons]
  constructor
  · rintro (h | h | h)
    · exact .inr (List.mem_of_mem_take h)
    · exact .inl h
    · exact .inr (List.mem_of_mem_drop h)
  · rintro (h | h)
    · exact .inr (.inl h)
    · rw [← List.take_append_drop (lowIdx (sgnE e.tree e.sub) l) l, List.mem_append] at h
      exact h.elim .inl fun h => .inr (.inr h)
theorem insE_len (e : Entry) (l : List Entry) : (insE e l).length = l.length + 1 := by
  unfold insE
  rw [List.length_append, List.length_cons, List.length_take, List.length_drop]
  have := lowIdx_le (sgnE e.tree e.sub) l
  omega
theorem sgnE_gt {t s : ID} {a : Entry} (h1 : ¬ sgnE t s a < 0) (h2 : ¬ (a.tree = t ∧ a.sub = s)) (e : Entry) (he : e.tree = t) (he2 : e.sub = s) : sgnE a.tree a.sub e < 0 := by
  rw [sgnE_lt, ltID_iff, ltID_iff] at *
  rw [he, he2]
  rw [ID.ext', ID.ext'] at h2
  rw [ID.ext'] at *
  omega
theorem insE_rising {e : Entry} {l : List Entry} (h : RisingE l) (hn : ∀ x ∈ l, isE e.tree e.sub x = false) : RisingE (insE e l) := by
  unfold RisingE insE
  rw [List.pairwise_append, List.pairwise_cons]
  generalize hk : lowIdx (sgnE e.tree e.sub) l = k
  have hlow : ∀ b ∈ l.take k, sgnE e.tree e.sub b < 0 := by
    intro b hb
    obtain ⟨i, hi, rfl⟩ := List.mem_iff_getElem.1 hb
    rw [List.getElem_take]
    rw [List.length_take] at hi
    have := List.not_of_lt_findIdx (p := fun x => !decide (sgnE e.tree e.sub x < 0)) (xs := l) (i := i) (by unfold lowIdx at hk; omega)
    simpa using this
  have hhigh : ∀ b ∈ l.drop k, sgnE b.tree b.sub e < 0 := by
    intro b hb
    obtain ⟨i, hi, rfl⟩ := List.mem_iff_getElem.1 hb
    rw [List.length_drop] at hi
    rw [List.getElem_drop]
    have hkl : k < l.length := by omega
    have h1 : ¬ sgnE e.tree e.sub l[k] < 0 := by
      have := List.findIdx_getElem (p := fun x => !decide (sgnE e.tree e.sub x < 0)) (xs := l) (w := by unfold lowIdx at hk; omega)
      have hk' : List.findIdx (fun x => !decide (sgnE e.tree e.sub x < 0)) l = k := hk
      simp only [hk'] at this
      simpa using this
    have h2 : ¬ sgnE e.tree e.sub l[k + i] < 0 := fun hc => h1 (monoE h _ _ k (k + i) hkl (by omega) (by omega) hc)
    refine sgnE_gt h2 ?_ e rfl rfl
    have := hn l[k + i] (List.getElem_mem _)
    simpa [isE] using this
  refine ⟨h.sublist (List.take_sublist ..), ⟨fun b hb => hhigh b hb, h.sublist (List.drop_sublist ..)⟩, ?_⟩
  intro x hx y hy
  rcases List.mem_cons.1 hy with rfl | hy
  · exact hlow x hx
  · exact sgnE_trans (hlow x hx) (by have := hhigh y hy; omega)
structure InvK (b : Broker) : Prop where
  near : risesB (fun x y => decide (x < y)) b.near = true
  loc : ∀ x ∈ b.near, 0 ≤ x
  ra : Rising (b.adverts.map (·.id))
  rs : Rising b.seen
  ro : Rising (b.owns.map (·.id))
  re : RisingE b.entries
  sub : ∀ a ∈ b.adverts, a.id ∈ b.seen
  par : ∀ a ∈ b.adverts, linkB b a.parent = true
  pa : ∀ a ∈ b.adverts, PredOk a.pred
  po : ∀ o ∈ b.owns, PredOk o.pred
  ent : ∀ e ∈ b.entries, rightEnt b e = true
  pe : ∀ e ∈ b.entries, PredOk e.pred
  tight : tightB b = true
structure SzK (b : Broker) (n : Nat) : Prop where
  near : b.near.length ≤ 1000
  adv : b.adverts.length ≤ n
  seen : b.seen.length ≤ n
  own : b.owns.length ≤ n
  ent : b.entries.length ≤ n * n
theorem SzK.sized {b : Broker} {n : Nat} (h : SzK b n) (hn : n ≤ 300) : Sized b := by
  have := Nat.mul_le_mul hn hn
  obtain ⟨h1, h2, h3, h4, h5⟩ := h
  exact ⟨by omega, by omega, by omega, by omega, by omega⟩
theorem SzK.mono {b : Broker} {n m : Nat} (h : SzK b n) (hn : n ≤ m) : SzK b m := by
  have := Nat.mul_le_mul hn hn
  obtain ⟨h1, h2, h3, h4, h5⟩ := h
  exact ⟨h1, by omega, by omega, by omega, by omega⟩
theorem InvK.asked {b : Broker} (h : InvK b) : AskedP b := ⟨fun e he => (h.pe e he).unlike, fun e he => Nat.le_trans (h.pe e he).len (by decide)⟩
theorem InvK.right {b : Broker} (h : InvK b) : rightB b = true := by
  unfold rightB rightRows
  rw [h.near, of_rising (key := fun a : Advert => a.id) h.ra, of_rising (key := fun a : OwnS => a.id) h.ro, of_risesE h.re, show risesB (fun x y => ltID x y) b.seen = true from of_rising (key := fun a : ID => a) (by simpa using h.rs)]
  have h1 : (b.adverts.any fun a => !rightAdv b a) = false := by
    rw [List.any_eq_false]
    intro a ha
    simp [rightAdv, h.sub a ha, h.par a ha, (h.pa a ha).right]
  have h2 : (b.entries.any fun e => !rightEnt b e) = false := by
    rw [List.any_eq_false]
    intro e he
    simp [h.ent e he]
  have h3 : (b.owns.any fun o => !rightP o.pred) = false := by
    rw [List.any_eq_false]
    intro o ho
    simp [(h.po o ho).right]
  rw [h1, h2, h3]
  rfl
theorem rightEnt_iff {b : Broker} {e : Entry} : rightEnt b e = true ↔ ∃ a, advOf b e.tree = some a ∧ linkB b e.frm = true ∧ (e.frm = a.parent → a.parent = -1) ∧ (e.up = true → a.parent ≠ -1) ∧ rightP e.pred = true := by
  unfold rightEnt advOf
  cases b.adverts.find? (fun a => a.id = e.tree) with
  | none => simp
  | some a =>
    simp only [Option.some.injEq, exists_eq_left', Bool.and_eq_true, Bool.or_eq_true, Bool.not_eq_true', Bool.and_eq_false_iff, decide_eq_true_eq, decide_eq_false_iff_not]
    constructor
    · rintro ⟨⟨⟨h1, h2⟩, h3⟩, h4⟩
      exact ⟨h1, fun q => h2.resolve_left (fun hn => hn q), fun q => h3.resolve_left (by rw [q]; decide), h4⟩
    · rintro ⟨h1, h2, h3, h4⟩
      refine ⟨⟨⟨h1, ?_⟩, ?_⟩, h4⟩
      · by_cases q : e.frm = a.parent
        · exact .inr (h2 q)
        · exact .inl q
      · cases q : e.up with
        | false => exact .inl rfl
        | true => exact .inr (h3 q)
theorem tightB_iff {b : Broker} : tightB b = true ↔ ∀ e ∈ b.entries, e.up = true ∨ parentOf b e.tree = -1 ∨ coveredB b.entries e.tree e.pred = true := by
  unfold tightB
  rw [List.all_eq_true]
  simp only [tightE, Bool.or_eq_true, decide_eq_true_eq, or_assoc]
theorem linkB_near {b b' : Broker} (h : b'.near = b.near) (n : Int) : linkB b' n = linkB b n := by unfold linkB; rw [h]
theorem rightEnt_same {b b' : Broker} {e : Entry} (h : b'.near = b.near) (ha : advOf b' e.tree = advOf b e.tree) : rightEnt b' e = rightEnt b e := by
  rw [Bool.eq_iff_iff, rightEnt_iff, rightEnt_iff, ha]
  simp only [linkB_near h]
theorem InvK.start {me : Int} {near : List Int} (hn : risesB (fun x y => decide (x < y)) near = true) (hl : ∀ x ∈ near, 0 ≤ x) : InvK ⟨me, near, [], [], [], []⟩ :=
  ⟨hn, hl, .nil, .nil, .nil, .nil, fun a h => (by cases h), fun a h => (by cases h), fun a h => (by cases h), fun a h => (by cases h), fun a h => (by cases h), fun a h => (by cases h), rfl⟩
theorem SzK.start {me : Int} {near : List Int} (hn : near.length ≤ 1000) : SzK ⟨me, near, [], [], [], []⟩ 0 := ⟨hn, Nat.le_refl _, Nat.le_refl _, Nat.le_refl _, Nat.le_refl _⟩
theorem advOf_learn {b : Broker} (h : InvK b) (a : Advert) (hn : a.id ∉ b.seen) (x : ID) : advOf (learnB b a).1 x = if a.id = x then some a else advOf b x := by
  have hnew : ∀ c ∈ b.adverts, c.id ≠ a.id := fun c hc e => hn (by rw [← e]; exact h.sub c hc)
  have hr : Rising ((learnB b a).1.adverts.map (·.id)) := by
    unfold learnB; rw [if_neg hn]
    exact ins_rising (fun a : Advert => a.id) a h.ra hnew
  have hm : ∀ c, c ∈ (learnB b a).1.adverts ↔ c = a ∨ c ∈ b.adverts := by
    intro c
    unfold learnB; rw [if_neg hn]
    exact ins_mem (fun a : Advert => a.id) a b.adverts c
  by_cases e : a.id = x
  · rw [if_pos e, advOf_some hr, hm]; exact ⟨.inl rfl, e⟩
  · rw [if_neg e]
    cases hq : advOf b x with
    | none =>
      rw [advOf_none] at hq ⊢
      intro c hc
      rcases (hm c).1 hc with rfl | hc
      · exact e
      · exact hq c hc
    | some c =>
      rw [advOf_some h.ra] at hq
      rw [advOf_some hr, hm]
      exact ⟨.inr hq.1, hq.2⟩
theorem InvK.learn {b : Broker} (h : InvK b) {a : Advert} (hp : linkB b a.parent = true) (hr : PredOk a.pred) : InvK (learnB b a).1 := by
  by_cases hn : a.id ∈ b.seen
  · unfold learnB; rw [if_pos hn]; exact h
  · have ho := advOf_learn h a hn
    have hE : (learnB b a).1.entries = b.entries := by unfold learnB; rw [if_neg hn]
    have hN : (learnB b a).1.near = b.near := by unfold learnB; rw [if_neg hn]
    have hO : (learnB b a).1.owns = b.owns := by unfold learnB; rw [if_neg hn]
    have hA : (learnB b a).1.adverts = insAt (fun a => a.id) a b.adverts := by unfold learnB; rw [if_neg hn]
    have hS : (learnB b a).1.seen = insAt (fun x => x) a.id b.seen := by unfold learnB; rw [if_neg hn]
    have hother : ∀ e ∈ b.entries, advOf (learnB b a).1 e.tree = advOf b e.tree := by
      intro e he
      rw [ho, if_neg]
      intro hc
      obtain ⟨c, hc1, _⟩ := rightEnt_iff.1 (h.ent e he)
      rw [advOf_some h.ra] at hc1
      exact hn (by rw [hc, ← hc1.2]; exact h.sub c hc1.1)
    refine ⟨by rw [hN]; exact h.near, by rw [hN]; exact h.loc, ?_, ?_, by rw [hO]; exact h.ro, by rw [hE]; exact h.re, ?_, ?_, ?_, by rw [hO]; exact h.po, ?_, by rw [hE]; exact h.pe, ?_⟩
    · rw [hA]; exact ins_rising (fun a : Advert => a.id) a h.ra fun c hc e => hn (by rw [← e]; exact h.sub c hc)
    · rw [hS]
      have := ins_rising (fun x : ID => x) a.id (l := b.seen) (by simpa using h.rs) (fun c hc e => hn (by rw [← e]; exact hc))
      simpa using this
    · intro c hc
      rw [hA, ins_mem] at hc
      rw [hS, ins_mem]
      rcases hc with rfl | hc
      · exact .inl rfl
      · exact .inr (h.sub c hc)
    · intro c hc
      rw [linkB_near hN]
      rw [hA, ins_mem] at hc
      rcases hc with rfl | hc
      · exact hp
      · exact h.par c hc
    · intro c hc
      rw [hA, ins_mem] at hc
      rcases hc with rfl | hc
      · exact hr
      · exact h.pa c hc
    · intro e he
      rw [hE] at he
      rw [rightEnt_same hN (hother e he)]; exact h.ent e he
    · rw [tightB_iff, hE]
      intro e he
      rw [parentOf_eq, hother e he, ← parentOf_eq]
      exact tightB_iff.1 h.tight e he
theorem SzK.learn {b : Broker} {n : Nat} (h : SzK b n) (a : Advert) : SzK (learnB b a).1 (n + 1) := by
  have h' := h.mono (Nat.le_succ n)
  unfold learnB
  split
  · exact h'
  · obtain ⟨h1, h2, h3, h4, h5⟩ := h'
    exact ⟨h1, by simp only [ins_len]; have := h.adv; omega, by simp only [ins_len]; have := h.seen; omega, h4, h5⟩
theorem mayAdd_iff {b : Broker} {e : Entry} : mayAdd b e = true ↔ ∃ a, advOf b e.tree = some a ∧ (∀ x ∈ b.entries, isE e.tree e.sub x = false) ∧ (e.frm = a.parent → a.parent = -1) := by
  unfold mayAdd advOf
  cases b.adverts.find? (fun a => a.id = e.tree) with
  | none => simp
  | some a =>
    simp only [Option.some.injEq, exists_eq_left', Bool.and_eq_true, Bool.not_eq_true', Bool.and_eq_false_iff, List.any_eq_false, Bool.not_eq_true, decide_eq_false_iff_not, Bool.not_eq_false', decide_eq_true_eq]
    refine and_congr Iff.rfl ⟨fun h q => h.resolve_left (fun hn => hn q), fun h => ?_⟩
    by_cases q : e.frm = a.parent
    · exact .inr (h q)
    · exact .inl q
theorem covered_mono {l l' : List Entry} {t : ID} {p : Pred} (h : ∀ e ∈ l, e ∈ l') (hc : coveredB l t p = true) : coveredB l' t p = true := by
  rw [coveredB_iff] at *
  obtain ⟨e, he, h2⟩ := hc
  exact ⟨e, h e he, h2⟩
theorem InvK.add {b : Broker} (h : InvK b) {e : Entry} (hl : linkB b e.frm = true) (hp : PredOk e.pred) : InvK (addB b e).1 := by
  by_cases hm : mayAdd b e = true
  · obtain ⟨a, ha, hno, hfp⟩ := mayAdd_iff.1 hm
    unfold addB
    rw [if_pos hm]
    have hpar : parentOf b e.tree = a.parent := by rw [parentOf_eq, ha]; rfl
    refine ⟨h.near, h.loc, h.ra, h.rs, h.ro, ?_, h.sub, h.par, h.pa, h.po, ?_, ?_, ?_⟩
    · exact insE_rising (e := { e with up := upOf b e }) h.re hno
    · intro x hx
      rw [insE_mem] at hx
      have hs : ∀ y, rightEnt { b with entries := insE { e with up := upOf b e } b.entries } y = rightEnt b y := fun y => rightEnt_same rfl rfl
      rw [hs]
      rcases hx with rfl | hx
      · rw [rightEnt_iff]
        refine ⟨a, ha, hl, hfp, ?_, hp.right⟩
        intro hu hpp
        simp only [upOf, hpar, hpp] at hu
        simp at hu
      · exact h.ent x hx
    · intro x hx
      rw [insE_mem] at hx
      rcases hx with rfl | hx
      · exact hp
      · exact h.pe x hx
    · rw [tightB_iff]
      intro x hx
      have hs : ∀ y, parentOf { b with entries := insE { e with up := upOf b e } b.entries } y = parentOf b y := fun y => rfl
      rw [hs]
      have hx' := hx
      rw [insE_mem] at hx
      rcases hx with rfl | hx
      · by_cases hpp : a.parent = -1
        · exact .inr (.inl (by rw [hpar, hpp]))
        · cases hcv : coveredB b.entries e.tree e.pred with
          | true => exact .inr (.inr (covered_mono (fun y hy => insE_mem.2 (.inr hy)) hcv))
          | false => left; simp [upOf, hpar, hpp, hcv]
      · rcases tightB_iff.1 h.tight x hx with h1 | h1 | h1
        · exact .inl h1
        · exact .inr (.inl h1)
        · exact .inr (.inr (covered_mono (fun y hy => insE_mem.2 (.inr hy)) h1))
  · unfold addB
    rw [if_neg hm]; exact h
inductive Raised (t : ID) : List Entry → List Entry → Prop where
  | nil : Raised t [] []
  | keep (e : Entry) {l l' : List Entry} (h : Raised t l l') : Raised t (e :: l) (e :: l')
  | up (e : Entry) {l l' : List Entry} (ht : e.tree = t) (hu : e.up = false) (h : Raised t l l') : Raised t (e :: l) ({ e with up := true } :: l')
theorem Raised.refl (t : ID) : ∀ l, Raised t l l
  | [] => .nil
  | e :: l => .keep e (Raised.refl t l)
theorem Raised.append {t : ID} {a a' b b' : List Entry} (h : Raised t a a') (k : Raised t b b') : Raised t (a ++ b) (a' ++ b') := by
  induction h with
  | nil => exact k
  | keep e _ ih => exact .keep e ih
  | up e ht hu _ ih => exact .up e ht hu ih
theorem Raised.len {t : ID} {a a' : List Entry} (h : Raised t a a') : a'.length = a.length := by
  induction h with
  | nil => rfl
  | keep e _ ih => simp [ih]
  | up e ht hu _ ih => simp [ih]
theorem Raised.mem {t : ID} {a a' : List Entry} (h : Raised t a a') {x : Entry} (hx : x ∈ a') : x ∈ a ∨ ∃ e ∈ a, e.tree = t ∧ e.up = false ∧ x = { e with up := true } := by
  induction h with
  | nil => cases hx
  | keep e _ ih =>
    rcases List.mem_cons.1 hx with rfl | hx
    · exact .inl (List.mem_cons_self ..)
    · rcases ih hx with h | ⟨y, hy, h⟩
      · exact .inl (List.mem_cons_of_mem _ h)
      · exact .inr ⟨y, List.mem_cons_of_mem _ hy, h⟩
  | up e ht hu _ ih =>
    rcases List.mem_cons.1 hx with rfl | hx
    · exact .inr ⟨e, List.mem_cons_self .., ht, hu, rfl⟩
    · rcases ih hx with h | ⟨y, hy, h⟩
      · exact .inl (List.mem_cons_of_mem _ h)
      · exact .inr ⟨y, List.mem_cons_of_mem _ hy, h⟩
theorem Raised.of_mem {t : ID} {a a' : List Entry} (h : Raised t a a') {x : Entry} (hx : x ∈ a) : x ∈ a' ∨ (x.tree = t ∧ x.up = false ∧ { x with up := true } ∈ a') := by
  induction h with
  | nil => cases hx
  | keep e _ ih =>
    rcases List.mem_cons.1 hx with rfl | hx
    · exact .inl (List.mem_cons_self ..)
    · rcases ih hx with h | ⟨h1, h2, h3⟩
      · exact .inl (List.mem_cons_of_mem _ h)
      · exact .inr ⟨h1, h2, List.mem_cons_of_mem _ h3⟩
  | up e ht hu _ ih =>
    rcases List.mem_cons.1 hx with rfl | hx
    · exact .inr ⟨ht, hu, List.mem_cons_self ..⟩
    · rcases ih hx with h | ⟨h1, h2, h3⟩
      · exact .inl (List.mem_cons_of_mem _ h)
      · exact .inr ⟨h1, h2, List.mem_cons_of_mem _ h3⟩
theorem Raised.rising {t : ID} {a a' : List Entry} (h : Raised t a a') (hr : RisingE a) : RisingE a' := by
  induction h with
  | nil => exact hr
  | keep e h ih =>
    unfold RisingE at *
    rw [List.pairwise_cons] at *
    refine ⟨fun x hx => ?_, ih hr.2⟩
    rcases h.mem hx with hx | ⟨y, hy, _, _, rfl⟩
    · exact hr.1 x hx
    · exact hr.1 y hy
  | up e ht hu h ih =>
    unfold RisingE at *
    rw [List.pairwise_cons] at *
    refine ⟨fun x hx => ?_, ih hr.2⟩
    have : ∀ t s, sgnE t s { e with up := true } = sgnE t s e := fun t s => rfl
    rw [this]
    rcases h.mem hx with hx | ⟨y, hy, _, _, rfl⟩
    · exact hr.1 x hx
    · exact hr.1 y hy
theorem Raised.covered {t : ID} {a a' : List Entry} (h : Raised t a a') {t' : ID} {p : Pred} (hc : coveredB a t' p = true) : coveredB a' t' p = true := by
  rw [coveredB_iff] at *
  obtain ⟨e, he, h1, h2, h3⟩ := hc
  rcases h.of_mem he with hx | ⟨_, hx, _⟩
  · exact ⟨e, hx, h1, h2, h3⟩
  · rw [h2] at hx; cases hx
theorem takeL_raised (t : ID) : ∀ (rest done ups : List Entry), ∃ r', (takeL t done rest ups).1 = done ++ r' ∧ Raised t rest r' ∧ (∀ x ∈ r', x.tree = t → x.up = true ∨ coveredB (done ++ r') t x.pred = true) ∧
    ∃ u', (takeL t done rest ups).2 = ups ++ u' ∧ ∀ x ∈ u', x ∈ r' ∧ x.tree = t ∧ x.up = true ∧ { x with up := false } ∈ rest ∧ coveredB (done ++ rest) t x.pred = false := by
  intro rest
  induction rest with
  | nil => intro done ups; exact ⟨[], by simp [takeL], .nil, (fun x hx => by cases hx), [], by simp [takeL], (fun x hx => by cases hx)⟩
  | cons e rest ih =>
    intro done ups
    unfold takeL
    by_cases hc : e.tree = t ∧ e.up = false ∧ coveredB (done ++ e :: rest) t e.pred = false
    · rw [if_pos hc]
      obtain ⟨r', h1, h2, h3, u', h4, h5⟩ := ih (done ++ [{ e with up := true }]) (ups ++ [{ e with up := true }])
      refine ⟨{ e with up := true } :: r', by rw [h1]; simp, .up e hc.1 hc.2.1 h2, ?_, { e with up := true } :: u', by rw [h4]; simp, ?_⟩
      · intro x hx ht
        rcases List.mem_cons.1 hx with rfl | hx
        · exact .inl rfl
        · have := h3 x hx ht
          simpa using this
      · intro x hx
        rcases List.mem_cons.1 hx with rfl | hx
        · have he : ({ { e with up := true } with up := false } : Entry) = e := by obtain ⟨a1, a2, a3, a4, a5⟩ := e; simp only at hc; rw [hc.2.1]
          exact ⟨List.mem_cons_self .., hc.1, rfl, by rw [he]; exact List.mem_cons_self .., hc.2.2⟩
        · obtain ⟨k1, k2, k3, k4, k5⟩ := h5 x hx
          refine ⟨List.mem_cons_of_mem _ k1, k2, k3, List.mem_cons_of_mem _ k4, ?_⟩
          have hR : Raised t (done ++ e :: rest) (done ++ [{ e with up := true }] ++ rest) := by
            rw [List.append_assoc]
            exact (Raised.refl t done).append (.up e hc.1 hc.2.1 (.refl t rest))
          cases hq : coveredB (done ++ e :: rest) t x.pred with
          | false => rfl
          | true => rw [hR.covered hq] at k5; cases k5
    · rw [if_neg hc]
      obtain ⟨r', h1, h2, h3, u', h4, h5⟩ := ih (done ++ [e]) ups
      refine ⟨e :: r', by rw [h1]; simp, .keep e h2, ?_, u', h4, ?_⟩
      · intro x hx ht
        rcases List.mem_cons.1 hx with rfl | hx
        · cases hu : x.up with
          | true => exact .inl rfl
          | false =>
            cases hq : coveredB (done ++ x :: rest) t x.pred with
            | true => exact .inr (((Raised.refl t done).append (.keep x h2)).covered hq)
            | false => exact absurd ⟨ht, hu, hq⟩ hc
        · have := h3 x hx ht
          simpa using this
      · intro x hx
        obtain ⟨k1, k2, k3, k4, k5⟩ := h5 x hx
        exact ⟨List.mem_cons_of_mem _ k1, k2, k3, List.mem_cons_of_mem _ k4, by simpa using k5⟩
theorem take_cases {b : Broker} (h : InvK b) (t s : ID) (q : Int) :
    ((takeB b t s q) = (b, [], false) ∧ ∀ e ∈ b.entries, isE t s e = true → e.frm ≠ q) ∨
    (∃ e ∈ b.entries, isE t s e = true ∧ e.frm = q ∧ e.up = false ∧ takeB b t s q = ({ b with entries := b.entries.filter fun x => !isE t s x }, [], false)) ∨
    (∃ e ∈ b.entries, isE t s e = true ∧ e.frm = q ∧ e.up = true ∧ ∃ r' u', takeB b t s q = ({ b with entries := r' }, u', true) ∧ Raised t (b.entries.filter fun x => !isE t s x) r' ∧
      (∀ x ∈ r', x.tree = t → x.up = true ∨ coveredB r' t x.pred = true) ∧ ∀ x ∈ u', x ∈ r' ∧ x.tree = t ∧ x.up = true ∧ { x with up := false } ∈ b.entries.filter (fun x => !isE t s x) ∧ coveredB (b.entries.filter fun x => !isE t s x) t x.pred = false) := by
  unfold takeB
  cases hf : b.entries.find? (isE t s) with
  | none =>
    left
    refine ⟨rfl, fun e he hi => ?_⟩
    have := List.find?_eq_none.1 hf e he
    exact absurd hi this
  | some e =>
    have he := List.mem_of_find?_eq_some hf
    have hi := List.find?_some hf
    by_cases hq : e.frm = q
    · simp only [if_pos hq]
      cases hu : e.up with
      | false =>
        right; left
        exact ⟨e, he, hi, hq, hu, by simp⟩
      | true =>
        right; right
        obtain ⟨r', h1, h2, h3, u', h4, h5⟩ := takeL_raised t (b.entries.filter fun x => !isE t s x) [] []
        refine ⟨e, he, hi, hq, hu, r', u', by simp [h1, h4], h2, by simpa using h3, by simpa using h5⟩
    · left
      refine ⟨by simp only [if_neg hq], fun x hx hix => ?_⟩
      have hkey : x = e := by
        by_cases hxe : x = e
        · exact hxe
        · exfalso
          have k1 : x.tree = t ∧ x.sub = s := by simpa [isE] using hix
          have k2 : e.tree = t ∧ e.sub = s := by simpa [isE] using hi
          obtain ⟨i, hi1, rfl⟩ := List.mem_iff_getElem.1 hx
          obtain ⟨j, hj1, rfl⟩ := List.mem_iff_getElem.1 he
          rcases Nat.lt_trichotomy i j with hlt | he | hlt
          · have := List.pairwise_iff_getElem.1 h.re i j hi1 hj1 hlt
            rw [k2.1, k2.2, sgnE_eq.2 k1] at this; omega
          · subst he; exact hxe rfl
          · have := List.pairwise_iff_getElem.1 h.re j i hj1 hi1 hlt
            rw [k1.1, k1.2, sgnE_eq.2 k2] at this; omega
      rw [hkey]; exact hq
theorem InvK.entries {b b' : Broker} (h : InvK b) (hb : b' = { b with entries := b'.entries }) (hre : RisingE b'.entries) (he : ∀ e ∈ b'.entries, ∃ d ∈ b.entries, e.tree = d.tree ∧ e.pred = d.pred ∧ e.frm = d.frm ∧ (e.up = true → parentOf b e.tree ≠ -1))
    (ht : ∀ e ∈ b'.entries, e.up = true ∨ parentOf b e.tree = -1 ∨ coveredB b'.entries e.tree e.pred = true) : InvK b' := by
  have hA : b'.adverts = b.adverts := by rw [hb]
  have hN : b'.near = b.near := by rw [hb]
  have hS : b'.seen = b.seen := by rw [hb]
  have hO : b'.owns = b.owns := by rw [hb]
  have ho : ∀ x, advOf b' x = advOf b x := fun x => by unfold advOf; rw [hA]
  refine ⟨by rw [hN]; exact h.near, by rw [hN]; exact h.loc, by rw [hA]; exact h.ra, by rw [hS]; exact h.rs, by rw [hO]; exact h.ro, hre, by rw [hA, hS]; exact h.sub, ?_, by rw [hA]; exact h.pa, by rw [hO]; exact h.po, ?_, ?_, ?_⟩
  · intro a ha; rw [linkB_near hN]; rw [hA] at ha; exact h.par a ha
  · intro e hm
    obtain ⟨d, hd, k1, k2, k3, k4⟩ := he e hm
    rw [rightEnt_same hN (ho _), rightEnt_iff]
    obtain ⟨a, a1, a2, a3, a4, a5⟩ := rightEnt_iff.1 (h.ent d hd)
    refine ⟨a, by rw [k1]; exact a1, by rw [k3]; exact a2, by rw [k3]; exact a3, fun hu => ?_, by rw [k2]; exact a5⟩
    have := k4 hu
    rw [parentOf_eq, k1, a1] at this
    exact this
  · intro e hm
    obtain ⟨d, hd, _, k2, _⟩ := he e hm
    rw [k2]; exact h.pe d hd
  · rw [tightB_iff]
    intro e hm
    have : parentOf b' e.tree = parentOf b e.tree := by rw [parentOf_eq, ho, ← parentOf_eq]
    rw [this]
    exact ht e hm
theorem InvK.up {b : Broker} (h : InvK b) {e : Entry} (he : e ∈ b.entries) (hu : e.up = true) : parentOf b e.tree ≠ -1 := by
  obtain ⟨a, a1, _, _, a4, _⟩ := rightEnt_iff.1 (h.ent e he)
  rw [parentOf_eq, a1]
  exact a4 hu
theorem InvK.take {b : Broker} (h : InvK b) (t s : ID) (q : Int) : InvK (takeB b t s q).1 := by
  have hsub : ∀ x ∈ b.entries.filter (fun x => !isE t s x), x ∈ b.entries := fun x hx => (List.mem_filter.1 hx).1
  have hrf : RisingE (b.entries.filter fun x => !isE t s x) := h.re.sublist (List.filter_sublist ..)
  rcases take_cases h t s q with ⟨hc, _⟩ | ⟨e, he, hi, _, hu, hc⟩ | ⟨e, he, hi, _, hu, r', u', hc, hR, htt, _⟩
  · rw [hc]; exact h
  · rw [hc]
    refine h.entries rfl hrf ?_ ?_
    · intro x hx
      exact ⟨x, hsub x hx, rfl, rfl, rfl, fun hux => h.up (hsub x hx) hux⟩
    · intro x hx
      rcases tightB_iff.1 h.tight x (hsub x hx) with h1 | h1 | h1
      · exact .inl h1
      · exact .inr (.inl h1)
      · refine .inr (.inr ?_)
        rw [coveredB_iff] at *
        obtain ⟨d, hd, k1, k2, k3⟩ := h1
        refine ⟨d, List.mem_filter.2 ⟨hd, ?_⟩, k1, k2, k3⟩
        cases hid : isE t s d with
        | false => rfl
        | true =>
          exfalso
          have q1 : d.tree = t ∧ d.sub = s := by simpa [isE] using hid
          have q2 : e.tree = t ∧ e.sub = s := by simpa [isE] using hi
          have : d = e := by
            by_cases hde : d = e
            · exact hde
            · exfalso
              obtain ⟨i, hi1, rfl⟩ := List.mem_iff_getElem.1 hd
              obtain ⟨j, hj1, rfl⟩ := List.mem_iff_getElem.1 he
              rcases Nat.lt_trichotomy i j with hlt | hee | hlt
              · have := List.pairwise_iff_getElem.1 h.re i j hi1 hj1 hlt
                rw [q2.1, q2.2, sgnE_eq.2 q1] at this; omega
              · subst hee; exact hde rfl
              · have := List.pairwise_iff_getElem.1 h.re j i hj1 hi1 hlt
                rw [q1.1, q1.2, sgnE_eq.2 q2] at this; omega
          rw [this, hu] at k2; cases k2
  · have hpt : parentOf b t ≠ -1 := by
      have := h.up he hu
      have q2 : e.tree = t ∧ e.sub = s := by simpa [isE] using hi
      rw [q2.1] at this; exact this
    rw [hc]
    refine h.entries rfl (hR.rising hrf) ?_ ?_
    · intro x hx
      rcases hR.mem hx with hx | ⟨y, hy, h1, h2, rfl⟩
      · exact ⟨x, hsub x hx, rfl, rfl, rfl, fun hux => h.up (hsub x hx) hux⟩
      · exact ⟨y, hsub y hy, rfl, rfl, rfl, fun _ => by rw [h1]; exact hpt⟩
    · intro x hx
      by_cases hxt : x.tree = t
      · rcases htt x hx hxt with k | k
        · exact .inl k
        · exact .inr (.inr (by rw [hxt]; exact k))
      · have hx' : x ∈ b.entries.filter fun x => !isE t s x := by
          rcases hR.mem hx with hx | ⟨y, hy, h1, h2, rfl⟩
          · exact hx
          · exact absurd h1 hxt
        rcases tightB_iff.1 h.tight x (hsub x hx') with h1 | h1 | h1
        · exact .inl h1
        · exact .inr (.inl h1)
        · refine .inr (.inr (hR.covered ?_))
          rw [coveredB_iff] at *
          obtain ⟨d, hd, k1, k2, k3⟩ := h1
          refine ⟨d, List.mem_filter.2 ⟨hd, ?_⟩, k1, k2, k3⟩
          have : ¬ (d.tree = t ∧ d.sub = s) := fun hh => hxt (by rw [← k1]; exact hh.1)
          simp [isE, this]
theorem take_len {b : Broker} (h : InvK b) (t s : ID) (q : Int) : (takeB b t s q).1.entries.length ≤ b.entries.length := by
  rcases take_cases h t s q with ⟨hc, _⟩ | ⟨e, _, _, _, _, hc⟩ | ⟨e, _, _, _, _, r', u', hc, hR, _⟩
  · rw [hc]; exact Nat.le_refl _
  · rw [hc]; exact List.length_filter_le ..
  · rw [hc]
    show r'.length ≤ _
    rw [hR.len]; exact List.length_filter_le ..
theorem take_rest (b : Broker) (t s : ID) (q : Int) : (takeB b t s q).1 = { b with entries := (takeB b t s q).1.entries } := by
  unfold takeB
  split
  · rfl
  · split
    · split <;> rfl
    · rfl
theorem add_rest (b : Broker) (e : Entry) : (addB b e).1 = { b with entries := (addB b e).1.entries } := by
  unfold addB
  split <;> rfl
theorem add_len (b : Broker) (e : Entry) : (addB b e).1.entries.length ≤ b.entries.length + 1 := by
  unfold addB
  split
  · simp only [insE_len]; exact Nat.le_refl _
  · exact Nat.le_succ _
theorem SzK.take {b : Broker} {n : Nat} (h : SzK b n) (hi : InvK b) (t s : ID) (q : Int) : SzK (takeB b t s q).1 n := by
  have h1 := take_len hi t s q
  rw [take_rest] at h1 ⊢
  obtain ⟨a1, a2, a3, a4, a5⟩ := h
  exact ⟨a1, a2, a3, a4, Nat.le_trans h1 a5⟩
theorem SzK.add {b : Broker} {n : Nat} (h : SzK b n) (e : Entry) : SzK (addB b e).1 (n + 1) := by
  have h1 := add_len b e
  rw [add_rest] at h1 ⊢
  obtain ⟨a1, a2, a3, a4, a5⟩ := h
  have : (n + 1) * (n + 1) = n * n + n + n + 1 := by rw [Nat.add_mul, Nat.mul_add]; omega
  exact ⟨a1, Nat.le_succ_of_le a2, Nat.le_succ_of_le a3, Nat.le_succ_of_le a4, by simp only at h1 ⊢; omega⟩
end Go.Dm.Tc

/-
Brokers as one datum: what the machine's steps do to it; what functions answer of a broker that calls made.
-/
namespace Go.Dm.Tc
theorem agg_bC (t : Tags) (b : Broker) : DV.agg (bCells t b) = eBroker t b := _root_.id rfl
theorem ecells_eB (sz : Nat) (t : Tags) (b : Broker) : ecells sz (eBroker t b) = bCells t b := _root_.id rfl
theorem bC_len (t : Tags) (b : Broker) : (bCells t b).length = 6 := _root_.id rfl
theorem bC_take (t : Tags) (b : Broker) : (bCells t b).take 6 = bCells t b := _root_.id rfl
theorem bC_0 (t : Tags) (b : Broker) : (bCells t b)[0]? = some (.int .i64 b.me) := _root_.id rfl
theorem bC_1 (t : Tags) (b : Broker) : (bCells t b)[1]? = some (eL t.near 1 cInt b.near) := _root_.id rfl
theorem bC_2 (t : Tags) (b : Broker) : (bCells t b)[2]? = some (eL t.adverts 4 eAdvert b.adverts) := _root_.id rfl
theorem bC_3 (t : Tags) (b : Broker) : (bCells t b)[3]? = some (eL t.seen 2 eID b.seen) := _root_.id rfl
theorem bC_4 (t : Tags) (b : Broker) : (bCells t b)[4]? = some (eL t.entries 7 eEntry b.entries) := _root_.id rfl
theorem bC_5 (t : Tags) (b : Broker) : (bCells t b)[5]? = some (eL t.owns 3 eOwn b.owns) := _root_.id rfl
theorem bCg_0 (t : Tags) (b : Broker) (h : 0 < (bCells t b).length) : (bCells t b)[0] = .int .i64 b.me := _root_.id rfl
theorem bCg_1 (t : Tags) (b : Broker) (h : 1 < (bCells t b).length) : (bCells t b)[1] = eL t.near 1 cInt b.near := _root_.id rfl
theorem bCg_2 (t : Tags) (b : Broker) (h : 2 < (bCells t b).length) : (bCells t b)[2] = eL t.adverts 4 eAdvert b.adverts := _root_.id rfl
theorem bCg_3 (t : Tags) (b : Broker) (h : 3 < (bCells t b).length) : (bCells t b)[3] = eL t.seen 2 eID b.seen := _root_.id rfl
theorem bCg_4 (t : Tags) (b : Broker) (h : 4 < (bCells t b).length) : (bCells t b)[4] = eL t.entries 7 eEntry b.entries := _root_.id rfl
theorem bCg_5 (t : Tags) (b : Broker) (h : 5 < (bCells t b).length) : (bCells t b)[5] = eL t.owns 3 eOwn b.owns := _root_.id rfl
theorem storable_eB (t : Tags) (b : Broker) : storable 6 (eBroker t b) = true := _root_.id rfl
theorem res_eB (tg : Bool) (h : Heap) (n : Nat) (t : Tags) (b : Broker) : resolve tg h (n + 2) (eBroker t b) = some (eBroker t b) := by
  simp [eBroker]
theorem ul_eB (n : Nat) (b : Broker) : unlent (n + 24) (eBroker .none b) = true := by
  simp [eBroker, Tags.none]
theorem frA_eB (h : Heap) (t : Tags) (b : Broker) : freezeA h (eBroker t b) = some (eBroker t b, h) := by
  simp [eBroker, frA_agg, mapH_cons, mapH_nil, fr_int, fr_eL, consH_some, consL_some, aggH_some]
theorem fieldV_eB (off : Nat) (n : Option Nat) (t : Tags) (b : Broker) : fieldV off n (eBroker t b) = pickCells n (bCells t b) off := _root_.id rfl
attribute [simp] agg_bC ecells_eB bC_len bC_take bC_0 bC_1 bC_2 bC_3 bC_4 bC_5 bCg_0 bCg_1 bCg_2 bCg_3 bCg_4 bCg_5 storable_eB res_eB ul_eB frA_eB fieldV_eB frA_int frA_eL frA_pred frA_str frA_agg mapH_nil mapH_cons fr_int fr_bool fr_nsl fr_eL fr_pred fr_isl consH_some consL_some aggH_some
section
variable {b : Broker} (t : Tags)
def entOf (b : Broker) (t s : ID) : Option Entry := b.entries.find? (isE t s)
theorem kEF (h : InvK b) (z : Sized b) (p q c d : Int) : pcF D t20 [eBroker t b, .agg [.int .i64 p, .int .i64 q], .agg [.int .i64 c, .int .i64 d]] = some (.tup [eEntry ((entOf b ⟨p, q⟩ ⟨c, d⟩).getD entZero), .bool (hasO (entOf b ⟨p, q⟩ ⟨c, d⟩))]) :=
  s20 _ _ _ _ _ _ _ p q c d h.re (by have := z.ent; omega) ((flat_int _ _).mono (by decide)) ((flat_eL _ _ _ _).mono (by decide)) ((flat_eL _ _ _ _).mono (by decide)) ((flat_eL _ _ _ _).mono (by decide)) ((flat_eL _ _ _ _).mono (by decide))
theorem kOf (z : Sized b) (c d : Int) : pcF D t22 [eBroker t b, .agg [.int .i64 c, .int .i64 d]] = some (eL false 7 eEntry (ofT ⟨c, d⟩ b.entries)) :=
  s22 _ _ _ _ _ _ _ c d (by have := z.ent; omega)
theorem kCv (h : InvK b) (z : Sized b) (c d : Int) {p : Pred} (hp : PredOk p) : pcF D t18 [eBroker t b, .agg [.int .i64 c, .int .i64 d], ePred p] = some (.bool (coveredB b.entries ⟨c, d⟩ p)) :=
  s18 _ _ _ _ _ _ _ c d p (by have := z.ent; omega) hp.unlike (Nat.le_trans hp.len (by decide)) h.asked.len ((flat_int _ _).mono (by decide)) ((flat_eL _ _ _ _).mono (by decide)) ((flat_eL _ _ _ _).mono (by decide)) ((flat_eL _ _ _ _).mono (by decide)) ((flat_eL _ _ _ _).mono (by decide))
theorem kLearn (h : InvK b) (z : Sized b) (c d : Int) (p : Pred) (q : Int) : pcF D t9 [eBroker t b, .agg [.int .i64 c, .int .i64 d, ePred p, .int .i64 q]] = some (.tup [eBroker .none (learnB b ⟨⟨c, d⟩, p, q⟩).1, .bool (learnB b ⟨⟨c, d⟩, p, q⟩).2]) := s9 t b c d p q z h.ra h.rs
theorem kAdd (h : InvK b) (z : Sized b) (tc td sc sd : Int) {p : Pred} (hp : PredOk p) (q : Int) (u : Bool) : pcF D t17 [eBroker .none b, .agg [.int .i64 tc, .int .i64 td, .int .i64 sc, .int .i64 sd, ePred p, .int .i64 q, .bool u]] = some (.tup [eBroker .none (addB b ⟨⟨tc, td⟩, ⟨sc, sd⟩, p, q, u⟩).1, .bool (addB b ⟨⟨tc, td⟩, ⟨sc, sd⟩, p, q, u⟩).2]) :=
  s17 b ⟨⟨tc, td⟩, ⟨sc, sd⟩, p, q, u⟩ z h.asked hp h.ra h.re
end
end Go.Dm.Tc

/-
What the laws' arguments are: numbers of which predicates, steps, brokers are made.
-/
namespace Go.Dm.Tc
structure PK where
  has : List Int
  vals : List Int
def ePK (p : PK) : DV := .agg [eL false 1 cInt p.has, eL false 1 cInt p.vals]
def PK.pred (p : PK) : Pred := mkPred p.has p.vals
structure StepK where
  kind : Int
  frm : Int
  tree : Int
  client : Int
  seq : Int
  has : List Int
  vals : List Int
structure BrokK where
  near : Int
  steps : List StepK
end Go.Dm.Tc

/-
More plain laws of brokers: one entry for a tree and a number; what covers itself; what comes of an entry taken out, of one added.
-/
namespace Go.Dm.Tc
theorem ent_unique {l : List Entry} (h : RisingE l) {d e : Entry} (hd : d ∈ l) (he : e ∈ l) (ht : d.tree = e.tree) (hs : d.sub = e.sub) : d = e := by
  by_cases hde : d = e
  · exact hde
  · exfalso
    obtain ⟨i, hi, rfl⟩ := List.mem_iff_getElem.1 hd
    obtain ⟨j, hj, rfl⟩ := List.mem_iff_getElem.1 he
    rcases Nat.lt_trichotomy i j with hlt | hee | hlt
    · have := List.pairwise_iff_getElem.1 h i j hi hj hlt
      rw [sgnE_eq.2 ⟨ht, hs⟩] at this; omega
    · subst hee; exact hde rfl
    · have := List.pairwise_iff_getElem.1 h j i hj hi hlt
      rw [sgnE_eq.2 ⟨ht.symm, hs.symm⟩] at this; omega
theorem isE_iff {t s : ID} {e : Entry} : isE t s e = true ↔ e.tree = t ∧ e.sub = s := by simp [isE]
theorem isE_not {t s : ID} {e : Entry} : isE t s e = false ↔ ¬ (e.tree = t ∧ e.sub = s) := by simp [isE]
theorem entOf_some {b : Broker} (h : RisingE b.entries) {t s : ID} {e : Entry} : entOf b t s = some e ↔ e ∈ b.entries ∧ e.tree = t ∧ e.sub = s := by
  constructor
  · intro hf
    exact ⟨List.mem_of_find?_eq_some hf, isE_iff.1 (List.find?_some hf)⟩
  · rintro ⟨hm, ht, hs⟩
    cases hf : entOf b t s with
    | none => exact absurd (isE_iff.2 ⟨ht, hs⟩) (by have := List.find?_eq_none.1 hf e hm; simpa using this)
    | some d =>
      have hd := List.mem_of_find?_eq_some hf
      have hd2 := isE_iff.1 (List.find?_some hf)
      rw [ent_unique h hd hm (hd2.1.trans ht.symm) (hd2.2.trans hs.symm)]
theorem entOf_none {b : Broker} {t s : ID} : entOf b t s = none ↔ ∀ e ∈ b.entries, ¬ (e.tree = t ∧ e.sub = s) := by
  unfold entOf
  rw [List.find?_eq_none]
  exact ⟨fun h e he => isE_not.1 (by simpa using h e he), fun h e he => by rw [isE_not.2 (h e he)]; simp⟩
theorem begins_self (s : List UInt8) : beginsS s s = true := by simp [beginsS]
theorem wider_self {c : Cons} (h : rightOne c = true) : widerC c c = true := by
  have hk : c.kind = 1 ∨ c.kind = 2 ∨ c.kind = 3 := by
    unfold rightOne at h
    rw [Bool.and_eq_true] at h
    have := h.2
    split at this
    · rename_i h; exact .inl h
    · split at this
      · rename_i h; exact .inr (.inr h)
      · split at this
        · rename_i h; exact .inr (.inl h)
        · cases this
  unfold widerC holdsT
  rcases hk with h | h | h <;> simp [h, begins_self]
theorem find_self {p : Pred} (h : Unlike p) {c : Cons} (hc : c ∈ p) : p.find? (fun x => decide (x.name = c.name)) = some c := by
  induction p with
  | nil => cases hc
  | cons d p ih =>
    have h' := List.pairwise_cons.1 h
    rw [List.find?_cons]
    rcases List.mem_cons.1 hc with rfl | hc
    · simp
    · have : d.name ≠ c.name := h'.1 c hc
      simp only [this, decide_false]
      exact ih h'.2 hc
theorem covers_self {p : Pred} (h : PredOk p) : coversP p p = true := by
  unfold coversP
  rw [List.all_eq_true]
  intro c hc
  rw [find_self h.unlike hc]
  exact wider_self (h.each c hc)
theorem add_yes {b : Broker} {e : Entry} {a : Advert} (ha : advOf b e.tree = some a) (hn : entOf b e.tree e.sub = none) (hf : e.frm = a.parent → a.parent = -1) : addB b e = ({ b with entries := insE { e with up := upOf b e } b.entries }, upOf b e) := by
  unfold addB
  rw [if_pos (mayAdd_iff.2 ⟨a, ha, fun x hx => isE_not.2 (entOf_none.1 hn x hx), hf⟩)]
end Go.Dm.Tc

/-
SubsOrder: entries added in any order; the law's walk: the rows.
-/
namespace Go.Dm.Tc
def tTwo : ID := ⟨1, 0⟩
structure GoodE (e : Entry) : Prop where
  tree : e.tree = tTwo
  frm : e.frm = 1
  up : e.up = false
  ok : PredOk e.pred
structure RowE (es : List Entry) : Prop where
  good : ∀ e ∈ es, GoodE e
  sub : ∀ j (hj : j < es.length), es[j].sub = ⟨2, j⟩
theorem RowE.nodup {es : List Entry} (h : RowE es) : (es.map (·.sub)).Nodup := by
  unfold List.Nodup
  rw [List.pairwise_iff_getElem]
  intro i j hi hj hlt
  simp only [List.getElem_map]
  rw [h.sub i (by simpa using hi), h.sub j (by simpa using hj)]
  intro e
  injection e with _ e2
  omega
theorem RowE.snoc {es : List Entry} (h : RowE es) {p : Pred} (hp : PredOk p) : RowE (es ++ [⟨tTwo, ⟨2, es.length⟩, p, 1, false⟩]) := by
  refine ⟨fun e he => ?_, fun j hj => ?_⟩
  · rcases List.mem_append.1 he with he | he
    · exact h.good e he
    · simp only [List.mem_singleton] at he
      subst he
      exact ⟨rfl, rfl, rfl, hp⟩
  · by_cases hlt : j < es.length
    · rw [List.getElem_append_left hlt]; exact h.sub j hlt
    · have : j = es.length := by simp at hj; omega
      subst this
      simp
set_option maxRecDepth 8000 in
set_option maxHeartbeats 4000000 in
theorem a5 (S : List Fr) (l : List PK) (hl : ∀ q ∈ l, q.has.length ≤ 9223372036854775807) (h0 : Heap) (g0 : h0.get 0 = some (.arr 35 2 [.agg [.int .i64 1, .int .i64 0]] (some 1))) (hlim : h0.lim = 0) (h4 : 4 ≤ h0.n) (P : Res → Prop) :
    ∀ (rest : List PK) (i : Nat) (es : List Entry) (f : FEnv) (h : Heap), l.drop i = rest → i ≤ 7 → es.length = i → RowE es → Ext h0.n h0 h → OwnR h0.n h (f 9) 53 7 (es.map eEntry) → f 0 = eL false 2 ePK l → f 5 = .ptr 0 2 0 0 → f 10 = .int .i64 i →
    (∀ es' F H, es'.length ≤ 7 → RowE es' → Ext h0.n h0 H → OwnR h0.n H (F 9) 53 7 (es'.map eEntry) → (∀ r, r < 9 → F r = f r) → P (run D 220 S t5k4 F H)) →
    P (run D 220 (.block 0 :: .seq t5k4 :: S) (.loop t5l0) f h) := by
  have l0 := get_some_lt g0
  intro rest
  induction rest with
  | nil =>
    intro i es f h hd hi hes hr x ho h0' h5 h10 hfin
    have hi' := drop_nil hd
    have : ¬ (i < l.length) := by omega
    rw [run_loop_of t5l0.eq_1]
    simp [h0', h10, this]
    refine hfin es _ h (by omega) hr x (by simpa using ho) fun r hr => ?_
    have k : ∀ q, 9 ≤ q → ¬ r = q := fun q hq => by omega
    simp [k]
  | cons q rest ih =>
    intro i es f h hd hi hes hr x ho h0' h5 h10 hfin
    obtain ⟨hlt, he, hd'⟩ := drop_at hd
    by_cases hi7 : i < 7
    · have hhas := hl q (by rw [← he]; exact List.getElem_mem hlt)
      have hpr := s10 false false q.has q.vals hhas
      have hpo := mkPred_ok q.has q.vals
      obtain ⟨p, hp⟩ : ∃ p, mkPred q.has q.vals = p := ⟨_, rfl⟩
      rw [hp] at hpr hpo
      have hi7' : (i : Int) < 7 := by omega
      have hw : IntKind.i64.wrap ((i : Int) + 1) = (i : Int) + 1 := wrap64 (by omega) (by omega)
      have G0 := (x.get 0 l0).trans g0
      have xl : h.lim = 0 := by rw [x.lim]; exact hlim
      have xn := x.le
      rw [run_loop_of t5l0.eq_1]
      simp [h0', h5, h10, hlt, he, hi7', ePK, xl, G0, e10, hpr, x.wf]
      generalize hA : appendD _ _ _ _ _ _ = A
      obtain ⟨v', K, rfl, o', x', fr, na⟩ := append_frame ho.push (by simp [x.wf]) (by simp; omega) (by simp [xl]) hA (by simp; omega) (by decide)
      clear hA
      have xK : Ext h0.n h0 K := x.push.trans x'
      have yl : K.lim = 0 := by rw [xK.lim]; exact hlim
      simp [t5s0, h10, hw, yl]
      generalize hF : upd _ 10 _ = F
      refine ih (i + 1) (es ++ [⟨tTwo, ⟨2, es.length⟩, p, 1, false⟩]) F K hd' (by omega) (by simp [hes]) (hr.snoc hpo) xK ?_ (by rw [← hF]; simp [h0']) (by rw [← hF]; simp [h5]) (by rw [← hF]; simp) fun es' F' H' a1 a2 a3 a4 a5 => hfin es' F' H' a1 a2 a3 a4 fun r hr => ?_
      · rw [← hF]
        have : (es ++ [(⟨tTwo, ⟨2, es.length⟩, p, 1, false⟩ : Entry)]).map eEntry = es.map eEntry ++ [DV.agg [.int .i64 1, .int .i64 0, .int .i64 2, .int .i64 i, ePred p, .int .i64 1, .bool false]] := by rw [List.map_append, hes]; rfl
        rw [this]
        exact o'
      · rw [a5 r hr, ← hF]
        have k : ∀ q, 9 ≤ q → ¬ r = q := fun q hq => by omega
        simp [k]
    · rw [run_loop_of t5l0.eq_1]
      have hi7' : ¬ (i : Int) < 7 := by omega
      simp [h0', h10, hlt, hi7']
      refine hfin es _ h (by omega) hr x (by simpa using ho) fun r hr => ?_
      have k : ∀ q, 9 ≤ q → ¬ r = q := fun q hq => by omega
      simp [k]
def ahead (k : Nat) (ts : List Entry) : List Entry := match ts[k]? with | some e => e :: (ts.take k ++ ts.drop (k + 1)) | none => ts
theorem ahead_perm {k : Nat} {ts : List Entry} (hk : k < ts.length) : (ahead k ts).Perm ts := by
  unfold ahead
  rw [List.getElem?_eq_getElem hk]
  have : ts = ts.take k ++ ts[k] :: ts.drop (k + 1) := by rw [← List.drop_eq_getElem_cons hk, List.take_append_drop]
  exact (List.perm_middle.symm).trans (.of_eq this.symm)
set_option maxRecDepth 8000 in
set_option maxHeartbeats 4000000 in
theorem b5 (S : List Fr) (ord : List Int) (hol : ord.length ≤ 9223372036854775807) (es : List Entry) (he7 : es.length ≤ 7) (h0 : Heap) (hlim : h0.lim = 0) (P : Res → Prop) :
    ∀ (rest : List Int) (j : Nat) (ts : List Entry) (f : FEnv) (h : Heap), ord.drop j = rest → j ≤ ord.length → ts.Perm es → Ext h0.n h0 h → OwnR h0.n h (f 11) 53 7 (ts.map eEntry) → f 1 = eL false 1 cInt ord → f 12 = .int .i64 j →
    (∀ (ts' : List Entry) F H, ts'.Perm es → Ext h0.n h0 H → OwnR h0.n H (F 11) 53 7 (ts'.map eEntry) → (∀ r, r < 11 → F r = f r) → P (run D 220 S t5k3 F H)) →
    P (run D 220 (.block 2 :: .seq t5k3 :: S) (.loop t5l1) f h) := by
  have kk : ∀ r, r < 11 → ∀ q, 11 ≤ q → ¬ r = q := fun r hr q hq => by omega
  intro rest
  induction rest with
  | nil =>
    intro j ts f h hd hj hp x ho h1 h12 hfin
    have hj' := drop_nil hd
    have : ¬ (j < ord.length) := by omega
    rw [run_loop_of t5l1.eq_1]
    simp [h1, h12, this]
    exact hfin ts _ h hp x (by simpa using ho) fun r hr => by simp [kk r hr]
  | cons o rest ih =>
    intro j ts f h hd hj hp x ho h1 h12 hfin
    obtain ⟨hlt, hoe, hd'⟩ := drop_at hd
    have htl : ts.length = es.length := hp.length_eq
    have hlen := ho.lenV
    rw [List.length_map] at hlen
    have hw : IntKind.i64.wrap ((j : Int) + 1) = (j : Int) + 1 := wrap64 (by omega) (by omega)
    have xl : h.lim = 0 := by rw [x.lim]; exact hlim
    have xn := x.le
    have xw := x.wf
    rw [run_loop_of t5l1.eq_1]
    by_cases h2 : 1 < ts.length
    · have h2' : (1 : Int) < ts.length := by omega
      have hw0 : IntKind.i64.wrap ((ts.length : Int) - 1) = (ts.length : Int) - 1 := wrap64 (by omega) (by omega)
      have hb := within_bounds o (show (0 : Int) ≤ (ts.length : Int) - 1 by omega)
      obtain ⟨k, hk⟩ : ∃ k : Nat, within o 0 ((ts.length : Int) - 1) = k := ⟨(within o 0 ((ts.length : Int) - 1)).toNat, by omega⟩
      have hW := s8 o 0 ((ts.length : Int) - 1) (by omega) (by omega) (by omega)
      rw [hk] at hW
      have hkl : k < ts.length := by omega
      obtain ⟨e, he⟩ : ∃ e, ts[k] = e := ⟨_, rfl⟩
      cases ho with
      | nil hv hx => exfalso; have : ts = [] := (by simpa using hx); subst this; simp at h2
      | arr id sp cap hv hg hl8 hlo =>
        have hid := get_some_lt hg
        simp only [List.length_map] at hv
        have q2 : ¬ id = h.n := by omega
        have q5 : ¬ h.n = id := by omega
        have q3 : ¬ id = h.n + 1 := by omega
        have q4 : ¬ h.n + 1 = id := by omega
        have hw1 : IntKind.i64.wrap ((k : Int) + 1) = (k : Int) + 1 := wrap64 (by omega) (by omega)
        have hia : indexAddrV 7 (.sl id 7 0 ts.length) (.int .i64 (k : Int)) = some (.ptr id 7 k 0) := by simp [indexAddrV, asI, hkl]
        have hel : (ts.map eEntry ++ sp)[k]? = some (eEntry e) := by
          rw [List.getElem?_append_left (by simpa using hkl), List.getElem?_map, List.getElem?_eq_getElem hkl, he]; rfl
        have hs1 : ∀ H' : Heap, H'.get id = some (.arr 53 7 (ts.map eEntry ++ sp) cap) → sliceV H' 7 (.sl id 7 0 ts.length) none (some (.int .i64 (k : Int))) = some (.sl id 7 0 k) := fun H' hg => by
          simp only [sliceV, hg]
          rw [if_pos ⟨trivial, trivial, by simp⟩]
          simp only [boundV, asI]
          rw [if_pos ⟨by omega, by simp; omega⟩]
          simp
        have hs2 : ∀ H' : Heap, H'.get id = some (.arr 53 7 (ts.map eEntry ++ sp) cap) → sliceV H' 7 (.sl id 7 0 ts.length) (some (.int .i64 ((k : Int) + 1))) none = some (.sl id 7 (k + 1) (ts.length - (k + 1))) := fun H' hg => by
          have : ((k : Int) + 1).toNat = k + 1 := by omega
          simp only [sliceV, hg]
          rw [if_pos ⟨trivial, trivial, by simp⟩]
          simp only [boundV, asI]
          rw [if_pos ⟨by omega, by omega⟩, this]
          simp
        have he1 : elemsO 7 7 0 k (some (.arr 53 7 (ts.map eEntry ++ sp) cap)) = some ((ts.take k).map eEntry) := by
          rw [elemsO_some, if_pos ⟨rfl, rfl, by simp; omega⟩, List.drop_zero, List.take_append_of_le_length (by simp; omega), List.map_take]
        have he2 : elemsO 7 7 (k + 1) (ts.length - (k + 1)) (some (.arr 53 7 (ts.map eEntry ++ sp) cap)) = some ((ts.drop (k + 1)).map eEntry) := by
          rw [elemsO_some, if_pos ⟨rfl, rfl, by simp; omega⟩, List.drop_append_of_le_length (by simp; omega), List.take_left' (by simp), List.map_drop]
        have he3 : ∀ xs, elemsO 7 7 0 1 (some (.arr 53 7 [xs] (some 1))) = some [xs] := fun xs => by simp
        simp only [eEntry] at hel
        simp [h1, h12, hlt, hoe, cInt, hv, h2, h2', hw0, e8, hW, hia, hel, hg, xl, xw, q2, q3, q4, q5, hs1, hs2, he1, he2, he3, -elemsO_some]
        generalize hA : appendD _ _ _ _ _ _ = A
        obtain ⟨i1, K1, rfl, o1, x1, _, _⟩ := ((OwnI.fresh (lo := h.n) (h := h) (ety := 53) (sz := 7) (xs := []) (cap := some 0) (by simp [xl]) (Nat.le_refl _)).push (o := _)).append (id := h.n) (n := 0) rfl (by simp [xw]) (by simp; omega) (by simp [xl]) hA (by simp) (by decide)
        clear hA
        have u1 := o1.lo
        have a8 := x1.get id hid
        have al := x1.lim
        have aw := x1.wf
        have an := x1.le
        simp [q2, q3, hg, xl] at a8 al
        have v1 : ¬ id = i1 := by omega
        simp [h12, hv, a8, al, aw, hg, q2, q3, q4, q5, hs1, hs2, he1, he2, hw1, v1, -elemsO_some]
        generalize hA : appendD _ _ _ _ _ _ = A
        obtain ⟨i2, K2, rfl, o2, x2, _, j2⟩ := o1.append (n := 1) rfl aw (by omega) (by omega) hA (by simp <;> omega) (by decide)
        clear hA
        have u2 := o2.lo
        have b8 := x2.get id hid
        have bl := x2.lim
        have bw := x2.wf
        have bn := x2.le
        rw [a8] at b8
        rw [al] at bl
        have v2 : ¬ id = i2 := by omega
        have v3 : ¬ i1 = id := by omega
        simp [h12, hv, b8, bl, bw, a8, hg, q2, q3, q4, q5, hs1, hs2, he1, he2, hw1, v1, v2, v3, -elemsO_some]
        generalize hA : appendD _ _ _ _ _ _ = A
        obtain ⟨i3, K3, rfl, o3, x3, _, _⟩ := o2.append (n := 1 + min k ts.length) (by simp <;> omega) bw (by omega) (by omega) hA (by simp <;> omega) (by decide)
        clear hA
        simp [t5s1, h12, hw]
        generalize hF : upd _ 12 _ = F
        have hah : ahead k ts = e :: (ts.take k ++ ts.drop (k + 1)) := by unfold ahead; rw [List.getElem?_eq_getElem hkl, he]
        have hrow := o3.toR
        have hlen3 : ([] ++ [DV.agg [.int .i64 e.tree.client, .int .i64 e.tree.seq, .int .i64 e.sub.client, .int .i64 e.sub.seq, ePred e.pred, .int .i64 e.frm, .bool e.up]] ++ List.take k (List.map eEntry ts) ++ List.drop (k + 1) (List.map eEntry ts)) = (ahead k ts).map eEntry := by rw [hah]; simp [eEntry]
        rw [hlen3] at hrow
        have hrow2 : OwnR h0.n K3 (.sl i3 7 0 ((ahead k ts).map eEntry).length) 53 7 ((ahead k ts).map eEntry) := by
          cases hrow with
          | nil hv hx => exact .nil hv hx
          | arr id' sp' cap' hv hg hl hi => exact .arr id' sp' cap' hv hg hl (by omega)
        have xK : Ext h0.n h0 K3 := x.trans ⟨by have := x3.le; omega, by rw [x3.lim, bl, xl], fun q hq => by
          rw [x3.get q (by omega), x2.get q (by omega), x1.get q (by omega)]
          have : ¬ q = h.n := by omega
          have : ¬ q = h.n + 1 := by omega
          simp [*], x3.wf⟩
        refine ih (j + 1) (ahead k ts) F K3 hd' (by omega) ((ahead_perm hkl).trans hp) xK ?_ (by rw [← hF]; simp [h1]) (by rw [← hF]; simp) fun ts' F' H' a1 a2 a3 a4 => hfin ts' F' H' a1 a2 a3 fun r hr => ?_
        · rw [← hF]
          have : (.sl i3 7 0 (min k ts.length + 1 + (ts.length - (k + 1))) : DV) = .sl i3 7 0 ((ahead k ts).map eEntry).length := by rw [hah]; simp; omega
          rw [← this] at hrow2
          exact hrow2
        · rw [a4 r hr, ← hF]; simp [kk r hr]
    · have h2' : ¬ (1 : Int) < ts.length := by omega
      simp [h1, h12, hlt, hlen, h2']
      exact hfin ts _ h hp x (by simpa using ho) fun r hr => by simp [kk r hr]
end Go.Dm.Tc

/-
SubsOrder: the law's walk: the brokers.
-/
namespace Go.Dm.Tc
structure OrdI (b : Broker) (L : List Entry) (n : Nat) : Prop where
  inv : InvK b
  sz : SzK b n
  adv : advOf b tTwo = some ⟨tTwo, [], 0⟩
  near : b.near = [0, 1]
  len : b.entries.length = L.length
  all : ∀ e ∈ L, ∃ x ∈ b.entries, x.tree = tTwo ∧ x.sub = e.sub ∧ x.pred = e.pred
  new : ∀ x ∈ b.entries, x.tree = tTwo ∧ ∃ e ∈ L, x.sub = e.sub
def bOrd : Broker := ⟨4, [0, 1], [⟨tTwo, [], 0⟩], [tTwo], [], []⟩
theorem learn_ord : learnB ⟨4, [0, 1], [], [], [], []⟩ ⟨tTwo, [], 0⟩ = (bOrd, true) := rfl
theorem inv_ord0 : InvK ⟨4, [0, 1], [], [], [], []⟩ := .start rfl (by decide)
theorem OrdI.start : OrdI bOrd [] 1 := by
  have h := inv_ord0.learn (a := ⟨tTwo, [], 0⟩) (by decide) .nil
  rw [learn_ord] at h
  exact ⟨h, ⟨by decide, by decide, by decide, by decide, by decide⟩, rfl, rfl, rfl, fun e he => (by cases he), fun e he => (by cases he)⟩
theorem OrdI.none {b : Broker} {L : List Entry} {n : Nat} (h : OrdI b L n) {e : Entry} (hn : ∀ d ∈ L, d.sub ≠ e.sub) : entOf b tTwo e.sub = none :=
  entOf_none.2 fun x hx hh => by
    obtain ⟨_, d, hd, h2⟩ := h.new x hx
    exact hn d hd (h2.symm.trans hh.2)
theorem OrdI.add {b : Broker} {L : List Entry} {n : Nat} (h : OrdI b L n) {e : Entry} (he : GoodE e) (hn : ∀ d ∈ L, d.sub ≠ e.sub) : OrdI (addB b e).1 (L ++ [e]) (n + 1) := by
  have hno := h.none hn
  have hlink : linkB b e.frm = true := by unfold linkB; rw [h.near, he.frm]; rfl
  have hy := add_yes (b := b) (e := e) (a := ⟨tTwo, [], 0⟩) (by rw [he.tree]; exact h.adv) (by rw [he.tree]; exact hno) (fun q => by rw [he.frm] at q; exact absurd q (by decide : ¬ (1 : Int) = 0))
  refine ⟨h.inv.add hlink he.ok, h.sz.add e, by rw [hy]; exact h.adv, by rw [hy]; exact h.near, ?_, ?_, ?_⟩
  · rw [hy]; simp only [insE_len, h.len, List.length_append, List.length_singleton]
  · intro d hd
    rw [hy]
    rcases List.mem_append.1 hd with hd | hd
    · obtain ⟨x, hx, h2⟩ := h.all d hd
      exact ⟨x, insE_mem.2 (.inr hx), h2⟩
    · simp only [List.mem_singleton] at hd
      subst hd
      exact ⟨_, insE_mem.2 (.inl rfl), he.tree, rfl, rfl⟩
  · intro x hx
    rw [hy] at hx
    rcases insE_mem.1 hx with rfl | hx
    · exact ⟨he.tree, e, by simp, rfl⟩
    · obtain ⟨q1, d, hd, q2⟩ := h.new x hx
      exact ⟨q1, d, List.mem_append_left _ hd, q2⟩
theorem OrdI.find {b : Broker} {L : List Entry} {n : Nat} (h : OrdI b L n) {e : Entry} (he : e ∈ L) (hp : PredOk e.pred) : ∃ x, entOf b tTwo e.sub = some x ∧ x.pred = e.pred ∧ coveredB b.entries tTwo e.pred = true := by
  obtain ⟨x, hx, h1, h2, h3⟩ := h.all e he
  refine ⟨x, (entOf_some h.inv.re).2 ⟨hx, h1, h2⟩, h3, ?_⟩
  have hpar : parentOf b tTwo = 0 := by rw [parentOf_eq, h.adv]; rfl
  rcases tightB_iff.1 h.inv.tight x hx with q | q | q
  · exact coveredB_iff.2 ⟨x, hx, h1, q, by rw [h3]; exact covers_self hp⟩
  · rw [h1, hpar] at q; cases q
  · rw [h1, h3] at q; exact q
structure OrdH (h0 h : Heap) (b c : Broker) : Prop where
  g0 : h.get 0 = some (.arr 35 2 [.agg [.int .i64 1, .int .i64 0]] (some 1))
  g2 : h.get 2 = some (.arr 30 6 [eBroker .none b] (some 1))
  g3 : h.get 3 = some (.arr 30 6 [eBroker .none c] (some 1))
  lim : h.lim = 0
  n : h0.n ≤ h.n
  wf : WF h
  rest : ∀ i, 4 ≤ i → i < h0.n → h.get i = h0.get i
theorem OrdH.row {h0 h : Heap} {b c : Broker} (w : OrdH h0 h b c) (hl : h0.lim = 0) {lo : Nat} (hlo : 4 ≤ lo) {v : DV} {ety sz : Nat} {xs : List DV} (o : OwnR lo h0 v ety sz xs) : OwnR lo h v ety sz xs := by
  cases o with
  | nil hv hx => exact .nil hv hx
  | arr id sp cap hv hg hlim hi => exact .arr id sp cap hv ((w.rest id (by omega) (get_some_lt hg)).trans hg) (by rw [w.lim]; exact Nat.zero_le _) hi
theorem ownR_at {lo : Nat} {h : Heap} {v : DV} {sz ety : Nat} {α : Type} {en : α → DV} {es : List α} (o : OwnR lo h v ety sz (es.map en)) {i : Nat} (hi : i < es.length) : ∃ id, v = .sl id sz 0 es.length ∧ lo ≤ id ∧ ∃ xs cap, h.get id = some (.arr ety sz xs cap) ∧ xs[i]? = some (en es[i]) := by
  cases o with
  | nil hv hx => exfalso; have : es = [] := by simpa using hx
                 subst this; simp at hi
  | arr id sp cap hv hg _ hlo =>
    refine ⟨id, by simpa using hv, hlo, _, cap, hg, ?_⟩
    rw [List.getElem?_append_left (by simpa using hi), List.getElem?_map, List.getElem?_eq_getElem hi]; rfl
set_option maxRecDepth 8000 in
set_option maxHeartbeats 4000000 in
theorem ch5 (S : List Fr) (es ts : List Entry) (he7 : es.length ≤ 7) (hes : RowE es) (hts : ts.Perm es) (h0 : Heap) (hlim : h0.lim = 0) (h4 : 4 ≤ h0.n) (v9 v11 : DV) (o9 : OwnR 4 h0 v9 53 7 (es.map eEntry)) (o11 : OwnR 4 h0 v11 53 7 (ts.map eEntry)) (P : Res → Prop) :
    ∀ (k i : Nat) (b c : Broker) (f : FEnv) (h : Heap), es.length - i = k → i ≤ es.length → OrdI b (es.take i) (i + 1) → OrdI c (ts.take i) (i + 1) → OrdH h0 h b c → f 6 = .ptr 2 6 0 0 → f 8 = .ptr 3 6 0 0 → f 9 = v9 → f 11 = v11 → f 99 = .int .i64 es.length → f 100 = .int .i64 i →
    (∀ b' c' F H, OrdI b' es (es.length + 1) → OrdI c' ts (es.length + 1) → OrdH h0 H b' c' → (∀ r, r < 14 → F r = f r) → P (run D 220 S t5k2 F H)) →
    P (run D 220 (.block 4 :: .seq t5k2 :: S) (.loop t5l2) f h) := by
  have htl : ts.length = es.length := hts.length_eq
  have kk : ∀ r, r < 14 → ∀ q, 14 ≤ q → ¬ r = q := fun r hr q hq => by omega
  intro k
  induction k with
  | zero =>
    intro i b c f h hk hi hb hc hh h6 h8 h9 h11 h99 h100 hfin
    have hie : i = es.length := by omega
    subst hie
    rw [List.take_length] at hb
    rw [← htl, List.take_length, htl] at hc
    rw [run_loop_of t5l2.eq_1]
    simp [h99, h100]
    exact hfin b c _ h hb hc hh fun r hr => by simp [kk r hr]
  | succ k ih =>
    intro i b c f h hk hi hb hc hh h6 h8 h9 h11 h99 h100 hfin
    have hlt : i < es.length := by omega
    have hlt2 : i < ts.length := by omega
    obtain ⟨id, e1, e2, xs, cp, e3, e4⟩ := ownR_at (hh.row hlim (Nat.le_refl _) o9) hlt
    obtain ⟨id', d1, d2, xs', cp', d3, d4⟩ := ownR_at (hh.row hlim (Nat.le_refl _) o11) hlt2
    obtain ⟨e, he⟩ : ∃ e, es[i] = e := ⟨_, rfl⟩
    obtain ⟨d, hd⟩ : ∃ d, ts[i] = d := ⟨_, rfl⟩
    rw [he] at e4
    rw [hd] at d4
    have hem : e ∈ es := by rw [← he]; exact List.getElem_mem hlt
    have hdm : d ∈ ts := by rw [← hd]; exact List.getElem_mem hlt2
    have ge := hes.good e hem
    have gd := hes.good d (hts.mem_iff.1 hdm)
    have hw : IntKind.i64.wrap ((i : Int) + 1) = (i : Int) + 1 := wrap64 (by omega) (by omega)
    have zb := hb.sz.sized (show i + 1 ≤ 300 by omega)
    have zc := hc.sz.sized (show i + 1 ≤ 300 by omega)
    have hA := kAdd hb.inv zb e.tree.client e.tree.seq e.sub.client e.sub.seq ge.ok e.frm e.up
    have hB := kAdd hc.inv zc d.tree.client d.tree.seq d.sub.client d.sub.seq gd.ok d.frm d.up
    have nde := hes.nodup
    have ndt : (ts.map (·.sub)).Nodup := (hts.map (·.sub)).nodup_iff.2 nde
    have hfresh : ∀ {l : List Entry} {x : Entry} (hx : i < l.length), l[i] = x → (l.map (·.sub)).Nodup → ∀ y ∈ l.take i, y.sub ≠ x.sub := by
      intro l x hx hxe hnd y hy
      obtain ⟨q, hq, rfl⟩ := List.mem_iff_getElem.1 hy
      rw [List.length_take] at hq
      rw [List.getElem_take]
      unfold List.Nodup at hnd
      have := List.pairwise_iff_getElem.1 hnd q i (by simp; omega) (by simpa using hx) (by omega)
      simp only [List.getElem_map] at this
      rw [hxe] at this
      exact this
    have nb := hb.add ge (hfresh hlt he nde)
    have nc := hc.add gd (hfresh hlt2 hd ndt)
    rw [← he, List.take_append_getElem hlt, he] at nb
    rw [← hd, List.take_append_getElem hlt2, hd] at nc
    obtain ⟨b', hb'⟩ : ∃ b', (addB b e).1 = b' := ⟨_, rfl⟩
    obtain ⟨c', hc'⟩ : ∃ c', (addB c d).1 = c' := ⟨_, rfl⟩
    obtain ⟨u, hu⟩ : ∃ u, (addB b e).2 = u := ⟨_, rfl⟩
    obtain ⟨w, hw'⟩ : ∃ w, (addB c d).2 = w := ⟨_, rfl⟩
    have hA' : pcF D t17 [eBroker .none b, eEntry e] = some (.tup [eBroker .none b', .bool u]) := by rw [← hb', ← hu]; exact hA
    have hB' : pcF D t17 [eBroker .none c, eEntry d] = some (.tup [eBroker .none c', .bool w]) := by rw [← hc', ← hw']; exact hB
    rw [hb'] at nb
    rw [hc'] at nc
    clear hA hB
    obtain ⟨g0, g2, g3, xl, xn, xw, xr⟩ := hh
    have l2 := get_some_lt g2
    have l3 := get_some_lt g3
    have q1 : ¬ id = 2 := by omega
    have q2 : ¬ id = 3 := by omega
    have q3 : ¬ id' = 2 := by omega
    have q4 : ¬ id' = 3 := by omega
    have hia : indexAddrV 7 (.sl id 7 0 es.length) (.int .i64 (i : Int)) = some (.ptr id 7 i 0) := by simp [indexAddrV, asI, hlt]
    have hib : indexAddrV 7 (.sl id' 7 0 ts.length) (.int .i64 (i : Int)) = some (.ptr id' 7 i 0) := by simp [indexAddrV, asI, hlt2]
    simp only [eEntry] at e4 d4 hA' hB'
    rw [run_loop_of t5l2.eq_1]
    simp [h6, h8, h9, h11, h99, h100, hlt, e1, d1, hia, hib, e3, e4, d3, d4, g2, g3, xl, xw, l2, l3, q1, q2, q3, q4, e17, hA', hB', turn, t5s2, hw]
    generalize hF : upd _ 100 _ = F
    refine ih (i + 1) b' c' F _ (by omega) (by omega) nb nc ⟨?_, ?_, ?_, ?_, ?_, ?_, ?_⟩ (by rw [← hF]; simp [h6]) (by rw [← hF]; simp [h8]) (by rw [← hF]; simp [h9]) (by rw [← hF]; simp [h11]) (by rw [← hF]; simp [h99]) (by rw [← hF]; simp) fun b2 c2 F' H' a1 a2 a3 a4 => hfin b2 c2 F' H' a1 a2 a3 fun r hr => ?_
    case refine_8 => rw [a4 r hr, ← hF]; simp [kk r hr]
    case refine_7 =>
      intro q hq1 hq2
      have k2 : ¬ q = 2 := by omega
      have k3 : ¬ q = 3 := by omega
      simp [xw, l2, l3, k2, k3, xr q hq1 hq2]
    all_goals simp [xw, l2, l3, g0, g2, g3, xl, xn]
end Go.Dm.Tc

/-
SubsOrder: the law's walk, to its end.
-/
namespace Go.Dm.Tc
theorem s24 : pcF D t24 [] = some (.bool true) := pc_run (n := 2000) (args := []) e24 rfl (by kernel_rfl)
theorem s7_401 : pcF D t7 [.int .i64 4, .isl true 1 [.int .i64 0, .int .i64 1]] = some (eBroker .none ⟨4, [0, 1], [], [], [], []⟩) := pc_run (n := 2000) (args := [.int .i64 4, .isl true 1 [.int .i64 0, .int .i64 1]]) e7 rfl (by kernel_rfl)
theorem OrdH.push {h0 h : Heap} {b c : Broker} (w : OrdH h0 h b c) (h4 : 4 ≤ h0.n) {o : DO} : OrdH h0 (h.push o) b c := by
  obtain ⟨g0, g2, g3, xl, xn, xw, xr⟩ := w
  have n0 : ¬ 0 = h.n := by omega
  have n2 : ¬ 2 = h.n := by omega
  have n3 : ¬ 3 = h.n := by omega
  refine ⟨?_, ?_, ?_, xl, Nat.le_succ_of_le xn, xw.push, fun i h1 h2 => ?_⟩
  · rw [get_push, if_neg n0]; exact g0
  · rw [get_push, if_neg n2]; exact g2
  · rw [get_push, if_neg n3]; exact g3
  · rw [get_push, if_neg (by omega)]; exact xr i h1 h2
set_option maxRecDepth 8000 in
set_option maxHeartbeats 4000000 in
theorem d5 (S : List Fr) (es ts : List Entry) (he7 : es.length ≤ 7) (hes : RowE es) (hts : ts.Perm es) (b c : Broker) (n : Nat) (hn : n ≤ 300) (hb : OrdI b es n) (hc : OrdI c ts n) (h0 : Heap) (hlim : h0.lim = 0) (h4 : 4 ≤ h0.n) (v9 : DV) (o9 : OwnR 4 h0 v9 53 7 (es.map eEntry)) (P : Res → Prop) :
    ∀ (k i : Nat) (f : FEnv) (h : Heap), es.length - i = k → i ≤ es.length → OrdH h0 h b c → f 5 = .ptr 0 2 0 0 → f 6 = .ptr 2 6 0 0 → f 8 = .ptr 3 6 0 0 → f 122 = v9 → f 123 = .int .i64 es.length → f 124 = .int .i64 i →
    (∀ F H, OrdH h0 H b c → (∀ r, r < 14 → F r = f r) → P (run D 220 S t5k1 F H)) →
    P (run D 220 (.block 6 :: .seq t5k1 :: S) (.loop t5l3) f h) := by
  have kk : ∀ r, r < 14 → ∀ q, 14 ≤ q → ¬ r = q := fun r hr q hq => by omega
  have zb := hb.sz.sized hn
  have zc := hc.sz.sized hn
  intro k
  induction k with
  | zero =>
    intro i f h hk hi hh h5 h6 h8 h122 h123 h124 hfin
    have hie : i = es.length := by omega
    subst hie
    rw [run_loop_of t5l3.eq_1]
    simp [h123, h124]
    exact hfin _ h hh fun r hr => by simp [kk r hr]
  | succ k ih =>
    intro i f h hk hi hh h5 h6 h8 h122 h123 h124 hfin
    have hlt : i < es.length := by omega
    obtain ⟨id, e1, e2, xs, cp, e3, e4⟩ := ownR_at (hh.row hlim (Nat.le_refl _) o9) hlt
    obtain ⟨e, he⟩ : ∃ e, es[i] = e := ⟨_, rfl⟩
    rw [he] at e4
    have hem : e ∈ es := by rw [← he]; exact List.getElem_mem hlt
    have ge := hes.good e hem
    obtain ⟨x, x1, x2, x3⟩ := hb.find hem ge.ok
    obtain ⟨y, y1, y2, y3⟩ := hc.find (hts.mem_iff.2 hem) ge.ok
    have hF := kEF .none hb.inv zb 1 0 e.sub.client e.sub.seq
    have hG := kEF .none hc.inv zc 1 0 e.sub.client e.sub.seq
    have x1' : entOf b ⟨1, 0⟩ ⟨e.sub.client, e.sub.seq⟩ = some x := x1
    have y1' : entOf c ⟨1, 0⟩ ⟨e.sub.client, e.sub.seq⟩ = some y := y1
    rw [x1'] at hF
    rw [y1'] at hG
    have hC := kCv .none hb.inv zb 1 0 ge.ok
    have hD := kCv .none hc.inv zc 1 0 ge.ok
    have x3' : coveredB b.entries ⟨1, 0⟩ e.pred = true := x3
    have y3' : coveredB c.entries ⟨1, 0⟩ e.pred = true := y3
    rw [x3'] at hC
    rw [y3'] at hD
    have hS : pcF D t25 [ePred e.pred, ePred e.pred] = some (.bool true) := by
      have := s25 false false e.pred e.pred (Nat.le_trans ge.ok.len (by decide))
      rw [decide_eq_true rfl] at this
      exact this
    have hw : IntKind.i64.wrap ((i : Int) + 1) = (i : Int) + 1 := wrap64 (by omega) (by omega)
    have hh' := hh
    obtain ⟨g0, g2, g3, xl, xn, xw, xr⟩ := hh
    have l0 := get_some_lt g0
    have l2 := get_some_lt g2
    have l3 := get_some_lt g3
    have lid := get_some_lt e3
    have n0 : ¬ 0 = h.n := by omega
    have n1 : ¬ 0 = h.n + 1 := by omega
    have n2 : ¬ 0 = h.n + 1 + 1 := by omega
    have n3 : ¬ 2 = h.n := by omega
    have n4 : ¬ 2 = h.n + 1 := by omega
    have n5 : ¬ 2 = h.n + 1 + 1 := by omega
    have n6 : ¬ 3 = h.n := by omega
    have n7 : ¬ 3 = h.n + 1 := by omega
    have n8 : ¬ 3 = h.n + 1 + 1 := by omega
    have m0 : ¬ h.n = 0 := by omega
    have m1 : ¬ h.n = 1 := by omega
    have m2 : ¬ h.n = 2 := by omega
    have hia : indexAddrV 7 (.sl id 7 0 es.length) (.int .i64 (i : Int)) = some (.ptr id 7 i 0) := by simp [indexAddrV, asI, hlt]
    simp only [eEntry] at e4
    rw [run_loop_of t5l3.eq_1]
    simp [h5, h6, h8, h122, h123, h124, hlt, e1, hia, e3, e4, g0, g2, g3, xl, n0, n1, n2, n3, n4, n5, n6, n7, n8, m0, m1, m2, e20, hF, hG, hasO, eEntry, x2, y2, e25, hS, e18, hC, hD, turn, t5s3, hw]
    generalize hFF : upd _ 124 _ = F
    refine ih (i + 1) F _ (by omega) (by omega) (((hh'.push h4).push h4).push h4) (by rw [← hFF]; simp [h5]) (by rw [← hFF]; simp [h6]) (by rw [← hFF]; simp [h8]) (by rw [← hFF]; simp [h122]) (by rw [← hFF]; simp [h123]) (by rw [← hFF]; simp) fun F' H' a1 a2 => hfin F' H' a1 fun r hr => ?_
    rw [a2 r hr, ← hFF]; simp [kk r hr]
def wideE : Entry := ⟨tTwo, ⟨9, 0⟩, [], 1, false⟩
theorem wide_good : GoodE wideE := ⟨rfl, rfl, rfl, .nil⟩
def WideUp (d : Broker) : Prop := ∃ x ∈ d.entries, x.tree = tTwo ∧ x.up = true ∧ x.pred = []
theorem WideUp.covers {d : Broker} (h : WideUp d) (p : Pred) : coveredB d.entries tTwo p = true := by
  obtain ⟨x, hx, h1, h2, h3⟩ := h
  exact coveredB_iff.2 ⟨x, hx, h1, h2, by rw [h3]; rfl⟩
theorem WideUp.add {d : Broker} (h : WideUp d) (e : Entry) : WideUp (addB d e).1 := by
  obtain ⟨x, hx, h2⟩ := h
  unfold addB
  split
  · exact ⟨x, insE_mem.2 (.inr hx), h2⟩
  · exact ⟨x, hx, h2⟩
theorem wide_first : (addB bOrd wideE).2 = true ∧ WideUp (addB bOrd wideE).1 ∧ OrdI (addB bOrd wideE).1 [wideE] 2 := by
  refine ⟨rfl, ⟨⟨tTwo, ⟨9, 0⟩, [], 1, true⟩, ?_, rfl, rfl, rfl⟩, ?_⟩
  · have : (addB bOrd wideE).1.entries = [⟨tTwo, ⟨9, 0⟩, [], 1, true⟩] := rfl
    rw [this]; simp
  · have := OrdI.start.add (e := wideE) wide_good (fun d hd => by cases hd)
    simpa using this
set_option maxRecDepth 8000 in
set_option maxHeartbeats 4000000 in
theorem f5 (es : List Entry) (he7 : es.length ≤ 7) (hes : RowE es) (h0 : Heap) (hlim : h0.lim = 0) (h4 : 4 ≤ h0.n) (v9 : DV) (o9 : OwnR 4 h0 v9 53 7 (es.map eEntry)) (T : Nat) (hT : h0.n ≤ T) :
    ∀ (k i : Nat) (d : Broker) (f : FEnv) (h : Heap), es.length - i = k → i ≤ es.length → OrdI d (wideE :: es.take i) (i + 2) → WideUp d → h.get 0 = some (.arr 35 2 [.agg [.int .i64 1, .int .i64 0]] (some 1)) → h.get T = some (.arr 30 6 [eBroker .none d] (some 1)) → (∀ i, 4 ≤ i → i < h0.n → h.get i = h0.get i) → h.lim = 0 → WF h →
      f 5 = .ptr 0 2 0 0 → f 9 = v9 → f 21 = .ptr T 6 0 0 → f 23 = .bool true → f 191 = v9 → f 192 = .int .i64 es.length → f 193 = .int .i64 i →
    pcOut (fin [.t 4] (run D 220 [.block 8, .seq t5k0] (.loop t5l4) f h)) = some (.bool true) := by
  intro k
  induction k with
  | zero =>
    intro i d f h hk hi hd hwd g0 gT hr xl xw h5 h9 h21 h23 h191 h192 h193
    have hie : i = es.length := by omega
    subst hie
    rw [List.take_length] at hd
    have z := hd.sz.sized (show es.length + 2 ≤ 300 by omega)
    have hO := kOf .none z 1 0
    have hlen : (ofT ⟨1, 0⟩ d.entries).length = es.length + 1 := by
      unfold ofT
      rw [List.filter_eq_self.2 (fun x hx => by simpa [tTwo] using (hd.new x hx).1), hd.len]; rfl
    have hl9 : lenV h 1 v9 = some (.int .i64 es.length) := by
      cases o9 with
      | nil hv hx => have : es = [] := by simpa using hx
                     subst this; rw [hv]; rfl
      | arr id sp cap hv _ _ _ => rw [hv]; simp
    have hw : IntKind.i64.wrap ((es.length : Int) + 1) = (es.length : Int) + 1 := wrap64 (by omega) (by omega)
    rw [run_loop_of t5l4.eq_1]
    simp [h192, h193, t5k0, h5, h9, h21, h23, g0, gT, e22, hO, hlen, hl9, hw, e24, s24]
  | succ k ih =>
    intro i d f h hk hi hd hwd g0 gT hr xl xw h5 h9 h21 h23 h191 h192 h193
    have hlt : i < es.length := by omega
    have o9' : OwnR 4 h v9 53 7 (es.map eEntry) := by
      cases o9 with
      | nil hv hx => exact .nil hv hx
      | arr id sp cap hv hg hl8 hi8 => exact .arr id sp cap hv ((hr id hi8 (get_some_lt hg)).trans hg) (by rw [xl]; exact Nat.zero_le _) hi8
    obtain ⟨id, e1, e2, xs, cp, e3, e4⟩ := ownR_at o9' hlt
    obtain ⟨e, he⟩ : ∃ e, es[i] = e := ⟨_, rfl⟩
    rw [he] at e4
    have hem : e ∈ es := by rw [← he]; exact List.getElem_mem hlt
    have ge := hes.good e hem
    have hsub : e.sub = ⟨2, i⟩ := by rw [← he]; exact hes.sub i hlt
    have z := hd.sz.sized (show i + 2 ≤ 300 by omega)
    have hfresh : ∀ y ∈ wideE :: es.take i, y.sub ≠ e.sub := by
      intro y hy
      rcases List.mem_cons.1 hy with rfl | hy
      · rw [hsub]; intro q; injection q with q1; exact absurd q1 (by decide)
      · obtain ⟨q, hq, rfl⟩ := List.mem_iff_getElem.1 hy
        rw [List.length_take] at hq
        rw [List.getElem_take, hsub, hes.sub q (by omega)]
        intro q'; injection q' with _ q1; omega
    have nd := hd.add ge hfresh
    rw [List.cons_append, ← he, List.take_append_getElem hlt, he] at nd
    have nw := hwd.add e
    have hup : (addB d e).2 = false := by
      have hy := add_yes (b := d) (e := e) (a := ⟨tTwo, [], 0⟩) (by rw [ge.tree]; exact hd.adv) (by rw [ge.tree]; exact hd.none hfresh) (fun q => by rw [ge.frm] at q; exact absurd q (by decide : ¬ (1 : Int) = 0))
      rw [hy]
      simp [upOf, ge.tree, hwd.covers]
    have hA := kAdd hd.inv z e.tree.client e.tree.seq e.sub.client e.sub.seq ge.ok e.frm e.up
    obtain ⟨d', hd'⟩ : ∃ d', (addB d e).1 = d' := ⟨_, rfl⟩
    have hA' : pcF D t17 [eBroker .none d, eEntry e] = some (.tup [eBroker .none d', .bool false]) := by rw [← hd', ← hup]; exact hA
    rw [hd'] at nd nw
    clear hA
    have hw : IntKind.i64.wrap ((i : Int) + 1) = (i : Int) + 1 := wrap64 (by omega) (by omega)
    have l0 := get_some_lt g0
    have lT := get_some_lt gT
    have n0 : ¬ T = h.n := by omega
    have n1 : ¬ T = h.n + 1 := by omega
    have n2 : ¬ 0 = h.n := by omega
    have n3 : ¬ 0 = h.n + 1 := by omega
    have n5 : ¬ h.n + 1 = h.n := by omega
    have lT1 : T < h.n + 1 := by omega
    have lT2 : T < h.n + 1 + 1 := by omega
    have hia : indexAddrV 7 (.sl id 7 0 es.length) (.int .i64 (i : Int)) = some (.ptr id 7 i 0) := by simp [indexAddrV, asI, hlt]
    simp only [eEntry] at e4 hA'
    rw [run_loop_of t5l4.eq_1]
    simp [h21, h191, h192, h193, hlt, e1, hia, e3, e4, gT, xl, xw, n0, n1, n5, lT, lT1, lT2, e17, hA', turn, t5s4, hw]
    generalize hFF : upd _ 193 _ = F
    have t0 : ¬ 0 = T := by omega
    refine ih (i + 1) d' F _ (by omega) (by omega) nd nw ?_ ?_ ?_ (by simp [xl]) (by simp [xw]) (by rw [← hFF]; simp [h5]) (by rw [← hFF]; simp [h9]) (by rw [← hFF]; simp [h21]) (by rw [← hFF]; simp [h23]) (by rw [← hFF]; simp [h191]) (by rw [← hFF]; simp [h192]) (by rw [← hFF]; simp)
    · simp [n2, n3, xw, lT, t0, g0]
    · simp [n0, n1, xw, lT]
    · intro q hq1 hq2
      have k1 : ¬ q = h.n := by omega
      have k2 : ¬ q = h.n + 1 := by omega
      have k3 : ¬ q = T := by omega
      simp [k1, k2, k3, xw, lT, hr q hq1 hq2]
set_option maxRecDepth 8000 in
set_option maxHeartbeats 4000000 in
theorem g5 (es ts : List Entry) (he7 : es.length ≤ 7) (hes : RowE es) (b c : Broker) (h0 : Heap) (hlim : h0.lim = 0) (h4 : 4 ≤ h0.n) (v9 : DV) (o9 : OwnR 4 h0 v9 53 7 (es.map eEntry)) (f : FEnv) (h : Heap) (hh : OrdH h0 h b c) (h5 : f 5 = .ptr 0 2 0 0) (h9 : f 9 = v9) :
    pcOut (fin [.t 4] (run D 220 [] t5k1 f h)) = some (.bool true) := by
  obtain ⟨g0, g2, g3, xl, xn, xw, xr⟩ := hh
  have hL := kLearn .none inv_ord0 ⟨by decide, by decide, by decide, by decide, by decide⟩ 1 0 [] 0
  have hL' : pcF D t9 [eBroker .none ⟨4, [0, 1], [], [], [], []⟩, .agg [.int .i64 1, .int .i64 0, .isl false 0 [], .int .i64 0]] = some (.tup [eBroker .none bOrd, .bool true]) := hL
  obtain ⟨w1, w2, w3⟩ := wide_first
  have hA := kAdd OrdI.start.inv (OrdI.start.sz.sized (by decide)) 1 0 9 0 (p := []) .nil 1 false
  obtain ⟨d, hd⟩ : ∃ d, (addB bOrd wideE).1 = d := ⟨_, rfl⟩
  have hA' : pcF D t17 [eBroker .none bOrd, .agg [.int .i64 1, .int .i64 0, .int .i64 9, .int .i64 0, .isl false 0 [], .int .i64 1, .bool false]] = some (.tup [eBroker .none d, .bool true]) := by rw [← hd]; exact hA
  rw [hd] at w2 w3
  obtain ⟨m, hm⟩ : ∃ m, h.n = m + 4 := ⟨h.n - 4, by omega⟩
  have hl9 : lenV h 1 v9 = some (.int .i64 es.length) ∧ ∀ H, lenV H 1 v9 = some (.int .i64 es.length) := by
    cases o9 with
    | nil hv hx => have : es = [] := by simpa using hx
                   subst this; rw [hv]; exact ⟨rfl, fun H => rfl⟩
    | arr id sp cap hv _ _ _ => rw [hv]; exact ⟨by simp, fun H => by simp⟩
  simp [t5k1, h5, h9, g0, xl, xw, hm, List.replicate, mkIsl, e7, s7_401, e9, hL', turn, e17, hA', hl9.2]
  generalize hFF : upd _ 193 _ = F
  refine f5 es he7 hes h0 hlim h4 v9 o9 (m + 4 + 1) (by omega) es.length 0 d F _ (by omega) (by omega) (by simpa using w3) w2 ?_ ?_ ?_ (by simp [xl]) (by simp [xw]) (by rw [← hFF]; simp [h5]) (by rw [← hFF]; simp [h9]) (by rw [← hFF]; simp) (by rw [← hFF]; simp) (by rw [← hFF]; simp) (by rw [← hFF]; simp) (by rw [← hFF]; simp)
  · simp [hm, g0]
  · simp [hm]
  · intro q hq1 hq2
    have k1 : ¬ q = m + 4 := by omega
    have k2 : ¬ q = m + 4 + 1 := by omega
    simp [hm, k1, k2, xr q hq1 hq2]
set_option maxRecDepth 8000 in
set_option maxHeartbeats 4000000 in
theorem s5 (l : List PK) (ord : List Int) (hl : ∀ q ∈ l, q.has.length ≤ 9223372036854775807) (hol : ord.length ≤ 9223372036854775807) : pcF D t5 [eL false 2 ePK l, eL false 1 cInt ord] = some (.bool true) := by
  unfold pcF
  rw [goRun_eq _ _ _ _ (by simp [t5])]
  have hL := kLearn .none inv_ord0 ⟨by decide, by decide, by decide, by decide, by decide⟩ 1 0 [] 0
  have hL' : pcF D t9 [eBroker .none ⟨4, [0, 1], [], [], [], []⟩, .agg [.int .i64 1, .int .i64 0, .isl false 0 [], .int .i64 0]] = some (.tup [eBroker .none bOrd, .bool true]) := hL
  simp [t5, List.replicate, mkIsl, e7, s7_401, e9, hL', turn]
  generalize hF0 : upd _ 10 _ = F0
  generalize hH0 : Heap.push _ _ = H0
  have hn0 : H0.n = 4 := by rw [← hH0]; rfl
  have hl0 : H0.lim = 0 := by rw [← hH0]; rfl
  have hw0 : WF H0 := by rw [← hH0]; simp
  have G0 : H0.get 0 = some (.arr 35 2 [.agg [.int .i64 1, .int .i64 0]] (some 1)) := by rw [← hH0]; simp
  have G2 : H0.get 2 = some (.arr 30 6 [eBroker .none bOrd] (some 1)) := by rw [← hH0]; simp
  have G3 : H0.get 3 = some (.arr 30 6 [eBroker .none bOrd] (some 1)) := by rw [← hH0]; simp
  refine a5 [] l hl H0 G0 hl0 (by omega) (fun r => pcOut (fin [.t 4] r) = some (.bool true)) l 0 [] F0 H0 rfl (by decide) rfl ⟨fun e he => (by cases he), fun j hj => (by cases hj)⟩ (.refl (Nat.le_refl _) hw0) (.nil (by rw [← hF0]; simp) rfl) (by rw [← hF0]; simp) (by rw [← hF0]; simp) (by rw [← hF0]; simp) fun es F H he7 hes x o9 hr => ?_
  have F1 : F 1 = eL false 1 cInt ord := by rw [hr 1 (by decide), ← hF0]; simp
  have F5 : F 5 = .ptr 0 2 0 0 := by rw [hr 5 (by decide), ← hF0]; simp
  have F6 : F 6 = .ptr 2 6 0 0 := by rw [hr 6 (by decide), ← hF0]; simp
  have F8 : F 8 = .ptr 3 6 0 0 := by rw [hr 8 (by decide), ← hF0]; simp
  have xn := x.le
  have xl : H.lim = 0 := by rw [x.lim]; exact hl0
  have hel := o9.elems
  have hnh : ∀ id, id < H.n → ¬ id = H.n := fun id h => by omega
  simp only [t5k4]
  have hel2 : ∀ o : DO, elems (H.push o) 7 (F 9) = some (es.map eEntry) := fun o => (o9.push (o := o)).elems
  simp [hel2]
  generalize hA : appendD _ _ _ _ _ _ = A
  obtain ⟨v', K, rfl, o', x', fr, na⟩ := append_frame (lo := H.n) (xs := []) (.arr H.n [] (some 0) rfl (by simp) (by simp [xl]) (Nat.le_refl _)) (by simp [x.wf]) (by simp) (by simp [xl]) hA (by simp; omega) (by decide)
  clear hA
  rw [List.nil_append] at o'
  have xK : Ext H.n H K := (Ext.refl (Nat.le_refl _) x.wf).push.trans x'
  simp
  generalize hF1 : upd _ 12 _ = F1'
  refine b5 [] ord hol es he7 H xl (fun r => pcOut (fin [.t 4] r) = some (.bool true)) ord 0 es F1' K rfl (Nat.zero_le _) (.refl _) xK (by rw [← hF1]; simpa using o') (by rw [← hF1]; simp [F1]) (by rw [← hF1]; simp) fun ts F2 H2 hts x2 o11 hr2 => ?_
  have p1 : ∀ r, r < 11 → F2 r = F r := fun r hr' => by
    rw [hr2 r hr', ← hF1]
    have k : ∀ q, 11 ≤ q → ¬ r = q := fun q hq => by omega
    simp [k]
  have x2n := x2.le
  have H2l : H2.lim = 0 := by rw [x2.lim]; exact xl
  have o9' : OwnR 4 H2 (F2 9) 53 7 (es.map eEntry) := by
    rw [p1 9 (by decide)]
    exact (o9.lower (by omega)).ext x2
  have hG0 : H2.get 0 = _ := (x2.get 0 (by omega)).trans ((x.get 0 (by omega)).trans G0)
  have hG2 : H2.get 2 = _ := (x2.get 2 (by omega)).trans ((x.get 2 (by omega)).trans G2)
  have hG3 : H2.get 3 = _ := (x2.get 3 (by omega)).trans ((x.get 3 (by omega)).trans G3)
  have hl9 : lenV H2 1 (F2 9) = some (.int .i64 es.length) := by simpa using o9'.lenV
  have q5 : F2 5 = .ptr 0 2 0 0 := by rw [p1 5 (by decide)]; exact F5
  have q6 : F2 6 = .ptr 2 6 0 0 := by rw [p1 6 (by decide)]; exact F6
  have q8 : F2 8 = .ptr 3 6 0 0 := by rw [p1 8 (by decide)]; exact F8
  simp [t5k3, hl9]
  generalize hF2 : upd _ 100 _ = F3
  refine ch5 [] es ts he7 hes hts H2 H2l (by omega) (F2 9) (F2 11) o9' (o11.lower (by omega)) (fun r => pcOut (fin [.t 4] r) = some (.bool true)) es.length 0 bOrd bOrd F3 H2 (by omega) (Nat.zero_le _) .start .start ⟨hG0, hG2, hG3, H2l, Nat.le_refl _, x2.wf, fun _ _ _ => rfl⟩ (by rw [← hF2]; simp [q6]) (by rw [← hF2]; simp [q8]) (by rw [← hF2]; simp) (by rw [← hF2]; simp) (by rw [← hF2]; simp) (by rw [← hF2]; simp) fun b c F4 H4 hb hc hh4 hr4 => ?_
  have p4 : ∀ r, r < 14 → F4 r = F2 r := fun r hr' => by
    rw [hr4 r hr', ← hF2]
    have k : ∀ q, 14 ≤ q → ¬ r = q := fun q hq => by omega
    simp [k]
  have hl9' : lenV H4 1 (F4 9) = some (.int .i64 es.length) := by
    rw [p4 9 (by decide)]; simpa using (hh4.row H2l (Nat.le_refl _) o9').lenV
  simp [t5k2, hl9']
  generalize hF5 : upd _ 124 _ = F5'
  refine d5 [] es ts he7 hes hts b c (es.length + 1) (by omega) hb hc H2 H2l (by omega) (F2 9) o9' (fun r => pcOut (fin [.t 4] r) = some (.bool true)) es.length 0 F5' H4 (by omega) (Nat.zero_le _) hh4 (by rw [← hF5]; simp [p4, q5]) (by rw [← hF5]; simp [p4, q6]) (by rw [← hF5]; simp [p4, q8]) (by rw [← hF5]; simp [p4]) (by rw [← hF5]; simp) (by rw [← hF5]; simp) fun F6' H6 hh6 hr6 => ?_
  have p6 : ∀ r, r < 14 → F6' r = F2 r := fun r hr' => by
    rw [hr6 r hr', ← hF5, ← p4 r hr']
    have k : ∀ q, 14 ≤ q → ¬ r = q := fun q hq => by omega
    simp [k]
  exact g5 es ts he7 hes b c H2 H2l (by omega) (F2 9) o9' F6' H6 hh6 (by rw [p6 5 (by decide)]; exact q5) (p6 9 (by decide))
end Go.Dm.Tc

