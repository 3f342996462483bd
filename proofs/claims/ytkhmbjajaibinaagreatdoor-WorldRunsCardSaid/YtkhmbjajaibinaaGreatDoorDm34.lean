/-
Part 34 of "Dm" (ahead of part 21): when two data, two objects, two heaps are the same.
-/
import Derived.Test.YtkhmbjajaibinaaGreatDoorDm20
namespace Go.Dm

theorem zip_all_eq {l r : List DV} {f : DV → DV → Bool} (hf : ∀ a b, f a b = true → a = b) (hl : l.length = r.length) (h : ((l.zip r).all fun p => f p.1 p.2) = true) : l = r := by
  induction l generalizing r with
  | nil => cases r with | nil => rfl | cons => simp at hl
  | cons x l ih =>
    cases r with
    | nil => simp at hl
    | cons y r =>
      simp only [List.zip_cons_cons, List.all_cons, Bool.and_eq_true] at h
      rw [hf x y h.1, ih (by simpa using hl) h.2]

theorem same_eq : ∀ n a b, same n a b = true → a = b := by
  intro n
  induction n with
  | zero => intro a b h; simp [same] at h
  | succ n ih =>
    intro a b h
    cases a <;> cases b <;> simp only [same, Bool.false_eq_true] at h <;> try rfl
    all_goals try simp only [Bool.and_eq_true, decide_eq_true_eq, beq_iff_eq] at h
    case bool => rw [h]
    case int => rw [h.1, h.2]
    case str => rw [h]
    case ptr => obtain ⟨⟨⟨h1, h2⟩, h3⟩, h4⟩ := h; rw [Nat.eq_of_beq_eq_true h1, Nat.eq_of_beq_eq_true h2, Nat.eq_of_beq_eq_true h3, Nat.eq_of_beq_eq_true h4]
    case sl => obtain ⟨⟨⟨h1, h2⟩, h3⟩, h4⟩ := h; rw [Nat.eq_of_beq_eq_true h1, Nat.eq_of_beq_eq_true h2, Nat.eq_of_beq_eq_true h3, Nat.eq_of_beq_eq_true h4]
    case iptr => obtain ⟨⟨⟨h1, h2⟩, h3⟩, h4⟩ := h; rw [h1, Nat.eq_of_beq_eq_true h2, zip_all_eq ih (Nat.eq_of_beq_eq_true h3) h4]
    case isl => obtain ⟨⟨⟨h1, h2⟩, h3⟩, h4⟩ := h; rw [h1, Nat.eq_of_beq_eq_true h2, zip_all_eq ih (Nat.eq_of_beq_eq_true h3) h4]
    case map => rw [Nat.eq_of_beq_eq_true h]
    case tok => rw [Nat.eq_of_beq_eq_true h]
    case atl => rw [Nat.eq_of_beq_eq_true h]
    case func => obtain ⟨⟨h1, h2⟩, h3⟩ := h; rw [Nat.eq_of_beq_eq_true h1, zip_all_eq ih (Nat.eq_of_beq_eq_true h2) h3]
    case iface => rw [Nat.eq_of_beq_eq_true h.1, ih _ _ h.2]
    case agg => rw [zip_all_eq ih (Nat.eq_of_beq_eq_true h.1) h.2]
    case tup => rw [zip_all_eq ih (Nat.eq_of_beq_eq_true h.1) h.2]

theorem sameL_eq {l r : List DV} (h : sameL l r = true) : l = r := by
  simp only [sameL, Bool.and_eq_true] at h
  exact zip_all_eq (same_eq 200) (Nat.eq_of_beq_eq_true h.1) h.2


theorem sameO_eq {a b : DO} (h : sameO a b = true) : a = b := by
  cases a <;> cases b <;> simp only [sameO, Bool.false_eq_true] at h <;> try rfl
  case arr e1 s1 x1 c1 e2 s2 x2 c2 =>
    simp only [Bool.and_eq_true] at h
    obtain ⟨⟨⟨h1, h2⟩, h3⟩, h4⟩ := h
    have hc : c1 = c2 := by
      cases c1 <;> cases c2 <;> simp only [Bool.false_eq_true] at h3 <;> try rfl
      rw [Nat.eq_of_beq_eq_true h3]
    rw [Nat.eq_of_beq_eq_true h1, Nat.eq_of_beq_eq_true h2, hc, sameL_eq h4]
  case mp x1 x2 =>
    simp only [Bool.and_eq_true] at h
    obtain ⟨h1, h2⟩ := h
    have hl := Nat.eq_of_beq_eq_true h1
    congr 1
    clear h1
    induction x1 generalizing x2 with
    | nil => cases x2 with | nil => rfl | cons => simp at hl
    | cons x l ih =>
      cases x2 with
      | nil => simp at hl
      | cons y r =>
        simp only [List.zip_cons_cons, List.all_cons, Bool.and_eq_true] at h2
        rw [ih r h2.2 (by simpa using hl)]
        congr 1
        exact Prod.ext (same_eq _ _ _ h2.1.1) (same_eq _ _ _ h2.1.2)

theorem diffO_sound : ∀ (n : Nat) (a b : List DO) (id : Nat), id < n → id ∉ diffO n a b → a[n - 1 - id]? = b[n - 1 - id]? := by
  intro n
  induction n with
  | zero => intro a b id hid _; omega
  | succ n ih =>
    intro a b id hid hn
    cases a with
    | nil => cases b with
      | nil => rfl
      | cons y s => exact absurd (List.mem_range.2 hid) hn
    | cons x r => cases b with
      | nil => exact absurd (List.mem_range.2 hid) hn
      | cons y s =>
        simp only [diffO] at hn
        by_cases he : id = n
        · subst he
          have : id + 1 - 1 - id = 0 := by omega
          rw [this]
          split at hn
          · rename_i hs
            simp only [List.getElem?_cons_zero]
            rw [sameO_eq hs]
          · exact absurd (List.mem_cons_self ..) hn
        · have h1 : n + 1 - 1 - id = (n - 1 - id) + 1 := by omega
          rw [h1, List.getElem?_cons_succ, List.getElem?_cons_succ]
          refine ih r s id (by omega) fun hm => hn ?_
          split
          · exact hm
          · exact List.mem_cons_of_mem _ hm

theorem changed_sound {h h' : Heap} {id : Nat} (hid : id < h.n) (hn : id ∉ changed h h') : h'.get id = h.get id := by
  unfold changed at hn
  split at hn
  · rename_i hle
    have := diffO_sound _ _ _ id hid hn
    have h2 : id < h'.n := Nat.lt_of_lt_of_le hid hle
    unfold Heap.get
    rw [if_pos hid, if_pos h2, this, List.getElem?_drop]
    congr 1
    omega
  · exact absurd (List.mem_range.2 hid) hn

end Go.Dm
