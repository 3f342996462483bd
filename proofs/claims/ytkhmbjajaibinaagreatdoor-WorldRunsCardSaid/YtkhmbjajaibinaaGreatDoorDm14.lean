/-
Part 14 of "Dm": maps.
-/
import Derived.Test.YtkhmbjajaibinaaGreatDoorDm13
namespace Go.Dm

section
variable {P : Program} {h h' : Heap} {c : Ctx} {env : Env} {a : Act} {o : Oper} {r : DV}

theorem checkKey_flat (em : Bool) : ∀ (m d : Nat) (t : TypeId) (ks : List Nat), flatK P m t = some ks → ∀ (w : World) (cs : List DV) (x : Value), PartR P c t cs x → cs.length = ks.length → (Instr.checkKey em (d + m) t x).run P w = .ok () w
  | 0, _, _, _, hk => by simp [flatK] at hk
  | m + 1, d, t, ks, hk => by
    intro w cs x hx hlen
    unfold flatK at hk
    rw [show d + (m + 1) = (d + m) + 1 from rfl]
    split at hk
    all_goals first | cases hk | skip
    · rename_i i hu hi
      simp [Instr.checkKey, run_underlying hu]
    · rename_i q i hu hi
      simp [Instr.checkKey, run_underlying hu]
    · rename_i i hu hi
      simp [Instr.checkKey, run_underlying hu]
    · rename_i fs i hu hi
      split at hk
      · rename_i hcond
        split at hk
        · rename_i kk hkk
          split at hk
          · cases hk
            simp only [PartR, isAggTy, hu, if_true] at hx
            obtain ⟨vs, rfl, hv⟩ := hx
            rw [Instr.checkKey]
            simp only [Sem.run_bind, run_underlying hu, Result.andThen_ok]
            rw [← Array.forIn_toList]
            have key : ∀ (L : List Field) (o : Nat) (k : List Nat), flatGo (flatK P m) L o = some k → o + k.length ≤ cs.length →
                (forIn L PUnit.unit fun f (_ : PUnit) => (if f.name ≠ "_" then do Instr.checkKey em (d + m) f.type (← part f.type vs.toArray f.offset); pure (ForInStep.yield PUnit.unit) else pure (ForInStep.yield PUnit.unit) : Sem (ForInStep PUnit))).run P w = .ok PUnit.unit w := by
              intro L
              induction L with
              | nil => intro o k _ _; simp
              | cons f L ih =>
                intro o k hg hle
                simp only [flatGo] at hg
                split at hg
                · rename_i hc
                  split at hg
                  · rename_i k1 hk1
                    split at hg
                    · rename_i k2 hk2
                      cases hg
                      rw [List.length_append] at hle
                      obtain ⟨y, p1, p2⟩ := run_partR (P := P) hk1 hv (off := o) (by omega) w
                      have p3 := checkKey_flat em m d f.type k1 hk1 w _ y p2 (by simp; omega)
                      simp only [List.forIn_cons, Sem.run_bind, hc.1, ne_eq, not_false_eq_true, if_true, hc.2, p1, p3, Result.andThen_ok, Sem.run_pure]
                      exact ih (o + k1.length) k2 hk2 (by omega)
                    · cases hg
                  · cases hg
                · cases hg
            have := key fs.toList 0 _ hkk (by omega)
            rw [this]
            rfl
          · cases hk
        · cases hk
      · cases hk
    · rename_i n e i hu hi
      split at hk
      · split at hk
        · rename_i kk hkk
          split at hk
          · cases hk
            simp only [PartR, isAggTy, hu, if_true] at hx
            obtain ⟨vs, rfl, hv⟩ := hx
            obtain ⟨ie, hie, hse⟩ := flatK_info hkk
            have hso : ∀ w, (sizeOf e).run P w = .ok kk.length w := fun w => by simp [sizeOf, typeInfo, hie, hse]
            rw [Instr.checkKey]
            simp only [Sem.run_bind, run_underlying hu, Result.andThen_ok]
            simp only [Std.Legacy.Range.forIn_eq_forIn_range', Std.Legacy.Range.size, Nat.sub_zero, Nat.add_one_sub_one, Nat.div_one]
            have key : ∀ (q s : Nat), (s + q) * kk.length ≤ cs.length → (forIn (List.range' s q) PUnit.unit fun i (_ : PUnit) => (do Instr.checkKey em (d + m) e (← part e vs.toArray (i * (← sizeOf e))); pure (ForInStep.yield PUnit.unit) : Sem (ForInStep PUnit))).run P w = .ok PUnit.unit w := by
              intro q
              induction q with
              | zero => intro s _; simp
              | succ q ih =>
                intro s hle
                have hle2 : s * kk.length + kk.length ≤ cs.length := by
                  have : (s + 1) * kk.length ≤ (s + (q + 1)) * kk.length := Nat.mul_le_mul_right _ (by omega)
                  rw [Nat.add_mul] at this; omega
                obtain ⟨y, p1, p2⟩ := run_partR (P := P) hkk hv (off := s * kk.length) hle2 w
                have p3 := checkKey_flat em m d e kk hkk w _ y p2 (by simp; omega)
                simp only [List.range'_succ, List.forIn_cons, Sem.run_bind, hso, p1, p3, Result.andThen_ok, Sem.run_pure]
                exact ih (s + 1) (by rw [show s + 1 + q = s + (q + 1) by omega]; exact hle)
            have := key n 0 (by rw [Nat.zero_add, hlen]; simp [List.length_flatten])
            rw [this]
            rfl
          · cases hk
        · cases hk
      · cases hk

theorem checkKey_ok {t : TypeId} {q : EqT} (hq : eqT P t = some q) {d : DV} {x : Value} (hv : VR c d x) (he : (eqBy q d d).isSome = true) (em : Bool) (w : World) : (Instr.checkKey em 10000 t x).run P w = .ok () w := by
  obtain ⟨b, hb⟩ := Option.isSome_iff_exists.1 he
  have prim : ∀ desc, P.underlying t = some desc → desc = .bool ∨ (∃ k, desc = .int k) ∨ desc = .string → (Instr.checkKey em 10000 t x).run P w = .ok () w := by
    intro desc hu hd
    rw [show (10000 : Nat) = 9999 + 1 from rfl, Instr.checkKey]
    rcases hd with rfl | ⟨k, rfl⟩ | rfl <;> simp [run_underlying hu]
  unfold eqT at hq
  split at hq
  · rename_i hu; exact prim _ hu (.inl rfl)
  · rename_i hu; exact prim _ hu (.inr (.inl ⟨_, rfl⟩))
  · rename_i hu; exact prim _ hu (.inr (.inr rfl))
  all_goals first
    | (cases hq; done)
    | (rename_i hu
       simp only [Option.map_eq_some_iff] at hq
       obtain ⟨ks, hks, rfl⟩ := hq
       cases hv <;> simp only [eqBy] at hb <;> first
         | (cases hb; done)
         | (rename_i ds vs hl h1 hvv
            have hlen := (cellsEq_len _ _ _ _ hb).1
            exact checkKey_flat (P := P) em 20 9980 t _ hks w _ _ (by simp only [PartR, isAggTy, hu, if_true]; exact ⟨vs, rfl, by assumption, by assumption⟩) hlen))

/-- Entries. -/
def EntsR (c : Ctx) (es : List (DV × DV)) (ms : List MapEntry) : Prop := es.length = ms.length ∧ ∀ (i : Nat) (e : DV × DV) (m : MapEntry), es[i]? = some e → ms[i]? = some m → VR c e.1 m.key ∧ VR c e.2 m.val

theorem entsR_tail {e : DV × DV} {es : List (DV × DV)} {m : MapEntry} {ms : List MapEntry} (hE : EntsR c (e :: es) (m :: ms)) : EntsR c es ms :=
  ⟨by simpa using hE.1, fun i e' m' h1 h2 => hE.2 (i + 1) e' m' (by simpa using h1) (by simpa using h2)⟩

/-- What a search comes to. -/
def Found (c : Ctx) (es : List (DV × DV)) (i : Nat) : Option (Nat × DV) → Option (Nat × Value) → Prop
  | none, none => True
  | some (j, v), some (j', u) => j = j' ∧ VR c v u ∧ i ≤ j ∧ j < i + es.length
  | _, _ => False

theorem findAsking_sound {t : TypeId} {q : EqT} (hq : eqT P t = some q) {d : DV} {x : Value} (hv : VR c d x) (w : World) : ∀ (es : List (DV × DV)) (ms : List MapEntry) (i : Nat) (res : Option (Nat × DV)), EntsR c es ms → findE q d es i = some res →
    ∃ res', (Instr.findAsking t x ms i).run P w = .ok res' w ∧ Found c es i res res'
  | [], ms, i, res, hE, hf => by
    cases ms with
    | nil => simp only [findE] at hf; cases hf; exact ⟨none, by simp [Instr.findAsking], trivial⟩
    | cons m ms => simp [EntsR] at hE
  | e :: es, ms, i, res, hE, hf => by
    cases ms with
    | nil => simp [EntsR] at hE
    | cons m ms =>
      obtain ⟨k', v⟩ := e
      have h0 := hE.2 0 (k', v) m rfl rfl
      simp only [findE] at hf
      split at hf
      · rename_i hb
        cases hf
        have := eqBy_sound (P := P) hq hb hv h0.1 w
        exact ⟨some (i, m.val), by simp [Instr.findAsking, this], rfl, h0.2, Nat.le_refl _, by simp⟩
      · rename_i hb
        have := eqBy_sound (P := P) hq hb hv h0.1 w
        obtain ⟨res', g1, g2⟩ := findAsking_sound hq hv w es ms (i + 1) res (entsR_tail hE) hf
        refine ⟨res', by simp [Instr.findAsking, this, g1], ?_⟩
        cases res <;> cases res' <;> simp only [Found] at g2 ⊢
        obtain ⟨a1, a2, a3, a4⟩ := g2
        exact ⟨a1, a2, by omega, by simp only [List.length_cons]; omega⟩
      · cases hf

theorem findNow_sound {desc : TypeDesc} {k : Nat} (hd : (desc = .bool ∧ k = 0) ∨ ((∃ kk, desc = .int kk) ∧ k = 1) ∨ (desc = .string ∧ k = 2)) {d : DV} {x : Value} (hv : VR c d x) : ∀ (es : List (DV × DV)) (ms : List MapEntry) (i : Nat) (res : Option (Nat × DV)), EntsR c es ms → findE (.prim k) d es i = some res →
    ∃ res', Instr.findNow desc x ms i = some res' ∧ Found c es i res res'
  | [], ms, i, res, hE, hf => by
    cases ms with
    | nil => simp only [findE] at hf; cases hf; exact ⟨none, by simp [Instr.findNow], trivial⟩
    | cons m ms => simp [EntsR] at hE
  | e :: es, ms, i, res, hE, hf => by
    cases ms with
    | nil => simp [EntsR] at hE
    | cons m ms =>
      obtain ⟨k', v⟩ := e
      have h0 := hE.2 0 (k', v) m rfl rfl
      have same : ∀ b, eqBy (.prim k) d k' = some b → Instr.sameNow desc x m.key = some b := by
        intro b hb
        have h1 := h0.1
        simp only at h1
        generalize m.key = mk at h1
        rcases hd with ⟨rfl, rfl⟩ | ⟨⟨kk, rfl⟩, rfl⟩ | ⟨rfl, rfl⟩
        · cases hv <;> cases h1 <;> simp [eqBy, primEq] at hb
          subst hb; simp [Instr.sameNow]
        · cases hv <;> cases h1 <;> simp [eqBy, primEq] at hb
          obtain ⟨rfl, rfl⟩ := hb; simp [Instr.sameNow]
        · cases hv <;> cases h1 <;> simp [eqBy, primEq] at hb
          subst hb
          rename_i s1 s2
          have hq : ((⟨s1.toArray⟩ : ByteArray) == ⟨s2.toArray⟩) = (s1 == s2) := by rw [beq_toListBytes, toList_mk, toList_mk]
          simp [Instr.sameNow, hq]
      simp only [findE] at hf
      split at hf
      · rename_i hb
        cases hf
        exact ⟨some (i, m.val), by simp [Instr.findNow, same _ hb], rfl, h0.2, Nat.le_refl _, by simp⟩
      · rename_i hb
        obtain ⟨res', g1, g2⟩ := findNow_sound hd hv es ms (i + 1) res (entsR_tail hE) hf
        refine ⟨res', by simp [Instr.findNow, same _ hb, g1], ?_⟩
        cases res <;> cases res' <;> simp only [Found] at g2 ⊢
        obtain ⟨a1, a2, a3, a4⟩ := g2
        exact ⟨a1, a2, by omega, by simp only [List.length_cons]; omega⟩
      · cases hf

theorem findKey_sound {t : TypeId} {q : EqT} (hq : eqT P t = some q) {d : DV} {x : Value} (hv : VR c d x) (w : World) {es : List (DV × DV)} {ms : List MapEntry} {res : Option (Nat × DV)} (hE : EntsR c es ms) (hf : findE q d es 0 = some res) :
    ∃ res', (Instr.findKey t x ms).run P w = .ok res' w ∧ Found c es 0 res res' := by
  have hq0 := hq
  unfold eqT at hq
  split at hq
  · rename_i hu; cases hq
    obtain ⟨res', g1, g2⟩ := findNow_sound (.inl ⟨rfl, rfl⟩) hv es ms 0 res hE hf
    exact ⟨res', by simp [Instr.findKey, run_underlying hu, g1], g2⟩
  · rename_i kk hu; cases hq
    obtain ⟨res', g1, g2⟩ := findNow_sound (desc := .int kk) (.inr (.inl ⟨⟨_, rfl⟩, rfl⟩)) hv es ms 0 res hE hf
    exact ⟨res', by simp [Instr.findKey, run_underlying hu, g1], g2⟩
  · rename_i hu; cases hq
    obtain ⟨res', g1, g2⟩ := findNow_sound (.inr (.inr ⟨rfl, rfl⟩)) hv es ms 0 res hE hf
    exact ⟨res', by simp [Instr.findKey, run_underlying hu, g1], g2⟩
  all_goals first
    | (cases hq; done)
    | (rename_i hu
       obtain ⟨res', g1, g2⟩ := findAsking_sound (P := P) hq0 hv w es ms 0 res hE hf
       refine ⟨res', ?_, g2⟩
       rw [← g1]
       cases ms with
       | nil => simp [Instr.findKey, run_underlying hu, Instr.findNow, Instr.findAsking]
       | cons m ms => simp [Instr.findKey, run_underlying hu, Instr.findNow, Instr.sameNow])

theorem hitsE_filter {q : EqT} {d : DV} : ∀ (es : List (DV × DV)) (n : Nat), hitsE q d es = some n → n = (es.filter fun e => eqBy q d e.1 == some true).length ∧ ∀ e, e ∈ es → (eqBy q d e.1).isSome = true
  | [], n, hh => by cases hh; exact ⟨rfl, fun e he => by cases he⟩
  | (k', v) :: r, n, hh => by
    simp only [hitsE] at hh
    split at hh
    · rename_i m h1 h2
      cases hh
      obtain ⟨i1, i2⟩ := hitsE_filter r m h2
      refine ⟨by simp [h1, ← i1], fun e he => ?_⟩
      rcases List.mem_cons.1 he with rfl | he
      · rw [h1]; rfl
      · exact i2 e he
    · rename_i m h1 h2
      cases hh
      obtain ⟨i1, i2⟩ := hitsE_filter r n h2
      refine ⟨by simp [h1, ← i1], fun e he => ?_⟩
      rcases List.mem_cons.1 he with rfl | he
      · rw [h1]; rfl
      · exact i2 e he
    · cases hh

theorem findE_total {q : EqT} {d : DV} : ∀ (es : List (DV × DV)) (i : Nat), (∀ e, e ∈ es → (eqBy q d e.1).isSome = true) → ∃ res, findE q d es i = some res ∧ (res = none → ∀ e, e ∈ es → eqBy q d e.1 = some false)
  | [], i, _ => ⟨none, rfl, fun _ e he => by cases he⟩
  | (k', v) :: r, i, hh => by
    obtain ⟨b, hb⟩ := Option.isSome_iff_exists.1 (hh (k', v) (List.mem_cons_self ..))
    obtain ⟨res, h1, h2⟩ := findE_total r (i + 1) (fun e he => hh e (List.mem_cons_of_mem _ he))
    cases b with
    | true => exact ⟨some (i, v), by simp only [findE]; rw [hb], fun h => by cases h⟩
    | false =>
      refine ⟨res, by simp only [findE]; rw [hb]; exact h1, fun h e he => ?_⟩
      rcases List.mem_cons.1 he with rfl | he
      · exact hb
      · exact h2 h e he

theorem findE_at {q : EqT} {d : DV} : ∀ (es : List (DV × DV)) (i j : Nat) (v : DV), findE q d es i = some (some (j, v)) → ∃ idx e, j = i + idx ∧ es[idx]? = some e ∧ e.2 = v ∧ eqBy q d e.1 = some true
  | [], i, j, v, hf => by simp [findE] at hf
  | e :: es, i, j, v, hf => by
    obtain ⟨k', v'⟩ := e
    simp only [findE] at hf
    split at hf
    · rename_i hb
      cases hf
      exact ⟨0, _, rfl, rfl, rfl, hb⟩
    · obtain ⟨idx, e, h1, h2, h3, h4⟩ := findE_at es (i + 1) j v hf
      exact ⟨idx + 1, e, by omega, by simpa using h2, h3, h4⟩
    · cases hf

/-- In another order the same is found. -/
theorem findU_perm {q : EqT} {d : DV} {es es' : List (DV × DV)} (hp : es.Perm es') {res : Option (Nat × DV)} (hf : findU q d es = some res) :
    match res with
    | none => findE q d es' 0 = some none
    | some (i, v) => ∃ (j : Nat) (e : DV × DV), findE q d es' 0 = some (some (j, v)) ∧ es[i]? = some e ∧ es'[j]? = some e := by
  unfold findU at hf
  split at hf
  · rename_i n hn
    split at hf
    · rename_i hle
      obtain ⟨f1, f2⟩ := hitsE_filter es n hn
      have hfl : (es.filter fun e => eqBy q d e.1 == some true).length ≤ 1 := by omega
      have hpf := hp.filter (fun e => eqBy q d e.1 == some true)
      obtain ⟨res', g1, g2⟩ := findE_total es' 0 (fun e he => f2 e (hp.mem_iff.2 he))
      cases res with
      | none =>
        obtain ⟨r0, k1, k2⟩ := findE_total es 0 f2
        rw [hf] at k1
        cases k1
        have hno := k2 rfl
        cases res' with
        | none => exact g1
        | some p =>
          obtain ⟨j, v⟩ := p
          obtain ⟨idx, e, _, q2, _, q4⟩ := findE_at es' 0 j v g1
          have := hno e (hp.mem_iff.2 (List.mem_of_getElem? q2))
          rw [this] at q4; cases q4
      | some p =>
        obtain ⟨i, v⟩ := p
        obtain ⟨idx, e, q1, q2, q3, q4⟩ := findE_at es 0 i v hf
        rw [Nat.zero_add] at q1
        subst q1
        cases res' with
        | none =>
          have := g2 rfl e (hp.mem_iff.1 (List.mem_of_getElem? q2))
          rw [this] at q4; cases q4
        | some p' =>
          obtain ⟨j, v'⟩ := p'
          obtain ⟨idx', e', r1, r2, r3, r4⟩ := findE_at es' 0 j v' g1
          rw [Nat.zero_add] at r1
          subst r1
          have m1 : e ∈ es.filter fun e => eqBy q d e.1 == some true := List.mem_filter.2 ⟨List.mem_of_getElem? q2, by simp [q4]⟩
          have m2 : e' ∈ es.filter fun e => eqBy q d e.1 == some true := List.mem_filter.2 ⟨hp.mem_iff.2 (List.mem_of_getElem? r2), by simp [r4]⟩
          have hee : e = e' := by
            generalize es.filter (fun e => eqBy q d e.1 == some true) = F at m1 m2 hfl
            match F, hfl with
            | [], _ => cases m1
            | [x], _ => rw [List.mem_singleton.1 m1, List.mem_singleton.1 m2]
            | x :: y :: r, h => simp at h
          subst hee
          exact ⟨j, e, by rw [← q3, r3]; exact g1, q2, r2⟩
    · cases hf
  · cases hf

theorem perm_cons_of_get {α : Type} : ∀ (l : List α) (i : Nat) (e : α), l[i]? = some e → l.Perm (e :: l.eraseIdx i)
  | [], i, e, h => by simp at h
  | a :: l, 0, e, h => by simp at h; subst h; exact .refl _
  | a :: l, i + 1, e, h => by
    have := perm_cons_of_get l i e (by simpa using h)
    exact (List.Perm.cons a this).trans (.swap _ _ _)

theorem perm_set {α : Type} : ∀ (l : List α) (i : Nat) (e : α), i < l.length → (l.set i e).Perm (e :: l.eraseIdx i)
  | [], i, e, h => by simp at h
  | a :: l, 0, e, _ => .refl _
  | a :: l, i + 1, e, h => by
    have := perm_set l i e (by simpa using h)
    exact (List.Perm.cons a this).trans (.swap _ _ _)

theorem perm_erase {α : Type} {l l' : List α} (hp : l.Perm l') {i j : Nat} {e : α} (h1 : l[i]? = some e) (h2 : l'[j]? = some e) : (l.eraseIdx i).Perm (l'.eraseIdx j) :=
  List.Perm.cons_inv ((perm_cons_of_get l i e h1).symm.trans (hp.trans (perm_cons_of_get l' j e h2)))

theorem perm_set_set {α : Type} {l l' : List α} (hp : l.Perm l') {i j : Nat} {e : α} (h1 : l[i]? = some e) (h2 : l'[j]? = some e) (x : α) : (l.set i x).Perm (l'.set j x) :=
  (perm_set l i x (List.getElem?_eq_some_iff.1 h1).1).trans ((List.Perm.cons x (perm_erase hp h1 h2)).trans (perm_set l' j x (List.getElem?_eq_some_iff.1 h2).1).symm)

theorem Rel.mapo {h : Heap} {c : Ctx} (hR : Rel h c) {id : Nat} {es : List (DV × DV)} (hg : h.get id = some (.mp es)) {b base : Nat} (hρ : c.ρ id = some (b, base)) :
    ∃ es' entries clock, es.Perm es' ∧ c.w.heap[b]? = some (.map entries clock) ∧ EntsR c es' entries.toList := by
  obtain ⟨es', hp, b', entries, clock, h1, h2, h3, h4⟩ := hR.obj id _ hg
  rw [hρ] at h1; cases h1
  refine ⟨es', entries, clock, hp, h2, by simpa using h3, fun i e m he hm => ?_⟩
  obtain ⟨a1, rfl⟩ := List.getElem?_eq_some_iff.1 he
  rw [Array.getElem?_toList] at hm
  obtain ⟨a2, rfl⟩ := Array.getElem?_eq_some_iff.1 hm
  exact h4 i a1 a2

theorem run_lookup' {t key e : TypeId} {i : TypeInfo} {z0 : Value} (hu : P.underlying t = some (.map key e)) (hi : P.info? e = some i) (hz : i.zero = some z0) {entries : Array MapEntry} {x idx : Value} {w : World} {ok : Bool}
    (hget : (x = .map none ∧ entries = #[]) ∨ ∃ b clock, x = .map (some b) ∧ w.heap[b]? = some (.map entries clock)) (hck : (Instr.checkKey entries.isEmpty 10000 key idx).run P w = .ok () w) {res : Option (Nat × Value)} (hfk : (Instr.findKey key idx entries.toList).run P w = .ok res w) :
    (Instr.lookup t x idx ok).run P w = .ok (match res with | some (_, v) => if ok then .tuple #[v, .bool true] else v | none => if ok then .tuple #[z0, .bool false] else z0) w := by
  rcases hget with ⟨rfl, rfl⟩ | ⟨b, clock, rfl, hb⟩
  · cases res with
    | none => cases ok <;> simp_all [Instr.lookup, run_underlying hu, zeroValue, typeInfo]
    | some p => obtain ⟨j, v⟩ := p; cases ok <;> simp_all [Instr.lookup, run_underlying hu]
  · have hg : (getObj b).run P w = .ok (.map entries clock) w := by simp [getObj, Sem.run, hb]
    cases res with
    | none => cases ok <;> simp [Instr.lookup, run_underlying hu, hg, hck, hfk, zeroValue, typeInfo, hi, hz]
    | some p => obtain ⟨j, v⟩ := p; cases ok <;> simp [Instr.lookup, run_underlying hu, hg, hck, hfk]

theorem tup2 {x y : DV} {vx vy : Value} (hx : VR c x vx) (hy : VR c y vy) : VR c (.tup [x, y]) (.tuple #[vx, vy]) := by
  refine .tup (ds := [x, y]) (vs := [vx, vy]) rfl (fun i h1 h2 => ?_)
  match i, h1, h2 with
  | 0, _, _ => exact hx
  | 1, _, _ => exact hy

theorem s_lookup {t key e : TypeId} {sz bytes : Nat} {z : DV} {q : EqT} {ok : Bool} {x y : Operand} {x' y' : Opd} (ho : o.op = .lookup t x y ok) (hu : P.underlying t = some (.map key e)) (he : elemOf' P e = some (sz, bytes, z)) (hq : eqT P key = some q)
    (hx : opd x = some x') (hy : opd y = some y') (hR : Rel h c) (hE : EnvR c env a) (hs : stepOp h env (.lookup q z ok x' y') = some (r, h')) : Steps0 P h c o a h' r := by
  have vx := opd_VR hx hE
  have vy := opd_VR hy hE
  obtain ⟨i, z0, hi, e1, e2, hz, hzd, hsz, hst⟩ := elem_facts he
  simp only [stepOp] at hs
  split at hs
  · rename_i es hes
    split at hs
    · rename_i hsome
      have hget : ∃ (es' : List (DV × DV)) (entries : Array MapEntry), es.Perm es' ∧ EntsR c es' entries.toList ∧ ((a.eval x = .map none ∧ entries = #[]) ∨ ∃ b clock, a.eval x = .map (some b) ∧ c.w.heap[b]? = some (.map entries clock)) := by
        split at hes
        · rename_i hv
          cases hes
          rw [hv] at vx
          exact ⟨[], #[], .refl _, ⟨rfl, by simp⟩, .inl ⟨vx.nmap_inv, rfl⟩⟩
        · rename_i id hv
          split at hes
          · rename_i es' hg
            cases hes
            rw [hv] at vx
            obtain ⟨b, hvx, hρ⟩ := vx.map_inv
            obtain ⟨es', entries, clock, hp, h2, h3⟩ := hR.mapo hg hρ
            exact ⟨es', entries, hp, h3, .inr ⟨b, clock, hvx, h2⟩⟩
          · cases hes
        · cases hes
      obtain ⟨es', entries, hperm, hent, hget⟩ := hget
      have hck := checkKey_ok (P := P) hq vy hsome entries.isEmpty c.w
      split at hs
      · rename_i j v hf
        simp only [Option.some.injEq, Prod.mk.injEq] at hs
        obtain ⟨rfl, rfl⟩ := hs
        obtain ⟨j0, e0, hf', _, _⟩ := findU_perm hperm hf
        obtain ⟨res', g1, g2⟩ := findKey_sound (P := P) hq vy c.w hent hf'
        cases res' with
        | none => exact g2.elim
        | some p =>
          obtain ⟨j', u⟩ := p
          have hrun := run_lookup' (P := P) (ok := ok) hu hi hz hget hck g1
          refine Steps0.value (if ok then .tuple #[u, .bool true] else u) (by simp [execOp, ho, hrun]) ?_
          cases ok
          · exact g2.2.1
          · exact tup2 g2.2.1 (.bool true)
      · rename_i hf
        simp only [Option.some.injEq, Prod.mk.injEq] at hs
        obtain ⟨rfl, rfl⟩ := hs
        obtain ⟨res', g1, g2⟩ := findKey_sound (P := P) hq vy c.w hent (findU_perm hperm hf)
        cases res' with
        | some p => exact g2.elim
        | none =>
          have hrun := run_lookup' (P := P) (ok := ok) hu hi hz hget hck g1
          refine Steps0.value (if ok then .tuple #[z0, .bool false] else z0) (by simp [execOp, ho, hrun]) ?_
          cases ok
          · exact constD_VR hzd c
          · exact tup2 (constD_VR hzd c) (.bool false)
      · cases hs
    · cases hs
  · cases hs

theorem s_makeMap {t : TypeId} (ho : o.op = .makeMap t none) (hR : Rel h c) (_hE : EnvR c env a) (hs : stepOp h env .makeMap = some (r, h')) : Steps1 P h c o a h' r := by
  simp only [stepOp, Option.some.injEq, Prod.mk.injEq] at hs
  obtain ⟨rfl, rfl⟩ := hs
  obtain ⟨k1, k2⟩ := hR.push (.mp []) { c.w with heap := c.w.heap.push (.map #[] 0) } c.w.heap.size 0 (Nat.le_refl _) (by simp) (fun k hk => by simp [Array.getElem?_push]; omega) (.push rfl trivial rfl rfl) (fun hle => by
    exact ⟨[], .refl _, c.w.heap.size, #[], 0, by simp [Ctx.next], (by show (c.w.heap.push (.map #[] 0))[c.w.heap.size]? = _; simp), rfl, fun i h1 _ => absurd h1 (by simp)⟩)
  refine ⟨.value (.map (some c.w.heap.size)), _, { c.w with heap := c.w.heap.push (.map #[] 0) }, by simp [execOp, ho, Instr.makeMap], .inl rfl, _, k1, k2, .map (by simp [Ctx.next])⟩

theorem sameBits_ok {q : EqT} {d d' : DV} {x x' : Value} (hb : eqBy q d d' = some true) (hx : VR c d x) (hx' : VR c d' x') (n : Nat) : Instr.sameBits (n + 1) x' x = true := by
  have prim : ∀ (k n : Nat) (e e' : DV) (u u' : Value), primEq k e e' = some true → VR c e u → VR c e' u' → Instr.sameBits n u' u = true := by
    intro k n e e' u u' hp hu hu'
    cases hu <;> cases hu' <;> simp [primEq] at hp
    · obtain ⟨_, rfl⟩ := hp; simp [Instr.sameBits]
    · obtain ⟨⟨_, rfl⟩, rfl⟩ := hp; simp [Instr.sameBits]
    · obtain ⟨_, rfl⟩ := hp; simp only [Instr.sameBits]; rw [beq_toListBytes]; simp
  cases q with
  | prim k => exact prim k _ _ _ _ _ hb hx hx'
  | agg ks =>
    cases hx <;> simp only [eqBy] at hb <;> try (cases hb; done)
    cases hx' <;> simp only at hb <;> try (cases hb; done)
    rename_i ds vs hl h1 hv ds' vs' hl' h1' hv'
    have hlen : vs.length = vs'.length := by
      have := cellsEq_len _ _ _ _ hb
      first | omega | (simp_all)
    have all : ∀ (ks : List Nat) (ds ds' : List DV) (vs vs' : List Value), VRs c ds vs → VRs c ds' vs' → cellsEq ks ds ds' = some true → (vs'.zip vs).all (fun (x, y) => Instr.sameBits n x y) = true := by
      intro ks
      induction ks with
      | nil =>
        intro ds ds' vs vs' g1 g2 g3
        cases ds <;> cases ds' <;> simp [cellsEq] at g3
        have : vs = [] := List.eq_nil_of_length_eq_zero g1.1.symm
        subst this
        simp
      | cons k ks ih =>
        intro ds ds' vs vs' g1 g2 g3
        cases ds with
        | nil => simp [cellsEq] at g3
        | cons e ds =>
          cases ds' with
          | nil => simp [cellsEq] at g3
          | cons e' ds' =>
            cases vs with
            | nil => have := g1.1; simp at this
            | cons v vs =>
              cases vs' with
              | nil => have := g2.1; simp at this
              | cons v' vs' =>
                simp only [cellsEq] at g3
                split at g3
                · rename_i b hbb
                  split at g3
                  · rename_i b' hb'
                    simp only [Option.some.injEq, Bool.and_eq_true] at g3
                    obtain ⟨rfl, rfl⟩ := g3
                    have t1 : VRs c ds vs := ⟨by simpa using g1.1, fun i h1 h2 => by have := g1.2 (i + 1) (by simpa using h1) (by simpa using h2); simpa using this⟩
                    have t2 : VRs c ds' vs' := ⟨by simpa using g2.1, fun i h1 h2 => by have := g2.2 (i + 1) (by simpa using h1) (by simpa using h2); simpa using this⟩
                    have p0 := prim k n e e' v v' hbb (g1.2 0 (by simp) (by simp)) (g2.2 0 (by simp) (by simp))
                    simp only [List.zip_cons_cons, List.all_cons, Bool.and_eq_true]
                    exact ⟨p0, ih ds ds' vs vs' t1 t2 hb'⟩
                  · cases g3
                · cases g3
    have := all ks ds ds' vs vs' ⟨by assumption, by assumption⟩ ⟨by assumption, by assumption⟩ hb
    simp only [Instr.sameBits, List.size_toArray, hlen, Bool.and_eq_true, beq_self_eq_true, true_and]
    exact this

theorem findE_some {q : EqT} {d : DV} : ∀ (es : List (DV × DV)) (i j : Nat) (v : DV), findE q d es i = some (some (j, v)) → ∃ idx e, j = i + idx ∧ es[idx]? = some e ∧ eqBy q d e.1 = some true
  | [], i, j, v, hf => by simp [findE] at hf
  | e :: es, i, j, v, hf => by
    obtain ⟨k', v'⟩ := e
    simp only [findE] at hf
    split at hf
    · rename_i hb
      cases hf
      exact ⟨0, _, rfl, rfl, hb⟩
    · obtain ⟨idx, e, h1, h2, h3⟩ := findE_some es (i + 1) j v hf
      exact ⟨idx + 1, e, by omega, by simpa using h2, h3⟩
    · cases hf

/-- A map's entries turned. -/
theorem post_map (hR : Rel h c) {id : Nat} {es es1 es' : List (DV × DV)} (hp : es1.Perm es') (hg : h.get id = some (.mp es)) {b base : Nat} (hρ : c.ρ id = some (b, base)) {entries entries' : Array MapEntry} {clock clock' : Nat} (h2 : c.w.heap[b]? = some (.map entries clock)) (hent : EntsR c es' entries'.toList) :
    Post h c (h.set id (.mp es1)) { c.w with heap := c.w.heap.setIfInBounds b (.map entries' clock') } (.tup []) undef := by
  have hb := (Array.getElem?_eq_some_iff.1 h2).1
  have hbase : base = 0 := by
    obtain ⟨_, _, b', en, cl, q1, q2, q3, q4⟩ := hR.obj id _ hg
    rw [hρ] at q1; cases q1; rfl
  subst hbase
  obtain ⟨k1, k2⟩ := hR.set (.mp es1) hg rfl rfl hρ { c.w with heap := c.w.heap.setIfInBounds b (.map entries' clock') } (by simp) (fun k hk => by simp [Array.getElem?_setIfInBounds_ne (Ne.symm hk)]) (fun e n hs => by simp [World.shape?, h2] at hs) (.at h2 (ob' := .map entries' clock') (by simp [hb]) (fun k hk => by simp [Array.getElem?_setIfInBounds_ne (Ne.symm hk)]) trivial trivial rfl rfl) (fun hle => by
    refine ⟨es', hp, b, entries', clock', hρ, by simp [Ctx.next, hb], by simpa using hent.1, fun i a1 a2 => ?_⟩
    have := hent.2 i _ _ (List.getElem?_eq_getElem a1) (by rw [Array.getElem?_toList]; exact Array.getElem?_eq_getElem a2)
    exact ⟨this.1.mono hle, this.2.mono hle⟩)
  exact ⟨_, k1, k2, .tup (ds := []) (vs := []) rfl (fun i h1 _ => absurd h1 (by simp))⟩

theorem run_setObj {b : Nat} {w : World} {entries : Array MapEntry} {clock : Nat} (h2 : w.heap[b]? = some (.map entries clock)) (ob : Obj) : (setObj b ob).run P w = .ok () { w with heap := w.heap.setIfInBounds b ob } := by
  simp [setObj, Sem.run, h2]

theorem s_mapUpdate {t key e : TypeId} {q : EqT} {x y v : Operand} {x' y' v' : Opd} (ho : o.op = .mapUpdate t x y v ∨ o.op = .insert t x y v) (hu : P.underlying t = some (.map key e)) (hq : eqT P key = some q)
    (hx : opd x = some x') (hy : opd y = some y') (hv : opd v = some v') (hR : Rel h c) (hE : EnvR c env a) (hs : stepOp h env (.mapUpdate q x' y' v') = some (r, h')) : Steps1 P h c o a h' r := by
  have vx := opd_VR hx hE
  have vy := opd_VR hy hE
  have vv := opd_VR hv hE
  have hex : execOp a.eval o = (do Instr.mapUpdate t (a.eval x) (a.eval y) (a.eval v); pure .skip) := by rcases ho with ho | ho <;> simp [execOp, ho]
  simp only [stepOp] at hs
  split at hs
  · rename_i id hid
    split at hs
    · rename_i es hg
      split at hs
      · rename_i hcond
        obtain ⟨hlim, hsome⟩ := hcond
        rw [hid] at vx
        obtain ⟨b, hvx, hρ⟩ := vx.map_inv
        obtain ⟨es', entries, clock, hperm, h2, hent⟩ := hR.mapo hg hρ
        have hck := checkKey_ok (P := P) hq vy hsome false c.w
        have hgo : (getObj b).run P c.w = .ok (.map entries clock) c.w := by simp [getObj, Sem.run, h2]
        split at hs
        · rename_i i0 u hf
          simp only [Option.some.injEq, Prod.mk.injEq] at hs
          obtain ⟨rfl, rfl⟩ := hs
          obtain ⟨j, e1, hf', hi1, hi2⟩ := findU_perm hperm hf
          obtain ⟨res', g1, g2⟩ := findKey_sound (P := P) hq vy c.w hent hf'
          obtain ⟨idx, e0, q1, q2, q3⟩ := findE_some es' 0 j u hf'
          rw [Nat.zero_add] at q1
          subst q1
          have hps := perm_set_set hperm hi1 hi2 (y'.eval env, v'.eval env)
          generalize hset : es.set i0 (y'.eval env, v'.eval env) = es1 at hps
          cases res' with
          | none => exact g2.elim
          | some p =>
            obtain ⟨j', u'⟩ := p
            obtain ⟨rfl, _, _, hjl⟩ := g2
            rw [Nat.zero_add] at hjl
            have hjl' : j < entries.size := by have := hent.1; simp at this; omega
            have hek : entries[j]? = some entries[j] := Array.getElem?_eq_getElem hjl'
            have hent0 := hent.2 j e0 entries[j] q2 (by rw [Array.getElem?_toList]; exact hek)
            have hsame := sameBits_ok (c := c) q3 vy hent0.1 9999
            have hso := run_setObj (P := P) h2 (.map (entries.modify j fun en => { en with key := a.eval y, val := a.eval v }) clock)
            refine ⟨.skip, undef, _, ?_, .inr ⟨rfl, rfl⟩, post_map hR hps hg hρ h2 (entries' := entries.modify j fun en => { en with key := a.eval y, val := a.eval v }) (clock' := clock) ?_⟩
            · rw [hex]
              have hkeep : (Instr.keyThatStays entries[j].key (a.eval y)).run P c.w = .ok (a.eval y) c.w := by simp [Instr.keyThatStays, hsame]
              simp only [Instr.mapUpdate, hvx, Sem.run_bind, run_underlying hu, Result.andThen_ok, hgo, hck, g1, hek, Option.map_some, Option.getD_some, hkeep, hso, Sem.run_pure]
            · refine ⟨by simp [hent.1], fun k e1 m1 h3 h4 => ?_⟩
              rw [List.getElem?_set] at h3
              rw [Array.getElem?_toList, Array.getElem?_modify] at h4
              by_cases hk : j = k
              · subst hk
                rw [if_pos rfl, if_pos hjl] at h3
                rw [if_pos rfl, hek] at h4
                cases h3; cases h4
                exact ⟨vy, vv⟩
              · rw [if_neg hk] at h3 h4
                exact hent.2 k e1 m1 h3 (by rw [Array.getElem?_toList]; exact h4)
        · rename_i hf
          simp only [Option.some.injEq, Prod.mk.injEq] at hs
          obtain ⟨rfl, rfl⟩ := hs
          obtain ⟨res', g1, g2⟩ := findKey_sound (P := P) hq vy c.w hent (findU_perm hperm hf)
          have hps : (es ++ [(y'.eval env, v'.eval env)]).Perm (es' ++ [(y'.eval env, v'.eval env)]) := hperm.append_right _
          generalize hset : es ++ [(y'.eval env, v'.eval env)] = es1 at hps
          cases res' with
          | some p => exact g2.elim
          | none =>
            have hso := run_setObj (P := P) h2 (.map (entries.push { key := a.eval y, val := a.eval v, born := clock }) (clock + 1))
            refine ⟨.skip, undef, _, ?_, .inr ⟨rfl, rfl⟩, post_map hR hps hg hρ h2 (entries' := entries.push { key := a.eval y, val := a.eval v, born := clock }) (clock' := clock + 1) ?_⟩
            · rw [hex]
              simp only [Instr.mapUpdate, hvx, Sem.run_bind, run_underlying hu, Result.andThen_ok, hgo, hck, g1, hso, Sem.run_pure]
            · have hl := hent.1
              refine ⟨by simp at hl ⊢; exact hl, fun k e1 m1 h3 h4 => ?_⟩
              rw [List.getElem?_append] at h3
              rw [Array.getElem?_toList, Array.getElem?_push] at h4
              have hl' : es'.length = entries.size := by simpa using hl
              split at h3
              · rw [if_neg (by omega)] at h4
                exact hent.2 k e1 m1 h3 (by rw [Array.getElem?_toList]; exact h4)
              · have hk : k = es'.length := by
                  have := (List.getElem?_eq_some_iff.1 h3).1
                  simp at this; omega
                subst hk
                rw [if_pos (by omega)] at h4
                simp at h3
                cases h4; subst h3
                exact ⟨vy, vv⟩
        · cases hs
      · cases hs
    · cases hs
  · cases hs

end
end Go.Dm
