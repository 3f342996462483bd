/-
Part 25 of "Dm": a region with an open order does what the machine says, whatever order is picked.
-/
import Derived.Test.YtkhmbjajaibinaaGreatDoorDm24
namespace Go.Dm

theorem countP_lt {p p' : Nat → Bool} {i : Nat} (h1 : p i = true) (h2 : p' i = false) : ∀ (l : List Nat), (∀ x, x ∈ l → p' x = true → p x = true) → i ∈ l → l.countP p' < l.countP p := by
  intro l
  induction l with
  | nil => intro _ hi; cases hi
  | cons x l ih =>
    intro h hi
    have hmono : l.countP p' ≤ l.countP p := List.countP_mono_left fun y hy => h y (List.mem_cons_of_mem _ hy)
    simp only [List.countP_cons]
    rcases List.mem_cons.1 hi with e | hi'
    · subst e
      simp only [h1, h2, if_true, Bool.false_eq_true, if_false]
      omega
    · have := ih (fun y hy => h y (List.mem_cons_of_mem _ hy)) hi'
      cases hp' : p' x with
      | false => simp only [Bool.false_eq_true, if_false]; omega
      | true => simp only [h x (List.mem_cons_self ..) hp', if_true]; omega

theorem cls_touches {d : DOp} (hd : d.cls = .env ∨ d.cls = .read) : touches d = false := by
  unfold DOp.cls at hd
  split at hd
  all_goals first | rfl | (rcases hd with h | h <;> (cases h; done)) | skip
  · split at hd
    · rcases hd with h | h <;> cases h
    · rename_i h; simpa using h

theorem rankAt_eq {dis : List (Nat × DOper)} {p : Nat} : rankAt dis p = rankD (dis.map (·.2)) p := by
  unfold rankAt rankD
  rw [← List.map_take, List.filter_map, List.length_map]
  rfl

section
variable {P : Program} {call : CallF} {ops : List Oper} {dis : List (Nat × DOper)} {bs : List Nat} {E : Nat → Env} {HS : Nat → List Heap} {LS : Nat → DLog} {V : Nat → DV} {B : Nat → Bool} {c ĉ ĉ1 : Ctx} {env : Env} {h : Heap}
  {listed : Array Bool} {a : Act} {k m0 : Nat}

theorem tmps_reads {d : DOper} {env env' : Env} (h : Agree d.reads env env') : Agree d.op.tmps env env' := fun t ht => h t (by simp [DOper.reads, ht])

theorem guard_reads {d : DOper} : ∀ t w, d.guard = some (t, w) → t ∈ d.reads := fun t w e => by simp [DOper.reads, e]

theorem fit_cls (F : Fit P ops dis bs) {p : Nat} {y : Nat × DOper} (hy : dis[p]? = some y) (hk : y.2.kind ≠ .read) : y.2.op.cls = .alloc ∨ y.2.op.cls = .heap := by
  have hkf := F.kind p y hy
  unfold kindFits at hkf
  cases hc : y.2.op.cls <;> rw [hc] at hkf <;> first | exact .inl rfl | exact .inr rfl | skip
  all_goals (cases hkk : y.2.kind <;> rw [hkk] at hkf <;> first | exact absurd hkk hk | cases hkf)

/-- What turns the heap comes up in its turn. -/
theorem heap_next (F : Fit P ops dis bs) (I : InvE ops dis HS V env listed a ĉ m0) (M : InvM dis E HS B c listed k ĉ) (hmax : Max dis listed k) {q : Nat} {x : Nat × DOper} {o : Oper} (U : Up ops dis listed q x o)
    (hcls : x.2.op.cls = .heap) (hk : x.2.kind ≠ .read) : q = k := by
  have hq : q < dis.length := (List.getElem?_eq_some_iff.1 U.hx).1
  rcases hmax with e | ⟨y, hy, hyk, hyL⟩
  · exact absurd (M.front q x (by omega) U.hx hk) U.not
  · rcases Nat.lt_trichotomy q k with h1 | h1 | h1
    · exact absurd (M.front q x h1 U.hx hk) U.not
    · exact h1
    · cases hb : bitAt bs x.1 y.1 with
      | true => exact absurd (ready_sure F I U (fit_lt F hy) hb) hyL
      | false =>
        have hf := fit_free F h1 hy U.hx hb
        have hkf := F.kind k y hy
        unfold kindFits at hkf
        simp only [freeP, hcls, Bool.and_eq_true] at hf
        have hf := hf.2
        cases hc : y.2.op.cls <;> rw [hc] at hf hkf <;> simp only at hf hkf
        · cases hkk : y.2.kind <;> rw [hkk] at hkf <;> simp only at hkf <;> first | exact absurd hkk hyk | cases hkf
        · cases hkk : y.2.kind <;> rw [hkk] at hkf <;> simp only at hkf <;> first | exact absurd hkk hyk | cases hkf
        · cases hf
        · cases hf

/-- One that only reads. -/
theorem read_up (F : Fit P ops dis bs) (T : Trace call (dis.map (·.2)) env [h] .start E HS LS V B) (hc : CallKeeps call) (hl : h.lim ≤ h.n) (I : InvE ops dis HS V env listed a ĉ (headH (HS k)).n) (M : InvM dis E HS B c listed k ĉ) (hmax : Max dis listed k)
    {q : Nat} {x : Nat × DOper} {o : Oper} (U : Up ops dis listed q x o) (hop : compOp P o = some x.2.op) (hk : x.2.kind = .read) (hb : B q = true) :
    headH (HS (q + 1)) = headH (HS q) ∧ ∃ nx v, (execOp a.eval o).run P ĉ.w = .ok nx ĉ.w ∧ (nx = .value v ∨ (nx = .skip ∧ v = Go.undef)) ∧ VR (ĉ.cut (max (headH (HS q)).n (headH (HS k)).n)) (V q) v := by
  have hq : q < dis.length := (List.getElem?_eq_some_iff.1 U.hx).1
  have hk' : k ≤ (dis.map (·.2)).length := by simpa using M.k_le
  refine ⟨T.same U.hx (.inl hk), ?_⟩
  obtain ⟨⟨hw, g, gs, hg, hf, ht⟩, _⟩ := T.step q x.2 (map_get U.hx)
  have hkf := F.kind q x U.hx
  have hcls : x.2.op.cls = .env ∨ x.2.op.cls = .read := by
    unfold kindFits at hkf
    rw [hk] at hkf
    cases hc : x.2.op.cls <;> rw [hc] at hkf <;> first | exact .inl rfl | exact .inr rfl | cases hkf
  have htc := cls_touches hcls
  rcases ht hb with ⟨_, _, ⟨h0, h1, hs0, hst⟩, hfree, hlog⟩ | ⟨hk2, _⟩ | ⟨hk2, _⟩ | ⟨hk2, _⟩
  rotate_left
  · rw [hk] at hk2; cases hk2
  · rw [hk] at hk2; cases hk2
  · rw [hk] at hk2; cases hk2
  obtain ⟨h2, p1, p2, p3⟩ := M.rel.pad (max (headH (HS q)).n (headH (HS k)).n - (headH (HS k)).n)
  have hmx : (headH (HS k)).n + (max (headH (HS q)).n (headH (HS k)).n - (headH (HS k)).n) = max (headH (HS q)).n (headH (HS k)).n := by omega
  rw [hmx] at p1
  have hEm := mask_env F T hc hl I U
  have hst2 : stepOp h2 (maskE (E q) x.2.reads) x.2.op = some (V q, h2) := by
    rw [stepOp_congr (tmps_reads maskE_agree)] at hst
    by_cases henv : x.2.op.cls = .env
    · exact stepOp_env henv hst
    · have hrd := hcls.resolve_left henv
      refine stepOp_growsT ?_ htc hst
      obtain ⟨m, a1, a2, a3⟩ := T.snap q (by simp; omega) _ _ hs0
      have hmk : m ≤ k := by
        rcases hmax with e | ⟨y, hy, hyk, hyL⟩
        · omega
        · refine Nat.le_of_not_lt fun hlt => hyL ?_
          have hpair := (F.pair k q y x (by omega) hy U.hx).2.2
          simp only [pairOk, Bool.and_eq_true] at hpair
          have h4 := hpair.1.2
          have hr1 := rankD_succ (map_get hy)
          rw [if_neg hyk] at hr1
          have hr2 : rankD (dis.map (·.2)) (k + 1) ≤ rankD (dis.map (·.2)) m := rankD_mono (by omega)
          have hlt2 : rankAt dis k < x.2.snap := by rw [rankAt_eq]; omega
          have hne : (y.2.kind != .read) = true := by simpa using hyk
          simp only [hrd, hne, beq_self_eq_true, Bool.and_self, Bool.not_true, Bool.false_or, if_pos hlt2] at h4
          exact ready_sure F I U (fit_lt F hy) h4
      have hgr := T.grows hc hl a3 k hmk hk' (fun p d g1 g2 hd hdk => by
        obtain ⟨y, hy, e⟩ := get_map hd
        subst e
        have hyL := M.front p y g2 hy hdk
        have hne : (y.2.kind != .read) = true := by simpa using hdk
        rcases Nat.lt_trichotomy p q with hh | hh | hh
        · have hpair := (F.pair p q y x hh hy U.hx).2.2
          simp only [pairOk, Bool.and_eq_true] at hpair
          have h4 := hpair.1.2
          have hr2 : rankD (dis.map (·.2)) m ≤ rankD (dis.map (·.2)) p := rankD_mono g1
          have hlt2 : ¬ rankAt dis p < x.2.snap := by rw [rankAt_eq]; omega
          simp only [hrd, hne, beq_self_eq_true, Bool.and_self, Bool.not_true, Bool.false_or, if_neg hlt2, Bool.or_eq_true, Bool.and_eq_true, beq_iff_eq, decide_eq_true_eq] at h4
          rcases h4 with h4 | h4
          · exact .inl h4
          · exact .inr ⟨h4.1.2, h4.2⟩
        · subst hh
          have : y = x := Option.some.inj (hy.symm.trans U.hx)
          subst this
          exact absurd hk hdk
        · by_cases hal : y.2.op.cls = .alloc
          · exact .inl hal
          · have hhp : y.2.op.cls = .heap := (fit_cls F hy hdk).resolve_left hal
            have hpair := (F.pair q p x y hh U.hx hy).2.2
            simp only [pairOk, Bool.and_eq_true] at hpair
            have h4 := hpair.2
            cases hbb : bitAt bs y.1 x.1 with
            | true => exact absurd (sure_listed F I y.1 hyL x.1 (fit_lt F U.hx) hbb) U.not
            | false =>
              simp only [hrd, hhp, hbb, beq_self_eq_true, Bool.and_self, Bool.not_true, Bool.false_or, Bool.or_false, Bool.and_eq_true, beq_iff_eq, decide_eq_true_eq] at h4
              exact .inr ⟨h4.1, by omega⟩)
        (fun p d hd ha => by
          obtain ⟨y, hy, e⟩ := get_map hd
          subst e
          exact alloc_kind F hy ha)
      intro id ob htgt hget _
      have htgt' : target (E q) x.2.op = some id := by rw [target_congr (tmps_reads maskE_agree)]; exact htgt
      have hid := get_lt hget
      rw [a2] at hget hid
      have hid2 : id < (headH (HS k)).n := Nat.lt_of_lt_of_le hid (T.keeps hc hl hmk hk').n
      rw [p3 id hid2, hgr id hid (fun p d g1 g2 hd hdk hpk hL => by
        rcases Nat.lt_trichotomy p q with hh | hh | hh
        · have h6 := (T.logs (m := p + 1) q (by omega) (by simp; omega)).2 ((HS p).length - 1, id) hL
          rw [htgt'] at hfree
          have h7 := List.all_eq_true.1 hfree _ h6
          have h8 := (T.shape p (by simp; omega)).2
          have hr2 : rankD (dis.map (·.2)) m ≤ rankD (dis.map (·.2)) p := rankD_mono g1
          have hid0 : Nat.beq id id = true := Nat.beq_refl id
          simp only [hid0, Bool.not_true, Bool.or_false] at h7
          have h9 : (HS p).length - 1 + 1 ≤ x.2.snap := Nat.le_of_ble_eq_true h7
          omega
        · subst hh
          obtain ⟨y, hy, e⟩ := get_map hd
          subst e
          have : y = x := Option.some.inj (hy.symm.trans U.hx)
          subst this
          rw [hk] at hdk; cases hdk
        · have h6 := (T.logs (m := q + 1) p (by omega) (by have := (List.getElem?_eq_some_iff.1 hd).1; omega)).1 id (by rw [hlog, htgt']; exact List.mem_cons_self ..)
          have := List.all_eq_true.1 hpk _ h6
          simp at this)]
      exact hget
  obtain ⟨_, nx, v, r1, r2, r3⟩ := read_sound hop htc p1 hEm hst2
  exact ⟨nx, v, r1, r2, r3⟩

theorem draw_step (F : Fit P ops dis bs) (T : Trace call (dis.map (·.2)) env [h] .start E HS LS V B) (hc : CallKeeps call) (hcall : CallSound P call) (hl : h.lim ≤ h.n) (I : InvE ops dis HS V env listed a ĉ (headH (HS k)).n) (M : InvM dis E HS B c listed k ĉ)
    (hmax : Max dis listed k) {q : Nat} {x : Nat × DOper} {o : Oper} (U : Up ops dis listed q x o) {K : Act → World → Prop} {Q : Exit → Act → World → Prop}
    (hK : ∀ a' ĉ1 k1, InvE ops dis HS V env (listed.setIfInBounds x.1 true) a' ĉ1 (headH (HS k1)).n → InvM dis E HS B c (listed.setIfInBounds x.1 true) k1 ĉ1 → Max dis (listed.setIfInBounds x.1 true) k1 → K a' ĉ1.w) :
    wpOp P ops.toArray Q x.1 K a ĉ.w := by
  have fin : ∀ a' ĉ1 k1 m1, m1 ≤ (headH (HS k1)).n → InvE ops dis HS V env (listed.setIfInBounds x.1 true) a' ĉ1 m1 → InvM dis E HS B c (listed.setIfInBounds x.1 true) k1 ĉ1 → K a' ĉ1.w := by
    intro a' ĉ1 k1 m1 hm I1 M1
    obtain ⟨k2, ĉ2, _, g1, g2, g3, g4, g5⟩ := M1.advance F T hc hl _ k1 ĉ1 rfl
    rw [← g2]
    exact hK a' ĉ2 k2 (I1.mono g3 (by omega)) g4 g5
  have hq : q < dis.length := (List.getElem?_eq_some_iff.1 U.hx).1
  have hnq := (T.keeps hc hl (by omega : q ≤ q + 1) (by simp; omega)).n
  obtain ⟨o', kk, ss, ho', hcomp⟩ := F.comp q x U.hx
  have hoo : o' = o := Option.some.inj (ho'.symm.trans U.ho)
  subst hoo
  obtain ⟨hop, hguard, hdst, _, _⟩ := compOper_inv hcomp
  obtain ⟨⟨hw, g, gs, hg, hf, ht⟩, _⟩ := T.step q x.2 (map_get U.hx)
  have hgq : headH (HS q) = g := by rw [hg]; rfl
  have hEm := mask_env F T hc hl I U
  have hwant := wanted_sound hguard hEm (b := B q) (by rw [wanted_mask guard_reads]; exact hw)
  have hkf := F.kind q x U.hx
  unfold wpOp
  have hoa : ops.toArray[x.1]? = some o' := by simpa using U.ho
  simp only [hoa, hwant]
  rw [← hdst]
  have ge : x.2.kind ≠ .read → k ≤ q := fun hk => Nat.le_of_not_lt fun hlt => U.not (M.front q x hlt U.hx hk)
  have hcls : x.2.kind ≠ .read → x.2.op.cls = .alloc ∨ x.2.op.cls = .heap := by
    intro hk
    unfold kindFits at hkf
    cases hc : x.2.op.cls <;> rw [hc] at hkf <;> first | exact .inl rfl | exact .inr rfl | skip
    all_goals (cases hkk : x.2.kind <;> rw [hkk] at hkf <;> first | exact absurd hkk hk | cases hkf)
  cases hb : B q with
  | false =>
    rw [if_neg (by simp)]
    have hV := (hf hb).1
    by_cases hk : x.2.kind = .read
    · exact fin _ ĉ k _ (Nat.le_refl _) (I.mark F (fun _ => .refl _) (Nat.le_refl _) U (by rw [hV]; exact .undef)) (M.same F I U hk)
    · rcases hcls hk with ha | hh
      · exact fin _ ĉ k _ (Nat.le_refl _) (I.mark F (fun _ => .refl _) (Nat.le_refl _) U (by rw [hV]; exact .undef)) (M.idle F I U ha hb)
      · have hqk := heap_next F I M hmax U hh hk
        subst hqk
        have hsame := T.same U.hx (.inr hb)
        obtain ⟨ĉ1, e1, e2, e3, e4⟩ := M.turn F T hc hl I U (w' := ĉ.w) (v := Go.undef) (d := undefD) (by rw [hsame]; exact Post.pure M.rel .undef)
        rw [← e1]
        exact fin _ ĉ1 (q + 1) (headH (HS (q + 1))).n (Nat.le_refl _) (I.mark F e2 hnq U (by rw [hV]; exact .undef)) e3
  | true =>
    rw [if_pos rfl]
    refine .inl ?_
    by_cases hk : x.2.kind = .read
    · obtain ⟨hsame, nx, v, r1, r2, r3⟩ := read_up F T hc hl I M hmax U hop hk hb
      unfold Oper.wp
      rw [r1]
      have key : K (a.put x.2.dst v) ĉ.w := fin _ ĉ k _ (Nat.le_refl _) (I.mark F (fun _ => .refl _) (Nat.le_refl _) U (by rw [hsame]; exact r3)) (M.same F I U hk)
      rw [hdst] at key
      rcases r2 with rfl | ⟨rfl, rfl⟩
      · exact key
      · exact key
    · rcases hcls hk with ha | hh
      · obtain ⟨ety, sz, xs, hm1, e1, e2⟩ := T.alloc (map_get U.hx) ha (alloc_kind F U.hx ha) hb
        have hnk2 : max (headH (HS q)).n (headH (HS k)).n = (headH (HS q)).n := by
          have := (T.keeps hc hl (ge hk) (by simp; omega)).n
          omega
        rw [hnk2] at hEm
        have hm2 : made (maskE (E q) x.2.reads) x.2.op = some (ety, sz, xs) := by rw [← made_congr (tmps_reads maskE_agree)]; exact hm1
        obtain ⟨w', cur, val, r1, r2, r3, r4, r5, r6, r7, r8, r9, r10⟩ := made_run hop ha hEm hm2
        obtain ⟨ĉ1, f1, f2, f3, f4⟩ := M.early F T hc hl I U (ge hk) ha hm1 hb r2 r3 r4 r5 r6 r7 r8 r9
        unfold Oper.wp
        have r1' : (execOp a.eval o').run P ĉ.w = .ok (.value val) w' := r1
        rw [r1']
        have key : K (a.put x.2.dst val) ĉ1.w := by
          refine fin _ ĉ1 k _ (Nat.le_refl _) (I.mark F f2 (Nat.le_refl _) U ?_) f3
          rw [e1, e2]
          refine r10 _ _ (by rw [cut_lt (by rw [n_push]; omega)]; exact f4) ?_
          show World.shape? ĉ1.w ĉ.w.heap.size = _
          have r5' : w'.heap[ĉ.w.heap.size]? = some (.cells cur ety (0, 0)) := r5
          rw [f1]
          simp only [World.shape?, r5', r7]
        rw [f1, hdst] at key
        exact key
      · have hqk := heap_next F I M hmax U hh hk
        subst hqk
        have hEk : EnvR (ĉ.cut (headH (HS q)).n) (maskE (E q) x.2.reads) a := by rw [Nat.max_self] at hEm; exact hEm
        have go : ∀ v w', Post (headH (HS q)) (ĉ.cut (headH (HS q)).n) (headH (HS (q + 1))) w' (V q) v → K (a.put o'.dst v) w' := by
          intro v w' hp
          obtain ⟨ĉ1, e1, e2, e3, e4⟩ := M.turn F T hc hl I U hp
          rw [← e1, ← hdst]
          exact fin _ ĉ1 (q + 1) (headH (HS (q + 1))).n (Nat.le_refl _) (I.mark F e2 hnq U (by rw [Nat.max_self]; exact e4)) e3
        rcases ht hb with ⟨hk2, _⟩ | ⟨_, _, h1, s1, s2⟩ | ⟨_, _, h0, h1, s0, s1, s2⟩ | ⟨_, ids, h1, s1, _, _, s2, _⟩
        rotate_right
        · rw [oneOp_congr (tmps_reads maskE_agree), ← hgq] at s1
          have hh1 : headH (HS (q + 1)) = h1 := by rw [s2]; rfl
          exact one_sound hcall hop M.rel hEk s1 K Q (fun v w' hp => go v w' (by rw [hh1]; exact hp))
        · exact absurd hk2 hk
        · rw [oneOp_congr (tmps_reads maskE_agree), ← hgq] at s1
          have hh1 : headH (HS (q + 1)) = h1 := by rw [s2]; rfl
          exact one_sound hcall hop M.rel hEk s1 K Q (fun v w' hp => go v w' (by rw [hh1]; exact hp))
        · have hh1 : headH (HS (q + 1)) = h1 := by rw [s2]; rfl
          unfold heapOp at s1
          split at s1
          · rename_i v2 h2 s3
            cases s1
            rw [oneOp_congr (tmps_reads maskE_agree), ← hgq] at s3
            obtain ⟨m, a1, a2, _⟩ := T.snap q (by simp; omega) _ _ s0
            have hkk := T.keeps1 hc hl q (by simp; omega)
            have hlim : max h0.n (headH (HS q)).lim ≤ (headH (HS q)).n := Nat.max_le.2 ⟨by rw [a2]; exact (hkk.2 m a1).n, hkk.1⟩
            have hk2 := (oneOp_keeps hc (h := { headH (HS q) with lim := max h0.n (headH (HS q)).lim }) hlim s3).n
            refine one_sound hcall hop (M.rel.setLim hlim) hEk s3 K Q (fun v w' hp => go v w' ?_)
            obtain ⟨ρ', p1, p2, p3⟩ := hp
            rw [hh1, ← hgq]
            exact ⟨ρ', p1.setLim (Nat.le_trans hkk.1 hk2), p2, p3⟩
          · cases s1

end
end Go.Dm
