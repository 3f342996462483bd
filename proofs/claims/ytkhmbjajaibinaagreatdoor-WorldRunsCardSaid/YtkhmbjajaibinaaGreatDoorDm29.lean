/-
Part 29 of "Dm" (ahead of part 27): a call on a row of unknown capacity, run under each capacity that makes a difference.
-/
import Derived.Test.YtkhmbjajaibinaaGreatDoorDm26
namespace Go.Dm

/-- What names only objects below a number holds where the others are forgotten. -/
theorem VR.belowN {c : Ctx} {d : DV} {v : Value} (h : VR c d v) {N : Nat} : ∀ n, Dm.below n N d = true → VR (c.cut N) d v := by
  induction h with
  | unk v => intro n _; exact .unk v
  | bool b => intro n _; exact .bool b
  | int k m => intro n _; exact .int k m
  | atl h => intro n _; exact .atl h
  | tok h => intro n _; exact .tok h
  | str s => intro n _; exact .str s
  | nilp => intro n _; exact .nilp
  | ptr h =>
    intro n hb
    cases n with
    | zero => simp [Dm.below] at hb
    | succ n =>
      simp only [Dm.below, decide_eq_true_eq] at hb
      exact .ptr (by rw [cut_lt hb]; exact h)
  | iptr vals hb hO hX hc hv _ => intro n _; exact .iptr vals hb hO hX hc hv
  | nsl a => intro n _; exact .nsl a
  | sl h hs hn hl ho =>
    intro n hb
    cases n with
    | zero => simp [Dm.below] at hb
    | succ n =>
      simp only [Dm.below, decide_eq_true_eq] at hb
      exact .sl (by rw [cut_lt hb]; exact h) hs hn hl ho
  | isl0 a cap => intro n _; exact .isl0 a cap
  | isl vals hlen hcap hb hO hX hsz hc hv _ => intro n _; exact .isl vals hlen hcap hb hO hX hsz hc hv
  | nmap => intro n _; exact .nmap
  | map h =>
    intro n hb
    cases n with
    | zero => simp [Dm.below] at hb
    | succ n =>
      simp only [Dm.below, decide_eq_true_eq] at hb
      exact .map (by rw [cut_lt hb]; exact h)
  | func hl _ ih =>
    intro n hb
    cases n with
    | zero => simp [Dm.below] at hb
    | succ n =>
      simp only [Dm.below, List.all_eq_true] at hb
      exact .func hl fun i h1 h2 => ih i h1 h2 n (hb _ (List.getElem_mem h1))
  | nilf => intro n _; exact .nilf
  | iface _ ih =>
    intro n hb
    cases n with
    | zero => simp [Dm.below] at hb
    | succ n =>
      simp only [Dm.below] at hb
      exact .iface (ih n hb)
  | nili => intro n _; exact .nili
  | agg hl h1 _ ih =>
    intro n hb
    cases n with
    | zero => simp [Dm.below] at hb
    | succ n =>
      simp only [Dm.below, List.all_eq_true] at hb
      exact .agg hl h1 fun i h1 h2 => ih i h1 h2 n (hb _ (List.getElem_mem h1))
  | tup hl _ ih =>
    intro n hb
    cases n with
    | zero => simp [Dm.below] at hb
    | succ n =>
      simp only [Dm.below, List.all_eq_true] at hb
      exact .tup hl fun i h1 h2 => ih i h1 h2 n (hb _ (List.getElem_mem h1))

/-- What held when only the objects below a number were there names no others. -/
theorem VR.cut_old {c0 : Ctx} {d : DV} {v0 : Value} (h : VR c0 d v0) {N : Nat} (hd : ∀ id, c0.ρ id ≠ none → id < N) : ∀ {c : Ctx} {v : Value}, VR c d v → VR (c.cut N) d v := by
  induction h with
  | unk v => intro c v _; exact .unk v
  | bool b => intro c v h; cases h; exact .bool b
  | int k m => intro c v h; cases h; exact .int k m
  | atl h0 => intro c v h; cases h; exact .atl (by assumption)
  | tok h0 => intro c v h; cases h; exact .tok (by assumption)
  | str s => intro c v h; cases h; exact .str s
  | nilp => intro c v h; cases h; exact .nilp
  | ptr h0 =>
    intro c v h
    cases h with
    | ptr h1 => exact .ptr (by rw [cut_lt (hd _ (by rw [h0]; simp))]; exact h1)
  | iptr vals hb hO hX hc hv _ =>
    intro c v h
    cases h with
    | iptr vals hb hO hX hc hv => exact .iptr vals hb hO hX hc hv
  | nsl a => intro c v h; cases h; exact .nsl _
  | sl h0 _ _ _ _ =>
    intro c v h
    cases h with
    | sl h1 hs hn hl ho => exact .sl (by rw [cut_lt (hd _ (by rw [h0]; simp))]; exact h1) hs hn hl ho
  | isl0 a cap =>
    intro c v h
    cases h with
    | isl0 a cap => exact .isl0 a cap
    | isl vals hlen hcap hb hO hX hsz hc hv => exact .isl vals hlen hcap hb hO hX hsz hc hv
  | isl _ _ _ _ _ _ _ _ _ _ =>
    intro c v h
    cases h with
    | isl0 a cap => exact .isl0 a cap
    | isl vals hlen hcap hb hO hX hsz hc hv => exact .isl vals hlen hcap hb hO hX hsz hc hv
  | nmap => intro c v h; cases h; exact .nmap
  | map h0 =>
    intro c v h
    cases h with
    | map h1 => exact .map (by rw [cut_lt (hd _ (by rw [h0]; simp))]; exact h1)
  | func hl0 _ ih =>
    intro c v h
    cases h with
    | func hl hv => exact .func hl fun i h1 h2 => ih i h1 (by omega) hd (hv i h1 h2)
  | nilf => intro c v h; cases h; exact .nilf
  | iface _ ih =>
    intro c v h
    cases h with
    | iface h1 => exact .iface (ih hd h1)
  | nili => intro c v h; cases h; exact .nili
  | agg hl0 _ _ ih =>
    intro c v h
    cases h with
    | agg hl h1 hv => exact .agg hl h1 fun i h1 h2 => ih i h1 (by omega) hd (hv i h1 h2)
  | tup hl0 _ ih =>
    intro c v h
    cases h with
    | tup hl hv => exact .tup hl fun i h1 h2 => ih i h1 (by omega) hd (hv i h1 h2)

section
variable {h : Heap} {c : Ctx}

/-- The row under its new name, by the capacity that it has. -/
theorem split_in (hR : Rel h c) {id ety sz off len : Nat} {xs : List DV} (hg : h.get id = some (.arr ety sz xs none)) {v : Value} (hv : VR c (.sl id sz off len) v) (k : Nat) :
    ∃ e cap ρ1, ((e = k ∧ cap = none) ∨ (e < k ∧ cap = some (xs.length + e))) ∧
      Rel ((h.set id .dead).push (.arr ety sz (xs ++ List.replicate e .unk) cap)) (c.next c.w ρ1 ((h.set id .dead).push (.arr ety sz (xs ++ List.replicate e .unk) cap))) ∧
      CtxLe c (c.next c.w ρ1 ((h.set id .dead).push (.arr ety sz (xs ++ List.replicate e .unk) cap))) ∧
      VR (c.next c.w ρ1 ((h.set id .dead).push (.arr ety sz (xs ++ List.replicate e .unk) cap))) (.sl h.n sz off len) v := by
  obtain ⟨b, base, cap', coff, nn, ety', hvx, hρ, hshape, hmm, hlc, hco⟩ := hv.sl_inv
  obtain ⟨cur, m, g1, g2, g3, g4, g5, g6⟩ := hR.arr hg hρ
  have hone := hR.oneRow hg hρ g1
  have main : ∀ e cap, xs.length + e ≤ m → (∀ q, cap = some q → q = m ∧ (xs ++ List.replicate e DV.unk).length = m) →
      ∃ ρ1, Rel ((h.set id .dead).push (.arr ety sz (xs ++ List.replicate e .unk) cap)) (c.next c.w ρ1 ((h.set id .dead).push (.arr ety sz (xs ++ List.replicate e .unk) cap))) ∧
      CtxLe c (c.next c.w ρ1 ((h.set id .dead).push (.arr ety sz (xs ++ List.replicate e .unk) cap))) ∧
      VR (c.next c.w ρ1 ((h.set id .dead).push (.arr ety sz (xs ++ List.replicate e .unk) cap))) (.sl h.n sz off len) v := by
    intro e cap hem hcap
    obtain ⟨k1, k2⟩ := hR.moved (.arr ety sz (xs ++ List.replicate e .unk) cap) hg rfl rfl (base' := base) hρ c.w rfl (fun _ _ => rfl) (fun _ _ hs => hs) (.refl _) (fun hle => by
      refine ⟨b, base, cur, m, by simp [Ctx.next], g1, g2, g3, by simpa using hem, hcap, hone, fun i hi => ?_⟩
      by_cases hx : i < xs.length
      · rw [List.getElem_append_left hx]
        obtain ⟨a1, a2⟩ := g6 i hx
        refine ⟨a1, fun j hj => ?_⟩
        obtain ⟨u, b1, b2, b3⟩ := a2 j hj
        exact ⟨u, b1, b2, b3.mono hle⟩
      · rw [List.getElem_append_right (Nat.le_of_not_lt hx)]
        simp only [List.getElem_replicate, ecells, List.length_replicate, true_and]
        intro j hj
        simp only [List.length_append, List.length_replicate] at hi
        have hb : base + i * sz + j < cur.size := by
          have : (i + 1) * sz ≤ m * sz := Nat.mul_le_mul_right _ (by omega)
          rw [Nat.add_mul] at this
          omega
        exact ⟨cur[base + i * sz + j], Array.getElem?_eq_getElem hb, hone _ _ (Array.getElem?_eq_getElem hb), .unk _⟩)
    refine ⟨_, k1, k2, ?_⟩
    rw [hvx]
    exact .sl (by simp [Ctx.next]) hshape hmm hlc hco
  by_cases hk : xs.length + k ≤ m
  · obtain ⟨ρ1, k1, k2, k3⟩ := main k none hk (fun q hq => by cases hq)
    exact ⟨k, none, ρ1, .inl ⟨rfl, rfl⟩, k1, k2, k3⟩
  · obtain ⟨ρ1, k1, k2, k3⟩ := main (m - xs.length) (some (xs.length + (m - xs.length))) (by omega) (fun q hq => by cases hq; simp; omega)
    exact ⟨m - xs.length, _, ρ1, .inr ⟨by omega, rfl⟩, k1, k2, k3⟩

/-- What the call has left, by the name that it gets. -/
theorem split_out (hR : Rel h c) {id ety sz : Nat} {ob : DO} (hg : h.get id = some ob) {hj : Heap} {w' : World} {ρj : Nat → Option (Nat × Nat)} (hRj : Rel hj (c.next w' ρj hj)) (hle : CtxLe c (c.next w' ρj hj))
    (hkeep : ∀ i, i < h.n → hj.get i = (h.set id .dead).get i) {l : List DV} {r : DV} (hset : settle h ety sz (some (r, hj)) = some l) {v : Value} (hv : VR (c.next w' ρj hj) r v) :
    Post h c ((h.set id .dead).push (.arr ety sz l none)) w' (.sl h.n sz 0 l.length) v := by
  unfold settle at hset
  split at hset
  · rename_i idj sz' off len h0 heq
    cases heq
    split at hset
    · rename_i ety' sz'' xs cap hgj
      split at hset
      · rename_i hcond
        obtain ⟨e1, e2, e3, hidj, hlen, hbel⟩ := hcond
        subst e1; subst e2; subst e3
        cases hset
        have hid := get_lt hg
        obtain ⟨b, base, cap', coff, nn, ety'', hvx, hρ, hshape, hmm, hlc, hco⟩ := hv.sl_inv
        obtain ⟨cur, m, g1, g2, g3, g4, g5, g6⟩ := hRj.arr hgj hρ
        have hone := hRj.oneRow hgj hρ g1
        have hll : ((xs.drop off).take len).length = len := by simp; omega
        have hnf : ((h.set id .dead).push (.arr ety sz ((xs.drop off).take len) none)).n = h.n + 1 := rfl
        let hf : Heap := (h.set id .dead).push (.arr ety sz ((xs.drop off).take len) none)
        let ρf : Nat → Option (Nat × Nat) := fun i => if i < h.n then ρj i else if i = h.n then some (b, base + off * sz) else none
        have rlt : ∀ i, i < h.n → ρf i = ρj i := fun i hi => by simp only [ρf, if_pos hi]
        have rn : ρf h.n = some (b, base + off * sz) := by simp [ρf]
        have getf : ∀ i o, hf.get i = some o → (i = h.n ∧ o = .arr ety sz ((xs.drop off).take len) none) ∨ (i < h.n ∧ hj.get i = some o ∧ (h.set id .dead).get i = some o) := by
          intro i o hi
          simp only [hf, get_push] at hi
          have e0 : (h.set id .dead).n = h.n := rfl
          rw [e0] at hi
          split at hi
          · rename_i e; cases hi; exact .inl ⟨e, rfl⟩
          · have hl := get_lt hi
            have hl' : i < h.n := hl
            exact .inr ⟨hl', by rw [hkeep i hl']; exact hi, hi⟩
        have hown : ∀ y, ownB hf ρf y → ownB hj ρj y := by
          rintro y ⟨i, o, x, hi, ha, hr⟩
          rcases getf i o hi with ⟨e, _⟩ | ⟨hl, hj', _⟩
          · subst e
            rw [rn] at hr; cases hr
            exact ⟨idj, _, base, hgj, rfl, hρ⟩
          · rw [rlt i hl] at hr
            exact ⟨i, o, x, hj', ha, hr⟩
        have hle2 : CtxLe ((c.next w' ρj hj).cut h.n) (c.next w' ρf hf) :=
          ⟨fun i p hp => by
            obtain ⟨h1, h2⟩ := cut_some hp
            show ρf i = some p
            rw [rlt i h1]; exact h2, Nat.le_refl _, fun _ _ _ => rfl, fun y hy => .inl (hy.imp (hown y) (fun x => x)), fun _ _ _ hs => hs, fun _ hx => hx, fun _ _ hE => ⟨hE, rfl⟩, .refl _, rfl⟩
        have hlef : CtxLe c (c.next w' ρf hf) :=
          ⟨fun i p hp => by
            have hi : i < h.n := hR.dom i (by rw [hp]; simp)
            show ρf i = some p
            rw [rlt i hi]; exact hle.rho i p hp, hle.size, hle.frame, fun y hy => hle.own y (hy.imp (hown y) (fun x => x)), hle.shape, hle.X, hle.pend, hle.quiet, hle.tok⟩
        have hoff : off + cap' = m := by
          rw [shape_of_heap g1] at hshape
          cases hshape
          exact sl_room g2 g3 hmm
        refine ⟨ρf, ⟨len_push (len_set hR.len), Nat.le_succ_of_le hR.lim, fun i hi => ?_, fun i o hi => ?_, fun i j oi oj y x1 x2 hi hj' hai haj hri hrj => ?_, fun _ => Iff.rfl, fun y hy => hRj.notX y (hy.imp (hown y) (fun x => x)), hRj.old, fun y hy => ⟨(hRj.pend y hy).1, fun ho => (hRj.pend y hy).2 (hown y ho)⟩, hR.glob.mono hlef⟩, hlef, ?_⟩
        · rw [hnf]
          refine Nat.lt_succ_of_le (Nat.le_of_not_lt fun hlt => hi ?_)
          have h1 : ¬ i < h.n := by omega
          have h2 : i ≠ h.n := by omega
          show ρf i = none
          simp only [ρf, if_neg h1, if_neg h2]
        · rcases getf i o hi with ⟨e, e2⟩ | ⟨hl, hj', hs⟩
          · subst e; subst e2
            have hsz : cur.size = base + off * sz + (m - off) * sz := by
              have : off * sz + (m - off) * sz = m * sz := by rw [← Nat.add_mul]; congr 1; omega
              omega
            refine ⟨b, base + off * sz, cur, m - off, rn, g1, g2, hsz, by rw [hll]; omega, (fun k hk => by cases hk), hone, fun q hq => ?_⟩
            rw [hll] at hq
            have hq' : off + q < xs.length := by omega
            have hx : ((xs.drop off).take len)[q]'(by rw [hll]; exact hq) = xs[off + q] := by simp
            obtain ⟨a1, a2⟩ := g6 (off + q) hq'
            rw [hx]
            refine ⟨a1, fun j hjl => ?_⟩
            obtain ⟨u, b1, b2, b3⟩ := a2 j hjl
            have hmem : xs[off + q] ∈ (xs.drop off).take len := by rw [← hx]; exact List.getElem_mem _
            have hbl := List.all_eq_true.1 hbel _ hmem
            refine ⟨u, by rw [Nat.add_mul] at b1; rw [← b1]; congr 1; omega, b2, ?_⟩
            have hcell : Dm.below 200 h.n (ecells sz xs[off + q])[j] = true ∨ Dm.below 199 h.n (ecells sz xs[off + q])[j] = true := by
              have key : ∀ (d : DV) (hjd : j < (ecells sz d).length), Dm.below 200 h.n d = true → Dm.below 200 h.n (ecells sz d)[j] = true ∨ Dm.below 199 h.n (ecells sz d)[j] = true := by
                intro d hjd hd
                cases d
                case agg cs =>
                  have hd' : cs.all (Dm.below 199 h.n) = true := hd
                  exact .inr (List.all_eq_true.1 hd' _ (List.getElem_mem hjd))
                case unk => simp only [ecells, List.getElem_replicate]; exact .inl rfl
                case tup => simp [ecells] at hjd
                all_goals
                  simp only [ecells, List.length_singleton, Nat.lt_one_iff] at hjd
                  subst hjd
                  exact .inl hd
              exact key _ hjl hbl
            rcases hcell with hc | hc
            · exact (b3.belowN 200 hc).mono hle2
            · exact (b3.belowN 199 hc).mono hle2
          · have hob := hRj.obj i o hj'
            cases o with
            | dead => trivial
            | arr ety2 sz2 ys cap2 =>
              have hne : i ≠ id := fun e => by
                subst e
                rw [get_set_same hR.len hg] at hs
                cases hs
              rw [get_set_other hid hne] at hs
              obtain ⟨b2, base2, cur2, m2, q1, q2, q3, q4, q5, q6, q7, q8⟩ := hob
              obtain ⟨b3, base3, cur3, m3, r1, r2, r3, r4, r5, r6, r7, r8⟩ := hR.obj i _ hs
              refine ⟨b2, base2, cur2, m2, by show ρf i = _; rw [rlt i hl]; exact q1, q2, q3, q4, q5, q6, q7, fun q hq => ⟨(q8 q hq).1, fun j hjl => ?_⟩⟩
              obtain ⟨u, a1, a2, a3⟩ := (q8 q hq).2 j hjl
              obtain ⟨u0, _, _, a4⟩ := (r8 q hq).2 j hjl
              exact ⟨u, a1, a2, (a4.cut_old hR.dom a3).mono hle2⟩
            | mp es =>
              have hne : i ≠ id := fun e => by
                subst e
                rw [get_set_same hR.len hg] at hs
                cases hs
              rw [get_set_other hid hne] at hs
              obtain ⟨es2, hp2, b2, en2, cl2, q1, q2, q3, q4⟩ := hob
              obtain ⟨es3, hp3, b3, en3, cl3, r1, r2, r3, r4⟩ := hR.obj i _ hs
              refine ⟨es2, hp2, b2, en2, cl2, by show ρf i = _; rw [rlt i hl]; exact q1, q2, q3, fun q a1 a2 => ?_⟩
              obtain ⟨s1, s2⟩ := q4 q a1 a2
              obtain ⟨q', u1, hq'⟩ := List.getElem_of_mem ((hp2.symm.trans hp3).mem_iff.1 (List.getElem_mem a1))
              obtain ⟨t1, t2⟩ := r4 q' u1 (by omega)
              rw [hq'] at t1 t2
              exact ⟨(t1.cut_old hR.dom s1).mono hle2, (t2.cut_old hR.dom s2).mono hle2⟩
        · rcases getf i oi hi with ⟨e1, _⟩ | ⟨l1, j1, _⟩ <;> rcases getf j oj hj' with ⟨e2, _⟩ | ⟨l2, j2, _⟩
          · omega
          · subst e1
            have hri' : ρf h.n = some (y, x1) := hri
            rw [rn] at hri'; cases hri'
            have hrj' : ρj j = some (b, x2) := by rw [← rlt j l2]; exact hrj
            have := hRj.inj idj j _ oj b base x2 hgj j2 rfl haj hρ hrj'
            omega
          · subst e2
            have hrj' : ρf h.n = some (y, x2) := hrj
            rw [rn] at hrj'; cases hrj'
            have hri' : ρj i = some (b, x1) := by rw [← rlt i l1]; exact hri
            have := hRj.inj idj i _ oi b base x1 hgj j1 rfl hai hρ hri'
            omega
          · have hri' : ρj i = some (y, x1) := by rw [← rlt i l1]; exact hri
            have hrj' : ρj j = some (y, x2) := by rw [← rlt j l2]; exact hrj
            exact hRj.inj i j oi oj y x1 x2 j1 j2 hai haj hri' hrj'
        · rw [hll, hvx]
          exact .sl rn hshape (by rw [Nat.zero_mul, Nat.add_zero]; exact hmm) hlc (by rw [Nat.zero_mul, Nat.add_zero]; exact hco)
      · cases hset
    · cases hset
  · cases hset

end
end Go.Dm
