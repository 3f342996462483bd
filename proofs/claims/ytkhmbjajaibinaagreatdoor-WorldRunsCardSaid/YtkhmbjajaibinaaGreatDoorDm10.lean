/-
Part 10 of "Dm": append whole; copy; make.
-/
import Derived.Test.YtkhmbjajaibinaaGreatDoorDm9
import Derived.Lib.AppendZerosOnto
namespace Go.Dm

section
variable {P : Program} {h h' : Heap} {c : Ctx} {env : Env} {a : Act} {o : Oper} {r : DV}

/-- An object goes on under a new name, in its block or a part of it. -/
theorem Rel.moved (hR : Rel h c) {id : Nat} {ob : DO} (o' : DO) (hg : h.get id = some ob) (ha : alive ob = true) (ha' : alive o' = true) {b base base' : Nat} (hr : c.ρ id = some (b, base)) (w' : World)
    (hsize : c.w.heap.size = w'.heap.size) (hframe : ∀ k, k ≠ b → w'.heap[k]? = c.w.heap[k]?) (hshape : ∀ e n, c.w.shape? b = some (e, n) → w'.shape? b = some (e, n)) (hq : Quiet c.w w')
    (hobj : CtxLe c (c.next w' (fun i => if i = h.n then some (b, base') else c.ρ i) ((h.set id .dead).push o')) → ObjR (c.next w' (fun i => if i = h.n then some (b, base') else c.ρ i) ((h.set id .dead).push o')) h.n o') :
    Rel ((h.set id .dead).push o') (c.next w' (fun i => if i = h.n then some (b, base') else c.ρ i) ((h.set id .dead).push o')) ∧ CtxLe c (c.next w' (fun i => if i = h.n then some (b, base') else c.ρ i) ((h.set id .dead).push o')) := by
  have hid := get_lt hg
  have hOw : ownB h c.ρ b := ⟨id, ob, base, hg, ha, hr⟩
  have hO : c.O b := (hR.own b).2 (.inl hOw)
  have hn : (h.set id .dead).n = h.n := rfl
  have hget : ∀ i oi, ((h.set id .dead).push o').get i = some oi → alive oi = true → (i = h.n ∧ oi = o') ∨ (i ≠ h.n ∧ i ≠ id ∧ h.get i = some oi) := by
    intro i oi hgi hai
    rw [get_push, hn] at hgi
    split at hgi
    · rename_i e; cases hgi; exact .inl ⟨e, rfl⟩
    · rename_i e
      by_cases ei : i = id
      · subst ei
        rw [get_set_same hR.len hg] at hgi
        cases hgi; simp [alive] at hai
      · rw [get_set_other hid ei] at hgi
        exact .inr ⟨e, ei, hgi⟩
  have hown : ∀ k, ownB ((h.set id .dead).push o') (fun i => if i = h.n then some (b, base') else c.ρ i) k → ownB h c.ρ k := by
    rintro k ⟨i, oi, x, hgi, hai, hri⟩
    rcases hget i oi hgi hai with ⟨e, _⟩ | ⟨e, _, hgi'⟩
    · simp only [if_pos e] at hri; cases hri; exact hOw
    · simp only [if_neg e] at hri
      exact ⟨i, oi, x, hgi', hai, hri⟩
  have hle : CtxLe c (c.next w' (fun i => if i = h.n then some (b, base') else c.ρ i) ((h.set id .dead).push o')) := by
    refine ⟨fun i p hp => ?_, Nat.le_of_eq hsize, fun k hk hnO => hframe k (fun e => hnO (e ▸ hO)), fun k hk => .inl ((hR.own k).2 (hk.imp (hown k) (fun x => x))), fun k e n hs => ?_, fun _ hx => hx, fun k hk hE => ⟨hE, hframe k fun e => (hR.pend k hE).2 (e ▸ hOw)⟩, hq, rfl⟩
    · have : i < h.n := hR.dom i (by rw [hp]; simp)
      simp only [Ctx.next]
      rw [if_neg (by omega)]; exact hp
    · by_cases ek : k = b
      · subst ek; exact hshape e n hs
      · simp only [World.shape?, Ctx.next] at hs ⊢
        rw [hframe k ek]; exact hs
  refine ⟨⟨len_push (len_set hR.len), Nat.le_succ_of_le hR.lim, ?_, ?_, ?_, fun _ => Iff.rfl, fun k hk => hR.notX k ((hR.own k).2 (hk.imp (hown k) (fun x => x))), fun k hk => by simpa [Ctx.next, ← hsize] using hR.old k hk,
    fun k hk => ⟨by simpa [Ctx.next, ← hsize] using (hR.pend k hk).1, fun ho => (hR.pend k hk).2 (hown k ho)⟩, hR.glob.mono hle⟩, hle⟩
  · intro i hi
    rw [n_push, hn]
    by_cases e : i = h.n
    · omega
    · simp only [Ctx.next, if_neg e] at hi; have := hR.dom i hi; omega
  · intro i oi hgi
    by_cases hai : alive oi = true
    · rcases hget i oi hgi hai with ⟨e, e2⟩ | ⟨e, e2, hgi'⟩
      · subst e; subst e2; exact hobj hle
      · refine (hR.obj i oi hgi').mono hle fun _ k x hri => hframe k fun ek => e2 ?_
        subst ek
        exact hR.inj i id oi ob k x base hgi' hg hai ha hri hr
    · cases oi <;> simp [alive] at hai
      trivial
  · intro i j oi oj k x y hi hj hai haj hri hrj
    simp only [Ctx.next] at hri hrj
    rcases hget i oi hi hai with ⟨e1, _⟩ | ⟨e1, n1, g1⟩ <;> rcases hget j oj hj haj with ⟨e2, _⟩ | ⟨e2, n2, g2⟩
    · omega
    · simp only [if_pos e1] at hri; simp only [if_neg e2] at hrj
      cases hri
      exact absurd (hR.inj j id oj ob b y base g2 hg haj ha hrj hr) n2
    · simp only [if_neg e1] at hri; simp only [if_pos e2] at hrj
      cases hrj
      exact absurd (hR.inj i id oi ob b x base g1 hg hai ha hri hr) n1
    · simp only [if_neg e1] at hri; simp only [if_neg e2] at hrj
      exact hR.inj i j oi oj k x y g1 g2 hai haj hri hrj

theorem splice_length {xs ys : List DV} {k : Nat} (hle : k + ys.length ≤ xs.length) : (splice xs ys k).length = xs.length := by
  simp [splice]; omega

theorem splice_get {xs ys : List DV} {k : Nat} (hle : k + ys.length ≤ xs.length) (q : Nat) : (splice xs ys k)[q]? = if q < k then xs[q]? else if q < k + ys.length then ys[q - k]? else xs[q]? := by
  have hl : (xs.take k).length = k := by simp; omega
  simp only [splice, List.append_assoc]
  rw [List.getElem?_append, hl]
  split
  · rename_i hq; rw [List.getElem?_take, if_pos hq]
  · rw [List.getElem?_append]
    split
    · rw [if_pos (by omega)]
    · rw [if_neg (by omega), List.getElem?_drop]
      congr 1
      omega

/-- Elements written in their row. -/
theorem elems_spliced {xs ys : List DV} {sz base k m : Nat} {cur : Array Value} {news : List Value} (hE : ElemsR c xs sz cur base) (hsize : cur.size = base + m * sz) (hm : xs.length ≤ m) (hrow : RowOk c sz ys news) (hle : k + ys.length ≤ xs.length) :
    base + k * sz + news.length ≤ cur.size ∧ ElemsR c (splice xs ys k) sz (spl cur (base + k * sz) news) base := by
  have hb : base + k * sz + news.length ≤ cur.size := by
    have : (k + ys.length) * sz ≤ m * sz := Nat.mul_le_mul_right _ (by omega)
    rw [Nat.add_mul] at this
    rw [hrow.1]; omega
  refine ⟨hb, elemsR_iff.2 fun i d hd => ?_⟩
  have hE' := elemsR_iff.1 hE
  rw [splice_get hle] at hd
  split at hd
  · rename_i hik
    obtain ⟨w1, w2⟩ := hE' i d hd
    refine ⟨w1, w2.other hb (.inl ?_)⟩
    rw [w1]
    have : (i + 1) * sz ≤ k * sz := Nat.mul_le_mul_right _ hik
    rw [Nat.add_mul] at this
    omega
  · rename_i hik
    split at hd
    · rename_i hik2
      obtain ⟨w1, w2⟩ := hrow.2.2 _ d hd
      refine ⟨w1, fun j e he => ?_⟩
      obtain ⟨u, b1, b2⟩ := w2 j e he
      have hjl := (List.getElem?_eq_some_iff.1 b1).1
      refine ⟨u, ?_, hrow.2.1 u (List.mem_of_getElem? b1), b2⟩
      have hmul : (i - k) * sz + k * sz = i * sz := by rw [← Nat.add_mul]; congr 1; omega
      rw [spl_get hb, if_neg (by omega), if_pos (by omega)]
      rw [← b1]; congr 1; omega
    · rename_i hik2
      obtain ⟨w1, w2⟩ := hE' i d hd
      refine ⟨w1, w2.other hb (.inr ?_)⟩
      rw [hrow.1]
      have : (k + ys.length) * sz ≤ i * sz := Nat.mul_le_mul_right _ (by omega)
      rw [Nat.add_mul] at this
      omega

/-- append, whatever is appended. -/
theorem appendD_sound (hR : Rel h c) {e : TypeId} {sz bytes : Nat} (hsz : 0 < sz) {ys : List DV} {news : List Value} (hrow : RowOk c sz ys news) {run : Value → Result Value}
    (A0 : ys = [] → ∀ base sLen sCap, sLen ≤ sCap → run (.slice base sLen sCap) = .ok (.slice base sLen sCap) c.w)
    (A1 : ∀ b co sLen sCap cur ety, c.w.heap[b]? = some (.cells cur ety (0, 0)) → sLen + ys.length ≤ sCap → (sLen + ys.length) * bytes ≤ 140737488355328 → co + sLen * sz + news.length ≤ cur.size →
      run (.slice (some ⟨b, co, none⟩) sLen sCap) = .ok (.slice (some ⟨b, co, none⟩) (sLen + ys.length) sCap) (c.w.setRow b (spl cur (co + sLen * sz) news)))
    (A2 : ∀ base sLen sCap (olds : List Value), (Builtin.firstCells sz sLen (.slice base sLen sCap)).run P c.w.drew = .ok olds.toArray c.w.drew → sCap < sLen + ys.length → sLen + ys.length ≤ 9223372036854775807 → (sLen + ys.length) * bytes ≤ 140737488355328 →
      ∃ ncap zs, sLen + ys.length ≤ ncap ∧ (zs.size = (ncap - (sLen + ys.length)) * sz ∧ OneRow zs) ∧ run (.slice base sLen sCap) = .ok (.slice (some ⟨c.w.heap.size, 0, none⟩) (sLen + ys.length) ncap) (c.w.drew.alloc (.cells ((olds ++ news).toArray ++ zs) e)))
    {s : DV} {v : Value} (hv : VR c s v) (hs : appendD h e sz bytes s ys = some (r, h')) : ∃ v' w', run v = .ok v' w' ∧ Post h c h' w' r v' := by
  unfold appendD at hs
  split at hs
  · obtain ⟨ad, hvx⟩ := hv.nsl_inv
    subst hvx
    split at hs
    · rename_i hy
      have hy' : ys = [] := by simpa using hy
      cases hs
      exact ⟨_, _, A0 hy' ad 0 0 (Nat.le_refl _), Post.pure hR (.nsl ad)⟩
    · rename_i hy
      have hy' : 0 < ys.length := by
        rcases Nat.eq_zero_or_pos ys.length with e0 | e0
        · exact absurd (List.eq_nil_of_length_eq_zero e0) (by simpa using hy)
        · exact e0
      split at hs
      · rename_i hb
        cases hs
        obtain ⟨ncap, zs, n1, n2, n3⟩ := A2 ad 0 0 [] (by cases ad with | none => rfl | some adr => simpa using run_firstCells_some (P := P) c.w.drew sz 0 adr 0 0 [] (by simp) (by simp)) (by omega) (by omega) (by simpa using hb.1)
        simp only [Nat.zero_add, List.nil_append] at n1 n2 n3
        exact ⟨_, _, n3, post_grown hR rfl hsz hrow rfl n1 n2.1 n2.2⟩
      · cases hs
  · rename_i id sz' off len
    split at hs
    · rename_i hy
      have hy' : ys = [] := by simpa using hy
      cases hs
      obtain ⟨b, base, cap', coff, nn, ety', hvx, hρ, hshape, hmm, hlc, hco⟩ := hv.sl_inv
      exact ⟨_, _, by rw [hvx]; exact A0 hy' _ len cap' hlc, Post.pure hR (hvx ▸ hv)⟩
    · rename_i hy
      have hy' : 0 < ys.length := by
        rcases Nat.eq_zero_or_pos ys.length with e0 | e0
        · exact absurd (List.eq_nil_of_length_eq_zero e0) (by simpa using hy)
        · exact e0
      split at hs
      · rename_i ety sz'' xs cap hg
        split at hs
        · rename_i hcond
          obtain ⟨e1, e2, e3, hle, hb1, hb2⟩ := hcond
          subst e1; subst e2; subst e3
          obtain ⟨b, base, cap', coff, nn, ety', hvx, hρ, hshape, hmm, hlc, hco⟩ := hv.sl_inv
          obtain ⟨cur, mm, g1, g2, g3, g4, g5, g6⟩ := hR.arr hg hρ
          have hsh := shape_of_heap g1
          rw [hsh] at hshape
          cases hshape
          have hroom := sl_room g2 g3 hmm
          have hslE : elems h sz (.sl id sz off len) = some ((xs.drop off).take len) := by
            simp only [elems, hg]
            rw [if_pos ⟨trivial, trivial, hle⟩]
          have hslen : ((xs.drop off).take len).length = len := by simp; omega
          have grow : cap' < len + ys.length → ∃ olds ncap zs, RowOk c sz ((xs.drop off).take len ++ ys) (olds ++ news) ∧ len + ys.length ≤ ncap ∧ (zs.size = (ncap - (len + ys.length)) * sz ∧ OneRow zs) ∧
              run v = .ok (.slice (some ⟨c.w.heap.size, 0, none⟩) (len + ys.length) ncap) (c.w.drew.alloc (.cells ((olds ++ news).toArray ++ zs) e)) := by
            intro hgr
            obtain ⟨ad, capv, olds, q1, q2, q3, q4, q5⟩ := elems_sound hR hslE hv
            rw [hvx] at q1
            simp only [Value.slice.injEq] at q1
            obtain ⟨qa, qb, qc⟩ := q1
            subst qa; subst qc
            have hfo := run_first (P := P) (sz := sz) (n := len) (cap := cap') (ad := some ⟨b, coff, none⟩) (news := olds) (by rw [q3.1, hslen]) (by simp) (w := c.w) (w' := c.w.drew) rfl q5
            obtain ⟨ncap, zs, n1, n2, n3⟩ := A2 (some ⟨b, coff, none⟩) len cap' olds hfo hgr hb2 hb1
            exact ⟨olds, ncap, zs, q3.append hrow, n1, n2, by rw [hvx]; exact n3⟩
          have fits : len + ys.length ≤ cap' → coff = base + off * sz ∧ ∀ hfit : base + (off + len) * sz + news.length ≤ cur.size, run v = .ok (.slice (some ⟨b, coff, none⟩) (len + ys.length) cap') (c.w.setRow b (spl cur (base + (off + len) * sz) news)) := by
            intro hft
            have hcoff : coff = base + off * sz := hco.elim (fun e => e) (fun e => by omega)
            refine ⟨hcoff, fun hfit => ?_⟩
            have := A1 b coff len cap' cur e g1 hft hb1 (by rw [hcoff]; rw [Nat.add_mul] at hfit; omega)
            rw [hvx, this, hcoff, Nat.add_mul, Nat.add_assoc]
          split at hs
          · rename_i hin
            split at hs
            · cases hs
              obtain ⟨hfit, hel⟩ := elems_spliced g6 g3 g4 hrow (k := off + len) (by omega)
              obtain ⟨hcoff, hrun⟩ := fits (by omega)
              obtain ⟨k1, k2⟩ := hR.write hg hρ g1 g2 g3 (splice xs ys (off + len)) (splice_length (by omega)) g4 g5 (base + (off + len) * sz) news hfit hrow.2.1 hel
              refine ⟨_, _, hrun hfit, c.ρ, k1, k2, ?_⟩
              have hsh' : (c.w.setRow b (spl cur (base + (off + len) * sz) news)).shape? b = some (e, cur.size) := by
                rw [shape_of_heap (setRow_heap c.w b cur _ e (0, 0) g1), spl_size hfit]
              exact .sl hρ hsh' hmm (by omega) (.inl hcoff)
            · cases hs
          · rename_i hout
            split at hs
            · rename_i k
              cases hs
              have hk := g5 k rfl
              obtain ⟨olds, ncap, zs, p1, p2, p3, p4⟩ := grow (by omega)
              exact ⟨_, _, p4, post_grown hR rfl hsz p1 (by simp; omega) p2 p3.1 p3.2⟩
            · split at hs
              · cases hs
                by_cases hgr : len + ys.length ≤ cap'
                · obtain ⟨hcoff, hrun⟩ := fits hgr
                  have hbnd : base + (off + len) * sz + news.length ≤ cur.size := by
                    have : (off + len + ys.length) * sz ≤ mm * sz := Nat.mul_le_mul_right _ (by omega)
                    rw [Nat.add_mul] at this
                    rw [hrow.1]; omega
                  have hsh' : (c.w.setRow b (spl cur (base + (off + len) * sz) news)).shape? b = some (e, cur.size) := by
                    rw [shape_of_heap (setRow_heap c.w b cur _ e (0, 0) g1), spl_size hbnd]
                  obtain ⟨k1, k2⟩ := hR.moved (.arr e sz ((xs.drop off).take len ++ ys) none) hg rfl rfl (base' := base + off * sz) hρ (c.w.setRow b (spl cur (base + (off + len) * sz) news)) (by simp) (fun k hk => setRow_other _ _ _ _ hk)
                    (fun e2 n hs' => by rw [hsh] at hs'; cases hs'; exact hsh') (.at g1 (setRow_heap c.w b cur _ e (0, 0) g1) (fun k hk => setRow_other _ _ _ _ hk) rfl rfl rfl rfl)
                    (fun hle' => by
                      refine ⟨b, base + off * sz, spl cur (base + (off + len) * sz) news, cap', by simp [Ctx.next], setRow_heap c.w b cur _ e (0, 0) g1, hsz, by rw [spl_size hbnd]; omega, by rw [List.length_append, hslen]; exact hgr, (fun k hk => by cases hk), oneRow_spl (hR.oneRow hg hρ g1) hbnd hrow.2.1, ?_⟩
                      refine ElemsR.mono' ?_ hle'
                      have hfirst := (rowOk_of_elems g6 g3 off len hle g4)
                      refine (hfirst.append hrow).toElems fun j u hj => ?_
                      have hfl : ((cur.toList.drop (base + off * sz)).take (len * sz)).length = len * sz := by rw [hfirst.1, hslen]
                      rw [spl_get hbnd]
                      rw [List.getElem?_append, hfl] at hj
                      have hmul : base + (off + len) * sz = base + off * sz + len * sz := by rw [Nat.add_mul]; omega
                      split at hj
                      · rename_i hjl
                        rw [if_pos (by omega)]
                        rw [List.getElem?_take, if_pos hjl, List.getElem?_drop, Array.getElem?_toList] at hj
                        exact hj
                      · rename_i hjl
                        have := (List.getElem?_eq_some_iff.1 hj).1
                        rw [if_neg (by omega), if_pos (by omega)]
                        rw [← hj]; congr 1; omega)
                  refine ⟨_, _, hrun hbnd, _, k1, k2, ?_⟩
                  exact .sl (base := base + off * sz) (by simp [Ctx.next]) hsh' (by rw [Nat.zero_mul]; omega) hgr (.inl (by rw [hcoff]; omega))
                · obtain ⟨olds, ncap, zs, p1, p2, p3, p4⟩ := grow (by omega)
                  obtain ⟨k1, k2⟩ := hR.kill hg
                  have hpost := post_grown (c := c.next c.w c.ρ (h.set id .dead)) k1 (w' := c.w.drew.alloc (.cells ((olds ++ news).toArray ++ zs) e)) rfl hsz (p1.mono k2) (need := len + ys.length) (by simp; omega) p2 p3.1 p3.2
                  obtain ⟨ρ', m1, m2, m3⟩ := hpost
                  exact ⟨_, _, p4, ρ', m1, k2.trans m2, m3⟩
              · cases hs
        · cases hs
      · cases hs
  · cases hs

end
end Go.Dm
