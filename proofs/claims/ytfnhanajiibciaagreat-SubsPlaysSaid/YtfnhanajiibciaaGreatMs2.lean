/-
What the reference's functions compute, part 7: an entry added, all of it.
-/
import Derived.Test.YtfnhanajiibciaaGreatMs1
import Derived.Test.YtfnhanajiibciaaGreatMs0
set_option linter.all false
namespace Go.Dm.Tc
set_option maxRecDepth 8000 in
theorem v37 (me : Int) (near : List Int) (adv : List Advert) (seen : List ID) (ent : List Entry) (own : List OwnS) (tc td sc sd : Int) (p : Pred) (frm : Int) (U : Bool) (hel : ent.length ≤ 100000) (F : FEnv) (H : Heap)
    (g0 : H.get 0 = some (.arr 29 6 [.agg [.int .i64 me, eL false 1 cInt near, eL false 4 eAdvert adv, eL false 2 eID seen, eL false 7 eEntry ent, eL false 3 eOwn own]] (some 1)))
    (g1 : H.get 1 = some (.arr 58 7 [.agg [.int .i64 tc, .int .i64 td, .int .i64 sc, .int .i64 sd, ePred p, .int .i64 frm, .bool U]] (some 1)))
    (g2 : H.get 2 = some (.arr 29 6 [.agg [.int .i64 0, .nsl, .nsl, .nsl, .nsl, .nsl]] (some 1))) (hlim : H.lim = 0) (hn : 3 ≤ H.n) (wf : WF H) (h2 : F 2 = .ptr 0 6 0 0) (h3 : F 3 = .ptr 1 7 0 0) (h4 : F 4 = .ptr 2 6 0 0) (h7 : F 7 = .int .i64 0) :
    pcOut (fin [.cell 4 (some 6), .t 5] (run D 115 [.block 0, .seq t37k0] (.loop t37l0) F H)) = some (.tup [eBroker .none ⟨me, near, adv, seen, insE ⟨⟨tc, td⟩, ⟨sc, sd⟩, p, frm, U⟩ ent, own⟩, .bool U]) := by
  obtain ⟨f1, k1, k2, k3, k4, k5, k6⟩ := l37 [] H (.int .i64 me) (eL false 1 cInt near) (eL false 4 eAdvert adv) (eL false 2 eID seen) (eL false 3 eOwn own) ent tc td sc sd (ePred p) (.int .i64 frm) (.bool U) (by omega) g0 g1 hlim _ 0 F rfl (by omega) h2 h3 h7
  rw [k1]
  rw [h4] at k4
  clear k1
  have hlow := lowIdx_le (sgnE ⟨tc, td⟩ ⟨sc, sd⟩) ent
  have v0 : ¬ 0 = H.n := by omega
  have v1 : ¬ 1 = H.n := by omega
  have v2 : ¬ 2 = H.n := by omega
  have v3 : ¬ H.n = 0 := by omega
  have v4 : ¬ H.n = 1 := by omega
  simp [t37k0, k2, k6, hlow, g0, hlim, v0]
  generalize hA : appendD _ _ _ _ _ _ = A
  obtain ⟨i1, K1, rfl, o1, x1, y1, j1⟩ := (OwnI.fresh (lo := 3) (ety := 58) (sz := 7) (xs := []) (cap := some 0) (by omega) hn).append (n := 0) rfl wf.push (by simp; omega) (by simp [hlim]) hA (by simp; omega) (by decide)
  clear hA
  have a0 := x1.get 0 (by decide)
  have a1 := x1.get 1 (by decide)
  have a2 := x1.get 2 (by decide)
  have q1 := x1.lim
  have w1 := x1.wf
  have n1 := x1.le
  have u1 := o1.lo
  have m0 : ¬ 0 = i1 := by omega
  have m1 : ¬ i1 = 0 := by omega
  have m2 : ¬ i1 = 1 := by omega
  have m3 : ¬ 1 = i1 := by omega
  simp [g0, g1, g2, v0, v1, v2, hlim] at a0 a1 a2 q1 o1
  simp [k3, g1, q1, m0, m3, v4, hlow]
  generalize hA : appendD _ _ _ _ _ _ = A
  obtain ⟨i2, K2, rfl, o2, x2, y2, j2⟩ := (o1.push (o := _)).append (by simp [hlow]) (by simp [w1]) (by simp; omega) (by simp [q1]) hA (by simp; omega) (by decide)
  clear hA
  have b0 := x2.get 0 (by decide)
  have b1 := x2.get 1 (by decide)
  have b2 := x2.get 2 (by decide)
  have q2 := x2.lim
  have w2 := x2.wf
  have n2 := x2.le
  have u2 := o2.lo
  have c0 : ¬ 0 = K1.n := by omega
  have c1 : ¬ 1 = K1.n := by omega
  have c2 : ¬ 2 = K1.n := by omega
  have m4 : ¬ i2 = 0 := by omega
  have m5 : ¬ i2 = 1 := by omega
  simp [a0, a1, a2, q1, c0, c1, c2] at b0 b1 b2 q2 o2
  simp [k2, k6, g0, m1, v3, hlow]
  generalize hA : appendD _ _ _ _ _ _ = A
  obtain ⟨i3, K3, rfl, o3, x3, y3, j3⟩ := o2.append (by simp [hlow]) w2 n2 (by omega) hA (by simp; omega) (by decide)
  clear hA
  have d0 := x3.get 0 (by decide)
  have d1 := x3.get 1 (by decide)
  have d2 := x3.get 2 (by decide)
  have q3 := x3.lim
  have w3 := x3.wf
  have n3 := x3.le
  have l3 : 0 < K3.n := by omega
  have l32 : 2 < K3.n := by omega
  rw [b0] at d0
  rw [b1] at d1
  rw [b2] at d2
  rw [q2] at q3
  have hlen : (List.take (lowIdx (sgnE ⟨tc, td⟩ ⟨sc, sd⟩) ent) (List.map eEntry ent) ++ DV.agg [.int .i64 tc, .int .i64 td, .int .i64 sc, .int .i64 sd, ePred p, .int .i64 frm, .bool U] :: List.drop (lowIdx (sgnE ⟨tc, td⟩ ⟨sc, sd⟩) ent) (List.map eEntry ent)) = (insE ⟨⟨tc, td⟩, ⟨sc, sd⟩, p, frm, U⟩ ent).map eEntry := by simp [insE, eEntry]
  simp only [List.append_assoc, List.singleton_append] at o3
  rw [hlen] at o3
  have hmin : min (lowIdx (sgnE ⟨tc, td⟩ ⟨sc, sd⟩) ent) ent.length = lowIdx (sgnE ⟨tc, td⟩ ⟨sc, sd⟩) ent := by omega
  have hln : (insE ⟨⟨tc, td⟩, ⟨sc, sd⟩, p, frm, U⟩ ent).length = lowIdx (sgnE ⟨tc, td⟩ ⟨sc, sd⟩) ent + 1 + (ent.length - lowIdx (sgnE ⟨tc, td⟩ ⟨sc, sd⟩) ent) := by simp [insE, hmin]; omega
  have r4 := fun o o' => ((o3.toR.setLow (o := o) w3 (by decide) l3).setLow (o := o') w3.set (by decide) l32).resolve (n := 198) false (fun y _ => (plain_entry y).1) (by decide)
  simp only [List.length_map, hln] at r4
  simp [k2, k3, k4, d0, d1, d2, q3, w3, l3, l32, turn, hmin, r4, resultsOf]
  simp [eBroker, Tags.none]
set_option maxRecDepth 8000 in
theorem s37 (b : Broker) (e : Entry) (hs : Sized b) (hq : AskedP b) (hpo : PredOk e.pred) : 
    pcF D t37 [eBroker .none b, .agg [.int .i64 e.tree.client, .int .i64 e.tree.seq, .int .i64 e.sub.client, .int .i64 e.sub.seq, ePred e.pred, .int .i64 e.frm, .bool e.up]] = some (.tup [eBroker .none (addB b e).1, .bool (addB b e).2]) := by
  obtain ⟨me, near, adv, seen, ent, own⟩ := b
  obtain ⟨⟨tc, td⟩, ⟨sc, sd⟩, p, frm, up⟩ := e
  obtain ⟨z1, z2, z3, z4, z5⟩ := hs
  simp only at z1 z2 z3 z4 z5 hpo
  obtain ⟨R, hR⟩ : ∃ R, R = DV.tup [eBroker .none (addB ⟨me, near, adv, seen, ent, own⟩ ⟨⟨tc, td⟩, ⟨sc, sd⟩, p, frm, up⟩).1, .bool (addB ⟨me, near, adv, seen, ent, own⟩ ⟨⟨tc, td⟩, ⟨sc, sd⟩, p, frm, up⟩).2] := ⟨_, rfl⟩
  rw [← hR]
  have hal : adv.length ≤ 1000000 := by omega
  have hel : ent.length ≤ 1000000 := by omega
  have hfi := find_idx (fun a : Advert => decide (a.id = ⟨tc, td⟩)) adv
  have hfe := find_idx (isE ⟨tc, td⟩ ⟨sc, sd⟩) ent
  have hany := find_any (l := ent) (t := ⟨tc, td⟩) (s := ⟨sc, sd⟩)
  have hEn := s119 (.int .i64 me) (eL false 1 cInt near) (eL false 4 eAdvert adv) (eL false 2 eID seen) (eL false 3 eOwn own) false ent tc td sc sd hel
  have hCv := s36 (.int .i64 me) (eL false 1 cInt near) (eL false 4 eAdvert adv) (eL false 2 eID seen) (eL false 3 eOwn own) false ent tc td p hel hpo hq.len
  unfold pcF
  rw [goRun_eq _ _ _ _ (by simp [t37])]
  cases hq1 : adv.find? (fun a => decide (a.id = ⟨tc, td⟩)) with
  | none =>
    rw [hq1] at hfi
    simp only at hfi
    have hmay : mayAdd ⟨me, near, adv, seen, ent, own⟩ ⟨⟨tc, td⟩, ⟨sc, sd⟩, p, frm, up⟩ = false := by simp [mayAdd, hq1]
    simp [t37, eBroker, Tags.none, e24, s24, hal, hfi, idxOf, turn, resultsOf]
    simp [hR, addB, hmay, eBroker, Tags.none]
  | some a =>
    rw [hq1] at hfi
    simp only at hfi
    obtain ⟨j, hj, hja⟩ := hfi
    have hjn : ¬ (j : Int) < 0 := by omega
    cases hq2 : ent.find? (isE ⟨tc, td⟩ ⟨sc, sd⟩) with
    | some e2 =>
      rw [hq2] at hfe hany
      simp only at hfe
      obtain ⟨k, hk, _⟩ := hfe
      rw [hk] at hEn
      have hk0 : (0 : Int) ≤ (k : Int) := by omega
      have hmay : mayAdd ⟨me, near, adv, seen, ent, own⟩ ⟨⟨tc, td⟩, ⟨sc, sd⟩, p, frm, up⟩ = false := by simp only [mayAdd, hq1, hany]; simp [hasO]
      simp [t37, eBroker, Tags.none, e24, s24, hal, hj, hjn, idxOf, e119, hEn, hk0, turn, resultsOf]
      simp [hR, addB, hmay, eBroker, Tags.none]
    | none =>
      rw [hq2] at hfe hany
      simp only at hfe
      rw [hfe] at hEn
      by_cases hfp : frm = a.parent ∧ ¬ a.parent = -1
      · have hmay : mayAdd ⟨me, near, adv, seen, ent, own⟩ ⟨⟨tc, td⟩, ⟨sc, sd⟩, p, frm, up⟩ = false := by simp only [mayAdd, hq1, hany]; simp [hfp.1, hfp.2]
        have hf1 := hfp.1
        have hf2 := hfp.2
        subst hf1
        simp [t37, eBroker, Tags.none, e24, s24, hal, hj, hjn, hja, eAdvert, idxOf, e119, hEn, hf2, turn, resultsOf]
        simp [hR, addB, hmay, eBroker, Tags.none]
      · have hmay : mayAdd ⟨me, near, adv, seen, ent, own⟩ ⟨⟨tc, td⟩, ⟨sc, sd⟩, p, frm, up⟩ = true := by
          simp only [mayAdd, hq1, hany, hasO]
          by_cases h1 : frm = a.parent
          · have h2 : a.parent = -1 := by
              by_cases h2 : a.parent = -1
              · exact h2
              · exact absurd ⟨h1, h2⟩ hfp
            simp [h2]
          · simp [h1]
        have hpar : parentOf ⟨me, near, adv, seen, ent, own⟩ ⟨tc, td⟩ = a.parent := by simp [parentOf, hq1]
        have hfin : ∀ U F H, upOf ⟨me, near, adv, seen, ent, own⟩ ⟨⟨tc, td⟩, ⟨sc, sd⟩, p, frm, up⟩ = U → H.get 0 = some (.arr 29 6 [.agg [.int .i64 me, eL false 1 cInt near, eL false 4 eAdvert adv, eL false 2 eID seen, eL false 7 eEntry ent, eL false 3 eOwn own]] (some 1)) → H.get 1 = some (.arr 58 7 [.agg [.int .i64 tc, .int .i64 td, .int .i64 sc, .int .i64 sd, ePred p, .int .i64 frm, .bool U]] (some 1)) →
            H.get 2 = some (.arr 29 6 [.agg [.int .i64 0, .nsl, .nsl, .nsl, .nsl, .nsl]] (some 1)) → H.lim = 0 → 3 ≤ H.n → WF H → F 2 = .ptr 0 6 0 0 → F 3 = .ptr 1 7 0 0 → F 4 = .ptr 2 6 0 0 → F 7 = .int .i64 0 →
            pcOut (fin [.cell 4 (some 6), .t 5] (run D 115 [.block 0, .seq t37k0] (.loop t37l0) F H)) = some R := fun U F H u a0 a1 a2 a3 a4 a5 a6 a7 a8 a9 => by
          rw [v37 me near adv seen ent own tc td sc sd p frm U z4 F H a0 a1 a2 a3 a4 a5 a6 a7 a8 a9, hR]
          simp [addB, hmay, u]
        by_cases hpl : a.parent = -1
        · have hup : upOf ⟨me, near, adv, seen, ent, own⟩ ⟨⟨tc, td⟩, ⟨sc, sd⟩, p, frm, up⟩ = false := by simp [upOf, hpar, hpl]
          by_cases hfm : frm = -1
          · simp [t37, eBroker, Tags.none, e24, s24, hal, hj, hjn, hja, eAdvert, idxOf, e119, hEn, hpl, eq_true hfm, turn]
            refine hfin false _ _ hup ?_ ?_ ?_ ?_ ?_ ?_ ?_ ?_ ?_ ?_ <;> simp
          · simp [t37, eBroker, Tags.none, e24, s24, hal, hj, hjn, hja, eAdvert, idxOf, e119, hEn, hpl, hfm, turn]
            refine hfin false _ _ hup ?_ ?_ ?_ ?_ ?_ ?_ ?_ ?_ ?_ ?_ <;> simp
        · have hfne : ¬ frm = a.parent := fun e => hfp ⟨e, hpl⟩
          cases hC : coveredB ent ⟨tc, td⟩ p with
          | true =>
            rw [hC] at hCv
            have hup : upOf ⟨me, near, adv, seen, ent, own⟩ ⟨⟨tc, td⟩, ⟨sc, sd⟩, p, frm, up⟩ = false := by simp [upOf, hC]
            by_cases hfm : frm = -1
            · simp [t37, eBroker, Tags.none, e24, s24, hal, hj, hjn, hja, eAdvert, idxOf, e119, hEn, hpl, eq_true hfm, e36, hCv, turn]
              refine hfin false _ _ hup ?_ ?_ ?_ ?_ ?_ ?_ ?_ ?_ ?_ ?_ <;> simp
            · simp [t37, eBroker, Tags.none, e24, s24, hal, hj, hjn, hja, eAdvert, idxOf, e119, hEn, hpl, hfne, hfm, e36, hCv, turn]
              refine hfin false _ _ hup ?_ ?_ ?_ ?_ ?_ ?_ ?_ ?_ ?_ ?_ <;> simp
          | false =>
            rw [hC] at hCv
            have hup : upOf ⟨me, near, adv, seen, ent, own⟩ ⟨⟨tc, td⟩, ⟨sc, sd⟩, p, frm, up⟩ = true := by simp [upOf, hpar, hpl, hC]
            by_cases hfm : frm = -1
            · simp [t37, eBroker, Tags.none, e24, s24, hal, hj, hjn, hja, eAdvert, idxOf, e119, hEn, hpl, eq_true hfm, e36, hCv, turn]
              refine hfin true _ _ hup ?_ ?_ ?_ ?_ ?_ ?_ ?_ ?_ ?_ ?_ <;> simp
            · simp [t37, eBroker, Tags.none, e24, s24, hal, hj, hjn, hja, eAdvert, idxOf, e119, hEn, hpl, hfne, hfm, e36, hCv, turn]
              refine hfin true _ _ hup ?_ ?_ ?_ ?_ ?_ ?_ ?_ ?_ ?_ ?_ <;> simp
end Go.Dm.Tc

/-
Two rows of one element type side by side: what is put behind one leaves the other one alone.
-/
namespace Go.Dm.Tc
def NotAt (v : DV) (k : Nat) : Prop := ∀ sz off len, v ≠ .sl k sz off len
theorem append_frame {lo : Nat} {h : Heap} {v : DV} {ety sz bytes : Nat} {xs ys : List DV} {A : Option (DV × Heap)} (w : OwnR lo h v ety sz xs) (wf : WF h) (hlo : lo ≤ h.n) (hlim : h.lim ≤ h.n) (hA : appendD h ety sz bytes v ys = A)
    (hb : (xs.length + ys.length) * bytes ≤ 140737488355328) (hb1 : 1 ≤ bytes) :
    ∃ v' h', A = some (v', h') ∧ OwnR lo h' v' ety sz (xs ++ ys) ∧ Ext lo h h' ∧ (∀ k, k < h.n → NotAt v k → h'.get k = h.get k) ∧ (∀ k, k < h.n → NotAt v k → NotAt v' k) := by
  have hm : xs.length + ys.length ≤ 140737488355328 := Nat.le_trans (Nat.le_mul_of_pos_right _ hb1) hb
  by_cases hy : ys = []
  · subst hy
    refine ⟨v, h, ?_, by simpa using w, .refl hlo wf, fun _ _ _ => rfl, fun _ _ q => q⟩
    rw [← hA]
    cases w with
    | nil hv hx => subst hv; rfl
    | arr id sp cap hv hg _ _ => subst hv; rfl
  · have hye : ys.isEmpty = false := by cases ys <;> simp_all
    have hyl : 0 < ys.length := List.length_pos_iff.2 hy
    cases w with
    | nil hv hx =>
      subst hv; subst hx
      simp only [List.length_nil, Nat.zero_add] at hb hm
      refine ⟨.sl h.n sz 0 ys.length, h.push (.arr ety sz ys none), ?_, .arr h.n [] none rfl (by simp [get_push]) (by exact hlim) hlo, (Ext.refl hlo wf).push, fun k hk _ => by rw [get_push, if_neg (by omega)], fun k hk _ sz' off' len' e => by injection e; omega⟩
      rw [← hA]
      simp only [appendD, hye]
      rw [if_neg (by simp), if_pos ⟨hb, by omega⟩]
    | arr id sp cap hv hg hl hi =>
      subst hv
      have hlt := get_some_lt hg
      have hne : ∀ k, NotAt (.sl id sz 0 xs.length) k → k ≠ id := fun k q e => by subst e; exact q _ _ _ rfl
      by_cases hin : xs.length + ys.length ≤ (xs ++ sp).length
      · refine ⟨.sl id sz 0 (xs.length + ys.length), h.set id (.arr ety sz (splice (xs ++ sp) ys xs.length) cap), ?_, .arr id (sp.drop ys.length) cap (by simp) ?_ (by exact hl) hi, (Ext.refl hlo wf).set hi hlt, fun k _ q => by rw [get_set wf hlt, if_neg (hne k q)], fun k _ q sz' off' len' e => by injection e with e1; exact hne k q e1.symm⟩
        · rw [← hA]; exact appendD_in hg hin hl hb hb1 hy
        · rw [get_set wf hlt, if_pos rfl]
          simp only [splice, List.take_left', List.append_assoc]
          congr 3
          rw [List.drop_append]
          simp
      · cases cap with
        | none =>
          refine ⟨.sl h.n sz 0 (xs.length + ys.length), (h.set id .dead).push (.arr ety sz (xs ++ ys) none), ?_, .arr h.n [] none (by simp) ?_ (by exact hlim) hlo, ((Ext.refl hlo wf).set hi hlt).push, fun k hk q => by rw [get_push, if_neg (by show ¬ k = h.n; omega), get_set wf hlt, if_neg (hne k q)], fun k hk _ sz' off' len' e => by injection e; omega⟩
          · rw [← hA]
            simp only [appendD, hye, hg]
            simp only [Bool.false_eq_true, if_false, true_and, Nat.zero_add, List.drop_zero]
            rw [if_pos ⟨by simp, hb, by omega⟩, if_neg hin, if_pos hl]
            simp
          · simpa using get_push_new (h := h.set id .dead)
        | some c =>
          refine ⟨.sl h.n sz 0 (xs.length + ys.length), h.push (.arr ety sz (xs ++ ys) none), ?_, .arr h.n [] none (by simp) ?_ (by exact hlim) hlo, (Ext.refl hlo wf).push, fun k hk _ => by rw [get_push, if_neg (by omega)], fun k hk _ sz' off' len' e => by injection e; omega⟩
          · rw [← hA]
            rw [appendD_new hg (by simp) (by omega) hb hb1 hy]
            simp
          · simpa using get_push_new (h := h)
def takeL (tree : ID) : List Entry → List Entry → List Entry → List Entry × List Entry
  | done, [], ups => (done, ups)
  | done, e :: r, ups => if e.tree = tree ∧ e.up = false ∧ coveredB (done ++ e :: r) tree e.pred = false then takeL tree (done ++ [{ e with up := true }]) r (ups ++ [{ e with up := true }]) else takeL tree (done ++ [e]) r ups
def takeB (b : Broker) (tree sub : ID) (frm : Int) : Broker × List Entry × Bool :=
  match b.entries.find? (isE tree sub) with
  | none => (b, [], false)
  | some e => if e.frm = frm then
      (if e.up = true then ({ b with entries := (takeL tree [] (b.entries.filter fun x => !isE tree sub x) []).1 }, (takeL tree [] (b.entries.filter fun x => !isE tree sub x) []).2, true)
       else ({ b with entries := b.entries.filter fun x => !isE tree sub x }, [], false))
    else (b, [], false)
end Go.Dm.Tc

/-
What functions of the program compute, part 19: an entry taken out (the loop).
-/
namespace Go.Dm.Tc
theorem set_at {α : Type} (l : List α) (e e' : α) (r : List α) (sp : List α) : (l ++ e :: r ++ sp).set l.length e' = l ++ e' :: r ++ sp := by
  rw [List.append_assoc, List.append_assoc, List.set_append_right _ _ (Nat.le_refl _)]
  simp
theorem own_set {lo : Nat} {h : Heap} {v : DV} {ety sz : Nat} {xs : List DV} (w : OwnR lo h v ety sz xs) (wf : WF h) {id : Nat} {o : DO} (hlt : id < h.n) (na : NotAt v id) : OwnR lo (h.set id o) v ety sz xs := by
  cases w with
  | nil hv hx => exact .nil hv hx
  | arr k sp cap hv hg hl hi =>
    have hne : ¬ k = id := fun e => by subst e; exact na _ _ _ hv
    exact .arr k sp cap hv (by rw [get_set wf hlt, if_neg hne]; exact hg) hl hi
theorem not_low {lo : Nat} {h : Heap} {v : DV} {ety sz : Nat} {xs : List DV} (w : OwnR lo h v ety sz xs) {k : Nat} (hk : k < lo) : NotAt v k := by
  intro a b c e
  cases w with
  | nil hv hx => rw [hv] at e; cases e
  | arr id sp cap hv hg hl hi => rw [hv] at e; injection e; omega
set_option maxRecDepth 8000 in
set_option maxHeartbeats 1600000 in
theorem l34 (S : List Fr) (me : Int) (near : List Int) (adv : List Advert) (seen : List ID) (own : List OwnS) (tc td : Int) (i4 n : Nat) (zb : DO) :
    ∀ (rest done ups : List Entry) (f : FEnv) (h : Heap), done.length + rest.length = n → n ≤ 100000 → ups.length ≤ done.length → (∀ e ∈ done ++ rest, PredOk e.pred) →
      f 4 = .ptr 0 6 0 0 → f 5 = .ptr 1 2 0 0 → f 8 = .ptr 3 6 0 0 → f 56 = .sl i4 7 0 n → f 57 = .int .i64 n → f 58 = .int .i64 done.length →
      h.get 0 = some (.arr 29 6 [.agg [.int .i64 me, eL false 1 cInt near, eL false 4 eAdvert adv, eL false 2 eID seen, .sl i4 7 0 n, eL false 3 eOwn own]] (some 1)) → h.get 1 = some (.arr 37 2 [.agg [.int .i64 tc, .int .i64 td]] (some 1)) → h.get 3 = some zb →
      OwnI 4 h i4 58 7 ((done ++ rest).map eEntry) → OwnR 4 h (f 9) 58 7 (ups.map eEntry) → NotAt (f 9) i4 → h.lim = 0 → 4 ≤ h.n → WF h →
    ∃ f' h', run D 96 (.block 0 :: .seq t34k0 :: S) (.loop t34l0) f h = run D 96 S t34k0 f' h' ∧ f' 4 = .ptr 0 6 0 0 ∧ f' 8 = .ptr 3 6 0 0 ∧
      h'.get 0 = some (.arr 29 6 [.agg [.int .i64 me, eL false 1 cInt near, eL false 4 eAdvert adv, eL false 2 eID seen, .sl i4 7 0 n, eL false 3 eOwn own]] (some 1)) ∧ h'.get 3 = some zb ∧
      OwnI 4 h' i4 58 7 ((takeL ⟨tc, td⟩ done rest ups).1.map eEntry) ∧ OwnR 4 h' (f' 9) 58 7 ((takeL ⟨tc, td⟩ done rest ups).2.map eEntry) ∧ (takeL ⟨tc, td⟩ done rest ups).1.length = n ∧ h'.lim = 0 ∧ 4 ≤ h'.n ∧ WF h' := by
  intro rest
  induction rest with
  | nil =>
    intro done ups f h hn hn1 hu hp h4 h5 h8 h56 h57 h58 g0 g1 g3 o4 o9 na hlim hn4 wf
    have : ¬ (done.length < n) := by simp at hn; omega
    rw [run_loop_of t34l0.eq_1]
    simp [h57, h58, this]
    refine ⟨_, _, rfl, by simp [h4], by simp [h8], g0, g3, ?_, ?_, ?_, hlim, hn4, wf⟩
    · simpa [takeL] using o4
    · simpa [takeL] using o9
    · simpa [takeL] using hn
  | cons e rest ih =>
    intro done ups f h hn hn1 hu hp h4 h5 h8 h56 h57 h58 g0 g1 g3 o4 o9 na hlim hn4 wf
    have hlt : done.length < n := by simp at hn; omega
    have hid := o4.lt
    have hlo := o4.lo
    have hL : (done ++ e :: rest).length = n := by simp at hn ⊢; omega
    obtain ⟨⟨sp, cap, g4⟩, hl4, _⟩ := o4
    have hw : IntKind.i64.wrap ((done.length : Int) + 1) = (done.length : Int) + 1 := wrap64 (by omega) (by omega)
    have n0 : ¬ 0 = h.n := by omega
    have n1 : ¬ 1 = h.n := by omega
    have n3 : ¬ 3 = h.n := by omega
    have n4 : ¬ i4 = h.n := by omega
    have m0 : ¬ h.n = 0 := by omega
    have m1 : ¬ h.n = 1 := by omega
    have i0 : ¬ 0 = i4 := by omega
    have i1 : ¬ 1 = i4 := by omega
    have i3 : ¬ 3 = i4 := by omega
    have j0 : ¬ i4 = 0 := by omega
    have j1 : ¬ i4 = 1 := by omega
    have hia : indexAddrV 7 (.sl i4 7 0 n) (.int .i64 (done.length : Int)) = some (.ptr i4 7 done.length 0) := by simp [indexAddrV, asI, hlt]
    have hel : (List.map eEntry (done ++ e :: rest) ++ sp)[done.length]? = some (eEntry e) := by
      rw [List.getElem?_append_left (by simp), List.getElem?_map, List.getElem?_append_right (Nat.le_refl _)]; simp
    have f1 := fun {α : Type} (t : Bool) (sz : Nat) (e : α → DV) (xs : List α) => (flat_eL t sz e xs).mono (show 1 ≤ 20 by decide)
    have hpe := hp e (by simp)
    have hCv := s35 (.int .i64 me) (eL false 1 cInt near) (eL false 4 eAdvert adv) (eL false 2 eID seen) (eL false 3 eOwn own) true (done ++ e :: rest) tc td e.pred (by omega) hpe.unlike (Nat.le_trans hpe.len (by decide)) (fun x hx => Nat.le_trans (hp x hx).len (by decide)) ((flat_int _ _).mono (by decide)) (f1 _ _ _ _) (f1 _ _ _ _) (f1 _ _ _ _) (f1 _ _ _ _)
    have o4R : ∀ o, OwnR 4 (h.push o) (.sl i4 7 0 n) 58 7 ((done ++ e :: rest).map eEntry) := fun o => by
      have := (OwnI.toR (⟨⟨sp, cap, g4⟩, hl4, hlo⟩ : OwnI 4 h i4 58 7 ((done ++ e :: rest).map eEntry))).push (o := o)
      rw [List.length_map, hL] at this
      exact this
    have r4 : ∀ o, resolve true (h.push o) 199 (.sl i4 7 0 n) = some (eL true 7 eEntry (done ++ e :: rest)) := fun o => (o4R o).resolve true (fun y _ => (plain_entry y).1) (by decide)
    simp only [eEntry] at hel
    have hstep : ∀ F o, takeL ⟨tc, td⟩ done (e :: rest) ups = takeL ⟨tc, td⟩ (done ++ [e]) rest ups → F 4 = .ptr 0 6 0 0 → F 5 = .ptr 1 2 0 0 → F 8 = .ptr 3 6 0 0 → F 56 = .sl i4 7 0 n → F 57 = .int .i64 n → F 58 = .int .i64 ((done.length : Int) + 1) → F 9 = f 9 →
        ∃ f' h', run D 96 (.block 0 :: .seq t34k0 :: S) (.loop t34l0) F (h.push o) = run D 96 S t34k0 f' h' ∧ f' 4 = .ptr 0 6 0 0 ∧ f' 8 = .ptr 3 6 0 0 ∧
      h'.get 0 = some (.arr 29 6 [.agg [.int .i64 me, eL false 1 cInt near, eL false 4 eAdvert adv, eL false 2 eID seen, .sl i4 7 0 n, eL false 3 eOwn own]] (some 1)) ∧ h'.get 3 = some zb ∧
      OwnI 4 h' i4 58 7 ((takeL ⟨tc, td⟩ done (e :: rest) ups).1.map eEntry) ∧ OwnR 4 h' (f' 9) 58 7 ((takeL ⟨tc, td⟩ done (e :: rest) ups).2.map eEntry) ∧ (takeL ⟨tc, td⟩ done (e :: rest) ups).1.length = n ∧ h'.lim = 0 ∧ 4 ≤ h'.n ∧ WF h' := by
      intro F o ht a4 a5 a8 a56 a57 a58 a9
      rw [ht]
      refine ih (done ++ [e]) ups F _ (by simp at hn ⊢; omega) hn1 (by simp; omega) (by simpa using hp) a4 a5 a8 a56 a57 (by rw [a58]; simp) ?_ ?_ ?_ ?_ ?_ ?_ hlim (by show 4 ≤ h.n + 1; omega) wf.push
      · rw [get_push, if_neg n0]; exact g0
      · rw [get_push, if_neg n1]; exact g1
      · rw [get_push, if_neg n3]; exact g3
      · have := (⟨⟨sp, cap, g4⟩, hl4, hlo⟩ : OwnI 4 h i4 58 7 ((done ++ e :: rest).map eEntry)).push (o := o)
        simpa using this
      · rw [a9]; exact o9.push
      · rw [a9]; exact na
    rw [run_loop_of t34l0.eq_1]
    by_cases ht : e.tree = ⟨tc, td⟩
    · have hc1 : e.tree.client = tc := by rw [ht]
      have hc2 : e.tree.seq = td := by rw [ht]
      cases hup : e.up with
      | true =>
        have hno : takeL ⟨tc, td⟩ done (e :: rest) ups = takeL ⟨tc, td⟩ (done ++ [e]) rest ups := by simp [takeL, hup]
        simp [h5, h56, h57, h58, hlt, hia, g4, eEntry, hlim, n1, g1, hc1, hc2, hup, hw]
        generalize hF : upd _ 58 _ = F
        exact hstep F _ hno (by rw [← hF]; simp [h4]) (by rw [← hF]; simp [h5]) (by rw [← hF]; simp [h8]) (by rw [← hF]; simp [h56]) (by rw [← hF]; simp [h57]) (by rw [← hF]; simp) (by rw [← hF]; simp)
      | false =>
        cases hC : coveredB (done ++ e :: rest) ⟨tc, td⟩ e.pred with
        | true =>
          rw [hC] at hCv
          have hno : takeL ⟨tc, td⟩ done (e :: rest) ups = takeL ⟨tc, td⟩ (done ++ [e]) rest ups := by simp only [takeL]; rw [if_neg]; rw [hC]; simp
          simp [h4, h5, h56, h57, h58, hlt, hia, g4, eEntry, hlim, n0, n1, g0, g1, hc1, hc2, hup, hw, -res_sl_eq, r4, e35, hCv]
          generalize hF : upd _ 58 _ = F
          exact hstep F _ hno (by rw [← hF]; simp [h4]) (by rw [← hF]; simp [h5]) (by rw [← hF]; simp [h8]) (by rw [← hF]; simp [h56]) (by rw [← hF]; simp [h57]) (by rw [← hF]; simp) (by rw [← hF]; simp)
        | false =>
          rw [hC] at hCv
          have hyes : takeL ⟨tc, td⟩ done (e :: rest) ups = takeL ⟨tc, td⟩ (done ++ [{ e with up := true }]) rest (ups ++ [{ e with up := true }]) := by simp only [takeL]; rw [if_pos ⟨ht, hup, hC⟩]
          simp [h4, h5, h56, h57, h58, hlt, hia, g4, eEntry, hlim, n0, n1, n4, i0, g0, g1, hc1, hc2, hup, -res_sl_eq, r4, e35, hCv, hid, wf, turn]
          have hset : (List.map eEntry done ++ DV.agg [.int .i64 tc, .int .i64 td, .int .i64 e.sub.client, .int .i64 e.sub.seq, ePred e.pred, .int .i64 e.frm, .bool false] :: List.map eEntry rest ++ sp).set done.length (.agg [.int .i64 tc, .int .i64 td, .int .i64 e.sub.client, .int .i64 e.sub.seq, ePred e.pred, .int .i64 e.frm, .bool true]) = List.map eEntry (done ++ { e with up := true } :: rest) ++ sp := by
            have := set_at (List.map eEntry done) (DV.agg [.int .i64 tc, .int .i64 td, .int .i64 e.sub.client, .int .i64 e.sub.seq, ePred e.pred, .int .i64 e.frm, .bool false]) (.agg [.int .i64 tc, .int .i64 td, .int .i64 e.sub.client, .int .i64 e.sub.seq, ePred e.pred, .int .i64 e.frm, .bool true]) (List.map eEntry rest) sp
            rw [List.length_map] at this
            rw [this]
            simp [eEntry, hc1, hc2]
          generalize hA : appendD _ _ _ _ _ _ = A
          obtain ⟨v', h', rfl, o9', x9, fr9, na9⟩ := append_frame ((own_set o9 wf hid na).push.push) (by simp [wf]) (by simp; omega) (by simp [hlim]) hA (by simp; omega) (by decide)
          clear hA
          have y0 := fr9 0 (by simp) (not_low o9 (by decide))
          have y1 := fr9 1 (by simp) (not_low o9 (by decide))
          have y3 := fr9 3 (by simp; omega) (not_low o9 (by decide))
          have y4 := fr9 i4 (by simp; omega) na
          have ny := na9 i4 (by simp; omega) na
          have yl := x9.lim
          have yw := x9.wf
          have yn := x9.le
          have n41 : ¬ i4 = h.n + 1 := by omega
          have n31 : ¬ 3 = h.n + 1 := by omega
          have m2 : ¬ h.n = 2 := by omega
          simp [wf, hid, n0, n1, n3, n4, m0, i0, i1, i3, n41, n31, g0, g1, g3, hlim] at y0 y1 y3 y4 yl
          simp [h58, hw]
          generalize hF : upd _ 58 _ = F
          rw [hyes]
          refine ih (done ++ [{ e with up := true }]) (ups ++ [{ e with up := true }]) F h' (by simp at hn ⊢; omega) hn1 (by simp; omega) ?_ ?_ ?_ ?_ ?_ ?_ ?_ y0 y1 y3 ⟨⟨sp, cap, ?_⟩, ?_, hlo⟩ ?_ ?_ yl yn yw
          · intro x hx
            simp only [List.append_assoc, List.singleton_append, List.mem_append, List.mem_cons] at hx
            rcases hx with hx | rfl | hx
            · exact hp x (by simp [hx])
            · exact hpe
            · exact hp x (by simp [hx])
          · rw [← hF]; simp [h4]
          · rw [← hF]; simp [h5]
          · rw [← hF]; simp [h8]
          · rw [← hF]; simp [h56]
          · rw [← hF]; simp [h57]
          · rw [← hF]; simp
          · rw [y4]; simp [eEntry, hc1, hc2]
          · rw [yl]; exact Nat.zero_le _
          · rw [← hF]; simp; simpa [eEntry, hc1, hc2] using o9'
          · rw [← hF]; simp; exact ny
    · have h1' := id_ne ht
      simp only at h1'
      have hno : takeL ⟨tc, td⟩ done (e :: rest) ups = takeL ⟨tc, td⟩ (done ++ [e]) rest ups := by simp [takeL, ht]
      simp [h5, h56, h57, h58, hlt, hia, g4, eEntry, hlim, n1, g1, h1', hw]
      generalize hF : upd _ 58 _ = F
      exact hstep F _ hno (by rw [← hF]; simp [h4]) (by rw [← hF]; simp [h5]) (by rw [← hF]; simp [h8]) (by rw [← hF]; simp [h56]) (by rw [← hF]; simp [h57]) (by rw [← hF]; simp) (by rw [← hF]; simp)
end Go.Dm.Tc

/-
What functions of the program compute, part 20: an entry taken out.
-/
namespace Go.Dm.Tc
theorem dropE_at {l : List Entry} (hr : RisingE l) {t s : ID} {i : Nat} {a : Entry} (hi : l[i]? = some a) (ha : isE t s a = true) : l.take i ++ l.drop (i + 1) = l.filter fun x => !isE t s x := by
  have hlt : i < l.length := by
    by_cases h : i < l.length
    · exact h
    · rw [List.getElem?_eq_none (by omega)] at hi; cases hi
  have hia : l[i] = a := by rw [List.getElem?_eq_getElem hlt] at hi; exact Option.some.inj hi
  have ha' : a.tree = t ∧ a.sub = s := by simpa [isE] using ha
  have h0 : sgnE t s a = 0 := sgnE_eq.2 ha'
  have hne : ∀ j (hj : j < l.length), j ≠ i → isE t s l[j] = false := by
    intro j hj hji
    cases he : isE t s l[j] with
    | false => rfl
    | true =>
      have he' : l[j].tree = t ∧ l[j].sub = s := by simpa [isE] using he
      rcases Nat.lt_or_gt_of_ne hji with h | h
      · have := List.pairwise_iff_getElem.1 hr j i hj hlt h
        rw [hia, ha'.1, ha'.2, sgnE_eq.2 he'] at this
        omega
      · have := List.pairwise_iff_getElem.1 hr i j hlt hj h
        rw [hia, he'.1, he'.2, h0] at this
        omega
  have h1 : (l.take i).filter (fun x => !isE t s x) = l.take i := by
    rw [List.filter_eq_self]
    intro y hy
    obtain ⟨j, hj, rfl⟩ := List.mem_iff_getElem.1 hy
    rw [List.length_take] at hj
    have := hne j (by omega) (by omega)
    simpa using this
  have h2 : (l.drop (i + 1)).filter (fun x => !isE t s x) = l.drop (i + 1) := by
    rw [List.filter_eq_self]
    intro y hy
    obtain ⟨j, hj, rfl⟩ := List.mem_iff_getElem.1 hy
    rw [List.length_drop] at hj
    have := hne (i + 1 + j) (by omega) (by omega)
    simpa using this
  have h3 : (l.drop i).filter (fun x => !isE t s x) = l.drop (i + 1) := by
    rw [List.drop_eq_getElem_cons hlt, List.filter_cons, hia, ha, h2]; simp
  calc l.take i ++ l.drop (i + 1) = (l.take i ++ l.drop i).filter (fun x => !isE t s x) := by rw [List.filter_append, h1, h3]
    _ = _ := by rw [List.take_append_drop]
set_option maxRecDepth 8000 in
theorem s34 (b : Broker) (tc td sc sd frm : Int) (hs : Sized b) (hq : ∀ e ∈ b.entries, PredOk e.pred) (re : RisingE b.entries) :
    pcF D t34 [eBroker .none b, .agg [.int .i64 tc, .int .i64 td], .agg [.int .i64 sc, .int .i64 sd], .int .i64 frm] = some (.tup [eBroker .none (takeB b ⟨tc, td⟩ ⟨sc, sd⟩ frm).1, eL false 7 eEntry (takeB b ⟨tc, td⟩ ⟨sc, sd⟩ frm).2.1, .bool (takeB b ⟨tc, td⟩ ⟨sc, sd⟩ frm).2.2]) := by
  obtain ⟨me, near, adv, seen, ent, own⟩ := b
  obtain ⟨z1, z2, z3, z4, z5⟩ := hs
  simp only at z1 z2 z3 z4 z5 re hq
  obtain ⟨R, hR⟩ : ∃ R, R = DV.tup [eBroker .none (takeB ⟨me, near, adv, seen, ent, own⟩ ⟨tc, td⟩ ⟨sc, sd⟩ frm).1, eL false 7 eEntry (takeB ⟨me, near, adv, seen, ent, own⟩ ⟨tc, td⟩ ⟨sc, sd⟩ frm).2.1, .bool (takeB ⟨me, near, adv, seen, ent, own⟩ ⟨tc, td⟩ ⟨sc, sd⟩ frm).2.2] := ⟨_, rfl⟩
  rw [← hR]
  have hel : ent.length ≤ 1000000 := by omega
  have hPl := s113 (.int .i64 me) (eL false 1 cInt near) (eL false 4 eAdvert adv) (eL false 2 eID seen) (eL false 3 eOwn own) true ent tc td sc sd re hel
  have hhit := hitE re ⟨tc, td⟩ ⟨sc, sd⟩
  unfold pcF
  rw [goRun_eq _ _ _ _ (by simp [t34])]
  simp [t34, eBroker, Tags.none, e112]
  generalize hA : cloneHook _ _ _ _ _ = A
  obtain ⟨v4, K, rfl, o4, x, _⟩ := clone_own (lo := 4) (elems_eL ..) (by simp) (by simp) (by simp) (by simp; omega) (by decide) hA
  clear hA
  have a0 := x.get 0 (by decide)
  have a1 := x.get 1 (by decide)
  have a2 := x.get 2 (by decide)
  have a3 := x.get 3 (by decide)
  have q0 := x.lim
  have w0 := x.wf
  have n0 := x.le
  simp at a0 a1 a2 a3 q0
  have l0' : 0 < K.n := by omega
  obtain ⟨H, hH⟩ : ∃ H, H = K.set 0 (.arr 29 6 [.agg [.int .i64 me, eL false 1 cInt near, eL false 4 eAdvert adv, eL false 2 eID seen, v4, eL false 3 eOwn own]] (some 1)) := ⟨_, rfl⟩
  have wH : WF H := by rw [hH]; exact w0.set
  have nH : H.n = K.n := by rw [hH]; rfl
  have lH : H.lim = 0 := by rw [hH]; exact q0
  have g0 : H.get 0 = some (.arr 29 6 [.agg [.int .i64 me, eL false 1 cInt near, eL false 4 eAdvert adv, eL false 2 eID seen, v4, eL false 3 eOwn own]] (some 1)) := by rw [hH, get_set w0 l0', if_pos rfl]
  have g1 : H.get 1 = some (.arr 37 2 [.agg [.int .i64 tc, .int .i64 td]] (some 1)) := by rw [hH, get_set w0 l0', if_neg (by decide)]; exact a1
  have g2 : H.get 2 = some (.arr 37 2 [.agg [.int .i64 sc, .int .i64 sd]] (some 1)) := by rw [hH, get_set w0 l0', if_neg (by decide)]; exact a2
  have g3 : H.get 3 = some (.arr 29 6 [.agg [.int .i64 0, .nsl, .nsl, .nsl, .nsl, .nsl]] (some 1)) := by rw [hH, get_set w0 l0', if_neg (by decide)]; exact a3
  have st4 := o4.storable
  have ec4 := o4.ecells
  replace o4 : Own 4 H v4 58 7 (ent.map eEntry) := by rw [hH]; exact o4.setLow w0 (by decide) l0'
  simp [a0, a1, a2, q0, w0, l0', st4, ec4, turn]
  rw [← hH]
  clear hH
  have l3 : 3 < H.n := by omega
  have l0 : 0 < H.n := by omega
  have r1 : resolve true H 199 v4 = some (eL true 7 eEntry ent) := o4.resolve true (fun y _ => (plain_entry y).1) (by decide)
  have r2 : ∀ o', resolve false (H.set 3 o') 198 v4 = some (eL false 7 eEntry ent) := fun o' => (o4.setLow wH (by decide) l3).resolve false (fun y _ => (plain_entry y).1) (by decide)
  cases hq2 : ent.find? (isE ⟨tc, td⟩ ⟨sc, sd⟩) with
  | none =>
    rw [hq2] at hhit
    simp only at hhit
    have htk : takeB ⟨me, near, adv, seen, ent, own⟩ ⟨tc, td⟩ ⟨sc, sd⟩ frm = (⟨me, near, adv, seen, ent, own⟩, [], false) := by simp [takeB, hq2]
    simp [r1, r2, e113, hPl, hhit, g0, g3, lH, wH, l3, turn, resultsOf]
    simp [hR, htk, eBroker, Tags.none, eL_nil]
  | some e =>
    rw [hq2] at hhit
    simp only at hhit
    obtain ⟨hh1, hh2⟩ := hhit
    obtain ⟨i, hi⟩ : ∃ i, lowIdx (sgnE ⟨tc, td⟩ ⟨sc, sd⟩) ent = i := ⟨_, rfl⟩
    rw [hi] at hh2 hPl
    have hilt : i < ent.length := by
      by_cases h : i < ent.length
      · exact h
      · rw [List.getElem?_eq_none (by omega)] at hh2; cases hh2
    obtain ⟨id, sp, cap, hv4, hg4, hl4, hlo4, hix, hxx⟩ := o4.toR.index (i := i) (x := eEntry e) (by simp [hh2]) .i64
    simp only [eEntry] at hxx
    by_cases hfr : e.frm = frm
    · have hw : IntKind.i64.wrap ((i : Int) + 1) = (i : Int) + 1 := wrap64 (by omega) (by omega)
      have hdr := dropE_at re hh2 (List.find?_some hq2)
      obtain ⟨v4', H', hD, m4, x2, _⟩ := s116 4 H v4 ent i o4 hilt hel wH (by omega)
      rw [hdr] at m4
      obtain ⟨fl, hfl⟩ : ∃ fl, (ent.filter fun x => !isE ⟨tc, td⟩ ⟨sc, sd⟩ x) = fl := ⟨_, rfl⟩
      rw [hfl] at m4
      have hfln : fl.length ≤ 100000 := by rw [← hfl]; exact Nat.le_trans (List.length_filter_le ..) z4
      have hflp : ∀ x ∈ fl, PredOk x.pred := fun x hx => hq x (by rw [← hfl] at hx; exact (List.mem_filter.1 hx).1)
      have b0 := x2.get 0 (by decide)
      have b1 := x2.get 1 (by decide)
      have b3 := x2.get 3 (by decide)
      have q2 := x2.lim
      have w2 := x2.wf
      have n2 := x2.le
      rw [g0] at b0
      rw [g1] at b1
      rw [g3] at b3
      rw [lH] at q2
      have h20 : 0 < H'.n := by omega
      have h23 : 3 < H'.n := by omega
      have r4 := fun o o' => ((m4.setLow (o := o) w2 (by decide) h20).setLow (o := o') w2.set (by decide) h23).resolve (n := 198) false (fun y _ => (plain_entry y).1) (by decide)
      cases hup : e.up with
      | false =>
        have htk : takeB ⟨me, near, adv, seen, ent, own⟩ ⟨tc, td⟩ ⟨sc, sd⟩ frm = (⟨me, near, adv, seen, fl, own⟩, [], false) := by simp [takeB, hq2, hfr, hup, hfl]
        rw [hup] at hxx
        simp [r1, e113, hPl, hh1, hix, hg4, hxx, eq_true hfr, g0, hw, hD, b0, b3, q2, w2, h20, h23, m4.storable, m4.ecells, r4, turn, resultsOf]
        simp [hR, htk, eBroker, Tags.none, eL_nil]
      | true =>
        have htk : takeB ⟨me, near, adv, seen, ent, own⟩ ⟨tc, td⟩ ⟨sc, sd⟩ frm = (⟨me, near, adv, seen, (takeL ⟨tc, td⟩ [] fl []).1, own⟩, (takeL ⟨tc, td⟩ [] fl []).2, true) := by simp [takeB, hq2, hfr, hup, hfl]
        rw [hup] at hxx
        have st := m4.storable
        have ec := m4.ecells
        cases m4 with
        | nil hv hx =>
          subst hv
          have hf0 : fl = [] := List.map_eq_nil_iff.1 hx
          subst hf0
          simp [r1, e113, hPl, hh1, hix, hg4, hxx, eq_true hfr, g0, hw, hD, b0, q2, w2, h20, turn]
          rw [run_loop_of t34l0.eq_1]
          simp [t34k0, b3, q2, w2, h20, h23, turn, resultsOf]
          simp [hR, htk, eBroker, Tags.none, eL_nil, takeL]
        | arr id2 sp2 cap2 hv hg hl hlo2 =>
          subst hv
          simp only [List.length_map] at hD st ec
          simp [r1, e113, hPl, hh1, hix, hg4, hxx, eq_true hfr, g0, hw, hD, b0, q2, w2, h20, turn]
          generalize hF : upd _ 58 _ = F
          have j0 : ¬ id2 = 0 := by omega
          obtain ⟨f1, K4, k1, k2, k3, c0, c3, o5, o9, hlen, q4, n4, w4⟩ := l34 [] me near adv seen own tc td id2 fl.length (.arr 29 6 [.agg [.int .i64 0, .nsl, .nsl, .nsl, .nsl, .nsl]] (some 1)) fl [] [] F (by simp) hfln (by simp) (by simpa using hflp) (by rw [← hF]; simp) (by rw [← hF]; simp) (by rw [← hF]; simp) (by rw [← hF]; simp) (by rw [← hF]; simp) (by rw [← hF]; simp)
            (h := H'.set 0 (.arr 29 6 [.agg [.int .i64 me, eL false 1 cInt near, eL false 4 eAdvert adv, eL false 2 eID seen, .sl id2 7 0 fl.length, eL false 3 eOwn own]] (some 1))) (by simp [w2, h20]) (by simp [w2, h20, b1]) (by simp [w2, h20, b3]) ⟨⟨sp2, cap2, by simp [w2, h20, j0, hg]⟩, by exact hl, hlo2⟩ (by rw [← hF]; simp; exact .nil rfl rfl) (by rw [← hF]; simp; intro a b c e; cases e) q2 (by exact n2) w2.set
          rw [k1]
          clear hF k1
          have y0 : 0 < K4.n := by omega
          have y3 : 3 < K4.n := by omega
          have s5 := fun o' => (o5.toR.setLow (o := o') w4 (by decide) y3).resolve (n := 198) false (fun y _ => (plain_entry y).1) (by decide)
          have s9 := fun o' => (o9.setLow (o := o') w4 (by decide) y3).resolve (n := 199) false (fun y _ => (plain_entry y).1) (by decide)
          simp only [List.length_map, hlen] at s5
          simp [t34k0, k2, k3, c0, c3, q4, w4, y3, turn, -res_sl_eq, s5, s9, resultsOf]
          simp [hR, htk, eBroker, Tags.none]
    · have htk : takeB ⟨me, near, adv, seen, ent, own⟩ ⟨tc, td⟩ ⟨sc, sd⟩ frm = (⟨me, near, adv, seen, ent, own⟩, [], false) := by simp [takeB, hq2, hfr]
      simp [r1, r2, e113, hPl, hh1, hix, hg4, hxx, hfr, g0, g3, lH, wH, l3, turn, resultsOf]
      simp [hR, htk, eBroker, Tags.none, eL_nil]
end Go.Dm.Tc

/-
What the reference's functions compute, part 8: an entry taken out (the loop).
-/
namespace Go.Dm.Tc
theorem not_high {lo : Nat} {h : Heap} {v : DV} {ety sz : Nat} {xs : List DV} (w : OwnR lo h v ety sz xs) {k : Nat} (hk : h.n ≤ k) : NotAt v k := by
  intro a b c e
  cases w with
  | nil hv hx => rw [hv] at e; cases e
  | arr id sp cap hv hg hl hi => rw [hv] at e; injection e with e1; have := get_some_lt hg; omega
set_option maxRecDepth 8000 in
set_option maxHeartbeats 3200000 in
theorem l38 (S : List Fr) (me : Int) (near : List Int) (adv : List Advert) (seen : List ID) (own : List OwnS) (tc td : Int) (n : Nat) (zb : DO) :
    ∀ (rest done ups : List Entry) (i4 : Nat) (f : FEnv) (h : Heap), done.length + rest.length = n → n ≤ 100000 → ups.length ≤ done.length → (∀ e ∈ done ++ rest, PredOk e.pred) →
      f 4 = .ptr 0 6 0 0 → f 5 = .ptr 1 2 0 0 → f 8 = .ptr 3 6 0 0 → f 57 = .int .i64 n → f 58 = .int .i64 done.length →
      h.get 0 = some (.arr 29 6 [.agg [.int .i64 me, eL false 1 cInt near, eL false 4 eAdvert adv, eL false 2 eID seen, .sl i4 7 0 n, eL false 3 eOwn own]] (some 1)) → h.get 1 = some (.arr 37 2 [.agg [.int .i64 tc, .int .i64 td]] (some 1)) → h.get 3 = some zb →
      OwnI 4 h i4 58 7 ((done ++ rest).map eEntry) → OwnR 4 h (f 13) 58 7 (ups.map eEntry) → NotAt (f 13) i4 → h.lim = 0 → 4 ≤ h.n → WF h →
    ∃ i5 f' h', run D 104 (.block 0 :: .seq t38k0 :: S) (.loop t38l0) f h = run D 104 S t38k0 f' h' ∧ f' 4 = .ptr 0 6 0 0 ∧ f' 8 = .ptr 3 6 0 0 ∧
      h'.get 0 = some (.arr 29 6 [.agg [.int .i64 me, eL false 1 cInt near, eL false 4 eAdvert adv, eL false 2 eID seen, .sl i5 7 0 n, eL false 3 eOwn own]] (some 1)) ∧ h'.get 3 = some zb ∧
      OwnI 4 h' i5 58 7 ((takeL ⟨tc, td⟩ done rest ups).1.map eEntry) ∧ OwnR 4 h' (f' 13) 58 7 ((takeL ⟨tc, td⟩ done rest ups).2.map eEntry) ∧ (takeL ⟨tc, td⟩ done rest ups).1.length = n ∧ h'.lim = 0 ∧ 4 ≤ h'.n ∧ WF h' := by
  intro rest
  induction rest with
  | nil =>
    intro done ups i4 f h hn hn1 hu hp h4 h5 h8 h57 h58 g0 g1 g3 o4 o9 na hlim hn4 wf
    have : ¬ (done.length < n) := by simp at hn; omega
    rw [run_loop_of t38l0.eq_1]
    simp [h57, h58, this]
    refine ⟨i4, _, _, rfl, by simp [h4], by simp [h8], g0, g3, ?_, ?_, ?_, hlim, hn4, wf⟩
    · simpa [takeL] using o4
    · simpa [takeL] using o9
    · simpa [takeL] using hn
  | cons e rest ih =>
    intro done ups i4 f h hn hn1 hu hp h4 h5 h8 h57 h58 g0 g1 g3 o4 o9 na hlim hn4 wf
    have hlt : done.length < n := by simp at hn; omega
    have hid := o4.lt
    have hlo := o4.lo
    have hL : (done ++ e :: rest).length = n := by simp at hn ⊢; omega
    have o4' := o4
    obtain ⟨⟨sp, cap, g4⟩, hl4, _⟩ := o4
    have hw : IntKind.i64.wrap ((done.length : Int) + 1) = (done.length : Int) + 1 := wrap64 (by omega) (by omega)
    have n0 : ¬ 0 = h.n := by omega
    have n1 : ¬ 1 = h.n := by omega
    have n3 : ¬ 3 = h.n := by omega
    have n4 : ¬ i4 = h.n := by omega
    have m0 : ¬ h.n = 0 := by omega
    have m1 : ¬ h.n = 1 := by omega
    have i0 : ¬ 0 = i4 := by omega
    have i1 : ¬ 1 = i4 := by omega
    have i3 : ¬ 3 = i4 := by omega
    have j0 : ¬ i4 = 0 := by omega
    have j1 : ¬ i4 = 1 := by omega
    have hia : ∀ i, indexAddrV 7 (.sl i 7 0 n) (.int .i64 (done.length : Int)) = some (.ptr i 7 done.length 0) := fun i => by simp [indexAddrV, asI, hlt]
    have hel : (List.map eEntry (done ++ e :: rest) ++ sp)[done.length]? = some (eEntry e) := by
      rw [List.getElem?_append_left (by simp), List.getElem?_map, List.getElem?_append_right (Nat.le_refl _)]; simp
    have hpe := hp e (by simp)
    have hCv := s36 (.int .i64 me) (eL false 1 cInt near) (eL false 4 eAdvert adv) (eL false 2 eID seen) (eL false 3 eOwn own) true (done ++ e :: rest) tc td e.pred (by omega) hpe (fun x hx => Nat.le_trans (hp x hx).len (by decide))
    have r4 : ∀ o, resolve true (h.push o) 199 (.sl i4 7 0 n) = some (eL true 7 eEntry (done ++ e :: rest)) := fun o => by
      have := (o4'.toR.push (o := o)).resolve (n := 199) true (fun y _ => (plain_entry y).1) (by decide)
      rw [List.length_map, hL] at this
      exact this
    simp only [eEntry] at hel
    have hstep : ∀ F o, takeL ⟨tc, td⟩ done (e :: rest) ups = takeL ⟨tc, td⟩ (done ++ [e]) rest ups → F 4 = .ptr 0 6 0 0 → F 5 = .ptr 1 2 0 0 → F 8 = .ptr 3 6 0 0 → F 57 = .int .i64 n → F 58 = .int .i64 ((done.length : Int) + 1) → F 13 = f 13 →
        ∃ i5 f' h', run D 104 (.block 0 :: .seq t38k0 :: S) (.loop t38l0) F (h.push o) = run D 104 S t38k0 f' h' ∧ f' 4 = .ptr 0 6 0 0 ∧ f' 8 = .ptr 3 6 0 0 ∧
      h'.get 0 = some (.arr 29 6 [.agg [.int .i64 me, eL false 1 cInt near, eL false 4 eAdvert adv, eL false 2 eID seen, .sl i5 7 0 n, eL false 3 eOwn own]] (some 1)) ∧ h'.get 3 = some zb ∧
      OwnI 4 h' i5 58 7 ((takeL ⟨tc, td⟩ done (e :: rest) ups).1.map eEntry) ∧ OwnR 4 h' (f' 13) 58 7 ((takeL ⟨tc, td⟩ done (e :: rest) ups).2.map eEntry) ∧ (takeL ⟨tc, td⟩ done (e :: rest) ups).1.length = n ∧ h'.lim = 0 ∧ 4 ≤ h'.n ∧ WF h' := by
      intro F o ht a4 a5 a8 a57 a58 a9
      rw [ht]
      refine ih (done ++ [e]) ups i4 F _ (by simp at hn ⊢; omega) hn1 (by simp; omega) (by simpa using hp) a4 a5 a8 a57 (by rw [a58]; simp) ?_ ?_ ?_ ?_ ?_ ?_ hlim (by show 4 ≤ h.n + 1; omega) wf.push
      · rw [get_push, if_neg n0]; exact g0
      · rw [get_push, if_neg n1]; exact g1
      · rw [get_push, if_neg n3]; exact g3
      · have := o4'.push (o := o)
        simpa using this
      · rw [a9]; exact o9.push
      · rw [a9]; exact na
    rw [run_loop_of t38l0.eq_1]
    by_cases ht : e.tree = ⟨tc, td⟩
    · have hc1 : e.tree.client = tc := by rw [ht]
      have hc2 : e.tree.seq = td := by rw [ht]
      cases hup : e.up with
      | true =>
        have hno : takeL ⟨tc, td⟩ done (e :: rest) ups = takeL ⟨tc, td⟩ (done ++ [e]) rest ups := by simp [takeL, hup]
        simp [h4, h5, h57, h58, hlt, hia, g4, eEntry, hlim, n1, g0, g1, hc1, hc2, hup, hw]
        generalize hF : upd _ 58 _ = F
        exact hstep F _ hno (by rw [← hF]; simp [h4]) (by rw [← hF]; simp [h5]) (by rw [← hF]; simp [h8]) (by rw [← hF]; simp [h57]) (by rw [← hF]; simp) (by rw [← hF]; simp)
      | false =>
        cases hC : coveredB (done ++ e :: rest) ⟨tc, td⟩ e.pred with
        | true =>
          rw [hC] at hCv
          have hno : takeL ⟨tc, td⟩ done (e :: rest) ups = takeL ⟨tc, td⟩ (done ++ [e]) rest ups := by simp only [takeL]; rw [if_neg]; rw [hC]; simp
          simp [h4, h5, h57, h58, hlt, hia, g4, eEntry, hlim, n0, n1, g0, g1, hc1, hc2, hup, hw, -res_sl_eq, r4, e36, hCv]
          generalize hF : upd _ 58 _ = F
          exact hstep F _ hno (by rw [← hF]; simp [h4]) (by rw [← hF]; simp [h5]) (by rw [← hF]; simp [h8]) (by rw [← hF]; simp [h57]) (by rw [← hF]; simp) (by rw [← hF]; simp)
        | false =>
          rw [hC] at hCv
          have hyes : takeL ⟨tc, td⟩ done (e :: rest) ups = takeL ⟨tc, td⟩ (done ++ [{ e with up := true }]) rest (ups ++ [{ e with up := true }]) := by simp only [takeL]; rw [if_pos ⟨ht, hup, hC⟩]
          have n41 : ¬ i4 = h.n + 1 := by omega
          have hele : elemsO 7 7 0 n (some (.arr 58 7 (List.map eEntry done ++ DV.agg [.int .i64 tc, .int .i64 td, .int .i64 e.sub.client, .int .i64 e.sub.seq, ePred e.pred, .int .i64 e.frm, .bool false] :: (List.map eEntry rest ++ sp)) cap)) = some (List.map eEntry (done ++ e :: rest)) := by
            have hl : (List.map eEntry (done ++ e :: rest)).length = n := by simpa using hL
            have hll : List.map eEntry done ++ DV.agg [.int .i64 tc, .int .i64 td, .int .i64 e.sub.client, .int .i64 e.sub.seq, ePred e.pred, .int .i64 e.frm, .bool false] :: (List.map eEntry rest ++ sp) = List.map eEntry (done ++ e :: rest) ++ sp := by simp [eEntry, hc1, hc2, hup]
            rw [hll, elemsO_some, if_pos ⟨rfl, rfl, by simp at hl ⊢; omega⟩, List.drop_zero, List.take_left' hl]
          simp [h4, h5, h57, h58, hlt, hia, g4, eEntry, hlim, n0, n1, n4, n41, m0, g0, g1, hc1, hc2, hup, -res_sl_eq, r4, e36, hCv, turn, -elemsO_some, hele]
          generalize hA : appendD _ _ _ _ _ _ = A
          obtain ⟨v5, K1, rfl, o5, x5, _, _⟩ := append_frame (lo := h.n + 1) (xs := []) (.arr (h.n + 1) [] (some 0) rfl (by simp) (by simp [hlim]) (Nat.le_refl _)) (by simp [wf]) (by simp) (by simp [hlim]) hA (by simp; simp at hL; omega) (by decide)
          clear hA
          have hlow5 : ∀ k, k < h.n → K1.get k = h.get k := fun k hk => by
            rw [x5.get k (by omega)]
            have a1 : ¬ k = h.n + 1 := by omega
            have a2 : ¬ k = h.n := by omega
            simp [a1, a2]
          have hn5 := x5.le
          have wf5 := x5.wf
          have lim5 : K1.lim = 0 := by rw [x5.lim]; simp [hlim]
          have o9k : OwnR 4 K1 (f 13) 58 7 (ups.map eEntry) := o9.ext ⟨by omega, by rw [lim5, hlim], hlow5, wf5⟩
          cases o5 with
          | nil hv hx => simp at hx
          | arr i5 sp5 cap5 hv hg5 hl5 hi5 =>
            have na5 : NotAt (f 13) i5 := not_high o9 (by omega)
            have hid5 := get_some_lt hg5
            subst hv
            have b0 := (hlow5 0 (by omega)).trans g0
            have b1 := (hlow5 1 (by omega)).trans g1
            have b3 := (hlow5 3 (by omega)).trans g3
            have hln5 : (([] : List DV) ++ (List.map eEntry done ++ DV.agg [.int .i64 tc, .int .i64 td, .int .i64 e.sub.client, .int .i64 e.sub.seq, ePred e.pred, .int .i64 e.frm, .bool false] :: List.map eEntry rest)).length = n := by simp; simpa using hL
            rw [hln5]
            rw [List.nil_append] at hg5
            have k50 : ¬ i5 = 0 := by omega
            have k05 : ¬ 0 = i5 := by omega
            have l05 : 0 < K1.n := by omega
            have hli5 : K1.lim ≤ i5 := hl5
            have hel5 : (List.map eEntry done ++ DV.agg [.int .i64 tc, .int .i64 td, .int .i64 e.sub.client, .int .i64 e.sub.seq, ePred e.pred, .int .i64 e.frm, .bool false] :: List.map eEntry rest ++ sp5)[done.length]? = some (DV.agg [.int .i64 tc, .int .i64 td, .int .i64 e.sub.client, .int .i64 e.sub.seq, ePred e.pred, .int .i64 e.frm, .bool false]) := by
              rw [List.append_assoc, List.getElem?_append_right (by simp)]; simp
            simp [h4, b0, lim5, wf5, l05, hia, hg5, k50, k05, hid5, turn]
            generalize hA : appendD _ _ _ _ _ _ = A
            obtain ⟨v', h', rfl, o9', x9, fr9, na9⟩ := append_frame ((own_set (own_set o9k wf5 l05 (not_low o9k (by decide))) wf5.set hid5 na5).push) (by simp [wf5]) (by simp; omega) (by simp [lim5]) hA (by simp; omega) (by decide)
            clear hA
            have y0 := fr9 0 (by simp) (not_low o9k (by decide))
            have y1 := fr9 1 (by simp; omega) (not_low o9k (by decide))
            have y3 := fr9 3 (by simp; omega) (not_low o9k (by decide))
            have y4 := fr9 i5 (by simp; omega) na5
            have ny := na9 i5 (by simp; omega) na5
            have yl := x9.lim
            have yw := x9.wf
            have yn := x9.le
            have e0 : ¬ 0 = K1.n := by omega
            have e1 : ¬ 1 = K1.n := by omega
            have e3 : ¬ 3 = K1.n := by omega
            have e5 : ¬ i5 = K1.n := by omega
            have d1 : ¬ 1 = i5 := by omega
            have d3 : ¬ 3 = i5 := by omega
            simp [wf5, hid5, l05, e0, e1, e3, e5, k05, d1, d3, b1, b3, lim5] at y0 y1 y3 y4 yl
            simp [h58, hw]
            generalize hF : upd _ 58 _ = F
            rw [hyes]
            refine ih (done ++ [{ e with up := true }]) (ups ++ [{ e with up := true }]) i5 F h' (by simp at hn ⊢; omega) hn1 (by simp; omega) ?_ ?_ ?_ ?_ ?_ ?_ y0 y1 y3 ⟨⟨sp5, cap5, ?_⟩, ?_, by omega⟩ ?_ ?_ yl yn yw
            · intro x hx
              simp only [List.append_assoc, List.singleton_append, List.mem_append, List.mem_cons] at hx
              rcases hx with hx | rfl | hx
              · exact hp x (by simp [hx])
              · exact hpe
              · exact hp x (by simp [hx])
            · rw [← hF]; simp [h4]
            · rw [← hF]; simp [h5]
            · rw [← hF]; simp [h8]
            · rw [← hF]; simp [h57]
            · rw [← hF]; simp
            · rw [y4]; simp [eEntry, hc1, hc2]
            · rw [yl]; exact Nat.zero_le _
            · rw [← hF]; simp; simpa [eEntry, hc1, hc2] using o9'
            · rw [← hF]; simp; exact ny
    · have h1' := id_ne ht
      simp only at h1'
      have hno : takeL ⟨tc, td⟩ done (e :: rest) ups = takeL ⟨tc, td⟩ (done ++ [e]) rest ups := by simp [takeL, ht]
      simp [h4, h5, h57, h58, hlt, hia, g4, eEntry, hlim, n1, g0, g1, h1', hw]
      generalize hF : upd _ 58 _ = F
      exact hstep F _ hno (by rw [← hF]; simp [h4]) (by rw [← hF]; simp [h5]) (by rw [← hF]; simp [h8]) (by rw [← hF]; simp [h57]) (by rw [← hF]; simp) (by rw [← hF]; simp)
end Go.Dm.Tc

/-
What the reference's functions compute, part 9: an entry taken out.
-/
namespace Go.Dm.Tc
set_option maxRecDepth 8000 in
set_option maxHeartbeats 1600000 in
theorem s38 (b : Broker) (tc td sc sd frm : Int) (hs : Sized b) (hq : ∀ e ∈ b.entries, PredOk e.pred) (re : RisingE b.entries) :
    pcF D t38 [eBroker .none b, .agg [.int .i64 tc, .int .i64 td], .agg [.int .i64 sc, .int .i64 sd], .int .i64 frm] = some (.tup [eBroker .none (takeB b ⟨tc, td⟩ ⟨sc, sd⟩ frm).1, eL false 7 eEntry (takeB b ⟨tc, td⟩ ⟨sc, sd⟩ frm).2.1, .bool (takeB b ⟨tc, td⟩ ⟨sc, sd⟩ frm).2.2]) := by
  obtain ⟨me, near, adv, seen, ent, own⟩ := b
  obtain ⟨z1, z2, z3, z4, z5⟩ := hs
  simp only at z1 z2 z3 z4 z5 re hq
  obtain ⟨R, hR⟩ : ∃ R, R = DV.tup [eBroker .none (takeB ⟨me, near, adv, seen, ent, own⟩ ⟨tc, td⟩ ⟨sc, sd⟩ frm).1, eL false 7 eEntry (takeB ⟨me, near, adv, seen, ent, own⟩ ⟨tc, td⟩ ⟨sc, sd⟩ frm).2.1, .bool (takeB ⟨me, near, adv, seen, ent, own⟩ ⟨tc, td⟩ ⟨sc, sd⟩ frm).2.2] := ⟨_, rfl⟩
  rw [← hR]
  have hel : ent.length ≤ 1000000 := by omega
  have hEn := s119 (.int .i64 me) (eL false 1 cInt near) (eL false 4 eAdvert adv) (eL false 2 eID seen) (eL false 3 eOwn own) false ent tc td sc sd hel
  have hfe := find_idx (isE ⟨tc, td⟩ ⟨sc, sd⟩) ent
  unfold pcF
  rw [goRun_eq _ _ _ _ (by simp [t38])]
  cases hq2 : ent.find? (isE ⟨tc, td⟩ ⟨sc, sd⟩) with
  | none =>
    rw [hq2] at hfe
    simp only at hfe
    rw [hfe] at hEn
    have htk : takeB ⟨me, near, adv, seen, ent, own⟩ ⟨tc, td⟩ ⟨sc, sd⟩ frm = (⟨me, near, adv, seen, ent, own⟩, [], false) := by simp [takeB, hq2]
    simp [t38, eBroker, Tags.none, e119, hEn, idxOf, turn, resultsOf]
    simp [hR, htk, eBroker, Tags.none, eL_nil]
  | some e =>
    rw [hq2] at hfe
    simp only at hfe
    obtain ⟨i, hi, hh2⟩ := hfe
    rw [hi] at hEn
    have hneg : ¬ (i : Int) < 0 := by omega
    have hilt : i < ent.length := by
      by_cases h : i < ent.length
      · exact h
      · rw [List.getElem?_eq_none (by omega)] at hh2; cases hh2
    have hw : IntKind.i64.wrap ((i : Int) + 1) = (i : Int) + 1 := wrap64 (by omega) (by omega)
    have hil : i ≤ ent.length := Nat.le_of_lt hilt
    by_cases hfr : e.frm = frm
    · have hdr := dropE_at re hh2 (List.find?_some hq2)
      obtain ⟨fl, hfl⟩ : ∃ fl, (ent.filter fun x => !isE ⟨tc, td⟩ ⟨sc, sd⟩ x) = fl := ⟨_, rfl⟩
      rw [hfl] at hdr
      simp [t38, eBroker, Tags.none, e119, hEn, hneg, idxOf, hh2, eEntry, eq_true hfr, hil]
      generalize hA : appendD _ _ _ _ _ _ = A
      obtain ⟨i1, K1, rfl, o1, x1, y1, j1⟩ := (OwnI.fresh (lo := 4) (ety := 58) (sz := 7) (xs := []) (cap := some 0) (by simp) (by simp)).append (n := 0) rfl (by simp) (by simp) (by simp) hA (by simp; omega) (by decide)
      clear hA
      have a0 := x1.get 0 (by decide)
      have a1 := x1.get 1 (by decide)
      have a3 := x1.get 3 (by decide)
      have q1 := x1.lim
      have w1 := x1.wf
      have n1 := x1.le
      have u1 := o1.lo
      have m0 : ¬ 0 = i1 := by omega
      have m1 : ¬ i1 = 0 := by omega
      have m2 : ¬ i1 = 1 := by omega
      have m3 : ¬ 1 = i1 := by omega
      simp at a0 a1 a3 q1 o1
      simp [hil, hw, Nat.succ_le_of_lt hilt]
      generalize hA : appendD _ _ _ _ _ _ = A
      obtain ⟨i2, K2, rfl, o2, x2, y2, j2⟩ := o1.append (by simp [hil]) w1 n1 (by omega) hA (by simp; omega) (by decide)
      clear hA
      have b0 := x2.get 0 (by decide)
      have b1 := x2.get 1 (by decide)
      have b3 := x2.get 3 (by decide)
      have q2 := x2.lim
      have w2 := x2.wf
      have n2 := x2.le
      have u2 := o2.lo
      rw [a0] at b0
      rw [a1] at b1
      rw [a3] at b3
      rw [q1] at q2
      have l2 : 0 < K2.n := by omega
      have l23 : 3 < K2.n := by omega
      have hlen : (List.take i (List.map eEntry ent) ++ List.drop (i + 1) (List.map eEntry ent)) = fl.map eEntry := by rw [← hdr]; simp
      rw [hlen] at o2
      have hlw : fl.length = i + (ent.length - (i + 1)) := by rw [← hdr]; simp [Nat.min_eq_left hil]
      have hmn : min i ent.length + (ent.length - (i + 1)) = fl.length := by rw [hlw, Nat.min_eq_left hil]
      have hfln : fl.length ≤ 100000 := by rw [← hfl]; exact Nat.le_trans (List.length_filter_le ..) z4
      have hflp : ∀ x ∈ fl, PredOk x.pred := fun x hx => hq x (by rw [← hfl] at hx; exact (List.mem_filter.1 hx).1)
      have hmn2 : i + (ent.length - (i + 1)) = fl.length := hlw.symm
      have r4 := fun o o' => ((o2.toR.setLow (o := o) w2 (by decide) l2).setLow (o := o') w2.set (by decide) l23).resolve (n := 198) false (fun y _ => (plain_entry y).1) (by decide)
      simp only [List.length_map] at r4
      cases hup : e.up with
      | false =>
        have htk : takeB ⟨me, near, adv, seen, ent, own⟩ ⟨tc, td⟩ ⟨sc, sd⟩ frm = (⟨me, near, adv, seen, fl, own⟩, [], false) := by simp [takeB, hq2, hfr, hup, hfl]
        simp [b0, b3, q2, w2, l2, l23, hmn2, Nat.min_eq_left hil, -res_sl_eq, r4, turn, resultsOf]
        simp [hR, htk, eBroker, Tags.none, eL_nil]
      | true =>
        have htk : takeB ⟨me, near, adv, seen, ent, own⟩ ⟨tc, td⟩ ⟨sc, sd⟩ frm = (⟨me, near, adv, seen, (takeL ⟨tc, td⟩ [] fl []).1, own⟩, (takeL ⟨tc, td⟩ [] fl []).2, true) := by simp [takeB, hq2, hfr, hup, hfl]
        simp [b0, q2, w2, l2, hmn2, Nat.min_eq_left hil, turn]
        generalize hF : upd _ 58 _ = F
        have j2 : ¬ i2 = 0 := by omega
        have o3 : OwnI 4 (K2.set 0 (.arr 29 6 [.agg [.int .i64 me, eL false 1 cInt near, eL false 4 eAdvert adv, eL false 2 eID seen, .sl i2 7 0 fl.length, eL false 3 eOwn own]] (some 1))) i2 58 7 (fl.map eEntry) := o2.setLow w2 (by decide) l2
        obtain ⟨i5, f1, K4, k1, k2, k3, c0, c3, o5, o9, hln4, q4, n4, w4⟩ := l38 [] me near adv seen own tc td fl.length (.arr 29 6 [.agg [.int .i64 0, .nsl, .nsl, .nsl, .nsl, .nsl]] (some 1)) fl [] [] i2 F _ (by simp) hfln (by simp) (by simpa using hflp) (by rw [← hF]; simp) (by rw [← hF]; simp) (by rw [← hF]; simp) (by rw [← hF]; simp) (by rw [← hF]; simp)
          (by simp [w2, l2]) (by simp [w2, l2, b1]) (by simp [w2, l2, b3]) o3 (by rw [← hF]; simp; exact .nil rfl rfl) (by rw [← hF]; simp; intro a b c e; cases e) q2 (by exact n2) w2.set
        rw [k1]
        clear hF k1
        have y0 : 0 < K4.n := by omega
        have y3 : 3 < K4.n := by omega
        have s5 := fun o' => (o5.toR.setLow (o := o') w4 (by decide) y3).resolve (n := 198) false (fun y _ => (plain_entry y).1) (by decide)
        have s9 := fun o' => (o9.setLow (o := o') w4 (by decide) y3).resolve (n := 199) false (fun y _ => (plain_entry y).1) (by decide)
        simp only [List.length_map, hln4] at s5
        simp [t38k0, k2, k3, c0, c3, q4, w4, y3, turn, -res_sl_eq, s5, s9, resultsOf]
        simp [hR, htk, eBroker, Tags.none]
    · have htk : takeB ⟨me, near, adv, seen, ent, own⟩ ⟨tc, td⟩ ⟨sc, sd⟩ frm = (⟨me, near, adv, seen, ent, own⟩, [], false) := by simp [takeB, hq2, hfr]
      simp [t38, eBroker, Tags.none, e119, hEn, hneg, idxOf, hh2, eEntry, hfr, turn, resultsOf]
      simp [hR, htk, eBroker, Tags.none, eL_nil]
end Go.Dm.Tc

/-
What every broker keeps that calls made: plain laws (learned, forgotten, added, taken out).
-/
namespace Go.Dm.Tc
theorem find_key {α : Type} (key : α → ID) {l : List α} (h : Rising (l.map key)) (x : ID) (a : α) : l.find? (fun b => decide (key b = x)) = some a ↔ a ∈ l ∧ key a = x := by
  constructor
  · intro hf
    exact ⟨List.mem_of_find?_eq_some hf, by simpa using List.find?_some hf⟩
  · rintro ⟨hm, hk⟩
    cases hf : l.find? (fun b => decide (key b = x)) with
    | none => exact absurd hk (by have := List.find?_eq_none.1 hf a hm; simpa using this)
    | some b =>
      have hb := List.mem_of_find?_eq_some hf
      have hkb : key b = x := by simpa using List.find?_some hf
      have : b = a := by
        by_cases e : b = a
        · exact e
        · exfalso
          unfold Rising at h
          rw [List.pairwise_map] at h
          obtain ⟨i, hi, rfl⟩ := List.mem_iff_getElem.1 hb
          obtain ⟨j, hj, rfl⟩ := List.mem_iff_getElem.1 hm
          rcases Nat.lt_trichotomy i j with hlt | he | hlt
          · have := List.pairwise_iff_getElem.1 h i j hi hj hlt
            rw [hkb, hk, cmpID_lt] at this; omega
          · subst he; exact e rfl
          · have := List.pairwise_iff_getElem.1 h j i hj hi hlt
            rw [hkb, hk, cmpID_lt] at this; omega
      rw [this]
theorem find_key_none {α : Type} (key : α → ID) {l : List α} (x : ID) : l.find? (fun b => decide (key b = x)) = none ↔ ∀ a ∈ l, key a ≠ x := by
  rw [List.find?_eq_none]
  exact ⟨fun h a ha => by simpa using h a ha, fun h a ha => by simpa using h a ha⟩
theorem advOf_some {b : Broker} (h : Rising (b.adverts.map (·.id))) {x : ID} {a : Advert} : advOf b x = some a ↔ a ∈ b.adverts ∧ a.id = x := find_key (fun a : Advert => a.id) h x a
theorem advOf_none {b : Broker} {x : ID} : advOf b x = none ↔ ∀ a ∈ b.adverts, a.id ≠ x := find_key_none (fun a : Advert => a.id) x
theorem parentOf_eq (b : Broker) (x : ID) : parentOf b x = ((advOf b x).getD advZero).parent := rfl
theorem coveredB_iff {l : List Entry} {t : ID} {p : Pred} : coveredB l t p = true ↔ ∃ e ∈ l, e.tree = t ∧ e.up = true ∧ coversP e.pred p = true := by
  unfold coveredB ofT
  rw [List.any_eq_true]
  constructor
  · rintro ⟨e, he, h⟩
    have := List.mem_filter.1 he
    rw [Bool.and_eq_true] at h
    exact ⟨e, this.1, by simpa using this.2, h.1, h.2⟩
  · rintro ⟨e, he, h1, h2, h3⟩
    exact ⟨e, List.mem_filter.2 ⟨he, by simpa using h1⟩, by rw [h2, h3]; rfl⟩
theorem insE_mem {e x : Entry} {l : List Entry} : x ∈ insE e l ↔ x = e ∨ x ∈ l := by
  unfold insE
  rw [List.mem_append, List.mem_cons]
  constructor
  · rintro (h | h | h)
    · exact .inr (List.mem_of_mem_take h)
    · exact .inl h
    · exact .inr (List.mem_of_mem_drop h)
  · rintro (h | h)
    · exact .inr (.inl h)
    · rw [← List.take_append_drop (lowIdx (sgnE e.tree e.sub) l) l, List.mem_append] at h
      exact h.elim .inl fun h => .inr (.inr h)
theorem insE_len (e : Entry) (l : List Entry) : (insE e l).length = l.length + 1 := by
  unfold insE
  rw [List.length_append, List.length_cons, List.length_take, List.length_drop]
  have := lowIdx_le (sgnE e.tree e.sub) l
  omega
theorem sgnE_gt {t s : ID} {a : Entry} (h1 : ¬ sgnE t s a < 0) (h2 : ¬ (a.tree = t ∧ a.sub = s)) (e : Entry) (he : e.tree = t) (he2 : e.sub = s) : sgnE a.tree a.sub e < 0 := by
  rw [sgnE_lt, ltID_iff, ltID_iff] at *
  rw [he, he2]
  rw [ID.ext', ID.ext'] at h2
  rw [ID.ext'] at *
  omega
theorem insE_rising {e : Entry} {l : List Entry} (h : RisingE l) (hn : ∀ x ∈ l, isE e.tree e.sub x = false) : RisingE (insE e l) := by
  unfold RisingE insE
  rw [List.pairwise_append, List.pairwise_cons]
  generalize hk : lowIdx (sgnE e.tree e.sub) l = k
  have hlow : ∀ b ∈ l.take k, sgnE e.tree e.sub b < 0 := by
    intro b hb
    obtain ⟨i, hi, rfl⟩ := List.mem_iff_getElem.1 hb
    rw [List.getElem_take]
    rw [List.length_take] at hi
    have := List.not_of_lt_findIdx (p := fun x => !decide (sgnE e.tree e.sub x < 0)) (xs := l) (i := i) (by unfold lowIdx at hk; omega)
    simpa using this
  have hhigh : ∀ b ∈ l.drop k, sgnE b.tree b.sub e < 0 := by
    intro b hb
    obtain ⟨i, hi, rfl⟩ := List.mem_iff_getElem.1 hb
    rw [List.length_drop] at hi
    rw [List.getElem_drop]
    have hkl : k < l.length := by omega
    have h1 : ¬ sgnE e.tree e.sub l[k] < 0 := by
      have := List.findIdx_getElem (p := fun x => !decide (sgnE e.tree e.sub x < 0)) (xs := l) (w := by unfold lowIdx at hk; omega)
      have hk' : List.findIdx (fun x => !decide (sgnE e.tree e.sub x < 0)) l = k := hk
      simp only [hk'] at this
      simpa using this
    have h2 : ¬ sgnE e.tree e.sub l[k + i] < 0 := fun hc => h1 (monoE h _ _ k (k + i) hkl (by omega) (by omega) hc)
    refine sgnE_gt h2 ?_ e rfl rfl
    have := hn l[k + i] (List.getElem_mem _)
    simpa [isE] using this
  refine ⟨h.sublist (List.take_sublist ..), ⟨fun b hb => hhigh b hb, h.sublist (List.drop_sublist ..)⟩, ?_⟩
  intro x hx y hy
  rcases List.mem_cons.1 hy with rfl | hy
  · exact hlow x hx
  · exact sgnE_trans (hlow x hx) (by have := hhigh y hy; omega)
structure InvK (b : Broker) : Prop where
  near : risesB (fun x y => decide (x < y)) b.near = true
  loc : ∀ x ∈ b.near, 0 ≤ x
  ra : Rising (b.adverts.map (·.id))
  rs : Rising b.seen
  ro : Rising (b.owns.map (·.id))
  re : RisingE b.entries
  sub : ∀ a ∈ b.adverts, a.id ∈ b.seen
  par : ∀ a ∈ b.adverts, linkB b a.parent = true
  pa : ∀ a ∈ b.adverts, PredOk a.pred
  po : ∀ o ∈ b.owns, PredOk o.pred
  ent : ∀ e ∈ b.entries, rightEnt b e = true
  pe : ∀ e ∈ b.entries, PredOk e.pred
  tight : tightB b = true
structure SzK (b : Broker) (n : Nat) : Prop where
  near : b.near.length ≤ 1000
  adv : b.adverts.length ≤ n
  seen : b.seen.length ≤ n
  own : b.owns.length ≤ n
  ent : b.entries.length ≤ n * n
theorem SzK.sized {b : Broker} {n : Nat} (h : SzK b n) (hn : n ≤ 300) : Sized b := by
  have := Nat.mul_le_mul hn hn
  obtain ⟨h1, h2, h3, h4, h5⟩ := h
  exact ⟨by omega, by omega, by omega, by omega, by omega⟩
theorem SzK.mono {b : Broker} {n m : Nat} (h : SzK b n) (hn : n ≤ m) : SzK b m := by
  have := Nat.mul_le_mul hn hn
  obtain ⟨h1, h2, h3, h4, h5⟩ := h
  exact ⟨h1, by omega, by omega, by omega, by omega⟩
theorem InvK.asked {b : Broker} (h : InvK b) : AskedP b := ⟨fun e he => (h.pe e he).unlike, fun e he => Nat.le_trans (h.pe e he).len (by decide)⟩
theorem InvK.sizedP {b : Broker} (h : InvK b) : SizedP b := ⟨fun a ha => (h.pa a ha).names.1, fun a ha => (h.pe a ha).names.1, fun a ha => (h.po a ha).names.1⟩
theorem InvK.sizedN {b : Broker} (h : InvK b) : SizedN b := ⟨fun a ha => (h.pa a ha).names, fun a ha => (h.pe a ha).names, fun a ha => (h.po a ha).names⟩
theorem InvK.right {b : Broker} (h : InvK b) : rightB b = true := by
  unfold rightB rightRows
  rw [h.near, of_rising (key := fun a : Advert => a.id) h.ra, of_rising (key := fun a : OwnS => a.id) h.ro, of_risesE h.re, show risesB (fun x y => ltID x y) b.seen = true from of_rising (key := fun a : ID => a) (by simpa using h.rs)]
  have h1 : (b.adverts.any fun a => !rightAdv b a) = false := by
    rw [List.any_eq_false]
    intro a ha
    simp [rightAdv, h.sub a ha, h.par a ha, (h.pa a ha).right]
  have h2 : (b.entries.any fun e => !rightEnt b e) = false := by
    rw [List.any_eq_false]
    intro e he
    simp [h.ent e he]
  have h3 : (b.owns.any fun o => !rightP o.pred) = false := by
    rw [List.any_eq_false]
    intro o ho
    simp [(h.po o ho).right]
  rw [h1, h2, h3]
  rfl
theorem rightEnt_iff {b : Broker} {e : Entry} : rightEnt b e = true ↔ ∃ a, advOf b e.tree = some a ∧ linkB b e.frm = true ∧ (e.frm = a.parent → a.parent = -1) ∧ (e.up = true → a.parent ≠ -1) ∧ rightP e.pred = true := by
  unfold rightEnt advOf
  cases b.adverts.find? (fun a => a.id = e.tree) with
  | none => simp
  | some a =>
    simp only [Option.some.injEq, exists_eq_left', Bool.and_eq_true, Bool.or_eq_true, Bool.not_eq_true', Bool.and_eq_false_iff, decide_eq_true_eq, decide_eq_false_iff_not]
    constructor
    · rintro ⟨⟨⟨h1, h2⟩, h3⟩, h4⟩
      exact ⟨h1, fun q => h2.resolve_left (fun hn => hn q), fun q => h3.resolve_left (by rw [q]; decide), h4⟩
    · rintro ⟨h1, h2, h3, h4⟩
      refine ⟨⟨⟨h1, ?_⟩, ?_⟩, h4⟩
      · by_cases q : e.frm = a.parent
        · exact .inr (h2 q)
        · exact .inl q
      · cases q : e.up with
        | false => exact .inl rfl
        | true => exact .inr (h3 q)
theorem tightB_iff {b : Broker} : tightB b = true ↔ ∀ e ∈ b.entries, e.up = true ∨ parentOf b e.tree = -1 ∨ coveredB b.entries e.tree e.pred = true := by
  unfold tightB
  rw [List.all_eq_true]
  simp only [tightE, Bool.or_eq_true, decide_eq_true_eq, or_assoc]
theorem linkB_near {b b' : Broker} (h : b'.near = b.near) (n : Int) : linkB b' n = linkB b n := by unfold linkB; rw [h]
theorem rightEnt_same {b b' : Broker} {e : Entry} (h : b'.near = b.near) (ha : advOf b' e.tree = advOf b e.tree) : rightEnt b' e = rightEnt b e := by
  rw [Bool.eq_iff_iff, rightEnt_iff, rightEnt_iff, ha]
  simp only [linkB_near h]
theorem InvK.start {me : Int} {near : List Int} (hn : risesB (fun x y => decide (x < y)) near = true) (hl : ∀ x ∈ near, 0 ≤ x) : InvK ⟨me, near, [], [], [], []⟩ :=
  ⟨hn, hl, .nil, .nil, .nil, .nil, fun a h => (by cases h), fun a h => (by cases h), fun a h => (by cases h), fun a h => (by cases h), fun a h => (by cases h), fun a h => (by cases h), rfl⟩
theorem SzK.start {me : Int} {near : List Int} (hn : near.length ≤ 1000) : SzK ⟨me, near, [], [], [], []⟩ 0 := ⟨hn, Nat.le_refl _, Nat.le_refl _, Nat.le_refl _, Nat.le_refl _⟩
theorem advOf_learn {b : Broker} (h : InvK b) (a : Advert) (hn : a.id ∉ b.seen) (x : ID) : advOf (learnB b a).1 x = if a.id = x then some a else advOf b x := by
  have hnew : ∀ c ∈ b.adverts, c.id ≠ a.id := fun c hc e => hn (by rw [← e]; exact h.sub c hc)
  have hr : Rising ((learnB b a).1.adverts.map (·.id)) := by
    unfold learnB; rw [if_neg hn]
    exact ins_rising (fun a : Advert => a.id) a h.ra hnew
  have hm : ∀ c, c ∈ (learnB b a).1.adverts ↔ c = a ∨ c ∈ b.adverts := by
    intro c
    unfold learnB; rw [if_neg hn]
    exact ins_mem (fun a : Advert => a.id) a b.adverts c
  by_cases e : a.id = x
  · rw [if_pos e, advOf_some hr, hm]; exact ⟨.inl rfl, e⟩
  · rw [if_neg e]
    cases hq : advOf b x with
    | none =>
      rw [advOf_none] at hq ⊢
      intro c hc
      rcases (hm c).1 hc with rfl | hc
      · exact e
      · exact hq c hc
    | some c =>
      rw [advOf_some h.ra] at hq
      rw [advOf_some hr, hm]
      exact ⟨.inr hq.1, hq.2⟩
theorem InvK.learn {b : Broker} (h : InvK b) {a : Advert} (hp : linkB b a.parent = true) (hr : PredOk a.pred) : InvK (learnB b a).1 := by
  by_cases hn : a.id ∈ b.seen
  · unfold learnB; rw [if_pos hn]; exact h
  · have ho := advOf_learn h a hn
    have hE : (learnB b a).1.entries = b.entries := by unfold learnB; rw [if_neg hn]
    have hN : (learnB b a).1.near = b.near := by unfold learnB; rw [if_neg hn]
    have hO : (learnB b a).1.owns = b.owns := by unfold learnB; rw [if_neg hn]
    have hA : (learnB b a).1.adverts = insAt (fun a => a.id) a b.adverts := by unfold learnB; rw [if_neg hn]
    have hS : (learnB b a).1.seen = insAt (fun x => x) a.id b.seen := by unfold learnB; rw [if_neg hn]
    have hother : ∀ e ∈ b.entries, advOf (learnB b a).1 e.tree = advOf b e.tree := by
      intro e he
      rw [ho, if_neg]
      intro hc
      obtain ⟨c, hc1, _⟩ := rightEnt_iff.1 (h.ent e he)
      rw [advOf_some h.ra] at hc1
      exact hn (by rw [hc, ← hc1.2]; exact h.sub c hc1.1)
    refine ⟨by rw [hN]; exact h.near, by rw [hN]; exact h.loc, ?_, ?_, by rw [hO]; exact h.ro, by rw [hE]; exact h.re, ?_, ?_, ?_, by rw [hO]; exact h.po, ?_, by rw [hE]; exact h.pe, ?_⟩
    · rw [hA]; exact ins_rising (fun a : Advert => a.id) a h.ra fun c hc e => hn (by rw [← e]; exact h.sub c hc)
    · rw [hS]
      have := ins_rising (fun x : ID => x) a.id (l := b.seen) (by simpa using h.rs) (fun c hc e => hn (by rw [← e]; exact hc))
      simpa using this
    · intro c hc
      rw [hA, ins_mem] at hc
      rw [hS, ins_mem]
      rcases hc with rfl | hc
      · exact .inl rfl
      · exact .inr (h.sub c hc)
    · intro c hc
      rw [linkB_near hN]
      rw [hA, ins_mem] at hc
      rcases hc with rfl | hc
      · exact hp
      · exact h.par c hc
    · intro c hc
      rw [hA, ins_mem] at hc
      rcases hc with rfl | hc
      · exact hr
      · exact h.pa c hc
    · intro e he
      rw [hE] at he
      rw [rightEnt_same hN (hother e he)]; exact h.ent e he
    · rw [tightB_iff, hE]
      intro e he
      rw [parentOf_eq, hother e he, ← parentOf_eq]
      exact tightB_iff.1 h.tight e he
theorem SzK.learn {b : Broker} {n : Nat} (h : SzK b n) (a : Advert) : SzK (learnB b a).1 (n + 1) := by
  have h' := h.mono (Nat.le_succ n)
  unfold learnB
  split
  · exact h'
  · obtain ⟨h1, h2, h3, h4, h5⟩ := h'
    exact ⟨h1, by simp only [ins_len]; have := h.adv; omega, by simp only [ins_len]; have := h.seen; omega, h4, h5⟩
theorem forget_no {b : Broker} {x : ID} {q : Int} (h : (forgetB b x q).2 = false) : (forgetB b x q).1 = b := by
  unfold forgetB at *
  split at h
  · rfl
  · split at h
    · cases h
    · rename_i h2; rw [if_neg h2]
theorem forget_yes {b : Broker} {x : ID} {q : Int} (h : (forgetB b x q).2 = true) : (forgetB b x q).1 = { b with adverts := without (fun a => a.id) x b.adverts, entries := without (fun e => e.tree) x b.entries } ∧ ∃ a, advOf b x = some a ∧ a.parent = q := by
  unfold forgetB at *
  split at h
  · cases h
  · rename_i a ha
    split at h
    · rename_i h2; rw [if_pos h2]; exact ⟨rfl, a, ha, h2⟩
    · cases h
theorem mem_without {α : Type} {key : α → ID} {x : ID} {l : List α} {a : α} : a ∈ without key x l ↔ a ∈ l ∧ key a ≠ x := by
  unfold without; rw [List.mem_filter]; simp
theorem coveredB_without {l : List Entry} {x t : ID} {p : Pred} (h : t ≠ x) : coveredB (without (fun e => e.tree) x l) t p = coveredB l t p := by
  rw [Bool.eq_iff_iff, coveredB_iff, coveredB_iff]
  constructor
  · rintro ⟨e, he, h2⟩
    exact ⟨e, (mem_without.1 he).1, h2⟩
  · rintro ⟨e, he, h2⟩
    exact ⟨e, mem_without.2 ⟨he, by rw [h2.1]; exact h⟩, h2⟩
theorem advOf_without {b b' : Broker} (h : Rising (b.adverts.map (·.id))) {x t : ID} (hb : b'.adverts = without (fun a => a.id) x b.adverts) (ht : t ≠ x) : advOf b' t = advOf b t := by
  have hr : Rising (b'.adverts.map (·.id)) := by rw [hb]; exact without_rising _ x h
  cases hq : advOf b t with
  | none =>
    rw [advOf_none] at hq ⊢
    intro a ha
    rw [hb] at ha
    exact hq a (mem_without.1 ha).1
  | some a =>
    rw [advOf_some h] at hq
    rw [advOf_some hr, hb, mem_without]
    exact ⟨⟨hq.1, by rw [hq.2]; exact ht⟩, hq.2⟩
theorem InvK.forget {b : Broker} (h : InvK b) (x : ID) (q : Int) : InvK (forgetB b x q).1 := by
  cases hc : (forgetB b x q).2 with
  | false => rw [forget_no hc]; exact h
  | true =>
    obtain ⟨e1, _⟩ := forget_yes hc
    generalize (forgetB b x q).1 = b' at *
    have hA : b'.adverts = without (fun a => a.id) x b.adverts := by rw [e1]
    have hE : b'.entries = without (fun e => e.tree) x b.entries := by rw [e1]
    have hN : b'.near = b.near := by rw [e1]
    have hS : b'.seen = b.seen := by rw [e1]
    have hO : b'.owns = b.owns := by rw [e1]
    refine ⟨by rw [hN]; exact h.near, by rw [hN]; exact h.loc, by rw [hA]; exact without_rising _ x h.ra, by rw [hS]; exact h.rs, by rw [hO]; exact h.ro, by rw [hE]; exact h.re.sublist (List.filter_sublist ..), ?_, ?_, ?_, by rw [hO]; exact h.po, ?_, ?_, ?_⟩
    · intro a ha; rw [hA] at ha; rw [hS]; exact h.sub a (mem_without.1 ha).1
    · intro a ha; rw [hA] at ha; rw [linkB_near hN]; exact h.par a (mem_without.1 ha).1
    · intro a ha; rw [hA] at ha; exact h.pa a (mem_without.1 ha).1
    · intro e he
      rw [hE] at he
      have := mem_without.1 he
      rw [rightEnt_same hN (advOf_without h.ra hA this.2)]
      exact h.ent e this.1
    · intro e he; rw [hE] at he; exact h.pe e (mem_without.1 he).1
    · rw [tightB_iff]
      intro e he
      rw [hE] at he
      have := mem_without.1 he
      rw [hE, coveredB_without this.2, parentOf_eq, advOf_without h.ra hA this.2, ← parentOf_eq]
      exact tightB_iff.1 h.tight e this.1
theorem SzK.forget {b : Broker} {n : Nat} (h : SzK b n) (x : ID) (q : Int) : SzK (forgetB b x q).1 n := by
  cases hc : (forgetB b x q).2 with
  | false => rw [forget_no hc]; exact h
  | true =>
    rw [(forget_yes hc).1]
    obtain ⟨h1, h2, h3, h4, h5⟩ := h
    exact ⟨h1, Nat.le_trans (without_len ..) h2, h3, h4, Nat.le_trans (without_len ..) h5⟩
theorem mayAdd_iff {b : Broker} {e : Entry} : mayAdd b e = true ↔ ∃ a, advOf b e.tree = some a ∧ (∀ x ∈ b.entries, isE e.tree e.sub x = false) ∧ (e.frm = a.parent → a.parent = -1) := by
  unfold mayAdd advOf
  cases b.adverts.find? (fun a => a.id = e.tree) with
  | none => simp
  | some a =>
    simp only [Option.some.injEq, exists_eq_left', Bool.and_eq_true, Bool.not_eq_true', Bool.and_eq_false_iff, List.any_eq_false, Bool.not_eq_true, decide_eq_false_iff_not, Bool.not_eq_false', decide_eq_true_eq]
    refine and_congr Iff.rfl ⟨fun h q => h.resolve_left (fun hn => hn q), fun h => ?_⟩
    by_cases q : e.frm = a.parent
    · exact .inr (h q)
    · exact .inl q
theorem covered_mono {l l' : List Entry} {t : ID} {p : Pred} (h : ∀ e ∈ l, e ∈ l') (hc : coveredB l t p = true) : coveredB l' t p = true := by
  rw [coveredB_iff] at *
  obtain ⟨e, he, h2⟩ := hc
  exact ⟨e, h e he, h2⟩
theorem InvK.add {b : Broker} (h : InvK b) {e : Entry} (hl : linkB b e.frm = true) (hp : PredOk e.pred) : InvK (addB b e).1 := by
  by_cases hm : mayAdd b e = true
  · obtain ⟨a, ha, hno, hfp⟩ := mayAdd_iff.1 hm
    unfold addB
    rw [if_pos hm]
    have hpar : parentOf b e.tree = a.parent := by rw [parentOf_eq, ha]; rfl
    refine ⟨h.near, h.loc, h.ra, h.rs, h.ro, ?_, h.sub, h.par, h.pa, h.po, ?_, ?_, ?_⟩
    · exact insE_rising (e := { e with up := upOf b e }) h.re hno
    · intro x hx
      rw [insE_mem] at hx
      have hs : ∀ y, rightEnt { b with entries := insE { e with up := upOf b e } b.entries } y = rightEnt b y := fun y => rightEnt_same rfl rfl
      rw [hs]
      rcases hx with rfl | hx
      · rw [rightEnt_iff]
        refine ⟨a, ha, hl, hfp, ?_, hp.right⟩
        intro hu hpp
        simp only [upOf, hpar, hpp] at hu
        simp at hu
      · exact h.ent x hx
    · intro x hx
      rw [insE_mem] at hx
      rcases hx with rfl | hx
      · exact hp
      · exact h.pe x hx
    · rw [tightB_iff]
      intro x hx
      have hs : ∀ y, parentOf { b with entries := insE { e with up := upOf b e } b.entries } y = parentOf b y := fun y => rfl
      rw [hs]
      have hx' := hx
      rw [insE_mem] at hx
      rcases hx with rfl | hx
      · by_cases hpp : a.parent = -1
        · exact .inr (.inl (by rw [hpar, hpp]))
        · cases hcv : coveredB b.entries e.tree e.pred with
          | true => exact .inr (.inr (covered_mono (fun y hy => insE_mem.2 (.inr hy)) hcv))
          | false => left; simp [upOf, hpar, hpp, hcv]
      · rcases tightB_iff.1 h.tight x hx with h1 | h1 | h1
        · exact .inl h1
        · exact .inr (.inl h1)
        · exact .inr (.inr (covered_mono (fun y hy => insE_mem.2 (.inr hy)) h1))
  · unfold addB
    rw [if_neg hm]; exact h
inductive Raised (t : ID) : List Entry → List Entry → Prop where
  | nil : Raised t [] []
  | keep (e : Entry) {l l' : List Entry} (h : Raised t l l') : Raised t (e :: l) (e :: l')
  | up (e : Entry) {l l' : List Entry} (ht : e.tree = t) (hu : e.up = false) (h : Raised t l l') : Raised t (e :: l) ({ e with up := true } :: l')
theorem Raised.refl (t : ID) : ∀ l, Raised t l l
  | [] => .nil
  | e :: l => .keep e (Raised.refl t l)
theorem Raised.append {t : ID} {a a' b b' : List Entry} (h : Raised t a a') (k : Raised t b b') : Raised t (a ++ b) (a' ++ b') := by
  induction h with
  | nil => exact k
  | keep e _ ih => exact .keep e ih
  | up e ht hu _ ih => exact .up e ht hu ih
theorem Raised.len {t : ID} {a a' : List Entry} (h : Raised t a a') : a'.length = a.length := by
  induction h with
  | nil => rfl
  | keep e _ ih => simp [ih]
  | up e ht hu _ ih => simp [ih]
theorem Raised.mem {t : ID} {a a' : List Entry} (h : Raised t a a') {x : Entry} (hx : x ∈ a') : x ∈ a ∨ ∃ e ∈ a, e.tree = t ∧ e.up = false ∧ x = { e with up := true } := by
  induction h with
  | nil => cases hx
  | keep e _ ih =>
    rcases List.mem_cons.1 hx with rfl | hx
    · exact .inl (List.mem_cons_self ..)
    · rcases ih hx with h | ⟨y, hy, h⟩
      · exact .inl (List.mem_cons_of_mem _ h)
      · exact .inr ⟨y, List.mem_cons_of_mem _ hy, h⟩
  | up e ht hu _ ih =>
    rcases List.mem_cons.1 hx with rfl | hx
    · exact .inr ⟨e, List.mem_cons_self .., ht, hu, rfl⟩
    · rcases ih hx with h | ⟨y, hy, h⟩
      · exact .inl (List.mem_cons_of_mem _ h)
      · exact .inr ⟨y, List.mem_cons_of_mem _ hy, h⟩
theorem Raised.of_mem {t : ID} {a a' : List Entry} (h : Raised t a a') {x : Entry} (hx : x ∈ a) : x ∈ a' ∨ (x.tree = t ∧ x.up = false ∧ { x with up := true } ∈ a') := by
  induction h with
  | nil => cases hx
  | keep e _ ih =>
    rcases List.mem_cons.1 hx with rfl | hx
    · exact .inl (List.mem_cons_self ..)
    · rcases ih hx with h | ⟨h1, h2, h3⟩
      · exact .inl (List.mem_cons_of_mem _ h)
      · exact .inr ⟨h1, h2, List.mem_cons_of_mem _ h3⟩
  | up e ht hu _ ih =>
    rcases List.mem_cons.1 hx with rfl | hx
    · exact .inr ⟨ht, hu, List.mem_cons_self ..⟩
    · rcases ih hx with h | ⟨h1, h2, h3⟩
      · exact .inl (List.mem_cons_of_mem _ h)
      · exact .inr ⟨h1, h2, List.mem_cons_of_mem _ h3⟩
theorem Raised.rising {t : ID} {a a' : List Entry} (h : Raised t a a') (hr : RisingE a) : RisingE a' := by
  induction h with
  | nil => exact hr
  | keep e h ih =>
    unfold RisingE at *
    rw [List.pairwise_cons] at *
    refine ⟨fun x hx => ?_, ih hr.2⟩
    rcases h.mem hx with hx | ⟨y, hy, _, _, rfl⟩
    · exact hr.1 x hx
    · exact hr.1 y hy
  | up e ht hu h ih =>
    unfold RisingE at *
    rw [List.pairwise_cons] at *
    refine ⟨fun x hx => ?_, ih hr.2⟩
    have : ∀ t s, sgnE t s { e with up := true } = sgnE t s e := fun t s => rfl
    rw [this]
    rcases h.mem hx with hx | ⟨y, hy, _, _, rfl⟩
    · exact hr.1 x hx
    · exact hr.1 y hy
theorem Raised.covered {t : ID} {a a' : List Entry} (h : Raised t a a') {t' : ID} {p : Pred} (hc : coveredB a t' p = true) : coveredB a' t' p = true := by
  rw [coveredB_iff] at *
  obtain ⟨e, he, h1, h2, h3⟩ := hc
  rcases h.of_mem he with hx | ⟨_, hx, _⟩
  · exact ⟨e, hx, h1, h2, h3⟩
  · rw [h2] at hx; cases hx
theorem takeL_raised (t : ID) : ∀ (rest done ups : List Entry), ∃ r', (takeL t done rest ups).1 = done ++ r' ∧ Raised t rest r' ∧ (∀ x ∈ r', x.tree = t → x.up = true ∨ coveredB (done ++ r') t x.pred = true) ∧
    ∃ u', (takeL t done rest ups).2 = ups ++ u' ∧ ∀ x ∈ u', x ∈ r' ∧ x.tree = t ∧ x.up = true ∧ { x with up := false } ∈ rest ∧ coveredB (done ++ rest) t x.pred = false := by
  intro rest
  induction rest with
  | nil => intro done ups; exact ⟨[], by simp [takeL], .nil, (fun x hx => by cases hx), [], by simp [takeL], (fun x hx => by cases hx)⟩
  | cons e rest ih =>
    intro done ups
    unfold takeL
    by_cases hc : e.tree = t ∧ e.up = false ∧ coveredB (done ++ e :: rest) t e.pred = false
    · rw [if_pos hc]
      obtain ⟨r', h1, h2, h3, u', h4, h5⟩ := ih (done ++ [{ e with up := true }]) (ups ++ [{ e with up := true }])
      refine ⟨{ e with up := true } :: r', by rw [h1]; simp, .up e hc.1 hc.2.1 h2, ?_, { e with up := true } :: u', by rw [h4]; simp, ?_⟩
      · intro x hx ht
        rcases List.mem_cons.1 hx with rfl | hx
        · exact .inl rfl
        · have := h3 x hx ht
          simpa using this
      · intro x hx
        rcases List.mem_cons.1 hx with rfl | hx
        · have he : ({ { e with up := true } with up := false } : Entry) = e := by obtain ⟨a1, a2, a3, a4, a5⟩ := e; simp only at hc; rw [hc.2.1]
          exact ⟨List.mem_cons_self .., hc.1, rfl, by rw [he]; exact List.mem_cons_self .., hc.2.2⟩
        · obtain ⟨k1, k2, k3, k4, k5⟩ := h5 x hx
          refine ⟨List.mem_cons_of_mem _ k1, k2, k3, List.mem_cons_of_mem _ k4, ?_⟩
          have hR : Raised t (done ++ e :: rest) (done ++ [{ e with up := true }] ++ rest) := by
            rw [List.append_assoc]
            exact (Raised.refl t done).append (.up e hc.1 hc.2.1 (.refl t rest))
          cases hq : coveredB (done ++ e :: rest) t x.pred with
          | false => rfl
          | true => rw [hR.covered hq] at k5; cases k5
    · rw [if_neg hc]
      obtain ⟨r', h1, h2, h3, u', h4, h5⟩ := ih (done ++ [e]) ups
      refine ⟨e :: r', by rw [h1]; simp, .keep e h2, ?_, u', h4, ?_⟩
      · intro x hx ht
        rcases List.mem_cons.1 hx with rfl | hx
        · cases hu : x.up with
          | true => exact .inl rfl
          | false =>
            cases hq : coveredB (done ++ x :: rest) t x.pred with
            | true => exact .inr (((Raised.refl t done).append (.keep x h2)).covered hq)
            | false => exact absurd ⟨ht, hu, hq⟩ hc
        · have := h3 x hx ht
          simpa using this
      · intro x hx
        obtain ⟨k1, k2, k3, k4, k5⟩ := h5 x hx
        exact ⟨List.mem_cons_of_mem _ k1, k2, k3, List.mem_cons_of_mem _ k4, by simpa using k5⟩
theorem take_cases {b : Broker} (h : InvK b) (t s : ID) (q : Int) :
    ((takeB b t s q) = (b, [], false) ∧ ∀ e ∈ b.entries, isE t s e = true → e.frm ≠ q) ∨
    (∃ e ∈ b.entries, isE t s e = true ∧ e.frm = q ∧ e.up = false ∧ takeB b t s q = ({ b with entries := b.entries.filter fun x => !isE t s x }, [], false)) ∨
    (∃ e ∈ b.entries, isE t s e = true ∧ e.frm = q ∧ e.up = true ∧ ∃ r' u', takeB b t s q = ({ b with entries := r' }, u', true) ∧ Raised t (b.entries.filter fun x => !isE t s x) r' ∧
      (∀ x ∈ r', x.tree = t → x.up = true ∨ coveredB r' t x.pred = true) ∧ ∀ x ∈ u', x ∈ r' ∧ x.tree = t ∧ x.up = true ∧ { x with up := false } ∈ b.entries.filter (fun x => !isE t s x) ∧ coveredB (b.entries.filter fun x => !isE t s x) t x.pred = false) := by
  unfold takeB
  cases hf : b.entries.find? (isE t s) with
  | none =>
    left
    refine ⟨rfl, fun e he hi => ?_⟩
    have := List.find?_eq_none.1 hf e he
    exact absurd hi this
  | some e =>
    have he := List.mem_of_find?_eq_some hf
    have hi := List.find?_some hf
    by_cases hq : e.frm = q
    · simp only [if_pos hq]
      cases hu : e.up with
      | false =>
        right; left
        exact ⟨e, he, hi, hq, hu, by simp⟩
      | true =>
        right; right
        obtain ⟨r', h1, h2, h3, u', h4, h5⟩ := takeL_raised t (b.entries.filter fun x => !isE t s x) [] []
        refine ⟨e, he, hi, hq, hu, r', u', by simp [h1, h4], h2, by simpa using h3, by simpa using h5⟩
    · left
      refine ⟨by simp only [if_neg hq], fun x hx hix => ?_⟩
      have hkey : x = e := by
        by_cases hxe : x = e
        · exact hxe
        · exfalso
          have k1 : x.tree = t ∧ x.sub = s := by simpa [isE] using hix
          have k2 : e.tree = t ∧ e.sub = s := by simpa [isE] using hi
          obtain ⟨i, hi1, rfl⟩ := List.mem_iff_getElem.1 hx
          obtain ⟨j, hj1, rfl⟩ := List.mem_iff_getElem.1 he
          rcases Nat.lt_trichotomy i j with hlt | he | hlt
          · have := List.pairwise_iff_getElem.1 h.re i j hi1 hj1 hlt
            rw [k2.1, k2.2, sgnE_eq.2 k1] at this; omega
          · subst he; exact hxe rfl
          · have := List.pairwise_iff_getElem.1 h.re j i hj1 hi1 hlt
            rw [k1.1, k1.2, sgnE_eq.2 k2] at this; omega
      rw [hkey]; exact hq
theorem InvK.entries {b b' : Broker} (h : InvK b) (hb : b' = { b with entries := b'.entries }) (hre : RisingE b'.entries) (he : ∀ e ∈ b'.entries, ∃ d ∈ b.entries, e.tree = d.tree ∧ e.pred = d.pred ∧ e.frm = d.frm ∧ (e.up = true → parentOf b e.tree ≠ -1))
    (ht : ∀ e ∈ b'.entries, e.up = true ∨ parentOf b e.tree = -1 ∨ coveredB b'.entries e.tree e.pred = true) : InvK b' := by
  have hA : b'.adverts = b.adverts := by rw [hb]
  have hN : b'.near = b.near := by rw [hb]
  have hS : b'.seen = b.seen := by rw [hb]
  have hO : b'.owns = b.owns := by rw [hb]
  have ho : ∀ x, advOf b' x = advOf b x := fun x => by unfold advOf; rw [hA]
  refine ⟨by rw [hN]; exact h.near, by rw [hN]; exact h.loc, by rw [hA]; exact h.ra, by rw [hS]; exact h.rs, by rw [hO]; exact h.ro, hre, by rw [hA, hS]; exact h.sub, ?_, by rw [hA]; exact h.pa, by rw [hO]; exact h.po, ?_, ?_, ?_⟩
  · intro a ha; rw [linkB_near hN]; rw [hA] at ha; exact h.par a ha
  · intro e hm
    obtain ⟨d, hd, k1, k2, k3, k4⟩ := he e hm
    rw [rightEnt_same hN (ho _), rightEnt_iff]
    obtain ⟨a, a1, a2, a3, a4, a5⟩ := rightEnt_iff.1 (h.ent d hd)
    refine ⟨a, by rw [k1]; exact a1, by rw [k3]; exact a2, by rw [k3]; exact a3, fun hu => ?_, by rw [k2]; exact a5⟩
    have := k4 hu
    rw [parentOf_eq, k1, a1] at this
    exact this
  · intro e hm
    obtain ⟨d, hd, _, k2, _⟩ := he e hm
    rw [k2]; exact h.pe d hd
  · rw [tightB_iff]
    intro e hm
    have : parentOf b' e.tree = parentOf b e.tree := by rw [parentOf_eq, ho, ← parentOf_eq]
    rw [this]
    exact ht e hm
theorem InvK.up {b : Broker} (h : InvK b) {e : Entry} (he : e ∈ b.entries) (hu : e.up = true) : parentOf b e.tree ≠ -1 := by
  obtain ⟨a, a1, _, _, a4, _⟩ := rightEnt_iff.1 (h.ent e he)
  rw [parentOf_eq, a1]
  exact a4 hu
theorem InvK.take {b : Broker} (h : InvK b) (t s : ID) (q : Int) : InvK (takeB b t s q).1 := by
  have hsub : ∀ x ∈ b.entries.filter (fun x => !isE t s x), x ∈ b.entries := fun x hx => (List.mem_filter.1 hx).1
  have hrf : RisingE (b.entries.filter fun x => !isE t s x) := h.re.sublist (List.filter_sublist ..)
  rcases take_cases h t s q with ⟨hc, _⟩ | ⟨e, he, hi, _, hu, hc⟩ | ⟨e, he, hi, _, hu, r', u', hc, hR, htt, _⟩
  · rw [hc]; exact h
  · rw [hc]
    refine h.entries rfl hrf ?_ ?_
    · intro x hx
      exact ⟨x, hsub x hx, rfl, rfl, rfl, fun hux => h.up (hsub x hx) hux⟩
    · intro x hx
      rcases tightB_iff.1 h.tight x (hsub x hx) with h1 | h1 | h1
      · exact .inl h1
      · exact .inr (.inl h1)
      · refine .inr (.inr ?_)
        rw [coveredB_iff] at *
        obtain ⟨d, hd, k1, k2, k3⟩ := h1
        refine ⟨d, List.mem_filter.2 ⟨hd, ?_⟩, k1, k2, k3⟩
        cases hid : isE t s d with
        | false => rfl
        | true =>
          exfalso
          have q1 : d.tree = t ∧ d.sub = s := by simpa [isE] using hid
          have q2 : e.tree = t ∧ e.sub = s := by simpa [isE] using hi
          have : d = e := by
            by_cases hde : d = e
            · exact hde
            · exfalso
              obtain ⟨i, hi1, rfl⟩ := List.mem_iff_getElem.1 hd
              obtain ⟨j, hj1, rfl⟩ := List.mem_iff_getElem.1 he
              rcases Nat.lt_trichotomy i j with hlt | hee | hlt
              · have := List.pairwise_iff_getElem.1 h.re i j hi1 hj1 hlt
                rw [q2.1, q2.2, sgnE_eq.2 q1] at this; omega
              · subst hee; exact hde rfl
              · have := List.pairwise_iff_getElem.1 h.re j i hj1 hi1 hlt
                rw [q1.1, q1.2, sgnE_eq.2 q2] at this; omega
          rw [this, hu] at k2; cases k2
  · have hpt : parentOf b t ≠ -1 := by
      have := h.up he hu
      have q2 : e.tree = t ∧ e.sub = s := by simpa [isE] using hi
      rw [q2.1] at this; exact this
    rw [hc]
    refine h.entries rfl (hR.rising hrf) ?_ ?_
    · intro x hx
      rcases hR.mem hx with hx | ⟨y, hy, h1, h2, rfl⟩
      · exact ⟨x, hsub x hx, rfl, rfl, rfl, fun hux => h.up (hsub x hx) hux⟩
      · exact ⟨y, hsub y hy, rfl, rfl, rfl, fun _ => by rw [h1]; exact hpt⟩
    · intro x hx
      by_cases hxt : x.tree = t
      · rcases htt x hx hxt with k | k
        · exact .inl k
        · exact .inr (.inr (by rw [hxt]; exact k))
      · have hx' : x ∈ b.entries.filter fun x => !isE t s x := by
          rcases hR.mem hx with hx | ⟨y, hy, h1, h2, rfl⟩
          · exact hx
          · exact absurd h1 hxt
        rcases tightB_iff.1 h.tight x (hsub x hx') with h1 | h1 | h1
        · exact .inl h1
        · exact .inr (.inl h1)
        · refine .inr (.inr (hR.covered ?_))
          rw [coveredB_iff] at *
          obtain ⟨d, hd, k1, k2, k3⟩ := h1
          refine ⟨d, List.mem_filter.2 ⟨hd, ?_⟩, k1, k2, k3⟩
          have : ¬ (d.tree = t ∧ d.sub = s) := fun hh => hxt (by rw [← k1]; exact hh.1)
          simp [isE, this]
theorem take_len {b : Broker} (h : InvK b) (t s : ID) (q : Int) : (takeB b t s q).1.entries.length ≤ b.entries.length := by
  rcases take_cases h t s q with ⟨hc, _⟩ | ⟨e, _, _, _, _, hc⟩ | ⟨e, _, _, _, _, r', u', hc, hR, _⟩
  · rw [hc]; exact Nat.le_refl _
  · rw [hc]; exact List.length_filter_le ..
  · rw [hc]
    show r'.length ≤ _
    rw [hR.len]; exact List.length_filter_le ..
theorem take_rest (b : Broker) (t s : ID) (q : Int) : (takeB b t s q).1 = { b with entries := (takeB b t s q).1.entries } := by
  unfold takeB
  split
  · rfl
  · split
    · split <;> rfl
    · rfl
theorem add_rest (b : Broker) (e : Entry) : (addB b e).1 = { b with entries := (addB b e).1.entries } := by
  unfold addB
  split <;> rfl
theorem add_len (b : Broker) (e : Entry) : (addB b e).1.entries.length ≤ b.entries.length + 1 := by
  unfold addB
  split
  · simp only [insE_len]; exact Nat.le_refl _
  · exact Nat.le_succ _
theorem SzK.take {b : Broker} {n : Nat} (h : SzK b n) (hi : InvK b) (t s : ID) (q : Int) : SzK (takeB b t s q).1 n := by
  have h1 := take_len hi t s q
  rw [take_rest] at h1 ⊢
  obtain ⟨a1, a2, a3, a4, a5⟩ := h
  exact ⟨a1, a2, a3, a4, Nat.le_trans h1 a5⟩
theorem SzK.add {b : Broker} {n : Nat} (h : SzK b n) (e : Entry) : SzK (addB b e).1 (n + 1) := by
  have h1 := add_len b e
  rw [add_rest] at h1 ⊢
  obtain ⟨a1, a2, a3, a4, a5⟩ := h
  have : (n + 1) * (n + 1) = n * n + n + n + 1 := by rw [Nat.add_mul, Nat.mul_add]; omega
  exact ⟨a1, Nat.le_succ_of_le a2, Nat.le_succ_of_le a3, Nat.le_succ_of_le a4, by simp only at h1 ⊢; omega⟩
end Go.Dm.Tc

/-
Brokers as one datum: what the machine's steps do to it; what functions answer of a broker that calls made.
-/
namespace Go.Dm.Tc
theorem agg_bC (t : Tags) (b : Broker) : DV.agg (bCells t b) = eBroker t b := _root_.id rfl
theorem ecells_eB (sz : Nat) (t : Tags) (b : Broker) : ecells sz (eBroker t b) = bCells t b := _root_.id rfl
theorem bC_len (t : Tags) (b : Broker) : (bCells t b).length = 6 := _root_.id rfl
theorem bC_take (t : Tags) (b : Broker) : (bCells t b).take 6 = bCells t b := _root_.id rfl
theorem bC_0 (t : Tags) (b : Broker) : (bCells t b)[0]? = some (.int .i64 b.me) := _root_.id rfl
theorem bC_1 (t : Tags) (b : Broker) : (bCells t b)[1]? = some (eL t.near 1 cInt b.near) := _root_.id rfl
theorem bC_2 (t : Tags) (b : Broker) : (bCells t b)[2]? = some (eL t.adverts 4 eAdvert b.adverts) := _root_.id rfl
theorem bC_3 (t : Tags) (b : Broker) : (bCells t b)[3]? = some (eL t.seen 2 eID b.seen) := _root_.id rfl
theorem bC_4 (t : Tags) (b : Broker) : (bCells t b)[4]? = some (eL t.entries 7 eEntry b.entries) := _root_.id rfl
theorem bC_5 (t : Tags) (b : Broker) : (bCells t b)[5]? = some (eL t.owns 3 eOwn b.owns) := _root_.id rfl
theorem bCg_0 (t : Tags) (b : Broker) (h : 0 < (bCells t b).length) : (bCells t b)[0] = .int .i64 b.me := _root_.id rfl
theorem bCg_1 (t : Tags) (b : Broker) (h : 1 < (bCells t b).length) : (bCells t b)[1] = eL t.near 1 cInt b.near := _root_.id rfl
theorem bCg_2 (t : Tags) (b : Broker) (h : 2 < (bCells t b).length) : (bCells t b)[2] = eL t.adverts 4 eAdvert b.adverts := _root_.id rfl
theorem bCg_3 (t : Tags) (b : Broker) (h : 3 < (bCells t b).length) : (bCells t b)[3] = eL t.seen 2 eID b.seen := _root_.id rfl
theorem bCg_4 (t : Tags) (b : Broker) (h : 4 < (bCells t b).length) : (bCells t b)[4] = eL t.entries 7 eEntry b.entries := _root_.id rfl
theorem bCg_5 (t : Tags) (b : Broker) (h : 5 < (bCells t b).length) : (bCells t b)[5] = eL t.owns 3 eOwn b.owns := _root_.id rfl
theorem storable_eB (t : Tags) (b : Broker) : storable 6 (eBroker t b) = true := _root_.id rfl
theorem res_eB (tg : Bool) (h : Heap) (n : Nat) (t : Tags) (b : Broker) : resolve tg h (n + 2) (eBroker t b) = some (eBroker t b) := by
  simp [eBroker]
theorem resL_bC (tg : Bool) (h : Heap) (n : Nat) (t : Tags) (b : Broker) : resL tg h (n + 1) (bCells t b) = some (bCells t b) := by
  simp only [bCells, resL_cons, resL_nil, res_int, res_eL, consO_some]
theorem mapF_bC (h : Heap) (t : Tags) (b : Broker) : mapH freeze h (bCells t b) = some (bCells t b, h) := by
  simp only [bCells, mapH_cons, mapH_nil, fr_int, fr_eL, consH_some, consL_some]
theorem ul_eB (n : Nat) (b : Broker) : unlent (n + 24) (eBroker .none b) = true := by
  simp [eBroker, Tags.none]
theorem frA_eB (h : Heap) (t : Tags) (b : Broker) : freezeA h (eBroker t b) = some (eBroker t b, h) := by
  simp [eBroker, frA_agg, mapH_cons, mapH_nil, fr_int, fr_eL, consH_some, consL_some, aggH_some]
theorem fieldV_eB (off : Nat) (n : Option Nat) (t : Tags) (b : Broker) : fieldV off n (eBroker t b) = pickCells n (bCells t b) off := _root_.id rfl
attribute [simp] agg_bC ecells_eB bC_len bC_take bC_0 bC_1 bC_2 bC_3 bC_4 bC_5 bCg_0 bCg_1 bCg_2 bCg_3 bCg_4 bCg_5 storable_eB res_eB ul_eB frA_eB fieldV_eB frA_int frA_eL frA_pred frA_str frA_agg mapH_nil mapH_cons fr_int fr_bool fr_nsl fr_eL fr_pred fr_isl consH_some consL_some aggH_some
section
variable {b : Broker} (t : Tags)
def entOf (b : Broker) (t s : ID) : Option Entry := b.entries.find? (isE t s)
theorem kEF (h : InvK b) (z : Sized b) (p q c d : Int) : pcF D t32 [eBroker t b, .agg [.int .i64 p, .int .i64 q], .agg [.int .i64 c, .int .i64 d]] = some (.tup [eEntry ((entOf b ⟨p, q⟩ ⟨c, d⟩).getD entZero), .bool (hasO (entOf b ⟨p, q⟩ ⟨c, d⟩))]) :=
  s32 _ _ _ _ _ _ _ p q c d h.re (by have := z.ent; omega) ((flat_int _ _).mono (by decide)) ((flat_eL _ _ _ _).mono (by decide)) ((flat_eL _ _ _ _).mono (by decide)) ((flat_eL _ _ _ _).mono (by decide)) ((flat_eL _ _ _ _).mono (by decide))
theorem kOf (z : Sized b) (c d : Int) : pcF D t40 [eBroker t b, .agg [.int .i64 c, .int .i64 d]] = some (eL false 7 eEntry (ofT ⟨c, d⟩ b.entries)) :=
  s40 _ _ _ _ _ _ _ c d (by have := z.ent; omega)
theorem kCv (h : InvK b) (z : Sized b) (c d : Int) {p : Pred} (hp : PredOk p) : pcF D t35 [eBroker t b, .agg [.int .i64 c, .int .i64 d], ePred p] = some (.bool (coveredB b.entries ⟨c, d⟩ p)) :=
  s35 _ _ _ _ _ _ _ c d p (by have := z.ent; omega) hp.unlike (Nat.le_trans hp.len (by decide)) h.asked.len ((flat_int _ _).mono (by decide)) ((flat_eL _ _ _ _).mono (by decide)) ((flat_eL _ _ _ _).mono (by decide)) ((flat_eL _ _ _ _).mono (by decide)) ((flat_eL _ _ _ _).mono (by decide))
theorem kRCv (h : InvK b) (z : Sized b) (c d : Int) {p : Pred} (hp : PredOk p) : pcF D t36 [eBroker t b, .agg [.int .i64 c, .int .i64 d], ePred p] = some (.bool (coveredB b.entries ⟨c, d⟩ p)) :=
  s36 _ _ _ _ _ _ _ c d p (by have := z.ent; omega) hp h.asked.len
theorem kLearn (h : InvK b) (z : Sized b) (c d : Int) (p : Pred) (q : Int) : pcF D t19 [eBroker t b, .agg [.int .i64 c, .int .i64 d, ePred p, .int .i64 q]] = some (.tup [eBroker .none (learnB b ⟨⟨c, d⟩, p, q⟩).1, .bool (learnB b ⟨⟨c, d⟩, p, q⟩).2]) := s19 t b c d p q z h.ra h.rs
theorem kRLearn (h : InvK b) (z : Sized b) (c d : Int) (p : Pred) (q : Int) : pcF D t20 [eBroker .none b, .agg [.int .i64 c, .int .i64 d, ePred p, .int .i64 q]] = some (.tup [eBroker .none (learnB b ⟨⟨c, d⟩, p, q⟩).1, .bool (learnB b ⟨⟨c, d⟩, p, q⟩).2]) := s20 b c d p q z h.ra h.rs
theorem kForget (h : InvK b) (z : Sized b) (c d q : Int) : pcF D t21 [eBroker t b, .agg [.int .i64 c, .int .i64 d], .int .i64 q] = some (.tup [eBroker .none (forgetB b ⟨c, d⟩ q).1, .bool (forgetB b ⟨c, d⟩ q).2]) := s21 t b c d q z h.ra
theorem kRForget (h : InvK b) (z : Sized b) (c d q : Int) : pcF D t22 [eBroker .none b, .agg [.int .i64 c, .int .i64 d], .int .i64 q] = some (.tup [eBroker .none (forgetB b ⟨c, d⟩ q).1, .bool (forgetB b ⟨c, d⟩ q).2]) := s22 b c d q z h.ra
theorem kAdd (h : InvK b) (z : Sized b) (tc td sc sd : Int) {p : Pred} (hp : PredOk p) (q : Int) (u : Bool) : pcF D t31 [eBroker .none b, .agg [.int .i64 tc, .int .i64 td, .int .i64 sc, .int .i64 sd, ePred p, .int .i64 q, .bool u]] = some (.tup [eBroker .none (addB b ⟨⟨tc, td⟩, ⟨sc, sd⟩, p, q, u⟩).1, .bool (addB b ⟨⟨tc, td⟩, ⟨sc, sd⟩, p, q, u⟩).2]) :=
  s31 b ⟨⟨tc, td⟩, ⟨sc, sd⟩, p, q, u⟩ z h.asked hp h.ra h.re
theorem kRAdd (h : InvK b) (z : Sized b) (tc td sc sd : Int) {p : Pred} (hp : PredOk p) (q : Int) (u : Bool) : pcF D t37 [eBroker .none b, .agg [.int .i64 tc, .int .i64 td, .int .i64 sc, .int .i64 sd, ePred p, .int .i64 q, .bool u]] = some (.tup [eBroker .none (addB b ⟨⟨tc, td⟩, ⟨sc, sd⟩, p, q, u⟩).1, .bool (addB b ⟨⟨tc, td⟩, ⟨sc, sd⟩, p, q, u⟩).2]) :=
  s37 b ⟨⟨tc, td⟩, ⟨sc, sd⟩, p, q, u⟩ z h.asked hp
theorem kTake (h : InvK b) (z : Sized b) (tc td sc sd q : Int) : pcF D t34 [eBroker .none b, .agg [.int .i64 tc, .int .i64 td], .agg [.int .i64 sc, .int .i64 sd], .int .i64 q] = some (.tup [eBroker .none (takeB b ⟨tc, td⟩ ⟨sc, sd⟩ q).1, eL false 7 eEntry (takeB b ⟨tc, td⟩ ⟨sc, sd⟩ q).2.1, .bool (takeB b ⟨tc, td⟩ ⟨sc, sd⟩ q).2.2]) :=
  s34 b tc td sc sd q z h.pe h.re
theorem kRTake (h : InvK b) (z : Sized b) (tc td sc sd q : Int) : pcF D t38 [eBroker .none b, .agg [.int .i64 tc, .int .i64 td], .agg [.int .i64 sc, .int .i64 sd], .int .i64 q] = some (.tup [eBroker .none (takeB b ⟨tc, td⟩ ⟨sc, sd⟩ q).1, eL false 7 eEntry (takeB b ⟨tc, td⟩ ⟨sc, sd⟩ q).2.1, .bool (takeB b ⟨tc, td⟩ ⟨sc, sd⟩ q).2.2]) :=
  s38 b tc td sc sd q z h.pe h.re
theorem kRight (h : InvK b) (z : Sized b) : pcF D t27 [eBroker t b] = some (.bool true) := by rw [← h.right]; exact s27 t b z h.sizedN
theorem kTight (h : InvK b) (z : Sized b) : pcF D t41 [eBroker t b] = some (.bool true) := by rw [← h.tight]; exact s41 t b z h.asked h.ra
theorem kBrokers (h : InvK b) (z : Sized b) (u : Tags) (c : Broker) : pcF D t25 [eBroker t b, eBroker u c] = some (.bool (decide (b = c))) := s25 t u b c z h.sizedP
end
end Go.Dm.Tc

/-
What the laws' arguments are: numbers of which predicates, steps, brokers are made.
-/
namespace Go.Dm.Tc
structure PK where
  has : List Int
  vals : List Int
def ePK (p : PK) : DV := .agg [eL false 1 cInt p.has, eL false 1 cInt p.vals]
def PK.pred (p : PK) : Pred := mkPred p.has p.vals
structure StepK where
  kind : Int
  frm : Int
  tree : Int
  client : Int
  seq : Int
  has : List Int
  vals : List Int
structure BrokK where
  near : Int
  steps : List StepK
end Go.Dm.Tc

/-
SubsPlays: what a broker is, told anything of advertisements and entries; the law's walk.
-/
namespace Go.Dm.Tc
theorem s33 : pcF D t33 [] = some (.bool true) := pc_run (n := 2000) (args := []) e33 rfl (by kernel_rfl)
structure AskS where
  kind : Int
  tree : Int
  client : Int
  seq : Int
  frm : Int
  has : List Int
  vals : List Int
def eAskS (q : AskS) : DV := .agg [.int .i64 q.kind, .int .i64 q.tree, .int .i64 q.client, .int .i64 q.seq, .int .i64 q.frm, eL false 1 cInt q.has, eL false 1 cInt q.vals]
def cntS (s : ID) (l : List Entry) : Nat := l.countP fun e => decide (e.sub = s)
theorem cnt_of {l : List Entry} (h : RisingE l) (t s : ID) : cntS s (ofT t l) = if hasO (l.find? (isE t s)) = true then 1 else 0 := by
  unfold cntS ofT
  rw [List.countP_filter]
  have hp : ∀ e : Entry, (decide (e.sub = s) && decide (e.tree = t)) = isE t s e := by
    intro e
    unfold isE
    by_cases h1 : e.sub = s <;> by_cases h2 : e.tree = t <;> simp [h1, h2]
  rw [show (fun e : Entry => decide (e.sub = s) && decide (e.tree = t)) = isE t s from funext hp]
  induction l with
  | nil => rfl
  | cons e l ih =>
    have h' := List.pairwise_cons.1 h
    rw [List.countP_cons, List.find?_cons]
    cases he : isE t s e with
    | true =>
      have : l.countP (isE t s) = 0 := by
        rw [List.countP_eq_zero]
        intro x hx hix
        have k1 : e.tree = t ∧ e.sub = s := by simpa [isE] using he
        have k2 : x.tree = t ∧ x.sub = s := by simpa [isE] using hix
        have := h'.1 x hx
        rw [k2.1, k2.2, sgnE_eq.2 k1] at this; omega
      rw [this]; rfl
    | false =>
      rw [ih h'.2]; simp
theorem l60 (S : List Fr) (L : List Entry) (t s : ID) (T X : Nat) (h0 : Heap) (hL : ∀ e ∈ L, e.tree = t) (hLl : L.length ≤ 1000000)
    (gT : h0.get T = some (.arr 37 2 [.agg [.int .i64 t.client, .int .i64 t.seq]] (some 1))) (gX : h0.get X = some (.arr 37 2 [.agg [.int .i64 s.client, .int .i64 s.seq]] (some 1))) (hT : T < h0.n) (hX : X < h0.n) (hlim : h0.lim = 0) :
    ∀ (rest : List Entry) (i cnt : Nat) (f : FEnv) (h : Heap), L.drop i = rest → cnt ≤ i → f 7 = .ptr T 2 0 0 → f 8 = .ptr X 2 0 0 → f 21 = .int .i64 cnt → f 166 = eL false 7 eEntry L → f 167 = .int .i64 L.length → f 168 = .int .i64 i → Ext h0.n h0 h →
    ∃ f' h', run D 223 (.block 3 :: .seq t6k0 :: S) (.loop t6l0) f h = run D 223 S t6k0 f' h' ∧ f' 21 = .int .i64 ((cnt + cntS s rest : Nat) : Int) ∧ (∀ r, r < 21 → f' r = f r) ∧ Ext h0.n h0 h' := by
  intro rest
  induction rest with
  | nil =>
    intro i cnt f h hd hc h7 h8 h21 h166 h167 h168 x
    have := drop_nil hd
    have hi : ¬ (i < L.length) := by omega
    rw [run_loop_of t6l0.eq_1]
    simp [h167, h168, hi]
    refine ⟨_, _, rfl, by simp [h21, cntS], fun r hr => ?_, x⟩
    have : ¬ r = 169 := by omega
    simp [this]
  | cons e rest ih =>
    intro i cnt f h hd hc h7 h8 h21 h166 h167 h168 x
    obtain ⟨hlt, he, hd'⟩ := drop_at hd
    have het : e.tree = t := hL e (by rw [← he]; exact List.getElem_mem hlt)
    have hc1 : e.tree.client = t.client := by rw [het]
    have hc2 : e.tree.seq = t.seq := by rw [het]
    have hw : IntKind.i64.wrap ((i : Int) + 1) = (i : Int) + 1 := wrap64 (by omega) (by omega)
    have hw2 : IntKind.i64.wrap ((cnt : Int) + 1) = (cnt : Int) + 1 := wrap64 (by omega) (by omega)
    have nx := x.le
    have gT' := (x.get T hT).trans gT
    have gX' := (x.get X hX).trans gX
    have lx : h.lim = 0 := by rw [x.lim]; exact hlim
    have nT : ¬ T = h.n := by omega
    have nX : ¬ X = h.n := by omega
    rw [run_loop_of t6l0.eq_1]
    by_cases hs : e.sub = s
    · have hs1 : e.sub.client = s.client := by rw [hs]
      have hs2 : e.sub.seq = s.seq := by rw [hs]
      simp [h7, h8, h21, h166, h167, h168, hlt, he, eEntry, gT', gX', nT, nX, hc1, hc2, hs1, hs2, hw, hw2, lx, turn, t6s0]
      generalize hF : upd _ 168 _ = F
      generalize hH : h.push _ = H
      have xH : Ext h0.n h0 H := by rw [← hH]; exact x.push
      obtain ⟨f', h', r1, r2, r3, r4⟩ := ih (i + 1) (cnt + 1) F H hd' (by omega) (by rw [← hF]; simp [h7]) (by rw [← hF]; simp [h8]) (by rw [← hF]; simp) (by rw [← hF]; simp [h166]) (by rw [← hF]; simp [h167]) (by rw [← hF]; simp) xH
      refine ⟨f', h', r1, ?_, fun r hr => ?_, r4⟩
      · rw [r2]
        have : cntS s (e :: rest) = cntS s rest + 1 := by simp [cntS, hs]
        rw [this]; congr 1; omega
      · rw [r3 r hr, ← hF]
        have k : ∀ q, 21 ≤ q → ¬ r = q := fun q hq => by omega
        simp [k]
    · have hs1 := id_ne hs
      simp [h7, h8, h166, h167, h168, hlt, he, eEntry, gT', gX', nT, nX, hc1, hc2, hs1, hw, lx, turn, t6s0]
      generalize hF : upd _ 168 _ = F
      generalize hH : h.push _ = H
      have xH : Ext h0.n h0 H := by rw [← hH]; exact x.push
      obtain ⟨f', h', r1, r2, r3, r4⟩ := ih (i + 1) cnt F H hd' (by omega) (by rw [← hF]; simp [h7]) (by rw [← hF]; simp [h8]) (by rw [← hF]; simp [h21]) (by rw [← hF]; simp [h166]) (by rw [← hF]; simp [h167]) (by rw [← hF]; simp) xH
      refine ⟨f', h', r1, ?_, fun r hr => ?_, r4⟩
      · rw [r2]
        have : cntS s (e :: rest) = cntS s rest := by simp [cntS, hs]
        rw [this]; simp
      · rw [r3 r hr, ← hF]
        have k : ∀ q, 21 ≤ q → ¬ r = q := fun q hq => by omega
        simp [k]
def b123 : Broker := ⟨0, [1, 2, 3], [], [], [], []⟩
def raw123 (k : Nat) : DV := .agg [.int .i64 0, .sl k 1 0 3, .nsl, .nsl, .nsl, .nsl]
inductive Held (k : Nat) (h : Heap) (v : DV) (b : Broker) : Prop where
  | enc (hv : v = eBroker .none b)
  | raw (hv : v = raw123 k) (hb : b = b123) (hg : h.get k = some (.arr 3 1 [.int .i64 1, .int .i64 2, .int .i64 3] (some 3)))
theorem Held.same {k : Nat} {h h' : Heap} {v : DV} {b : Broker} (w : Held k h v b) (hk : h'.get k = h.get k) : Held k h' v b := by
  cases w with
  | enc hv => exact .enc hv
  | raw hv hb hg => exact .raw hv hb (hk.trans hg)
theorem Held.res {k : Nat} {h : Heap} {v : DV} {b : Broker} (w : Held k h v b) : ∃ cs t, v = .agg cs ∧ cs.length = 6 ∧ resL true h 199 cs = some (bCells t b) := by
  cases w with
  | enc hv =>
    subst hv
    exact ⟨bCells .none b, .none, rfl, rfl, resL_bC ..⟩
  | raw hv hb hg =>
    subst hv; subst hb
    refine ⟨_, ⟨true, false, false, false, false⟩, rfl, rfl, ?_⟩
    simp [hg, mkIsl]
    rfl
structure PlayI (b : Broker) (n : Nat) : Prop where
  inv : InvK b
  sz : SzK b n
  near : b.near = [1, 2, 3]
theorem PlayI.start : PlayI b123 0 := ⟨.start rfl (by decide), .start (by decide), rfl⟩
set_option maxRecDepth 16000 in
set_option maxHeartbeats 4000000 in
theorem w6 (S : List Fr) (b : Broker) (n : Nat) (hb : PlayI b n) (hn : n ≤ 300) (v : DV) (t s : ID) (T X k : Nat) (f : FEnv) (h : Heap) (hv : Held k h v b) (hk : k < h.n)
    (h3 : f 3 = .ptr 2 6 0 0) (h4 : f 4 = .ptr 3 6 0 0) (h7 : f 7 = .ptr T 2 0 0) (h8 : f 8 = .ptr X 2 0 0)
    (g2 : h.get 2 = some (.arr 29 6 [eBroker .none b] (some 1))) (g3 : h.get 3 = some (.arr 29 6 [v] (some 1)))
    (gT : h.get T = some (.arr 37 2 [.agg [.int .i64 t.client, .int .i64 t.seq]] (some 1))) (gX : h.get X = some (.arr 37 2 [.agg [.int .i64 s.client, .int .i64 s.seq]] (some 1)))
    (hlim : h.lim = 0) (wf : WF h)
    (P : Res → Prop) (hfin : ∀ F H, F 0 = f 0 → F 3 = .ptr 2 6 0 0 → F 4 = .ptr 3 6 0 0 → F 5 = f 5 → Ext h.n h H → P (ret D 223 S .normal F H)) :
    P (run D 223 S t6s1 f h) := by
  have z := hb.sz.sized hn
  have l2 := get_some_lt g2
  have l3 := get_some_lt g3
  have lT := get_some_lt gT
  have lX := get_some_lt gX
  have n2 : ¬ 2 = h.n := by omega
  have n3 : ¬ 3 = h.n := by omega
  have nT : ¬ T = h.n := by omega
  have nX : ¬ X = h.n := by omega
  have hF := kEF .none hb.inv z t.client t.seq s.client s.seq
  have hO := kOf .none z t.client t.seq
  have hcn := cnt_of hb.inv.re t s
  have heo : entOf b t s = b.entries.find? (isE t s) := rfl
  simp [t6s1, h3, h7, h8, g2, gT, gX, hlim, n2, nT, e32, hF, e40, hO, eEntry, turn]
  generalize hF0 : upd _ 168 _ = F0
  generalize hH0 : h.push _ = H0
  have xH0 : Ext h.n h H0 := by rw [← hH0]; exact (Ext.refl (Nat.le_refl _) wf).push
  have e0 := xH0.le
  obtain ⟨F1, H1, r1, r2, r3, x1⟩ := l60 S (ofT t b.entries) t s T X H0 (fun e he => by simpa using (List.mem_filter.1 he).2) (Nat.le_trans (List.length_filter_le ..) (by have := z.ent; omega)) ((xH0.get T lT).trans gT) ((xH0.get X lX).trans gX) (by omega) (by omega) (by rw [xH0.lim]; exact hlim)
    _ 0 0 F0 H0 rfl (Nat.le_refl _) (by rw [← hF0]; simp [h7]) (by rw [← hF0]; simp [h8]) (by rw [← hF0]; simp) (by rw [← hF0]; simp) (by rw [← hF0]; simp) (by rw [← hF0]; simp) (.refl (Nat.le_refl _) xH0.wf)
  rw [r1]
  rw [Nat.zero_add, List.drop_zero] at r2
  have x : Ext h.n h H1 := xH0.trans ⟨by have := x1.le; omega, x1.lim, fun i hi => x1.get i (by omega), x1.wf⟩
  have gE : H1.get h.n = some (.arr 58 7 [eEntry ((entOf b t s).getD entZero)] (some 1)) := by
    rw [x1.get h.n (by rw [← hH0]; simp), ← hH0]; simp [eEntry]
  obtain ⟨cs, tg, hvc, hcl, hcr⟩ := (hv.same (x.get k hk)).res
  subst hvc
  have htk : List.take 6 cs = cs := List.take_of_length_le (by omega)
  have G2 := (x.get 2 l2).trans g2
  have G3 := (x.get 3 l3).trans g3
  have GT := (x.get T lT).trans gT
  have GX := (x.get X lX).trans gX
  have f3 : F1 3 = .ptr 2 6 0 0 := by rw [r3 3 (by decide), ← hF0]; simp [h3]
  have f4 : F1 4 = .ptr 3 6 0 0 := by rw [r3 4 (by decide), ← hF0]; simp [h4]
  have f7 : F1 7 = .ptr T 2 0 0 := by rw [r3 7 (by decide), ← hF0]; simp [h7]
  have f8 : F1 8 = .ptr X 2 0 0 := by rw [r3 8 (by decide), ← hF0]; simp [h8]
  have f19 : F1 19 = .ptr h.n 7 0 0 := by rw [r3 19 (by decide), ← hF0]; simp
  have f20 : F1 20 = .bool (hasO (entOf b t s)) := by rw [r3 20 (by decide), ← hF0]; simp
  have f0 : F1 0 = f 0 := by rw [r3 0 (by decide), ← hF0]; simp
  have f5 : F1 5 = f 5 := by rw [r3 5 (by decide), ← hF0]; simp
  have hBk := kBrokers .none hb.inv z tg b
  have hRt := kRight .none hb.inv z
  have hTt := kTight .none hb.inv z
  rw [decide_eq_true rfl] at hBk
  rw [heo] at f20 gE
  cases hq : b.entries.find? (isE t s) with
  | none =>
    rw [hq] at hcn f20
    rw [hcn] at r2
    simp [hasO] at r2 f20
    simp [t6k0, f3, f4, f20, r2, G2, G3, hcl, htk, hcr, e25, hBk, e27, hRt, e41, hTt]
    refine hfin _ _ ?_ ?_ ?_ ?_ x <;> simp [f0, f3, f4, f5]
  | some e =>
    rw [hq] at hcn f20 gE
    rw [hcn] at r2
    have he := List.find?_some hq
    have he' : e.tree = t ∧ e.sub = s := by simpa [isE] using he
    obtain ⟨rfl, rfl⟩ := he'
    simp [hasO] at r2 f20
    simp only [Option.getD_some] at gE
    simp [t6k0, f3, f4, f7, f8, f19, f20, r2, G2, G3, GT, GX, gE, eEntry, hcl, htk, hcr, e25, hBk, e27, hRt, e41, hTt]
    refine hfin _ _ ?_ ?_ ?_ ?_ x <;> simp [f0, f3, f4, f5]
set_option maxRecDepth 8000 in
theorem Held.use {h : Heap} {v : DV} {b : Broker} (w : Held 1 h v b) : ∃ cs cz tg, ∃ φ : Heap → Heap, v = .agg cs ∧ cs.length = 6 ∧ (∀ H, H.get 1 = h.get 1 → resL true H 199 cs = some (bCells tg b)) ∧ (∀ H, H.get 1 = h.get 1 → H.lim = 0 → mapH freeze H cs = some (cz, φ H)) ∧ (∀ H, resL true H 199 cz = some (bCells .none b)) ∧
    (∀ H, (φ H).n = H.n) ∧ (∀ H, (φ H).lim = H.lim) ∧ (∀ H, WF H → 1 < H.n → WF (φ H)) ∧ (∀ H i, WF H → 1 < H.n → i ≠ 1 → (φ H).get i = H.get i) := by
  have w' := w
  cases w with
  | enc hv =>
    subst hv
    exact ⟨bCells .none b, bCells .none b, .none, fun H => H, rfl, rfl, fun H hg => resL_bC .., fun H hg hl => mapF_bC .., fun H => resL_bC .., fun H => rfl, fun H => rfl, fun H w _ => w, fun H i _ _ _ => rfl⟩
  | raw hv hb hg0 =>
    subst hv; subst hb
    refine ⟨_, [.int .i64 0, .isl false 1 [.int .i64 1, .int .i64 2, .int .i64 3], .nsl, .nsl, .nsl, .nsl], ⟨true, false, false, false, false⟩, fun H => H.set 1 .dead, rfl, rfl, fun H hg => ?_, fun H hg hl => ?_, fun H => rfl, fun H => rfl, fun H => rfl, fun H w _ => w.set, fun H i w hn hi => by rw [get_set w hn, if_neg hi]⟩
    · rw [hg0] at hg
      simp [hg, mkIsl]
      rfl
    · rw [hg0] at hg
      simp [freeze, hg, hl, mkIsl, below]
def idT (q : AskS) : ID := ⟨within q.tree 0 1, 0⟩
def idX (q : AskS) : ID := ⟨within q.client 0 3, within q.seq 0 1⟩
def frmS (q : AskS) : Int := if within q.frm (-1) 3 = 0 then -1 else within q.frm (-1) 3
def tellS (b : Broker) (q : AskS) : Broker :=
  if q.kind = 1 then (addB b ⟨idT q, idX q, mkPred q.has q.vals, frmS q, false⟩).1
  else if q.kind = 2 then (takeB b (idT q) (idX q) (frmS q)).1
  else if q.kind = 3 then (learnB b ⟨idT q, mkPred q.has q.vals, frmS q⟩).1
  else if q.kind = 4 then (forgetB b (idT q) (frmS q)).1
  else b
theorem frmS_link (q : AskS) {b : Broker} (h : b.near = [1, 2, 3]) : linkB b (frmS q) = true := by
  have := within_bounds q.frm (show (-1 : Int) ≤ 3 by decide)
  unfold linkB frmS
  rw [h]
  split
  · simp
  · have : within q.frm (-1) 3 = -1 ∨ within q.frm (-1) 3 = 1 ∨ within q.frm (-1) 3 = 2 ∨ within q.frm (-1) 3 = 3 := by omega
    rcases this with e | e | e | e <;> simp [e]
theorem PlayI.tell {b : Broker} {n : Nat} (h : PlayI b n) (q : AskS) : PlayI (tellS b q) (n + 1) := by
  unfold tellS
  split
  · exact ⟨h.inv.add (frmS_link q h.near) (mkPred_ok ..), h.sz.add _, by rw [add_rest]; exact h.near⟩
  · split
    · exact ⟨h.inv.take .., (h.sz.take h.inv ..).mono (Nat.le_succ _), by rw [take_rest]; exact h.near⟩
    · split
      · refine ⟨h.inv.learn (frmS_link q h.near) (mkPred_ok ..), h.sz.learn _, ?_⟩
        unfold learnB; split <;> exact h.near
      · split
        · refine ⟨h.inv.forget .., (h.sz.forget ..).mono (Nat.le_succ _), ?_⟩
          unfold forgetB
          split
          · exact h.near
          · split <;> exact h.near
        · exact ⟨h.inv, h.sz.mono (Nat.le_succ _), h.near⟩
theorem take_ups_len {b : Broker} {n : Nat} (_h : InvK b) (z : SzK b n) (hn : n ≤ 300) (t s : ID) (q : Int) : (takeB b t s q).2.1.length ≤ 1000000 := by
  have hl : ∀ (rest done ups : List Entry), (takeL t done rest ups).2.length ≤ ups.length + rest.length := by
    intro rest
    induction rest with
    | nil => intro done ups; simp [takeL]
    | cons e rest ih =>
      intro done ups
      unfold takeL
      split
      · have := ih (done ++ [{ e with up := true }]) (ups ++ [{ e with up := true }]); simp at this ⊢; omega
      · have := ih (done ++ [e]) ups; simp at this ⊢; omega
  have h1 : (takeB b t s q).2.1.length ≤ b.entries.length := by
    unfold takeB
    split
    · simp
    · split
      · split
        · refine Nat.le_trans (hl _ _ _) ?_
          simp only [List.length_nil, Nat.zero_add]
          exact List.length_filter_le ..
        · simp
      · simp
  have h2 := z.ent
  have h3 := Nat.mul_le_mul hn hn
  omega
theorem take_ups_pred {b : Broker} (h : InvK b) (t s : ID) (q : Int) : ∀ x ∈ (takeB b t s q).2.1, x.pred.length ≤ 1000000 := by
  intro x hx
  rcases take_cases h t s q with ⟨hc, _⟩ | ⟨e, _, _, _, _, hc⟩ | ⟨e, _, _, _, _, r', u', hc, hR, _, hu⟩
  · rw [hc] at hx; cases hx
  · rw [hc] at hx; cases hx
  · rw [hc] at hx
    obtain ⟨_, _, _, h4, _⟩ := hu x hx
    exact Nat.le_trans (h.pe _ (List.mem_filter.1 h4).1).len (by decide)
set_option maxRecDepth 16000 in
set_option maxHeartbeats 8000000 in
theorem y6 (t : Bool) (l : List AskS) (i : Nat) (q : AskS) (b : Broker) (v : DV) (f : FEnv) (h : Heap) (hhas : q.has.length ≤ 9223372036854775807) (hlt : i < l.length) (he : l[i] = q) (hi30 : i < 30)
    (hv : PlayI b i) (hh : Held 1 h v b) (h0 : f 0 = eL t 7 eAskS l) (h3 : f 3 = .ptr 2 6 0 0) (h4 : f 4 = .ptr 3 6 0 0) (h5 : f 5 = .int .i64 i)
    (g2 : h.get 2 = some (.arr 29 6 [eBroker .none b] (some 1))) (g3 : h.get 3 = some (.arr 29 6 [v] (some 1))) (hlim : h.lim = 0) (hn : 4 ≤ h.n) (wf : WF h)
    (hfin : ∀ b' v' F H, PlayI b' (i + 1) → Held 1 H v' b' → F 0 = eL t 7 eAskS l → F 3 = .ptr 2 6 0 0 → F 4 = .ptr 3 6 0 0 → F 5 = .int .i64 ((i : Int) + 1) → H.get 2 = some (.arr 29 6 [eBroker .none b'] (some 1)) → H.get 3 = some (.arr 29 6 [v'] (some 1)) → H.lim = 0 → 4 ≤ H.n → WF H →
      pcOut (fin [.t 2] (run D 223 [.block 0, .seq t6k2] (.loop t6l1) F H)) = some (.bool true)) :
    pcOut (fin [.t 2] (run D 223 [.block 0, .seq t6k2] (.loop t6l1) f h)) = some (.bool true) := by
  have hw : IntKind.i64.wrap ((i : Int) + 1) = (i : Int) + 1 := wrap64 (by omega) (by omega)
  obtain ⟨m, hm⟩ : ∃ m, h.n = m + 4 := ⟨h.n - 4, by omega⟩
  have hi30' : (i : Int) < 30 := by omega
  have z := hv.sz.sized (show i ≤ 300 by omega)
  have hnv := hv.tell q
  have z' := hnv.sz.sized (show i + 1 ≤ 300 by omega)
  have w1 := s16 q.tree 0 1 (by decide) (by decide) (by decide)
  have w2 := s16 q.client 0 3 (by decide) (by decide) (by decide)
  have w3 := s16 q.seq 0 1 (by decide) (by decide) (by decide)
  have w4 := s16 q.frm (-1) 3 (by decide) (by decide) (by decide)
  have hpr := s18 false false q.has q.vals hhas
  have hpo := mkPred_ok q.has q.vals
  obtain ⟨p, hp⟩ : ∃ p, mkPred q.has q.vals = p := ⟨_, rfl⟩
  obtain ⟨tc, hT⟩ : ∃ tc, within q.tree 0 1 = tc := ⟨_, rfl⟩
  obtain ⟨xc, hX⟩ : ∃ xc, within q.client 0 3 = xc := ⟨_, rfl⟩
  obtain ⟨xs, hY⟩ : ∃ xs, within q.seq 0 1 = xs := ⟨_, rfl⟩
  obtain ⟨r, hr⟩ : ∃ r, frmS q = r := ⟨_, rfl⟩
  have hiT : idT q = ⟨tc, 0⟩ := by rw [← hT]; rfl
  have hiX : idX q = ⟨xc, xs⟩ := by rw [← hX, ← hY]; rfl
  rw [hp] at hpr hpo
  rw [hT] at w1
  rw [hX] at w2
  rw [hY] at w3
  have hh' := hh
  obtain ⟨cs, cz, tg, φ, rfl, hcl, hcr, hcz, hczr, p1, p2, p3, p4⟩ := hh.use
  have htk : List.take 6 cs = cs := List.take_of_length_le (by omega)
  have hC := kCv .none hv.inv z tc 0 hpo
  have hRC := kRCv tg hv.inv z tc 0 hpo
  rw [run_loop_of t6l1.eq_1]
  by_cases k1 : q.kind = 1
  · have ht : tellS b q = (addB b ⟨⟨tc, 0⟩, ⟨xc, xs⟩, p, r, false⟩).1 := by unfold tellS; rw [if_pos k1, hiT, hiX, hr, hp]
    have hA := kAdd hv.inv z tc 0 xc xs hpo r false
    have hRA := kRAdd hv.inv z tc 0 xc xs hpo r false
    rw [← ht] at hA hRA
    obtain ⟨g, hg⟩ : ∃ g, (addB b ⟨⟨tc, 0⟩, ⟨xc, xs⟩, p, r, false⟩).2 = g := ⟨_, rfl⟩
    rw [hg] at hA hRA
    clear ht
    have ht : True := trivial
    by_cases hf0 : within q.frm (-1) 3 = 0
    · rw [frmS, if_pos hf0] at hr
      subst hr
      simp [h0, h3, h4, h5, hlt, he, eAskS, hlim, hm, hi30', e16, w1, w2, w3, w4, e18, hpr, g2, g3, hcl, htk, hcr, e35, hC, e36, hRC, wf, hf0, k1, turn, hcz, hczr, p2, p4, e31, hA, e37, hRA]
      refine w6 (P := fun r => pcOut (fin [.t 2] r) = some (.bool true)) _ (tellS b q) (i + 1) hnv (by omega) (eBroker .none (tellS b q)) ⟨tc, 0⟩ ⟨xc, xs⟩ (m + 4 + 1) (m + 4 + 1 + 1) 1 _ _ (.enc rfl) ?_ ?_ ?_ ?_ ?_ ?_ ?_ ?_ ?_ ?_ ?_ (fun F H a0 a3 a4 a5 x => ?hf)
      case hf =>
        have xl := x.lim
        have xn := x.le
        have x2 := x.get 2
        have x3 := x.get 3
        simp [h0, h5, hlim, hm, wf, p1, p2, p3, p4] at a0 a5 xl xn x2 x3
        simp [t6k1, a5, hw]
        refine hfin _ _ _ _ hnv (.enc rfl) ?_ ?_ ?_ ?_ x2 x3 xl (by omega) x.wf <;> simp [a0, a3, a4]
      all_goals simp [h3, h4, hlim, hm, wf, p1, p2, p3, p4]
    · rw [frmS, if_neg hf0] at hr
      rw [hr] at hf0 w4
      simp [h0, h3, h4, h5, hlt, he, eAskS, hlim, hm, hi30', e16, w1, w2, w3, w4, e18, hpr, g2, g3, hcl, htk, hcr, e35, hC, e36, hRC, wf, hf0, k1, turn, hcz, hczr, p2, p4, e31, hA, e37, hRA]
      refine w6 (P := fun r => pcOut (fin [.t 2] r) = some (.bool true)) _ (tellS b q) (i + 1) hnv (by omega) (eBroker .none (tellS b q)) ⟨tc, 0⟩ ⟨xc, xs⟩ (m + 4 + 1) (m + 4 + 1 + 1) 1 _ _ (.enc rfl) ?_ ?_ ?_ ?_ ?_ ?_ ?_ ?_ ?_ ?_ ?_ (fun F H a0 a3 a4 a5 x => ?hf)
      case hf =>
        have xl := x.lim
        have xn := x.le
        have x2 := x.get 2
        have x3 := x.get 3
        simp [h0, h5, hlim, hm, wf, p1, p2, p3, p4] at a0 a5 xl xn x2 x3
        simp [t6k1, a5, hw]
        refine hfin _ _ _ _ hnv (.enc rfl) ?_ ?_ ?_ ?_ x2 x3 xl (by omega) x.wf <;> simp [a0, a3, a4]
      all_goals simp [h3, h4, hlim, hm, wf, p1, p2, p3, p4]
  by_cases k2 : q.kind = 2
  · have ht : tellS b q = (takeB b ⟨tc, 0⟩ ⟨xc, xs⟩ r).1 := by unfold tellS; rw [if_neg k1, if_pos k2, hiT, hiX, hr]
    have hA := kTake hv.inv z tc 0 xc xs r
    have hRA := kRTake hv.inv z tc 0 xc xs r
    rw [← ht] at hA hRA
    have hE := s39 false false (takeB b ⟨tc, 0⟩ ⟨xc, xs⟩ r).2.1 (takeB b ⟨tc, 0⟩ ⟨xc, xs⟩ r).2.1 (take_ups_len hv.inv hv.sz (by omega) ..) (take_ups_pred hv.inv _ _ _)
    rw [decide_eq_true rfl] at hE
    obtain ⟨g, hg⟩ : ∃ g, (takeB b ⟨tc, 0⟩ ⟨xc, xs⟩ r).2.2 = g := ⟨_, rfl⟩
    obtain ⟨U, hU⟩ : ∃ U, (takeB b ⟨tc, 0⟩ ⟨xc, xs⟩ r).2.1 = U := ⟨_, rfl⟩
    rw [hg, hU] at hA hRA
    rw [hU] at hE
    clear ht
    have ht : True := trivial
    by_cases hf0 : within q.frm (-1) 3 = 0
    · rw [frmS, if_pos hf0] at hr
      subst hr
      simp [h0, h3, h4, h5, hlt, he, eAskS, hlim, hm, hi30', e16, w1, w2, w3, w4, e18, hpr, g2, g3, hcl, htk, hcr, e35, hC, e36, hRC, wf, hf0, k2, turn, hcz, hczr, p2, p4, e34, hA, e38, hRA, e39, hE]
      refine w6 (P := fun r => pcOut (fin [.t 2] r) = some (.bool true)) _ (tellS b q) (i + 1) hnv (by omega) (eBroker .none (tellS b q)) ⟨tc, 0⟩ ⟨xc, xs⟩ (m + 4 + 1) (m + 4 + 1 + 1) 1 _ _ (.enc rfl) ?_ ?_ ?_ ?_ ?_ ?_ ?_ ?_ ?_ ?_ ?_ (fun F H a0 a3 a4 a5 x => ?hf)
      case hf =>
        have xl := x.lim
        have xn := x.le
        have x2 := x.get 2
        have x3 := x.get 3
        simp [h0, h5, hlim, hm, wf, p1, p2, p3, p4] at a0 a5 xl xn x2 x3
        simp [t6k1, a5, hw]
        refine hfin _ _ _ _ hnv (.enc rfl) ?_ ?_ ?_ ?_ x2 x3 xl (by omega) x.wf <;> simp [a0, a3, a4]
      all_goals simp [h3, h4, hlim, hm, wf, p1, p2, p3, p4]
    · rw [frmS, if_neg hf0] at hr
      rw [hr] at hf0 w4
      simp [h0, h3, h4, h5, hlt, he, eAskS, hlim, hm, hi30', e16, w1, w2, w3, w4, e18, hpr, g2, g3, hcl, htk, hcr, e35, hC, e36, hRC, wf, hf0, k2, turn, hcz, hczr, p2, p4, e34, hA, e38, hRA, e39, hE]
      refine w6 (P := fun r => pcOut (fin [.t 2] r) = some (.bool true)) _ (tellS b q) (i + 1) hnv (by omega) (eBroker .none (tellS b q)) ⟨tc, 0⟩ ⟨xc, xs⟩ (m + 4 + 1) (m + 4 + 1 + 1) 1 _ _ (.enc rfl) ?_ ?_ ?_ ?_ ?_ ?_ ?_ ?_ ?_ ?_ ?_ (fun F H a0 a3 a4 a5 x => ?hf)
      case hf =>
        have xl := x.lim
        have xn := x.le
        have x2 := x.get 2
        have x3 := x.get 3
        simp [h0, h5, hlim, hm, wf, p1, p2, p3, p4] at a0 a5 xl xn x2 x3
        simp [t6k1, a5, hw]
        refine hfin _ _ _ _ hnv (.enc rfl) ?_ ?_ ?_ ?_ x2 x3 xl (by omega) x.wf <;> simp [a0, a3, a4]
      all_goals simp [h3, h4, hlim, hm, wf, p1, p2, p3, p4]
  by_cases k3 : q.kind = 3
  · have ht : tellS b q = (learnB b ⟨⟨tc, 0⟩, p, r⟩).1 := by unfold tellS; rw [if_neg k1, if_neg k2, if_pos k3, hiT, hr, hp]
    have hA := kLearn .none hv.inv z tc 0 p r
    have hRA := kRLearn hv.inv z tc 0 p r
    rw [← ht] at hA hRA
    obtain ⟨g, hg⟩ : ∃ g, (learnB b ⟨⟨tc, 0⟩, p, r⟩).2 = g := ⟨_, rfl⟩
    rw [hg] at hA hRA
    clear ht
    have ht : True := trivial
    by_cases hf0 : within q.frm (-1) 3 = 0
    · rw [frmS, if_pos hf0] at hr
      subst hr
      simp [h0, h3, h4, h5, hlt, he, eAskS, hlim, hm, hi30', e16, w1, w2, w3, w4, e18, hpr, g2, g3, hcl, htk, hcr, e35, hC, e36, hRC, wf, hf0, k3, turn, hcz, hczr, p2, p4, e19, hA, e20, hRA]
      refine w6 (P := fun r => pcOut (fin [.t 2] r) = some (.bool true)) _ (tellS b q) (i + 1) hnv (by omega) (eBroker .none (tellS b q)) ⟨tc, 0⟩ ⟨xc, xs⟩ (m + 4 + 1) (m + 4 + 1 + 1) 1 _ _ (.enc rfl) ?_ ?_ ?_ ?_ ?_ ?_ ?_ ?_ ?_ ?_ ?_ (fun F H a0 a3 a4 a5 x => ?hf)
      case hf =>
        have xl := x.lim
        have xn := x.le
        have x2 := x.get 2
        have x3 := x.get 3
        simp [h0, h5, hlim, hm, wf, p1, p2, p3, p4] at a0 a5 xl xn x2 x3
        simp [t6k1, a5, hw]
        refine hfin _ _ _ _ hnv (.enc rfl) ?_ ?_ ?_ ?_ x2 x3 xl (by omega) x.wf <;> simp [a0, a3, a4]
      all_goals simp [h3, h4, hlim, hm, wf, p1, p2, p3, p4]
    · rw [frmS, if_neg hf0] at hr
      rw [hr] at hf0 w4
      simp [h0, h3, h4, h5, hlt, he, eAskS, hlim, hm, hi30', e16, w1, w2, w3, w4, e18, hpr, g2, g3, hcl, htk, hcr, e35, hC, e36, hRC, wf, hf0, k3, turn, hcz, hczr, p2, p4, e19, hA, e20, hRA]
      refine w6 (P := fun r => pcOut (fin [.t 2] r) = some (.bool true)) _ (tellS b q) (i + 1) hnv (by omega) (eBroker .none (tellS b q)) ⟨tc, 0⟩ ⟨xc, xs⟩ (m + 4 + 1) (m + 4 + 1 + 1) 1 _ _ (.enc rfl) ?_ ?_ ?_ ?_ ?_ ?_ ?_ ?_ ?_ ?_ ?_ (fun F H a0 a3 a4 a5 x => ?hf)
      case hf =>
        have xl := x.lim
        have xn := x.le
        have x2 := x.get 2
        have x3 := x.get 3
        simp [h0, h5, hlim, hm, wf, p1, p2, p3, p4] at a0 a5 xl xn x2 x3
        simp [t6k1, a5, hw]
        refine hfin _ _ _ _ hnv (.enc rfl) ?_ ?_ ?_ ?_ x2 x3 xl (by omega) x.wf <;> simp [a0, a3, a4]
      all_goals simp [h3, h4, hlim, hm, wf, p1, p2, p3, p4]
  by_cases k4 : q.kind = 4
  · have ht : tellS b q = (forgetB b ⟨tc, 0⟩ r).1 := by unfold tellS; rw [if_neg k1, if_neg k2, if_neg k3, if_pos k4, hiT, hr]
    have hA := kForget .none hv.inv z tc 0 r
    have hRA := kRForget hv.inv z tc 0 r
    rw [← ht] at hA hRA
    obtain ⟨g, hg⟩ : ∃ g, (forgetB b ⟨tc, 0⟩ r).2 = g := ⟨_, rfl⟩
    rw [hg] at hA hRA
    clear ht
    have ht : True := trivial
    by_cases hf0 : within q.frm (-1) 3 = 0
    · rw [frmS, if_pos hf0] at hr
      subst hr
      simp [h0, h3, h4, h5, hlt, he, eAskS, hlim, hm, hi30', e16, w1, w2, w3, w4, e18, hpr, g2, g3, hcl, htk, hcr, e35, hC, e36, hRC, wf, hf0, k4, turn, hcz, hczr, p2, p4, e21, hA, e22, hRA]
      refine w6 (P := fun r => pcOut (fin [.t 2] r) = some (.bool true)) _ (tellS b q) (i + 1) hnv (by omega) (eBroker .none (tellS b q)) ⟨tc, 0⟩ ⟨xc, xs⟩ (m + 4 + 1) (m + 4 + 1 + 1) 1 _ _ (.enc rfl) ?_ ?_ ?_ ?_ ?_ ?_ ?_ ?_ ?_ ?_ ?_ (fun F H a0 a3 a4 a5 x => ?hf)
      case hf =>
        have xl := x.lim
        have xn := x.le
        have x2 := x.get 2
        have x3 := x.get 3
        simp [h0, h5, hlim, hm, wf, p1, p2, p3, p4] at a0 a5 xl xn x2 x3
        simp [t6k1, a5, hw]
        refine hfin _ _ _ _ hnv (.enc rfl) ?_ ?_ ?_ ?_ x2 x3 xl (by omega) x.wf <;> simp [a0, a3, a4]
      all_goals simp [h3, h4, hlim, hm, wf, p1, p2, p3, p4]
    · rw [frmS, if_neg hf0] at hr
      rw [hr] at hf0 w4
      simp [h0, h3, h4, h5, hlt, he, eAskS, hlim, hm, hi30', e16, w1, w2, w3, w4, e18, hpr, g2, g3, hcl, htk, hcr, e35, hC, e36, hRC, wf, hf0, k4, turn, hcz, hczr, p2, p4, e21, hA, e22, hRA]
      refine w6 (P := fun r => pcOut (fin [.t 2] r) = some (.bool true)) _ (tellS b q) (i + 1) hnv (by omega) (eBroker .none (tellS b q)) ⟨tc, 0⟩ ⟨xc, xs⟩ (m + 4 + 1) (m + 4 + 1 + 1) 1 _ _ (.enc rfl) ?_ ?_ ?_ ?_ ?_ ?_ ?_ ?_ ?_ ?_ ?_ (fun F H a0 a3 a4 a5 x => ?hf)
      case hf =>
        have xl := x.lim
        have xn := x.le
        have x2 := x.get 2
        have x3 := x.get 3
        simp [h0, h5, hlim, hm, wf, p1, p2, p3, p4] at a0 a5 xl xn x2 x3
        simp [t6k1, a5, hw]
        refine hfin _ _ _ _ hnv (.enc rfl) ?_ ?_ ?_ ?_ x2 x3 xl (by omega) x.wf <;> simp [a0, a3, a4]
      all_goals simp [h3, h4, hlim, hm, wf, p1, p2, p3, p4]
  have ht : tellS b q = b := by unfold tellS; rw [if_neg k1, if_neg k2, if_neg k3, if_neg k4]
  rw [ht] at hnv
  by_cases hf0 : within q.frm (-1) 3 = 0
  · rw [frmS, if_pos hf0] at hr
    subst hr
    simp [h0, h3, h4, h5, hlt, he, eAskS, hlim, hm, hi30', e16, w1, w2, w3, w4, e18, hpr, g2, g3, hcl, htk, hcr, e35, hC, e36, hRC, hf0, k1, k2, k3, k4, turn]
    refine w6 (P := fun r => pcOut (fin [.t 2] r) = some (.bool true)) _ b (i + 1) hnv (by omega) (.agg cs) ⟨tc, 0⟩ ⟨xc, xs⟩ (m + 4 + 1) (m + 4 + 1 + 1) 1 _ _ (hh.same ?_) ?_ ?_ ?_ ?_ ?_ ?_ ?_ ?_ ?_ ?_ ?_ (fun F H a0 a3 a4 a5 x => ?hf)
    case hf =>
      have xl := x.lim
      have xn := x.le
      have x2 := x.get 2
      have x3 := x.get 3
      have x1 := x.get 1
      simp [h0, h5, hlim, hm, g2, g3] at a0 a5 xl xn x2 x3 x1
      simp [t6k1, a5, hw]
      refine hfin _ _ _ _ hnv (hh.same x1) ?_ ?_ ?_ ?_ x2 x3 xl (by omega) x.wf <;> simp [a0, a3, a4]
    all_goals simp [h3, h4, hlim, hm, wf, g2, g3]
  · rw [frmS, if_neg hf0] at hr
    rw [hr] at hf0 w4
    simp [h0, h3, h4, h5, hlt, he, eAskS, hlim, hm, hi30', e16, w1, w2, w3, w4, e18, hpr, g2, g3, hcl, htk, hcr, e35, hC, e36, hRC, hf0, k1, k2, k3, k4, turn]
    refine w6 (P := fun r => pcOut (fin [.t 2] r) = some (.bool true)) _ b (i + 1) hnv (by omega) (.agg cs) ⟨tc, 0⟩ ⟨xc, xs⟩ (m + 4 + 1) (m + 4 + 1 + 1) 1 _ _ (hh.same ?_) ?_ ?_ ?_ ?_ ?_ ?_ ?_ ?_ ?_ ?_ ?_ (fun F H a0 a3 a4 a5 x => ?hf)
    case hf =>
      have xl := x.lim
      have xn := x.le
      have x2 := x.get 2
      have x3 := x.get 3
      have x1 := x.get 1
      simp [h0, h5, hlim, hm, g2, g3] at a0 a5 xl xn x2 x3 x1
      simp [t6k1, a5, hw]
      refine hfin _ _ _ _ hnv (hh.same x1) ?_ ?_ ?_ ?_ x2 x3 xl (by omega) x.wf <;> simp [a0, a3, a4]
    all_goals simp [h3, h4, hlim, hm, wf, g2, g3]
theorem z6 (t : Bool) (l : List AskS) (hl : ∀ q ∈ l, q.has.length ≤ 9223372036854775807) :
    ∀ (rest : List AskS) (i : Nat) (b : Broker) (v : DV) (f : FEnv) (h : Heap), l.drop i = rest → i ≤ 30 → PlayI b i → Held 1 h v b → f 0 = eL t 7 eAskS l → f 3 = .ptr 2 6 0 0 → f 4 = .ptr 3 6 0 0 → f 5 = .int .i64 i →
      h.get 2 = some (.arr 29 6 [eBroker .none b] (some 1)) → h.get 3 = some (.arr 29 6 [v] (some 1)) → h.lim = 0 → 4 ≤ h.n → WF h →
    pcOut (fin [.t 2] (run D 223 [.block 0, .seq t6k2] (.loop t6l1) f h)) = some (.bool true) := by
  intro rest
  induction rest with
  | nil =>
    intro i b v f h hd hi hv hh h0 h3 h4 h5 g2 g3 hlim hn wf
    have hi := drop_nil hd
    have : ¬ (i < l.length) := by omega
    rw [run_loop_of t6l1.eq_1]
    simp [t6k2, h0, h5, this, e33, s33]
  | cons q rest ih =>
    intro i b v f h hd hi hv hh h0 h3 h4 h5 g2 g3 hlim hn wf
    obtain ⟨hlt, he, hd'⟩ := drop_at hd
    by_cases hi30 : i < 30
    · have hhas := hl q (by rw [← he]; exact List.getElem_mem hlt)
      exact y6 t l i q b v f h hhas hlt he hi30 hv hh h0 h3 h4 h5 g2 g3 hlim hn wf fun b' v' F H hv' hh' a0 a3 a4 a5 a6 a7 a8 a9 a10 => ih (i + 1) b' v' F H hd' (by omega) hv' hh' a0 a3 a4 (by rw [a5]; simp) a6 a7 a8 a9 a10
    · rw [run_loop_of t6l1.eq_1]
      have hi30' : ¬ (i : Int) < 30 := by omega
      simp [t6k2, h0, h5, hlt, hi30', e33, s33]
theorem s6 (t : Bool) (l : List AskS) (hl : ∀ q ∈ l, q.has.length ≤ 9223372036854775807) : pcF D t6 [eL t 7 eAskS l] = some (.bool true) := by
  unfold pcF
  rw [goRun_eq _ _ _ _ (by simp [t6])]
  have hnew := s15_123
  simp [t6, List.replicate, mkIsl, e15, hnew, turn]
  refine z6 t l hl l 0 b123 (raw123 1) _ _ rfl (by decide) .start (.raw rfl rfl ?_) ?_ ?_ ?_ ?_ ?_ ?_ ?_ ?_ ?_ <;> simp [b123, raw123]
end Go.Dm.Tc

