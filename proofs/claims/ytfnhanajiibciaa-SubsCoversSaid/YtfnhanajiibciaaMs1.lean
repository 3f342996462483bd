/-
What functions of the program compute, part 18: an entry added.
-/
import Derived.Test.YtfnhanajiibciaaMs0
set_option linter.all false
namespace Go.Dm.Tc
def insE (e : Entry) (l : List Entry) : List Entry := l.take (lowIdx (sgnE e.tree e.sub) l) ++ e :: l.drop (lowIdx (sgnE e.tree e.sub) l)
def mayAdd (b : Broker) (e : Entry) : Bool :=
  match b.adverts.find? (fun a => a.id = e.tree) with
  | none => false
  | some a => !(b.entries.any (isE e.tree e.sub)) && !(decide (e.frm = a.parent) && !decide (a.parent = -1))
def upOf (b : Broker) (e : Entry) : Bool := !decide (parentOf b e.tree = -1) && !coveredB b.entries e.tree e.pred
def addB (b : Broker) (e : Entry) : Broker × Bool :=
  if mayAdd b e = true then ({ b with entries := insE { e with up := upOf b e } b.entries }, upOf b e) else (b, false)
theorem find_any {l : List Entry} {t s : ID} : l.any (isE t s) = hasO (l.find? (isE t s)) := by
  cases h : l.find? (isE t s) with
  | none =>
    rw [List.any_eq_false.2]
    · rfl
    · intro x hx
      have := List.find?_eq_none.1 h x hx
      simpa using this
  | some a => exact List.any_eq_true.2 ⟨a, List.mem_of_find?_eq_some h, List.find?_some h⟩
set_option maxRecDepth 8000 in
theorem s17 (b : Broker) (e : Entry) (hs : Sized b) (hq : AskedP b) (hpo : PredOk e.pred) (ra : Rising (b.adverts.map (·.id))) (re : RisingE b.entries) :
    pcF D t17 [eBroker .none b, .agg [.int .i64 e.tree.client, .int .i64 e.tree.seq, .int .i64 e.sub.client, .int .i64 e.sub.seq, ePred e.pred, .int .i64 e.frm, .bool e.up]] = some (.tup [eBroker .none (addB b e).1, .bool (addB b e).2]) := by
  obtain ⟨me, near, adv, seen, ent, own⟩ := b
  obtain ⟨⟨tc, td⟩, ⟨sc, sd⟩, p, frm, up⟩ := e
  obtain ⟨z1, z2, z3, z4, z5⟩ := hs
  simp only at z1 z2 z3 z4 z5 ra re hpo
  obtain ⟨R, hR⟩ : ∃ R, R = DV.tup [eBroker .none (addB ⟨me, near, adv, seen, ent, own⟩ ⟨⟨tc, td⟩, ⟨sc, sd⟩, p, frm, up⟩).1, .bool (addB ⟨me, near, adv, seen, ent, own⟩ ⟨⟨tc, td⟩, ⟨sc, sd⟩, p, frm, up⟩).2] := ⟨_, rfl⟩
  rw [← hR]
  have hal : adv.length ≤ 1000000 := by omega
  have hel : ent.length ≤ 1000000 := by omega
  have f1 := fun {α : Type} (t : Bool) (sz : Nat) (e : α → DV) (xs : List α) => (flat_eL t sz e xs).mono (show 1 ≤ 20 by decide)
  have hFd := fun u4 => s12 (.int .i64 me) (eL false 1 cInt near) (eL false 2 eID seen) (eL u4 7 eEntry ent) (eL false 3 eOwn own) false adv tc td ra hal ((flat_int _ _).mono (by decide)) (f1 _ _ _ _) (f1 _ _ _ _) (f1 _ _ _ _) (f1 _ _ _ _)
  have hPl := fun u4 => s63 (.int .i64 me) (eL false 1 cInt near) (eL false 4 eAdvert adv) (eL false 2 eID seen) (eL false 3 eOwn own) u4 ent tc td sc sd re hel
  have hCv := fun u4 => s18 (.int .i64 me) (eL false 1 cInt near) (eL false 4 eAdvert adv) (eL false 2 eID seen) (eL false 3 eOwn own) u4 ent tc td p hel hpo.unlike (Nat.le_trans hpo.len (by decide)) hq.len ((flat_int _ _).mono (by decide)) (f1 _ _ _ _) (f1 _ _ _ _) (f1 _ _ _ _) (f1 _ _ _ _)
  have hhit := hitE re ⟨tc, td⟩ ⟨sc, sd⟩
  have hany := find_any (l := ent) (t := ⟨tc, td⟩) (s := ⟨sc, sd⟩)
  unfold pcF
  rw [goRun_eq _ _ _ _ (by simp [t17])]
  simp [t17, eBroker, Tags.none, e62]
  generalize hA : cloneHook _ _ _ _ _ = A
  obtain ⟨v4, K, rfl, o4, x, _⟩ := clone_own (lo := 3) (elems_eL ..) (by simp) (by simp) (by simp) (by simp; omega) (by decide) hA
  clear hA
  have a0 := x.get 0 (by decide)
  have a1 := x.get 1 (by decide)
  have a2 := x.get 2 (by decide)
  have q0 := x.lim
  have w0 := x.wf
  have n0 := x.le
  simp at a0 a1 a2 q0
  have l0' : 0 < K.n := by omega
  obtain ⟨H, hH⟩ : ∃ H, H = K.set 0 (.arr 30 6 [.agg [.int .i64 me, eL false 1 cInt near, eL false 4 eAdvert adv, eL false 2 eID seen, v4, eL false 3 eOwn own]] (some 1)) := ⟨_, rfl⟩
  have wH : WF H := by rw [hH]; exact w0.set
  have nH : H.n = K.n := by rw [hH]; rfl
  have lH : H.lim = 0 := by rw [hH]; exact q0
  have g0 : H.get 0 = some (.arr 30 6 [.agg [.int .i64 me, eL false 1 cInt near, eL false 4 eAdvert adv, eL false 2 eID seen, v4, eL false 3 eOwn own]] (some 1)) := by rw [hH, get_set w0 l0', if_pos rfl]
  have g1 : H.get 1 = some (.arr 53 7 [.agg [.int .i64 tc, .int .i64 td, .int .i64 sc, .int .i64 sd, ePred p, .int .i64 frm, .bool up]] (some 1)) := by rw [hH, get_set w0 l0', if_neg (by decide)]; exact a1
  have g2 : H.get 2 = some (.arr 30 6 [.agg [.int .i64 0, .nsl, .nsl, .nsl, .nsl, .nsl]] (some 1)) := by rw [hH, get_set w0 l0', if_neg (by decide)]; exact a2
  have st4 := o4.storable
  have ec4 := o4.ecells
  replace o4 : Own 3 H v4 53 7 (ent.map eEntry) := by rw [hH]; exact o4.setLow w0 (by decide) l0'
  simp [a0, a1, a2, q0, w0, l0', st4, ec4, turn]
  rw [← hH]
  clear hH
  have l0 : 0 < H.n := by omega
  have l1 : 1 < H.n := by omega
  have l2 : 2 < H.n := by omega
  have nn0 : ¬ 0 = H.n := by omega
  have nn1 : ¬ 1 = H.n := by omega
  have nn2 : ¬ 2 = H.n := by omega
  have mm0 : ¬ H.n = 0 := by omega
  have mm1 : ¬ H.n = 1 := by omega
  have mm2 : ¬ H.n = 2 := by omega
  have r1 : resolve true H 199 v4 = some (eL true 7 eEntry ent) := o4.resolve true (fun y _ => (plain_entry y).1) (by decide)
  have r1p : ∀ o, resolve true (H.push o) 199 v4 = some (eL true 7 eEntry ent) := fun o => o4.push.resolve true (fun y _ => (plain_entry y).1) (by decide)
  have r2 : ∀ o o', resolve false ((H.set 2 o').push o) 198 v4 = some (eL false 7 eEntry ent) := fun o o' => ((o4.setLow wH (by decide) l2).push).resolve false (fun y _ => (plain_entry y).1) (by decide)
  cases hq1 : adv.find? (fun a => decide (a.id = ⟨tc, td⟩)) with
  | none =>
    rw [hq1] at hFd
    have hmay : mayAdd ⟨me, near, adv, seen, ent, own⟩ ⟨⟨tc, td⟩, ⟨sc, sd⟩, p, frm, up⟩ = false := by simp [mayAdd, hq1]
    simp [g0, g1, g2, lH, wH, nn0, nn1, nn2, mm0, mm1, mm2, l0, l1, l2, e12, hFd, e63, hPl, hhit, r1, r2, eAdvert, turn, resultsOf, hasO, advZero, r1p]
    simp [hR, addB, hmay, eBroker, Tags.none]
  | some a =>
    rw [hq1] at hFd
    simp only [eAdvert, Option.getD_some] at hFd
    cases hq2 : ent.find? (isE ⟨tc, td⟩ ⟨sc, sd⟩) with
    | some e2 =>
      rw [hq2] at hhit hany
      simp only at hhit
      have hhit' := hhit.1
      have hmay : mayAdd ⟨me, near, adv, seen, ent, own⟩ ⟨⟨tc, td⟩, ⟨sc, sd⟩, p, frm, up⟩ = false := by simp only [mayAdd, hq1, hany]; simp [hasO]
      simp [g0, g1, g2, lH, wH, nn0, nn1, nn2, mm0, mm1, mm2, l0, l1, l2, e12, hFd, e63, hPl, r1, r2, eAdvert, turn, resultsOf, hasO, r1p, hhit']
      simp [hR, addB, hmay, eBroker, Tags.none]
    | none =>
      rw [hq2] at hhit hany
      simp only at hhit
      by_cases hfp : frm = a.parent ∧ ¬ a.parent = -1
      · have hmay : mayAdd ⟨me, near, adv, seen, ent, own⟩ ⟨⟨tc, td⟩, ⟨sc, sd⟩, p, frm, up⟩ = false := by simp only [mayAdd, hq1, hany]; simp [hfp.1, hfp.2]
        have hf1 := hfp.1
        have hf2 := hfp.2
        subst hf1
        simp [g0, g1, g2, lH, wH, nn0, nn1, nn2, mm0, mm1, mm2, l0, l1, l2, e12, hFd, e63, hPl, hhit, r1, r2, eAdvert, turn, resultsOf, hasO, r1p, hf2]
        simp [hR, addB, hmay, eBroker, Tags.none]
      · have hmay : mayAdd ⟨me, near, adv, seen, ent, own⟩ ⟨⟨tc, td⟩, ⟨sc, sd⟩, p, frm, up⟩ = true := by
          simp only [mayAdd, hq1, hany, hasO]
          by_cases h1 : frm = a.parent
          · have h2 : a.parent = -1 := by
              by_cases h2 : a.parent = -1
              · exact h2
              · exact absurd ⟨h1, h2⟩ hfp
            simp [h2]
          · simp [h1]
        have hpar : parentOf ⟨me, near, adv, seen, ent, own⟩ ⟨tc, td⟩ = a.parent := by simp [parentOf, hq1]
        by_cases hpl : a.parent = -1
        · have hup : upOf ⟨me, near, adv, seen, ent, own⟩ ⟨⟨tc, td⟩, ⟨sc, sd⟩, p, frm, up⟩ = false := by simp [upOf, hpar, hpl]
          by_cases hfm : frm = a.parent
          · simp [g0, g1, g2, lH, wH, nn0, nn1, nn2, mm0, mm1, mm2, l0, l1, l2, e12, hFd, e63, hPl, hhit, r1, eAdvert, turn, r1p, hasO, eq_true hpl, eq_true hfm]
            generalize hA : fc D _ _ _ = A
            have o4i := o4.push (o := .arr 41 4 [.agg [.int .i64 a.id.client, .int .i64 a.id.seq, ePred a.pred, .int .i64 a.parent]] (some 1))
            obtain ⟨v4', K2, rfl, p4, x2, _⟩ := q64 hA 3 ent ⟨⟨tc, td⟩, ⟨sc, sd⟩, p, frm, false⟩ (vety := 53) (c := 1) (by
                have := ((o4i.setLow (id := 1) (o := .arr 53 7 [.agg [.int .i64 tc, .int .i64 td, .int .i64 sc, .int .i64 sd, ePred p, .int .i64 frm, .bool false]] (some 1)) wH.push (by decide) (by simp; omega)).push (o := .arr 53 7 [.agg [.int .i64 tc, .int .i64 td, .int .i64 sc, .int .i64 sd, ePred p, .int .i64 frm, .bool false]] (some 1)))
                simpa [l1, wH] using this) (by simp [eEntry, nn0, nn1, nn2, mm0, mm1, mm2, l0, l1, l2, wH]) (lowIdx_le _ _) hel (by simp [wH]) (by simp; omega) (by simp [lH])
            clear hA
            have b0 := x2.get 0 (by decide)
            have b1 := x2.get 1 (by decide)
            have b2 := x2.get 2 (by decide)
            have q2 := x2.lim
            have w2 := x2.wf
            have n2 := x2.le
            simp [g0, g1, g2, lH, wH, nn0, nn1, nn2, mm0, mm1, mm2, l0, l1, l2] at b0 b1 b2 q2
            have h20 : 0 < K2.n := by omega
            have h22 : 2 < K2.n := by omega
            have r4' := fun o o' => ((p4.setLow (o := o) w2 (by decide) h20).setLow (o := o') w2.set (by decide) h22).resolve (n := 198) false (fun y _ => (plain_entry y).1) (by decide)
            simp [b0, b1, b2, q2, w2, h20, h22, p4.storable, p4.ecells, turn, r4', resultsOf]
            simp [hR, addB, hmay, hup, eBroker, Tags.none, insE]

          · simp [g0, g1, g2, lH, wH, nn0, nn1, nn2, mm0, mm1, mm2, l0, l1, l2, e12, hFd, e63, hPl, hhit, r1, eAdvert, turn, r1p, hasO, eq_true hpl, hfm]
            generalize hA : fc D _ _ _ = A
            have o4i := o4.push (o := .arr 41 4 [.agg [.int .i64 a.id.client, .int .i64 a.id.seq, ePred a.pred, .int .i64 a.parent]] (some 1))
            obtain ⟨v4', K2, rfl, p4, x2, _⟩ := q64 hA 3 ent ⟨⟨tc, td⟩, ⟨sc, sd⟩, p, frm, false⟩ (vety := 53) (c := 1) (by
                have := ((o4i.setLow (id := 1) (o := .arr 53 7 [.agg [.int .i64 tc, .int .i64 td, .int .i64 sc, .int .i64 sd, ePred p, .int .i64 frm, .bool false]] (some 1)) wH.push (by decide) (by simp; omega)).push (o := .arr 53 7 [.agg [.int .i64 tc, .int .i64 td, .int .i64 sc, .int .i64 sd, ePred p, .int .i64 frm, .bool false]] (some 1)))
                simpa [l1, wH] using this) (by simp [eEntry, nn0, nn1, nn2, mm0, mm1, mm2, l0, l1, l2, wH]) (lowIdx_le _ _) hel (by simp [wH]) (by simp; omega) (by simp [lH])
            clear hA
            have b0 := x2.get 0 (by decide)
            have b1 := x2.get 1 (by decide)
            have b2 := x2.get 2 (by decide)
            have q2 := x2.lim
            have w2 := x2.wf
            have n2 := x2.le
            simp [g0, g1, g2, lH, wH, nn0, nn1, nn2, mm0, mm1, mm2, l0, l1, l2] at b0 b1 b2 q2
            have h20 : 0 < K2.n := by omega
            have h22 : 2 < K2.n := by omega
            have r4' := fun o o' => ((p4.setLow (o := o) w2 (by decide) h20).setLow (o := o') w2.set (by decide) h22).resolve (n := 198) false (fun y _ => (plain_entry y).1) (by decide)
            simp [b0, b1, b2, q2, w2, h20, h22, p4.storable, p4.ecells, turn, r4', resultsOf]
            simp [hR, addB, hmay, hup, eBroker, Tags.none, insE]

        · have hfne : ¬ frm = a.parent := fun e => hfp ⟨e, hpl⟩
          cases hC : coveredB ent ⟨tc, td⟩ p with
          | true =>
            rw [hC] at hCv
            have hup : upOf ⟨me, near, adv, seen, ent, own⟩ ⟨⟨tc, td⟩, ⟨sc, sd⟩, p, frm, up⟩ = false := by simp [upOf, hC]
            simp [g0, g1, g2, lH, wH, nn0, nn1, nn2, mm0, mm1, mm2, l0, l1, l2, e12, hFd, e63, hPl, hhit, r1, eAdvert, turn, r1p, hasO, hpl, hfne, e18, hCv]
            generalize hA : fc D _ _ _ = A
            have o4i := o4.push (o := .arr 41 4 [.agg [.int .i64 a.id.client, .int .i64 a.id.seq, ePred a.pred, .int .i64 a.parent]] (some 1))
            obtain ⟨v4', K2, rfl, p4, x2, _⟩ := q64 hA 3 ent ⟨⟨tc, td⟩, ⟨sc, sd⟩, p, frm, false⟩ (vety := 53) (c := 1) (by
                have := ((o4i.setLow (id := 1) (o := .arr 53 7 [.agg [.int .i64 tc, .int .i64 td, .int .i64 sc, .int .i64 sd, ePred p, .int .i64 frm, .bool false]] (some 1)) wH.push (by decide) (by simp; omega)).push (o := .arr 53 7 [.agg [.int .i64 tc, .int .i64 td, .int .i64 sc, .int .i64 sd, ePred p, .int .i64 frm, .bool false]] (some 1)))
                simpa [l1, wH] using this) (by simp [eEntry, nn0, nn1, nn2, mm0, mm1, mm2, l0, l1, l2, wH]) (lowIdx_le _ _) hel (by simp [wH]) (by simp; omega) (by simp [lH])
            clear hA
            have b0 := x2.get 0 (by decide)
            have b1 := x2.get 1 (by decide)
            have b2 := x2.get 2 (by decide)
            have q2 := x2.lim
            have w2 := x2.wf
            have n2 := x2.le
            simp [g0, g1, g2, lH, wH, nn0, nn1, nn2, mm0, mm1, mm2, l0, l1, l2] at b0 b1 b2 q2
            have h20 : 0 < K2.n := by omega
            have h22 : 2 < K2.n := by omega
            have r4' := fun o o' => ((p4.setLow (o := o) w2 (by decide) h20).setLow (o := o') w2.set (by decide) h22).resolve (n := 198) false (fun y _ => (plain_entry y).1) (by decide)
            simp [b0, b1, b2, q2, w2, h20, h22, p4.storable, p4.ecells, turn, r4', resultsOf]
            simp [hR, addB, hmay, hup, eBroker, Tags.none, insE]

          | false =>
            rw [hC] at hCv
            have hup : upOf ⟨me, near, adv, seen, ent, own⟩ ⟨⟨tc, td⟩, ⟨sc, sd⟩, p, frm, up⟩ = true := by simp [upOf, hpar, hpl, hC]
            simp [g0, g1, g2, lH, wH, nn0, nn1, nn2, mm0, mm1, mm2, l0, l1, l2, e12, hFd, e63, hPl, hhit, r1, eAdvert, turn, r1p, hasO, hpl, hfne, e18, hCv]
            generalize hA : fc D _ _ _ = A
            have o4i := o4.push (o := .arr 41 4 [.agg [.int .i64 a.id.client, .int .i64 a.id.seq, ePred a.pred, .int .i64 a.parent]] (some 1))
            obtain ⟨v4', K2, rfl, p4, x2, _⟩ := q64 hA 3 ent ⟨⟨tc, td⟩, ⟨sc, sd⟩, p, frm, true⟩ (vety := 53) (c := 1) (by
                have := ((o4i.setLow (id := 1) (o := .arr 53 7 [.agg [.int .i64 tc, .int .i64 td, .int .i64 sc, .int .i64 sd, ePred p, .int .i64 frm, .bool true]] (some 1)) wH.push (by decide) (by simp; omega)).push (o := .arr 53 7 [.agg [.int .i64 tc, .int .i64 td, .int .i64 sc, .int .i64 sd, ePred p, .int .i64 frm, .bool true]] (some 1)))
                simpa [l1, wH] using this) (by simp [eEntry, nn0, nn1, nn2, mm0, mm1, mm2, l0, l1, l2, wH]) (lowIdx_le _ _) hel (by simp [wH]) (by simp; omega) (by simp [lH])
            clear hA
            have b0 := x2.get 0 (by decide)
            have b1 := x2.get 1 (by decide)
            have b2 := x2.get 2 (by decide)
            have q2 := x2.lim
            have w2 := x2.wf
            have n2 := x2.le
            simp [g0, g1, g2, lH, wH, nn0, nn1, nn2, mm0, mm1, mm2, l0, l1, l2] at b0 b1 b2 q2
            have h20 : 0 < K2.n := by omega
            have h22 : 2 < K2.n := by omega
            have r4' := fun o o' => ((p4.setLow (o := o) w2 (by decide) h20).setLow (o := o') w2.set (by decide) h22).resolve (n := 198) false (fun y _ => (plain_entry y).1) (by decide)
            simp [b0, b1, b2, q2, w2, h20, h22, p4.storable, p4.ecells, turn, r4', resultsOf]
            simp [hR, addB, hmay, hup, eBroker, Tags.none, insE]
end Go.Dm.Tc

/-
What the reference's functions compute, part 6: an entry added.
-/
namespace Go.Dm.Tc
end Go.Dm.Tc

/-
What the reference's functions compute, part 7: an entry added, all of it.
-/
namespace Go.Dm.Tc
end Go.Dm.Tc

/-
Two rows of one element type side by side: what is put behind one leaves the other one alone.
-/
namespace Go.Dm.Tc
def NotAt (v : DV) (k : Nat) : Prop := ∀ sz off len, v ≠ .sl k sz off len
theorem append_frame {lo : Nat} {h : Heap} {v : DV} {ety sz bytes : Nat} {xs ys : List DV} {A : Option (DV × Heap)} (w : OwnR lo h v ety sz xs) (wf : WF h) (hlo : lo ≤ h.n) (hlim : h.lim ≤ h.n) (hA : appendD h ety sz bytes v ys = A)
    (hb : (xs.length + ys.length) * bytes ≤ 140737488355328) (hb1 : 1 ≤ bytes) :
    ∃ v' h', A = some (v', h') ∧ OwnR lo h' v' ety sz (xs ++ ys) ∧ Ext lo h h' ∧ (∀ k, k < h.n → NotAt v k → h'.get k = h.get k) ∧ (∀ k, k < h.n → NotAt v k → NotAt v' k) := by
  have hm : xs.length + ys.length ≤ 140737488355328 := Nat.le_trans (Nat.le_mul_of_pos_right _ hb1) hb
  by_cases hy : ys = []
  · subst hy
    refine ⟨v, h, ?_, by simpa using w, .refl hlo wf, fun _ _ _ => rfl, fun _ _ q => q⟩
    rw [← hA]
    cases w with
    | nil hv hx => subst hv; rfl
    | arr id sp cap hv hg _ _ => subst hv; rfl
  · have hye : ys.isEmpty = false := by cases ys <;> simp_all
    have hyl : 0 < ys.length := List.length_pos_iff.2 hy
    cases w with
    | nil hv hx =>
      subst hv; subst hx
      simp only [List.length_nil, Nat.zero_add] at hb hm
      refine ⟨.sl h.n sz 0 ys.length, h.push (.arr ety sz ys none), ?_, .arr h.n [] none rfl (by simp [get_push]) (by exact hlim) hlo, (Ext.refl hlo wf).push, fun k hk _ => by rw [get_push, if_neg (by omega)], fun k hk _ sz' off' len' e => by injection e; omega⟩
      rw [← hA]
      simp only [appendD, hye]
      rw [if_neg (by simp), if_pos ⟨hb, by omega⟩]
    | arr id sp cap hv hg hl hi =>
      subst hv
      have hlt := get_some_lt hg
      have hne : ∀ k, NotAt (.sl id sz 0 xs.length) k → k ≠ id := fun k q e => by subst e; exact q _ _ _ rfl
      by_cases hin : xs.length + ys.length ≤ (xs ++ sp).length
      · refine ⟨.sl id sz 0 (xs.length + ys.length), h.set id (.arr ety sz (splice (xs ++ sp) ys xs.length) cap), ?_, .arr id (sp.drop ys.length) cap (by simp) ?_ (by exact hl) hi, (Ext.refl hlo wf).set hi hlt, fun k _ q => by rw [get_set wf hlt, if_neg (hne k q)], fun k _ q sz' off' len' e => by injection e with e1; exact hne k q e1.symm⟩
        · rw [← hA]; exact appendD_in hg hin hl hb hb1 hy
        · rw [get_set wf hlt, if_pos rfl]
          simp only [splice, List.take_left', List.append_assoc]
          congr 3
          rw [List.drop_append]
          simp
      · cases cap with
        | none =>
          refine ⟨.sl h.n sz 0 (xs.length + ys.length), (h.set id .dead).push (.arr ety sz (xs ++ ys) none), ?_, .arr h.n [] none (by simp) ?_ (by exact hlim) hlo, ((Ext.refl hlo wf).set hi hlt).push, fun k hk q => by rw [get_push, if_neg (by show ¬ k = h.n; omega), get_set wf hlt, if_neg (hne k q)], fun k hk _ sz' off' len' e => by injection e; omega⟩
          · rw [← hA]
            simp only [appendD, hye, hg]
            simp only [Bool.false_eq_true, if_false, true_and, Nat.zero_add, List.drop_zero]
            rw [if_pos ⟨by simp, hb, by omega⟩, if_neg hin, if_pos hl]
            simp
          · simpa using get_push_new (h := h.set id .dead)
        | some c =>
          refine ⟨.sl h.n sz 0 (xs.length + ys.length), h.push (.arr ety sz (xs ++ ys) none), ?_, .arr h.n [] none (by simp) ?_ (by exact hlim) hlo, (Ext.refl hlo wf).push, fun k hk _ => by rw [get_push, if_neg (by omega)], fun k hk _ sz' off' len' e => by injection e; omega⟩
          · rw [← hA]
            rw [appendD_new hg (by simp) (by omega) hb hb1 hy]
            simp
          · simpa using get_push_new (h := h)
def takeL (tree : ID) : List Entry → List Entry → List Entry → List Entry × List Entry
  | done, [], ups => (done, ups)
  | done, e :: r, ups => if e.tree = tree ∧ e.up = false ∧ coveredB (done ++ e :: r) tree e.pred = false then takeL tree (done ++ [{ e with up := true }]) r (ups ++ [{ e with up := true }]) else takeL tree (done ++ [e]) r ups
def takeB (b : Broker) (tree sub : ID) (frm : Int) : Broker × List Entry × Bool :=
  match b.entries.find? (isE tree sub) with
  | none => (b, [], false)
  | some e => if e.frm = frm then
      (if e.up = true then ({ b with entries := (takeL tree [] (b.entries.filter fun x => !isE tree sub x) []).1 }, (takeL tree [] (b.entries.filter fun x => !isE tree sub x) []).2, true)
       else ({ b with entries := b.entries.filter fun x => !isE tree sub x }, [], false))
    else (b, [], false)
end Go.Dm.Tc

/-
What functions of the program compute, part 19: an entry taken out (the loop).
-/
namespace Go.Dm.Tc
theorem set_at {α : Type} (l : List α) (e e' : α) (r : List α) (sp : List α) : (l ++ e :: r ++ sp).set l.length e' = l ++ e' :: r ++ sp := by
  rw [List.append_assoc, List.append_assoc, List.set_append_right _ _ (Nat.le_refl _)]
  simp
theorem own_set {lo : Nat} {h : Heap} {v : DV} {ety sz : Nat} {xs : List DV} (w : OwnR lo h v ety sz xs) (wf : WF h) {id : Nat} {o : DO} (hlt : id < h.n) (na : NotAt v id) : OwnR lo (h.set id o) v ety sz xs := by
  cases w with
  | nil hv hx => exact .nil hv hx
  | arr k sp cap hv hg hl hi =>
    have hne : ¬ k = id := fun e => by subst e; exact na _ _ _ hv
    exact .arr k sp cap hv (by rw [get_set wf hlt, if_neg hne]; exact hg) hl hi
theorem not_low {lo : Nat} {h : Heap} {v : DV} {ety sz : Nat} {xs : List DV} (w : OwnR lo h v ety sz xs) {k : Nat} (hk : k < lo) : NotAt v k := by
  intro a b c e
  cases w with
  | nil hv hx => rw [hv] at e; cases e
  | arr id sp cap hv hg hl hi => rw [hv] at e; injection e; omega
set_option maxRecDepth 8000 in
set_option maxHeartbeats 1600000 in
theorem l19 (S : List Fr) (me : Int) (near : List Int) (adv : List Advert) (seen : List ID) (own : List OwnS) (tc td : Int) (i4 n : Nat) (zb : DO) :
    ∀ (rest done ups : List Entry) (f : FEnv) (h : Heap), done.length + rest.length = n → n ≤ 100000 → ups.length ≤ done.length → (∀ e ∈ done ++ rest, PredOk e.pred) →
      f 4 = .ptr 0 6 0 0 → f 5 = .ptr 1 2 0 0 → f 8 = .ptr 3 6 0 0 → f 56 = .sl i4 7 0 n → f 57 = .int .i64 n → f 58 = .int .i64 done.length →
      h.get 0 = some (.arr 30 6 [.agg [.int .i64 me, eL false 1 cInt near, eL false 4 eAdvert adv, eL false 2 eID seen, .sl i4 7 0 n, eL false 3 eOwn own]] (some 1)) → h.get 1 = some (.arr 35 2 [.agg [.int .i64 tc, .int .i64 td]] (some 1)) → h.get 3 = some zb →
      OwnI 4 h i4 53 7 ((done ++ rest).map eEntry) → OwnR 4 h (f 9) 53 7 (ups.map eEntry) → NotAt (f 9) i4 → h.lim = 0 → 4 ≤ h.n → WF h →
    ∃ f' h', run D 96 (.block 0 :: .seq t19k0 :: S) (.loop t19l0) f h = run D 96 S t19k0 f' h' ∧ f' 4 = .ptr 0 6 0 0 ∧ f' 8 = .ptr 3 6 0 0 ∧
      h'.get 0 = some (.arr 30 6 [.agg [.int .i64 me, eL false 1 cInt near, eL false 4 eAdvert adv, eL false 2 eID seen, .sl i4 7 0 n, eL false 3 eOwn own]] (some 1)) ∧ h'.get 3 = some zb ∧
      OwnI 4 h' i4 53 7 ((takeL ⟨tc, td⟩ done rest ups).1.map eEntry) ∧ OwnR 4 h' (f' 9) 53 7 ((takeL ⟨tc, td⟩ done rest ups).2.map eEntry) ∧ (takeL ⟨tc, td⟩ done rest ups).1.length = n ∧ h'.lim = 0 ∧ 4 ≤ h'.n ∧ WF h' := by
  intro rest
  induction rest with
  | nil =>
    intro done ups f h hn hn1 hu hp h4 h5 h8 h56 h57 h58 g0 g1 g3 o4 o9 na hlim hn4 wf
    have : ¬ (done.length < n) := by simp at hn; omega
    rw [run_loop_of t19l0.eq_1]
    simp [h57, h58, this]
    refine ⟨_, _, rfl, by simp [h4], by simp [h8], g0, g3, ?_, ?_, ?_, hlim, hn4, wf⟩
    · simpa [takeL] using o4
    · simpa [takeL] using o9
    · simpa [takeL] using hn
  | cons e rest ih =>
    intro done ups f h hn hn1 hu hp h4 h5 h8 h56 h57 h58 g0 g1 g3 o4 o9 na hlim hn4 wf
    have hlt : done.length < n := by simp at hn; omega
    have hid := o4.lt
    have hlo := o4.lo
    have hL : (done ++ e :: rest).length = n := by simp at hn ⊢; omega
    obtain ⟨⟨sp, cap, g4⟩, hl4, _⟩ := o4
    have hw : IntKind.i64.wrap ((done.length : Int) + 1) = (done.length : Int) + 1 := wrap64 (by omega) (by omega)
    have n0 : ¬ 0 = h.n := by omega
    have n1 : ¬ 1 = h.n := by omega
    have n3 : ¬ 3 = h.n := by omega
    have n4 : ¬ i4 = h.n := by omega
    have m0 : ¬ h.n = 0 := by omega
    have m1 : ¬ h.n = 1 := by omega
    have i0 : ¬ 0 = i4 := by omega
    have i1 : ¬ 1 = i4 := by omega
    have i3 : ¬ 3 = i4 := by omega
    have j0 : ¬ i4 = 0 := by omega
    have j1 : ¬ i4 = 1 := by omega
    have hia : indexAddrV 7 (.sl i4 7 0 n) (.int .i64 (done.length : Int)) = some (.ptr i4 7 done.length 0) := by simp [indexAddrV, asI, hlt]
    have hel : (List.map eEntry (done ++ e :: rest) ++ sp)[done.length]? = some (eEntry e) := by
      rw [List.getElem?_append_left (by simp), List.getElem?_map, List.getElem?_append_right (Nat.le_refl _)]; simp
    have f1 := fun {α : Type} (t : Bool) (sz : Nat) (e : α → DV) (xs : List α) => (flat_eL t sz e xs).mono (show 1 ≤ 20 by decide)
    have hpe := hp e (by simp)
    have hCv := s18 (.int .i64 me) (eL false 1 cInt near) (eL false 4 eAdvert adv) (eL false 2 eID seen) (eL false 3 eOwn own) true (done ++ e :: rest) tc td e.pred (by omega) hpe.unlike (Nat.le_trans hpe.len (by decide)) (fun x hx => Nat.le_trans (hp x hx).len (by decide)) ((flat_int _ _).mono (by decide)) (f1 _ _ _ _) (f1 _ _ _ _) (f1 _ _ _ _) (f1 _ _ _ _)
    have o4R : ∀ o, OwnR 4 (h.push o) (.sl i4 7 0 n) 53 7 ((done ++ e :: rest).map eEntry) := fun o => by
      have := (OwnI.toR (⟨⟨sp, cap, g4⟩, hl4, hlo⟩ : OwnI 4 h i4 53 7 ((done ++ e :: rest).map eEntry))).push (o := o)
      rw [List.length_map, hL] at this
      exact this
    have r4 : ∀ o, resolve true (h.push o) 199 (.sl i4 7 0 n) = some (eL true 7 eEntry (done ++ e :: rest)) := fun o => (o4R o).resolve true (fun y _ => (plain_entry y).1) (by decide)
    simp only [eEntry] at hel
    have hstep : ∀ F o, takeL ⟨tc, td⟩ done (e :: rest) ups = takeL ⟨tc, td⟩ (done ++ [e]) rest ups → F 4 = .ptr 0 6 0 0 → F 5 = .ptr 1 2 0 0 → F 8 = .ptr 3 6 0 0 → F 56 = .sl i4 7 0 n → F 57 = .int .i64 n → F 58 = .int .i64 ((done.length : Int) + 1) → F 9 = f 9 →
        ∃ f' h', run D 96 (.block 0 :: .seq t19k0 :: S) (.loop t19l0) F (h.push o) = run D 96 S t19k0 f' h' ∧ f' 4 = .ptr 0 6 0 0 ∧ f' 8 = .ptr 3 6 0 0 ∧
      h'.get 0 = some (.arr 30 6 [.agg [.int .i64 me, eL false 1 cInt near, eL false 4 eAdvert adv, eL false 2 eID seen, .sl i4 7 0 n, eL false 3 eOwn own]] (some 1)) ∧ h'.get 3 = some zb ∧
      OwnI 4 h' i4 53 7 ((takeL ⟨tc, td⟩ done (e :: rest) ups).1.map eEntry) ∧ OwnR 4 h' (f' 9) 53 7 ((takeL ⟨tc, td⟩ done (e :: rest) ups).2.map eEntry) ∧ (takeL ⟨tc, td⟩ done (e :: rest) ups).1.length = n ∧ h'.lim = 0 ∧ 4 ≤ h'.n ∧ WF h' := by
      intro F o ht a4 a5 a8 a56 a57 a58 a9
      rw [ht]
      refine ih (done ++ [e]) ups F _ (by simp at hn ⊢; omega) hn1 (by simp; omega) (by simpa using hp) a4 a5 a8 a56 a57 (by rw [a58]; simp) ?_ ?_ ?_ ?_ ?_ ?_ hlim (by show 4 ≤ h.n + 1; omega) wf.push
      · rw [get_push, if_neg n0]; exact g0
      · rw [get_push, if_neg n1]; exact g1
      · rw [get_push, if_neg n3]; exact g3
      · have := (⟨⟨sp, cap, g4⟩, hl4, hlo⟩ : OwnI 4 h i4 53 7 ((done ++ e :: rest).map eEntry)).push (o := o)
        simpa using this
      · rw [a9]; exact o9.push
      · rw [a9]; exact na
    rw [run_loop_of t19l0.eq_1]
    by_cases ht : e.tree = ⟨tc, td⟩
    · have hc1 : e.tree.client = tc := by rw [ht]
      have hc2 : e.tree.seq = td := by rw [ht]
      cases hup : e.up with
      | true =>
        have hno : takeL ⟨tc, td⟩ done (e :: rest) ups = takeL ⟨tc, td⟩ (done ++ [e]) rest ups := by simp [takeL, hup]
        simp [h4, h5, h56, h57, h58, hlt, hia, g4, hel, eEntry, hlim, n0, n1, n4, m0, m1, g0, g1, hc1, hc2, hup, hw]
        generalize hF : upd _ 58 _ = F
        exact hstep F _ hno (by rw [← hF]; simp [h4]) (by rw [← hF]; simp [h5]) (by rw [← hF]; simp [h8]) (by rw [← hF]; simp [h56]) (by rw [← hF]; simp [h57]) (by rw [← hF]; simp) (by rw [← hF]; simp)
      | false =>
        cases hC : coveredB (done ++ e :: rest) ⟨tc, td⟩ e.pred with
        | true =>
          rw [hC] at hCv
          have hno : takeL ⟨tc, td⟩ done (e :: rest) ups = takeL ⟨tc, td⟩ (done ++ [e]) rest ups := by simp only [takeL]; rw [if_neg]; rw [hC]; simp
          simp [h4, h5, h56, h57, h58, hlt, hia, g4, hel, eEntry, hlim, n0, n1, n4, m0, m1, g0, g1, hc1, hc2, hup, hw, -res_sl_eq, r4, e18, hCv]
          generalize hF : upd _ 58 _ = F
          exact hstep F _ hno (by rw [← hF]; simp [h4]) (by rw [← hF]; simp [h5]) (by rw [← hF]; simp [h8]) (by rw [← hF]; simp [h56]) (by rw [← hF]; simp [h57]) (by rw [← hF]; simp) (by rw [← hF]; simp)
        | false =>
          rw [hC] at hCv
          have hyes : takeL ⟨tc, td⟩ done (e :: rest) ups = takeL ⟨tc, td⟩ (done ++ [{ e with up := true }]) rest (ups ++ [{ e with up := true }]) := by simp only [takeL]; rw [if_pos ⟨ht, hup, hC⟩]
          simp [h4, h5, h56, h57, h58, hlt, hia, g4, hel, eEntry, hlim, n0, n1, n4, m0, m1, i0, i1, i3, j0, j1, g0, g1, hc1, hc2, hup, hw, -res_sl_eq, r4, e18, hCv, hl4, hid, wf, turn]
          have hset : (List.map eEntry done ++ DV.agg [.int .i64 tc, .int .i64 td, .int .i64 e.sub.client, .int .i64 e.sub.seq, ePred e.pred, .int .i64 e.frm, .bool false] :: List.map eEntry rest ++ sp).set done.length (.agg [.int .i64 tc, .int .i64 td, .int .i64 e.sub.client, .int .i64 e.sub.seq, ePred e.pred, .int .i64 e.frm, .bool true]) = List.map eEntry (done ++ { e with up := true } :: rest) ++ sp := by
            have := set_at (List.map eEntry done) (DV.agg [.int .i64 tc, .int .i64 td, .int .i64 e.sub.client, .int .i64 e.sub.seq, ePred e.pred, .int .i64 e.frm, .bool false]) (.agg [.int .i64 tc, .int .i64 td, .int .i64 e.sub.client, .int .i64 e.sub.seq, ePred e.pred, .int .i64 e.frm, .bool true]) (List.map eEntry rest) sp
            rw [List.length_map] at this
            rw [this]
            simp [eEntry, hc1, hc2]
          generalize hA : appendD _ _ _ _ _ _ = A
          obtain ⟨v', h', rfl, o9', x9, fr9, na9⟩ := append_frame ((own_set o9 wf hid na).push.push) (by simp [wf]) (by simp; omega) (by simp [hlim]) hA (by simp; omega) (by decide)
          clear hA
          have y0 := fr9 0 (by simp) (not_low o9 (by decide))
          have y1 := fr9 1 (by simp) (not_low o9 (by decide))
          have y3 := fr9 3 (by simp; omega) (not_low o9 (by decide))
          have y4 := fr9 i4 (by simp; omega) na
          have ny := na9 i4 (by simp; omega) na
          have yl := x9.lim
          have yw := x9.wf
          have yn := x9.le
          have n41 : ¬ i4 = h.n + 1 := by omega
          have n31 : ¬ 3 = h.n + 1 := by omega
          have m2 : ¬ h.n = 2 := by omega
          simp [wf, hid, n0, n1, n3, n4, m0, m1, m2, i0, i1, i3, n41, n31, g0, g1, g3, hlim] at y0 y1 y3 y4 yl
          simp [h58, hw]
          generalize hF : upd _ 58 _ = F
          rw [hyes]
          refine ih (done ++ [{ e with up := true }]) (ups ++ [{ e with up := true }]) F h' (by simp at hn ⊢; omega) hn1 (by simp; omega) ?_ ?_ ?_ ?_ ?_ ?_ ?_ y0 y1 y3 ⟨⟨sp, cap, ?_⟩, ?_, hlo⟩ ?_ ?_ yl yn yw
          · intro x hx
            simp only [List.append_assoc, List.singleton_append, List.mem_append, List.mem_cons] at hx
            rcases hx with hx | rfl | hx
            · exact hp x (by simp [hx])
            · exact hpe
            · exact hp x (by simp [hx])
          · rw [← hF]; simp [h4]
          · rw [← hF]; simp [h5]
          · rw [← hF]; simp [h8]
          · rw [← hF]; simp [h56]
          · rw [← hF]; simp [h57]
          · rw [← hF]; simp
          · rw [y4]; simp [eEntry, hc1, hc2]
          · rw [yl]; exact Nat.zero_le _
          · rw [← hF]; simp; simpa [eEntry, hc1, hc2] using o9'
          · rw [← hF]; simp; exact ny
    · have h1' := id_ne ht
      simp only at h1'
      have hno : takeL ⟨tc, td⟩ done (e :: rest) ups = takeL ⟨tc, td⟩ (done ++ [e]) rest ups := by simp [takeL, ht]
      simp [h4, h5, h56, h57, h58, hlt, hia, g4, hel, eEntry, hlim, n0, n1, n4, m0, m1, g0, g1, h1', hw]
      generalize hF : upd _ 58 _ = F
      exact hstep F _ hno (by rw [← hF]; simp [h4]) (by rw [← hF]; simp [h5]) (by rw [← hF]; simp [h8]) (by rw [← hF]; simp [h56]) (by rw [← hF]; simp [h57]) (by rw [← hF]; simp) (by rw [← hF]; simp)
end Go.Dm.Tc

/-
What functions of the program compute, part 20: an entry taken out.
-/
namespace Go.Dm.Tc
theorem dropE_at {l : List Entry} (hr : RisingE l) {t s : ID} {i : Nat} {a : Entry} (hi : l[i]? = some a) (ha : isE t s a = true) : l.take i ++ l.drop (i + 1) = l.filter fun x => !isE t s x := by
  have hlt : i < l.length := by
    by_cases h : i < l.length
    · exact h
    · rw [List.getElem?_eq_none (by omega)] at hi; cases hi
  have hia : l[i] = a := by rw [List.getElem?_eq_getElem hlt] at hi; exact Option.some.inj hi
  have ha' : a.tree = t ∧ a.sub = s := by simpa [isE] using ha
  have h0 : sgnE t s a = 0 := sgnE_eq.2 ha'
  have hne : ∀ j (hj : j < l.length), j ≠ i → isE t s l[j] = false := by
    intro j hj hji
    cases he : isE t s l[j] with
    | false => rfl
    | true =>
      have he' : l[j].tree = t ∧ l[j].sub = s := by simpa [isE] using he
      rcases Nat.lt_or_gt_of_ne hji with h | h
      · have := List.pairwise_iff_getElem.1 hr j i hj hlt h
        rw [hia, ha'.1, ha'.2, sgnE_eq.2 he'] at this
        omega
      · have := List.pairwise_iff_getElem.1 hr i j hlt hj h
        rw [hia, he'.1, he'.2, h0] at this
        omega
  have h1 : (l.take i).filter (fun x => !isE t s x) = l.take i := by
    rw [List.filter_eq_self]
    intro y hy
    obtain ⟨j, hj, rfl⟩ := List.mem_iff_getElem.1 hy
    rw [List.length_take] at hj
    have := hne j (by omega) (by omega)
    simpa using this
  have h2 : (l.drop (i + 1)).filter (fun x => !isE t s x) = l.drop (i + 1) := by
    rw [List.filter_eq_self]
    intro y hy
    obtain ⟨j, hj, rfl⟩ := List.mem_iff_getElem.1 hy
    rw [List.length_drop] at hj
    have := hne (i + 1 + j) (by omega) (by omega)
    simpa using this
  have h3 : (l.drop i).filter (fun x => !isE t s x) = l.drop (i + 1) := by
    rw [List.drop_eq_getElem_cons hlt, List.filter_cons, hia, ha, h2]; simp
  calc l.take i ++ l.drop (i + 1) = (l.take i ++ l.drop i).filter (fun x => !isE t s x) := by rw [List.filter_append, h1, h3]
    _ = _ := by rw [List.take_append_drop]
set_option maxRecDepth 8000 in
theorem s19 (b : Broker) (tc td sc sd frm : Int) (hs : Sized b) (hq : ∀ e ∈ b.entries, PredOk e.pred) (re : RisingE b.entries) :
    pcF D t19 [eBroker .none b, .agg [.int .i64 tc, .int .i64 td], .agg [.int .i64 sc, .int .i64 sd], .int .i64 frm] = some (.tup [eBroker .none (takeB b ⟨tc, td⟩ ⟨sc, sd⟩ frm).1, eL false 7 eEntry (takeB b ⟨tc, td⟩ ⟨sc, sd⟩ frm).2.1, .bool (takeB b ⟨tc, td⟩ ⟨sc, sd⟩ frm).2.2]) := by
  obtain ⟨me, near, adv, seen, ent, own⟩ := b
  obtain ⟨z1, z2, z3, z4, z5⟩ := hs
  simp only at z1 z2 z3 z4 z5 re hq
  obtain ⟨R, hR⟩ : ∃ R, R = DV.tup [eBroker .none (takeB ⟨me, near, adv, seen, ent, own⟩ ⟨tc, td⟩ ⟨sc, sd⟩ frm).1, eL false 7 eEntry (takeB ⟨me, near, adv, seen, ent, own⟩ ⟨tc, td⟩ ⟨sc, sd⟩ frm).2.1, .bool (takeB ⟨me, near, adv, seen, ent, own⟩ ⟨tc, td⟩ ⟨sc, sd⟩ frm).2.2] := ⟨_, rfl⟩
  rw [← hR]
  have hel : ent.length ≤ 1000000 := by omega
  have hPl := s63 (.int .i64 me) (eL false 1 cInt near) (eL false 4 eAdvert adv) (eL false 2 eID seen) (eL false 3 eOwn own) true ent tc td sc sd re hel
  have hhit := hitE re ⟨tc, td⟩ ⟨sc, sd⟩
  unfold pcF
  rw [goRun_eq _ _ _ _ (by simp [t19])]
  simp [t19, eBroker, Tags.none, e62]
  generalize hA : cloneHook _ _ _ _ _ = A
  obtain ⟨v4, K, rfl, o4, x, _⟩ := clone_own (lo := 4) (elems_eL ..) (by simp) (by simp) (by simp) (by simp; omega) (by decide) hA
  clear hA
  have a0 := x.get 0 (by decide)
  have a1 := x.get 1 (by decide)
  have a2 := x.get 2 (by decide)
  have a3 := x.get 3 (by decide)
  have q0 := x.lim
  have w0 := x.wf
  have n0 := x.le
  simp at a0 a1 a2 a3 q0
  have l0' : 0 < K.n := by omega
  obtain ⟨H, hH⟩ : ∃ H, H = K.set 0 (.arr 30 6 [.agg [.int .i64 me, eL false 1 cInt near, eL false 4 eAdvert adv, eL false 2 eID seen, v4, eL false 3 eOwn own]] (some 1)) := ⟨_, rfl⟩
  have wH : WF H := by rw [hH]; exact w0.set
  have nH : H.n = K.n := by rw [hH]; rfl
  have lH : H.lim = 0 := by rw [hH]; exact q0
  have g0 : H.get 0 = some (.arr 30 6 [.agg [.int .i64 me, eL false 1 cInt near, eL false 4 eAdvert adv, eL false 2 eID seen, v4, eL false 3 eOwn own]] (some 1)) := by rw [hH, get_set w0 l0', if_pos rfl]
  have g1 : H.get 1 = some (.arr 35 2 [.agg [.int .i64 tc, .int .i64 td]] (some 1)) := by rw [hH, get_set w0 l0', if_neg (by decide)]; exact a1
  have g2 : H.get 2 = some (.arr 35 2 [.agg [.int .i64 sc, .int .i64 sd]] (some 1)) := by rw [hH, get_set w0 l0', if_neg (by decide)]; exact a2
  have g3 : H.get 3 = some (.arr 30 6 [.agg [.int .i64 0, .nsl, .nsl, .nsl, .nsl, .nsl]] (some 1)) := by rw [hH, get_set w0 l0', if_neg (by decide)]; exact a3
  have st4 := o4.storable
  have ec4 := o4.ecells
  replace o4 : Own 4 H v4 53 7 (ent.map eEntry) := by rw [hH]; exact o4.setLow w0 (by decide) l0'
  simp [a0, a1, a2, a3, q0, w0, l0', st4, ec4, turn]
  rw [← hH]
  clear hH
  have l3 : 3 < H.n := by omega
  have l0 : 0 < H.n := by omega
  have r1 : resolve true H 199 v4 = some (eL true 7 eEntry ent) := o4.resolve true (fun y _ => (plain_entry y).1) (by decide)
  have r2 : ∀ o', resolve false (H.set 3 o') 198 v4 = some (eL false 7 eEntry ent) := fun o' => (o4.setLow wH (by decide) l3).resolve false (fun y _ => (plain_entry y).1) (by decide)
  cases hq2 : ent.find? (isE ⟨tc, td⟩ ⟨sc, sd⟩) with
  | none =>
    rw [hq2] at hhit
    simp only at hhit
    have htk : takeB ⟨me, near, adv, seen, ent, own⟩ ⟨tc, td⟩ ⟨sc, sd⟩ frm = (⟨me, near, adv, seen, ent, own⟩, [], false) := by simp [takeB, hq2]
    simp [r1, r2, e63, hPl, hhit, g0, g3, lH, wH, l3, turn, resultsOf]
    simp [hR, htk, eBroker, Tags.none, eL_nil]
  | some e =>
    rw [hq2] at hhit
    simp only at hhit
    obtain ⟨hh1, hh2⟩ := hhit
    obtain ⟨i, hi⟩ : ∃ i, lowIdx (sgnE ⟨tc, td⟩ ⟨sc, sd⟩) ent = i := ⟨_, rfl⟩
    rw [hi] at hh2 hPl
    have hilt : i < ent.length := by
      by_cases h : i < ent.length
      · exact h
      · rw [List.getElem?_eq_none (by omega)] at hh2; cases hh2
    obtain ⟨id, sp, cap, hv4, hg4, hl4, hlo4, hix, hxx⟩ := o4.toR.index (i := i) (x := eEntry e) (by simp [hh2]) .i64
    simp only [eEntry] at hxx
    by_cases hfr : e.frm = frm
    · have hw : IntKind.i64.wrap ((i : Int) + 1) = (i : Int) + 1 := wrap64 (by omega) (by omega)
      have hdr := dropE_at re hh2 (List.find?_some hq2)
      obtain ⟨v4', H', hD, m4, x2, _⟩ := s66 4 H v4 ent i o4 hilt hel wH (by omega)
      rw [hdr] at m4
      obtain ⟨fl, hfl⟩ : ∃ fl, (ent.filter fun x => !isE ⟨tc, td⟩ ⟨sc, sd⟩ x) = fl := ⟨_, rfl⟩
      rw [hfl] at m4
      have hfln : fl.length ≤ 100000 := by rw [← hfl]; exact Nat.le_trans (List.length_filter_le ..) z4
      have hflp : ∀ x ∈ fl, PredOk x.pred := fun x hx => hq x (by rw [← hfl] at hx; exact (List.mem_filter.1 hx).1)
      have b0 := x2.get 0 (by decide)
      have b1 := x2.get 1 (by decide)
      have b3 := x2.get 3 (by decide)
      have q2 := x2.lim
      have w2 := x2.wf
      have n2 := x2.le
      rw [g0] at b0
      rw [g1] at b1
      rw [g3] at b3
      rw [lH] at q2
      have h20 : 0 < H'.n := by omega
      have h23 : 3 < H'.n := by omega
      have r4 := fun o o' => ((m4.setLow (o := o) w2 (by decide) h20).setLow (o := o') w2.set (by decide) h23).resolve (n := 198) false (fun y _ => (plain_entry y).1) (by decide)
      cases hup : e.up with
      | false =>
        have htk : takeB ⟨me, near, adv, seen, ent, own⟩ ⟨tc, td⟩ ⟨sc, sd⟩ frm = (⟨me, near, adv, seen, fl, own⟩, [], false) := by simp [takeB, hq2, hfr, hup, hfl]
        rw [hup] at hxx
        simp [r1, e63, hPl, hh1, hix, hg4, hxx, eq_true hfr, g0, g3, lH, wH, l3, hw, hD, b0, b3, q2, w2, h20, h23, m4.storable, m4.ecells, r4, turn, resultsOf]
        simp [hR, htk, eBroker, Tags.none, eL_nil]
      | true =>
        have htk : takeB ⟨me, near, adv, seen, ent, own⟩ ⟨tc, td⟩ ⟨sc, sd⟩ frm = (⟨me, near, adv, seen, (takeL ⟨tc, td⟩ [] fl []).1, own⟩, (takeL ⟨tc, td⟩ [] fl []).2, true) := by simp [takeB, hq2, hfr, hup, hfl]
        rw [hup] at hxx
        have st := m4.storable
        have ec := m4.ecells
        cases m4 with
        | nil hv hx =>
          subst hv
          have hf0 : fl = [] := List.map_eq_nil_iff.1 hx
          subst hf0
          simp [r1, e63, hPl, hh1, hix, hg4, hxx, eq_true hfr, g0, g3, lH, wH, l3, hw, hD, b0, b3, q2, w2, h20, h23, turn]
          rw [run_loop_of t19l0.eq_1]
          simp [t19k0, b0, b3, q2, w2, h20, h23, turn, resultsOf]
          simp [hR, htk, eBroker, Tags.none, eL_nil, takeL]
        | arr id2 sp2 cap2 hv hg hl hlo2 =>
          subst hv
          simp only [List.length_map] at hD st ec
          simp [r1, e63, hPl, hh1, hix, hg4, hxx, eq_true hfr, g0, g3, lH, wH, l3, hw, hD, b0, b3, q2, w2, h20, h23, turn]
          generalize hF : upd _ 58 _ = F
          have j0 : ¬ id2 = 0 := by omega
          obtain ⟨f1, K4, k1, k2, k3, c0, c3, o5, o9, hlen, q4, n4, w4⟩ := l19 [] me near adv seen own tc td id2 fl.length (.arr 30 6 [.agg [.int .i64 0, .nsl, .nsl, .nsl, .nsl, .nsl]] (some 1)) fl [] [] F (by simp) hfln (by simp) (by simpa using hflp) (by rw [← hF]; simp) (by rw [← hF]; simp) (by rw [← hF]; simp) (by rw [← hF]; simp) (by rw [← hF]; simp) (by rw [← hF]; simp)
            (h := H'.set 0 (.arr 30 6 [.agg [.int .i64 me, eL false 1 cInt near, eL false 4 eAdvert adv, eL false 2 eID seen, .sl id2 7 0 fl.length, eL false 3 eOwn own]] (some 1))) (by simp [w2, h20]) (by simp [w2, h20, b1]) (by simp [w2, h20, b3]) ⟨⟨sp2, cap2, by simp [w2, h20, j0, hg]⟩, by exact hl, hlo2⟩ (by rw [← hF]; simp; exact .nil rfl rfl) (by rw [← hF]; simp; intro a b c e; cases e) q2 (by exact n2) w2.set
          rw [k1]
          clear hF k1
          have y0 : 0 < K4.n := by omega
          have y3 : 3 < K4.n := by omega
          have s5 := fun o' => (o5.toR.setLow (o := o') w4 (by decide) y3).resolve (n := 198) false (fun y _ => (plain_entry y).1) (by decide)
          have s9 := fun o' => (o9.setLow (o := o') w4 (by decide) y3).resolve (n := 199) false (fun y _ => (plain_entry y).1) (by decide)
          simp only [List.length_map, hlen] at s5
          simp [t19k0, k2, k3, c0, c3, q4, w4, y3, turn, -res_sl_eq, s5, s9, resultsOf]
          simp [hR, htk, eBroker, Tags.none]
    · have htk : takeB ⟨me, near, adv, seen, ent, own⟩ ⟨tc, td⟩ ⟨sc, sd⟩ frm = (⟨me, near, adv, seen, ent, own⟩, [], false) := by simp [takeB, hq2, hfr]
      simp [r1, r2, e63, hPl, hh1, hix, hg4, hxx, hfr, g0, g3, lH, wH, l3, turn, resultsOf]
      simp [hR, htk, eBroker, Tags.none, eL_nil]
end Go.Dm.Tc

/-
What the reference's functions compute, part 8: an entry taken out (the loop).
-/
namespace Go.Dm.Tc
end Go.Dm.Tc

/-
What the reference's functions compute, part 9: an entry taken out.
-/
namespace Go.Dm.Tc
end Go.Dm.Tc

/-
What every broker keeps that calls made: plain laws (learned, forgotten, added, taken out).
-/
namespace Go.Dm.Tc
theorem find_key {α : Type} (key : α → ID) {l : List α} (h : Rising (l.map key)) (x : ID) (a : α) : l.find? (fun b => decide (key b = x)) = some a ↔ a ∈ l ∧ key a = x := by
  constructor
  · intro hf
    exact ⟨List.mem_of_find?_eq_some hf, by simpa using List.find?_some hf⟩
  · rintro ⟨hm, hk⟩
    cases hf : l.find? (fun b => decide (key b = x)) with
    | none => exact absurd hk (by have := List.find?_eq_none.1 hf a hm; simpa using this)
    | some b =>
      have hb := List.mem_of_find?_eq_some hf
      have hkb : key b = x := by simpa using List.find?_some hf
      have : b = a := by
        by_cases e : b = a
        · exact e
        · exfalso
          unfold Rising at h
          rw [List.pairwise_map] at h
          obtain ⟨i, hi, rfl⟩ := List.mem_iff_getElem.1 hb
          obtain ⟨j, hj, rfl⟩ := List.mem_iff_getElem.1 hm
          rcases Nat.lt_trichotomy i j with hlt | he | hlt
          · have := List.pairwise_iff_getElem.1 h i j hi hj hlt
            rw [hkb, hk, cmpID_lt] at this; omega
          · subst he; exact e rfl
          · have := List.pairwise_iff_getElem.1 h j i hj hi hlt
            rw [hkb, hk, cmpID_lt] at this; omega
      rw [this]
theorem find_key_none {α : Type} (key : α → ID) {l : List α} (x : ID) : l.find? (fun b => decide (key b = x)) = none ↔ ∀ a ∈ l, key a ≠ x := by
  rw [List.find?_eq_none]
  exact ⟨fun h a ha => by simpa using h a ha, fun h a ha => by simpa using h a ha⟩
theorem advOf_some {b : Broker} (h : Rising (b.adverts.map (·.id))) {x : ID} {a : Advert} : advOf b x = some a ↔ a ∈ b.adverts ∧ a.id = x := find_key (fun a : Advert => a.id) h x a
theorem advOf_none {b : Broker} {x : ID} : advOf b x = none ↔ ∀ a ∈ b.adverts, a.id ≠ x := find_key_none (fun a : Advert => a.id) x
theorem parentOf_eq (b : Broker) (x : ID) : parentOf b x = ((advOf b x).getD advZero).parent := rfl
theorem coveredB_iff {l : List Entry} {t : ID} {p : Pred} : coveredB l t p = true ↔ ∃ e ∈ l, e.tree = t ∧ e.up = true ∧ coversP e.pred p = true := by
  unfold coveredB ofT
  rw [List.any_eq_true]
  constructor
  · rintro ⟨e, he, h⟩
    have := List.mem_filter.1 he
    rw [Bool.and_eq_true] at h
    exact ⟨e, this.1, by simpa using this.2, h.1, h.2⟩
  · rintro ⟨e, he, h1, h2, h3⟩
    exact ⟨e, List.mem_filter.2 ⟨he, by simpa using h1⟩, by rw [h2, h3]; rfl⟩
theorem insE_mem {e x : Entry} {l : List Entry} : x ∈ insE e l ↔ x = e ∨ x ∈ l := by
  unfold insE
  rw [List.mem_append, List.mem_cons]
  constructor
  · rintro (h | h | h)
    · exact .inr (List.mem_of_mem_take h)
    · exact .inl h
    · exact .inr (List.mem_of_mem_drop h)
  · rintro (h | h)
    · exact .inr (.inl h)
    · rw [← List.take_append_drop (lowIdx (sgnE e.tree e.sub) l) l, List.mem_append] at h
      exact h.elim .inl fun h => .inr (.inr h)
theorem insE_len (e : Entry) (l : List Entry) : (insE e l).length = l.length + 1 := by
  unfold insE
  rw [List.length_append, List.length_cons, List.length_take, List.length_drop]
  have := lowIdx_le (sgnE e.tree e.sub) l
  omega
theorem sgnE_gt {t s : ID} {a : Entry} (h1 : ¬ sgnE t s a < 0) (h2 : ¬ (a.tree = t ∧ a.sub = s)) (e : Entry) (he : e.tree = t) (he2 : e.sub = s) : sgnE a.tree a.sub e < 0 := by
  rw [sgnE_lt, ltID_iff, ltID_iff] at *
  rw [he, he2]
  rw [ID.ext', ID.ext'] at h2
  rw [ID.ext'] at *
  omega
theorem insE_rising {e : Entry} {l : List Entry} (h : RisingE l) (hn : ∀ x ∈ l, isE e.tree e.sub x = false) : RisingE (insE e l) := by
  unfold RisingE insE
  rw [List.pairwise_append, List.pairwise_cons]
  generalize hk : lowIdx (sgnE e.tree e.sub) l = k
  have hlow : ∀ b ∈ l.take k, sgnE e.tree e.sub b < 0 := by
    intro b hb
    obtain ⟨i, hi, rfl⟩ := List.mem_iff_getElem.1 hb
    rw [List.getElem_take]
    rw [List.length_take] at hi
    have := List.not_of_lt_findIdx (p := fun x => !decide (sgnE e.tree e.sub x < 0)) (xs := l) (i := i) (by unfold lowIdx at hk; omega)
    simpa using this
  have hhigh : ∀ b ∈ l.drop k, sgnE b.tree b.sub e < 0 := by
    intro b hb
    obtain ⟨i, hi, rfl⟩ := List.mem_iff_getElem.1 hb
    rw [List.length_drop] at hi
    rw [List.getElem_drop]
    have hkl : k < l.length := by omega
    have h1 : ¬ sgnE e.tree e.sub l[k] < 0 := by
      have := List.findIdx_getElem (p := fun x => !decide (sgnE e.tree e.sub x < 0)) (xs := l) (w := by unfold lowIdx at hk; omega)
      have hk' : List.findIdx (fun x => !decide (sgnE e.tree e.sub x < 0)) l = k := hk
      simp only [hk'] at this
      simpa using this
    have h2 : ¬ sgnE e.tree e.sub l[k + i] < 0 := fun hc => h1 (monoE h _ _ k (k + i) hkl (by omega) (by omega) hc)
    refine sgnE_gt h2 ?_ e rfl rfl
    have := hn l[k + i] (List.getElem_mem _)
    simpa [isE] using this
  refine ⟨h.sublist (List.take_sublist ..), ⟨fun b hb => hhigh b hb, h.sublist (List.drop_sublist ..)⟩, ?_⟩
  intro x hx y hy
  rcases List.mem_cons.1 hy with rfl | hy
  · exact hlow x hx
  · exact sgnE_trans (hlow x hx) (by have := hhigh y hy; omega)
structure InvK (b : Broker) : Prop where
  near : risesB (fun x y => decide (x < y)) b.near = true
  loc : ∀ x ∈ b.near, 0 ≤ x
  ra : Rising (b.adverts.map (·.id))
  rs : Rising b.seen
  ro : Rising (b.owns.map (·.id))
  re : RisingE b.entries
  sub : ∀ a ∈ b.adverts, a.id ∈ b.seen
  par : ∀ a ∈ b.adverts, linkB b a.parent = true
  pa : ∀ a ∈ b.adverts, PredOk a.pred
  po : ∀ o ∈ b.owns, PredOk o.pred
  ent : ∀ e ∈ b.entries, rightEnt b e = true
  pe : ∀ e ∈ b.entries, PredOk e.pred
  tight : tightB b = true
structure SzK (b : Broker) (n : Nat) : Prop where
  near : b.near.length ≤ 1000
  adv : b.adverts.length ≤ n
  seen : b.seen.length ≤ n
  own : b.owns.length ≤ n
  ent : b.entries.length ≤ n * n
theorem SzK.sized {b : Broker} {n : Nat} (h : SzK b n) (hn : n ≤ 300) : Sized b := by
  have := Nat.mul_le_mul hn hn
  obtain ⟨h1, h2, h3, h4, h5⟩ := h
  exact ⟨by omega, by omega, by omega, by omega, by omega⟩
theorem SzK.mono {b : Broker} {n m : Nat} (h : SzK b n) (hn : n ≤ m) : SzK b m := by
  have := Nat.mul_le_mul hn hn
  obtain ⟨h1, h2, h3, h4, h5⟩ := h
  exact ⟨h1, by omega, by omega, by omega, by omega⟩
theorem InvK.asked {b : Broker} (h : InvK b) : AskedP b := ⟨fun e he => (h.pe e he).unlike, fun e he => Nat.le_trans (h.pe e he).len (by decide)⟩
theorem InvK.right {b : Broker} (h : InvK b) : rightB b = true := by
  unfold rightB rightRows
  rw [h.near, of_rising (key := fun a : Advert => a.id) h.ra, of_rising (key := fun a : OwnS => a.id) h.ro, of_risesE h.re, show risesB (fun x y => ltID x y) b.seen = true from of_rising (key := fun a : ID => a) (by simpa using h.rs)]
  have h1 : (b.adverts.any fun a => !rightAdv b a) = false := by
    rw [List.any_eq_false]
    intro a ha
    simp [rightAdv, h.sub a ha, h.par a ha, (h.pa a ha).right]
  have h2 : (b.entries.any fun e => !rightEnt b e) = false := by
    rw [List.any_eq_false]
    intro e he
    simp [h.ent e he]
  have h3 : (b.owns.any fun o => !rightP o.pred) = false := by
    rw [List.any_eq_false]
    intro o ho
    simp [(h.po o ho).right]
  rw [h1, h2, h3]
  rfl
theorem rightEnt_iff {b : Broker} {e : Entry} : rightEnt b e = true ↔ ∃ a, advOf b e.tree = some a ∧ linkB b e.frm = true ∧ (e.frm = a.parent → a.parent = -1) ∧ (e.up = true → a.parent ≠ -1) ∧ rightP e.pred = true := by
  unfold rightEnt advOf
  cases b.adverts.find? (fun a => a.id = e.tree) with
  | none => simp
  | some a =>
    simp only [Option.some.injEq, exists_eq_left', Bool.and_eq_true, Bool.or_eq_true, Bool.not_eq_true', Bool.and_eq_false_iff, decide_eq_true_eq, decide_eq_false_iff_not]
    constructor
    · rintro ⟨⟨⟨h1, h2⟩, h3⟩, h4⟩
      exact ⟨h1, fun q => h2.resolve_left (fun hn => hn q), fun q => h3.resolve_left (by rw [q]; decide), h4⟩
    · rintro ⟨h1, h2, h3, h4⟩
      refine ⟨⟨⟨h1, ?_⟩, ?_⟩, h4⟩
      · by_cases q : e.frm = a.parent
        · exact .inr (h2 q)
        · exact .inl q
      · cases q : e.up with
        | false => exact .inl rfl
        | true => exact .inr (h3 q)
theorem tightB_iff {b : Broker} : tightB b = true ↔ ∀ e ∈ b.entries, e.up = true ∨ parentOf b e.tree = -1 ∨ coveredB b.entries e.tree e.pred = true := by
  unfold tightB
  rw [List.all_eq_true]
  simp only [tightE, Bool.or_eq_true, decide_eq_true_eq, or_assoc]
theorem linkB_near {b b' : Broker} (h : b'.near = b.near) (n : Int) : linkB b' n = linkB b n := by unfold linkB; rw [h]
theorem rightEnt_same {b b' : Broker} {e : Entry} (h : b'.near = b.near) (ha : advOf b' e.tree = advOf b e.tree) : rightEnt b' e = rightEnt b e := by
  rw [Bool.eq_iff_iff, rightEnt_iff, rightEnt_iff, ha]
  simp only [linkB_near h]
theorem InvK.start {me : Int} {near : List Int} (hn : risesB (fun x y => decide (x < y)) near = true) (hl : ∀ x ∈ near, 0 ≤ x) : InvK ⟨me, near, [], [], [], []⟩ :=
  ⟨hn, hl, .nil, .nil, .nil, .nil, fun a h => (by cases h), fun a h => (by cases h), fun a h => (by cases h), fun a h => (by cases h), fun a h => (by cases h), fun a h => (by cases h), rfl⟩
theorem SzK.start {me : Int} {near : List Int} (hn : near.length ≤ 1000) : SzK ⟨me, near, [], [], [], []⟩ 0 := ⟨hn, Nat.le_refl _, Nat.le_refl _, Nat.le_refl _, Nat.le_refl _⟩
theorem advOf_learn {b : Broker} (h : InvK b) (a : Advert) (hn : a.id ∉ b.seen) (x : ID) : advOf (learnB b a).1 x = if a.id = x then some a else advOf b x := by
  have hnew : ∀ c ∈ b.adverts, c.id ≠ a.id := fun c hc e => hn (by rw [← e]; exact h.sub c hc)
  have hr : Rising ((learnB b a).1.adverts.map (·.id)) := by
    unfold learnB; rw [if_neg hn]
    exact ins_rising (fun a : Advert => a.id) a h.ra hnew
  have hm : ∀ c, c ∈ (learnB b a).1.adverts ↔ c = a ∨ c ∈ b.adverts := by
    intro c
    unfold learnB; rw [if_neg hn]
    exact ins_mem (fun a : Advert => a.id) a b.adverts c
  by_cases e : a.id = x
  · rw [if_pos e, advOf_some hr, hm]; exact ⟨.inl rfl, e⟩
  · rw [if_neg e]
    cases hq : advOf b x with
    | none =>
      rw [advOf_none] at hq ⊢
      intro c hc
      rcases (hm c).1 hc with rfl | hc
      · exact e
      · exact hq c hc
    | some c =>
      rw [advOf_some h.ra] at hq
      rw [advOf_some hr, hm]
      exact ⟨.inr hq.1, hq.2⟩
theorem InvK.learn {b : Broker} (h : InvK b) {a : Advert} (hp : linkB b a.parent = true) (hr : PredOk a.pred) : InvK (learnB b a).1 := by
  by_cases hn : a.id ∈ b.seen
  · unfold learnB; rw [if_pos hn]; exact h
  · have ho := advOf_learn h a hn
    have hE : (learnB b a).1.entries = b.entries := by unfold learnB; rw [if_neg hn]
    have hN : (learnB b a).1.near = b.near := by unfold learnB; rw [if_neg hn]
    have hO : (learnB b a).1.owns = b.owns := by unfold learnB; rw [if_neg hn]
    have hA : (learnB b a).1.adverts = insAt (fun a => a.id) a b.adverts := by unfold learnB; rw [if_neg hn]
    have hS : (learnB b a).1.seen = insAt (fun x => x) a.id b.seen := by unfold learnB; rw [if_neg hn]
    have hother : ∀ e ∈ b.entries, advOf (learnB b a).1 e.tree = advOf b e.tree := by
      intro e he
      rw [ho, if_neg]
      intro hc
      obtain ⟨c, hc1, _⟩ := rightEnt_iff.1 (h.ent e he)
      rw [advOf_some h.ra] at hc1
      exact hn (by rw [hc, ← hc1.2]; exact h.sub c hc1.1)
    refine ⟨by rw [hN]; exact h.near, by rw [hN]; exact h.loc, ?_, ?_, by rw [hO]; exact h.ro, by rw [hE]; exact h.re, ?_, ?_, ?_, by rw [hO]; exact h.po, ?_, by rw [hE]; exact h.pe, ?_⟩
    · rw [hA]; exact ins_rising (fun a : Advert => a.id) a h.ra fun c hc e => hn (by rw [← e]; exact h.sub c hc)
    · rw [hS]
      have := ins_rising (fun x : ID => x) a.id (l := b.seen) (by simpa using h.rs) (fun c hc e => hn (by rw [← e]; exact hc))
      simpa using this
    · intro c hc
      rw [hA, ins_mem] at hc
      rw [hS, ins_mem]
      rcases hc with rfl | hc
      · exact .inl rfl
      · exact .inr (h.sub c hc)
    · intro c hc
      rw [linkB_near hN]
      rw [hA, ins_mem] at hc
      rcases hc with rfl | hc
      · exact hp
      · exact h.par c hc
    · intro c hc
      rw [hA, ins_mem] at hc
      rcases hc with rfl | hc
      · exact hr
      · exact h.pa c hc
    · intro e he
      rw [hE] at he
      rw [rightEnt_same hN (hother e he)]; exact h.ent e he
    · rw [tightB_iff, hE]
      intro e he
      rw [parentOf_eq, hother e he, ← parentOf_eq]
      exact tightB_iff.1 h.tight e he
theorem SzK.learn {b : Broker} {n : Nat} (h : SzK b n) (a : Advert) : SzK (learnB b a).1 (n + 1) := by
  have h' := h.mono (Nat.le_succ n)
  unfold learnB
  split
  · exact h'
  · obtain ⟨h1, h2, h3, h4, h5⟩ := h'
    exact ⟨h1, by simp only [ins_len]; have := h.adv; omega, by simp only [ins_len]; have := h.seen; omega, h4, h5⟩
theorem mayAdd_iff {b : Broker} {e : Entry} : mayAdd b e = true ↔ ∃ a, advOf b e.tree = some a ∧ (∀ x ∈ b.entries, isE e.tree e.sub x = false) ∧ (e.frm = a.parent → a.parent = -1) := by
  unfold mayAdd advOf
  cases b.adverts.find? (fun a => a.id = e.tree) with
  | none => simp
  | some a =>
    simp only [Option.some.injEq, exists_eq_left', Bool.and_eq_true, Bool.not_eq_true', Bool.and_eq_false_iff, List.any_eq_false, Bool.not_eq_true, decide_eq_false_iff_not, Bool.not_eq_false', decide_eq_true_eq]
    refine and_congr Iff.rfl ⟨fun h q => h.resolve_left (fun hn => hn q), fun h => ?_⟩
    by_cases q : e.frm = a.parent
    · exact .inr (h q)
    · exact .inl q
theorem covered_mono {l l' : List Entry} {t : ID} {p : Pred} (h : ∀ e ∈ l, e ∈ l') (hc : coveredB l t p = true) : coveredB l' t p = true := by
  rw [coveredB_iff] at *
  obtain ⟨e, he, h2⟩ := hc
  exact ⟨e, h e he, h2⟩
theorem InvK.add {b : Broker} (h : InvK b) {e : Entry} (hl : linkB b e.frm = true) (hp : PredOk e.pred) : InvK (addB b e).1 := by
  by_cases hm : mayAdd b e = true
  · obtain ⟨a, ha, hno, hfp⟩ := mayAdd_iff.1 hm
    unfold addB
    rw [if_pos hm]
    have hpar : parentOf b e.tree = a.parent := by rw [parentOf_eq, ha]; rfl
    refine ⟨h.near, h.loc, h.ra, h.rs, h.ro, ?_, h.sub, h.par, h.pa, h.po, ?_, ?_, ?_⟩
    · exact insE_rising (e := { e with up := upOf b e }) h.re hno
    · intro x hx
      rw [insE_mem] at hx
      have hs : ∀ y, rightEnt { b with entries := insE { e with up := upOf b e } b.entries } y = rightEnt b y := fun y => rightEnt_same rfl rfl
      rw [hs]
      rcases hx with rfl | hx
      · rw [rightEnt_iff]
        refine ⟨a, ha, hl, hfp, ?_, hp.right⟩
        intro hu hpp
        simp only [upOf, hpar, hpp] at hu
        simp at hu
      · exact h.ent x hx
    · intro x hx
      rw [insE_mem] at hx
      rcases hx with rfl | hx
      · exact hp
      · exact h.pe x hx
    · rw [tightB_iff]
      intro x hx
      have hs : ∀ y, parentOf { b with entries := insE { e with up := upOf b e } b.entries } y = parentOf b y := fun y => rfl
      rw [hs]
      have hx' := hx
      rw [insE_mem] at hx
      rcases hx with rfl | hx
      · by_cases hpp : a.parent = -1
        · exact .inr (.inl (by rw [hpar, hpp]))
        · cases hcv : coveredB b.entries e.tree e.pred with
          | true => exact .inr (.inr (covered_mono (fun y hy => insE_mem.2 (.inr hy)) hcv))
          | false => left; simp [upOf, hpar, hpp, hcv]
      · rcases tightB_iff.1 h.tight x hx with h1 | h1 | h1
        · exact .inl h1
        · exact .inr (.inl h1)
        · exact .inr (.inr (covered_mono (fun y hy => insE_mem.2 (.inr hy)) h1))
  · unfold addB
    rw [if_neg hm]; exact h
inductive Raised (t : ID) : List Entry → List Entry → Prop where
  | nil : Raised t [] []
  | keep (e : Entry) {l l' : List Entry} (h : Raised t l l') : Raised t (e :: l) (e :: l')
  | up (e : Entry) {l l' : List Entry} (ht : e.tree = t) (hu : e.up = false) (h : Raised t l l') : Raised t (e :: l) ({ e with up := true } :: l')
theorem Raised.refl (t : ID) : ∀ l, Raised t l l
  | [] => .nil
  | e :: l => .keep e (Raised.refl t l)
theorem Raised.append {t : ID} {a a' b b' : List Entry} (h : Raised t a a') (k : Raised t b b') : Raised t (a ++ b) (a' ++ b') := by
  induction h with
  | nil => exact k
  | keep e _ ih => exact .keep e ih
  | up e ht hu _ ih => exact .up e ht hu ih
theorem Raised.len {t : ID} {a a' : List Entry} (h : Raised t a a') : a'.length = a.length := by
  induction h with
  | nil => rfl
  | keep e _ ih => simp [ih]
  | up e ht hu _ ih => simp [ih]
theorem Raised.mem {t : ID} {a a' : List Entry} (h : Raised t a a') {x : Entry} (hx : x ∈ a') : x ∈ a ∨ ∃ e ∈ a, e.tree = t ∧ e.up = false ∧ x = { e with up := true } := by
  induction h with
  | nil => cases hx
  | keep e _ ih =>
    rcases List.mem_cons.1 hx with rfl | hx
    · exact .inl (List.mem_cons_self ..)
    · rcases ih hx with h | ⟨y, hy, h⟩
      · exact .inl (List.mem_cons_of_mem _ h)
      · exact .inr ⟨y, List.mem_cons_of_mem _ hy, h⟩
  | up e ht hu _ ih =>
    rcases List.mem_cons.1 hx with rfl | hx
    · exact .inr ⟨e, List.mem_cons_self .., ht, hu, rfl⟩
    · rcases ih hx with h | ⟨y, hy, h⟩
      · exact .inl (List.mem_cons_of_mem _ h)
      · exact .inr ⟨y, List.mem_cons_of_mem _ hy, h⟩
theorem Raised.of_mem {t : ID} {a a' : List Entry} (h : Raised t a a') {x : Entry} (hx : x ∈ a) : x ∈ a' ∨ (x.tree = t ∧ x.up = false ∧ { x with up := true } ∈ a') := by
  induction h with
  | nil => cases hx
  | keep e _ ih =>
    rcases List.mem_cons.1 hx with rfl | hx
    · exact .inl (List.mem_cons_self ..)
    · rcases ih hx with h | ⟨h1, h2, h3⟩
      · exact .inl (List.mem_cons_of_mem _ h)
      · exact .inr ⟨h1, h2, List.mem_cons_of_mem _ h3⟩
  | up e ht hu _ ih =>
    rcases List.mem_cons.1 hx with rfl | hx
    · exact .inr ⟨ht, hu, List.mem_cons_self ..⟩
    · rcases ih hx with h | ⟨h1, h2, h3⟩
      · exact .inl (List.mem_cons_of_mem _ h)
      · exact .inr ⟨h1, h2, List.mem_cons_of_mem _ h3⟩
theorem Raised.rising {t : ID} {a a' : List Entry} (h : Raised t a a') (hr : RisingE a) : RisingE a' := by
  induction h with
  | nil => exact hr
  | keep e h ih =>
    unfold RisingE at *
    rw [List.pairwise_cons] at *
    refine ⟨fun x hx => ?_, ih hr.2⟩
    rcases h.mem hx with hx | ⟨y, hy, _, _, rfl⟩
    · exact hr.1 x hx
    · exact hr.1 y hy
  | up e ht hu h ih =>
    unfold RisingE at *
    rw [List.pairwise_cons] at *
    refine ⟨fun x hx => ?_, ih hr.2⟩
    have : ∀ t s, sgnE t s { e with up := true } = sgnE t s e := fun t s => rfl
    rw [this]
    rcases h.mem hx with hx | ⟨y, hy, _, _, rfl⟩
    · exact hr.1 x hx
    · exact hr.1 y hy
theorem Raised.covered {t : ID} {a a' : List Entry} (h : Raised t a a') {t' : ID} {p : Pred} (hc : coveredB a t' p = true) : coveredB a' t' p = true := by
  rw [coveredB_iff] at *
  obtain ⟨e, he, h1, h2, h3⟩ := hc
  rcases h.of_mem he with hx | ⟨_, hx, _⟩
  · exact ⟨e, hx, h1, h2, h3⟩
  · rw [h2] at hx; cases hx
theorem takeL_raised (t : ID) : ∀ (rest done ups : List Entry), ∃ r', (takeL t done rest ups).1 = done ++ r' ∧ Raised t rest r' ∧ (∀ x ∈ r', x.tree = t → x.up = true ∨ coveredB (done ++ r') t x.pred = true) ∧
    ∃ u', (takeL t done rest ups).2 = ups ++ u' ∧ ∀ x ∈ u', x ∈ r' ∧ x.tree = t ∧ x.up = true ∧ { x with up := false } ∈ rest ∧ coveredB (done ++ rest) t x.pred = false := by
  intro rest
  induction rest with
  | nil => intro done ups; exact ⟨[], by simp [takeL], .nil, (fun x hx => by cases hx), [], by simp [takeL], (fun x hx => by cases hx)⟩
  | cons e rest ih =>
    intro done ups
    unfold takeL
    by_cases hc : e.tree = t ∧ e.up = false ∧ coveredB (done ++ e :: rest) t e.pred = false
    · rw [if_pos hc]
      obtain ⟨r', h1, h2, h3, u', h4, h5⟩ := ih (done ++ [{ e with up := true }]) (ups ++ [{ e with up := true }])
      refine ⟨{ e with up := true } :: r', by rw [h1]; simp, .up e hc.1 hc.2.1 h2, ?_, { e with up := true } :: u', by rw [h4]; simp, ?_⟩
      · intro x hx ht
        rcases List.mem_cons.1 hx with rfl | hx
        · exact .inl rfl
        · have := h3 x hx ht
          simpa using this
      · intro x hx
        rcases List.mem_cons.1 hx with rfl | hx
        · have he : ({ { e with up := true } with up := false } : Entry) = e := by obtain ⟨a1, a2, a3, a4, a5⟩ := e; simp only at hc; rw [hc.2.1]
          exact ⟨List.mem_cons_self .., hc.1, rfl, by rw [he]; exact List.mem_cons_self .., hc.2.2⟩
        · obtain ⟨k1, k2, k3, k4, k5⟩ := h5 x hx
          refine ⟨List.mem_cons_of_mem _ k1, k2, k3, List.mem_cons_of_mem _ k4, ?_⟩
          have hR : Raised t (done ++ e :: rest) (done ++ [{ e with up := true }] ++ rest) := by
            rw [List.append_assoc]
            exact (Raised.refl t done).append (.up e hc.1 hc.2.1 (.refl t rest))
          cases hq : coveredB (done ++ e :: rest) t x.pred with
          | false => rfl
          | true => rw [hR.covered hq] at k5; cases k5
    · rw [if_neg hc]
      obtain ⟨r', h1, h2, h3, u', h4, h5⟩ := ih (done ++ [e]) ups
      refine ⟨e :: r', by rw [h1]; simp, .keep e h2, ?_, u', h4, ?_⟩
      · intro x hx ht
        rcases List.mem_cons.1 hx with rfl | hx
        · cases hu : x.up with
          | true => exact .inl rfl
          | false =>
            cases hq : coveredB (done ++ x :: rest) t x.pred with
            | true => exact .inr (((Raised.refl t done).append (.keep x h2)).covered hq)
            | false => exact absurd ⟨ht, hu, hq⟩ hc
        · have := h3 x hx ht
          simpa using this
      · intro x hx
        obtain ⟨k1, k2, k3, k4, k5⟩ := h5 x hx
        exact ⟨List.mem_cons_of_mem _ k1, k2, k3, List.mem_cons_of_mem _ k4, by simpa using k5⟩
theorem take_cases {b : Broker} (h : InvK b) (t s : ID) (q : Int) :
    ((takeB b t s q) = (b, [], false) ∧ ∀ e ∈ b.entries, isE t s e = true → e.frm ≠ q) ∨
    (∃ e ∈ b.entries, isE t s e = true ∧ e.frm = q ∧ e.up = false ∧ takeB b t s q = ({ b with entries := b.entries.filter fun x => !isE t s x }, [], false)) ∨
    (∃ e ∈ b.entries, isE t s e = true ∧ e.frm = q ∧ e.up = true ∧ ∃ r' u', takeB b t s q = ({ b with entries := r' }, u', true) ∧ Raised t (b.entries.filter fun x => !isE t s x) r' ∧
      (∀ x ∈ r', x.tree = t → x.up = true ∨ coveredB r' t x.pred = true) ∧ ∀ x ∈ u', x ∈ r' ∧ x.tree = t ∧ x.up = true ∧ { x with up := false } ∈ b.entries.filter (fun x => !isE t s x) ∧ coveredB (b.entries.filter fun x => !isE t s x) t x.pred = false) := by
  unfold takeB
  cases hf : b.entries.find? (isE t s) with
  | none =>
    left
    refine ⟨rfl, fun e he hi => ?_⟩
    have := List.find?_eq_none.1 hf e he
    exact absurd hi this
  | some e =>
    have he := List.mem_of_find?_eq_some hf
    have hi := List.find?_some hf
    by_cases hq : e.frm = q
    · simp only [if_pos hq]
      cases hu : e.up with
      | false =>
        right; left
        exact ⟨e, he, hi, hq, hu, by simp⟩
      | true =>
        right; right
        obtain ⟨r', h1, h2, h3, u', h4, h5⟩ := takeL_raised t (b.entries.filter fun x => !isE t s x) [] []
        refine ⟨e, he, hi, hq, hu, r', u', by simp [h1, h4], h2, by simpa using h3, by simpa using h5⟩
    · left
      refine ⟨by simp only [if_neg hq], fun x hx hix => ?_⟩
      have hkey : x = e := by
        by_cases hxe : x = e
        · exact hxe
        · exfalso
          have k1 : x.tree = t ∧ x.sub = s := by simpa [isE] using hix
          have k2 : e.tree = t ∧ e.sub = s := by simpa [isE] using hi
          obtain ⟨i, hi1, rfl⟩ := List.mem_iff_getElem.1 hx
          obtain ⟨j, hj1, rfl⟩ := List.mem_iff_getElem.1 he
          rcases Nat.lt_trichotomy i j with hlt | he | hlt
          · have := List.pairwise_iff_getElem.1 h.re i j hi1 hj1 hlt
            rw [k2.1, k2.2, sgnE_eq.2 k1] at this; omega
          · subst he; exact hxe rfl
          · have := List.pairwise_iff_getElem.1 h.re j i hj1 hi1 hlt
            rw [k1.1, k1.2, sgnE_eq.2 k2] at this; omega
      rw [hkey]; exact hq
theorem InvK.entries {b b' : Broker} (h : InvK b) (hb : b' = { b with entries := b'.entries }) (hre : RisingE b'.entries) (he : ∀ e ∈ b'.entries, ∃ d ∈ b.entries, e.tree = d.tree ∧ e.pred = d.pred ∧ e.frm = d.frm ∧ (e.up = true → parentOf b e.tree ≠ -1))
    (ht : ∀ e ∈ b'.entries, e.up = true ∨ parentOf b e.tree = -1 ∨ coveredB b'.entries e.tree e.pred = true) : InvK b' := by
  have hA : b'.adverts = b.adverts := by rw [hb]
  have hN : b'.near = b.near := by rw [hb]
  have hS : b'.seen = b.seen := by rw [hb]
  have hO : b'.owns = b.owns := by rw [hb]
  have ho : ∀ x, advOf b' x = advOf b x := fun x => by unfold advOf; rw [hA]
  refine ⟨by rw [hN]; exact h.near, by rw [hN]; exact h.loc, by rw [hA]; exact h.ra, by rw [hS]; exact h.rs, by rw [hO]; exact h.ro, hre, by rw [hA, hS]; exact h.sub, ?_, by rw [hA]; exact h.pa, by rw [hO]; exact h.po, ?_, ?_, ?_⟩
  · intro a ha; rw [linkB_near hN]; rw [hA] at ha; exact h.par a ha
  · intro e hm
    obtain ⟨d, hd, k1, k2, k3, k4⟩ := he e hm
    rw [rightEnt_same hN (ho _), rightEnt_iff]
    obtain ⟨a, a1, a2, a3, a4, a5⟩ := rightEnt_iff.1 (h.ent d hd)
    refine ⟨a, by rw [k1]; exact a1, by rw [k3]; exact a2, by rw [k3]; exact a3, fun hu => ?_, by rw [k2]; exact a5⟩
    have := k4 hu
    rw [parentOf_eq, k1, a1] at this
    exact this
  · intro e hm
    obtain ⟨d, hd, _, k2, _⟩ := he e hm
    rw [k2]; exact h.pe d hd
  · rw [tightB_iff]
    intro e hm
    have : parentOf b' e.tree = parentOf b e.tree := by rw [parentOf_eq, ho, ← parentOf_eq]
    rw [this]
    exact ht e hm
theorem InvK.up {b : Broker} (h : InvK b) {e : Entry} (he : e ∈ b.entries) (hu : e.up = true) : parentOf b e.tree ≠ -1 := by
  obtain ⟨a, a1, _, _, a4, _⟩ := rightEnt_iff.1 (h.ent e he)
  rw [parentOf_eq, a1]
  exact a4 hu
theorem InvK.take {b : Broker} (h : InvK b) (t s : ID) (q : Int) : InvK (takeB b t s q).1 := by
  have hsub : ∀ x ∈ b.entries.filter (fun x => !isE t s x), x ∈ b.entries := fun x hx => (List.mem_filter.1 hx).1
  have hrf : RisingE (b.entries.filter fun x => !isE t s x) := h.re.sublist (List.filter_sublist ..)
  rcases take_cases h t s q with ⟨hc, _⟩ | ⟨e, he, hi, _, hu, hc⟩ | ⟨e, he, hi, _, hu, r', u', hc, hR, htt, _⟩
  · rw [hc]; exact h
  · rw [hc]
    refine h.entries rfl hrf ?_ ?_
    · intro x hx
      exact ⟨x, hsub x hx, rfl, rfl, rfl, fun hux => h.up (hsub x hx) hux⟩
    · intro x hx
      rcases tightB_iff.1 h.tight x (hsub x hx) with h1 | h1 | h1
      · exact .inl h1
      · exact .inr (.inl h1)
      · refine .inr (.inr ?_)
        rw [coveredB_iff] at *
        obtain ⟨d, hd, k1, k2, k3⟩ := h1
        refine ⟨d, List.mem_filter.2 ⟨hd, ?_⟩, k1, k2, k3⟩
        cases hid : isE t s d with
        | false => rfl
        | true =>
          exfalso
          have q1 : d.tree = t ∧ d.sub = s := by simpa [isE] using hid
          have q2 : e.tree = t ∧ e.sub = s := by simpa [isE] using hi
          have : d = e := by
            by_cases hde : d = e
            · exact hde
            · exfalso
              obtain ⟨i, hi1, rfl⟩ := List.mem_iff_getElem.1 hd
              obtain ⟨j, hj1, rfl⟩ := List.mem_iff_getElem.1 he
              rcases Nat.lt_trichotomy i j with hlt | hee | hlt
              · have := List.pairwise_iff_getElem.1 h.re i j hi1 hj1 hlt
                rw [q2.1, q2.2, sgnE_eq.2 q1] at this; omega
              · subst hee; exact hde rfl
              · have := List.pairwise_iff_getElem.1 h.re j i hj1 hi1 hlt
                rw [q1.1, q1.2, sgnE_eq.2 q2] at this; omega
          rw [this, hu] at k2; cases k2
  · have hpt : parentOf b t ≠ -1 := by
      have := h.up he hu
      have q2 : e.tree = t ∧ e.sub = s := by simpa [isE] using hi
      rw [q2.1] at this; exact this
    rw [hc]
    refine h.entries rfl (hR.rising hrf) ?_ ?_
    · intro x hx
      rcases hR.mem hx with hx | ⟨y, hy, h1, h2, rfl⟩
      · exact ⟨x, hsub x hx, rfl, rfl, rfl, fun hux => h.up (hsub x hx) hux⟩
      · exact ⟨y, hsub y hy, rfl, rfl, rfl, fun _ => by rw [h1]; exact hpt⟩
    · intro x hx
      by_cases hxt : x.tree = t
      · rcases htt x hx hxt with k | k
        · exact .inl k
        · exact .inr (.inr (by rw [hxt]; exact k))
      · have hx' : x ∈ b.entries.filter fun x => !isE t s x := by
          rcases hR.mem hx with hx | ⟨y, hy, h1, h2, rfl⟩
          · exact hx
          · exact absurd h1 hxt
        rcases tightB_iff.1 h.tight x (hsub x hx') with h1 | h1 | h1
        · exact .inl h1
        · exact .inr (.inl h1)
        · refine .inr (.inr (hR.covered ?_))
          rw [coveredB_iff] at *
          obtain ⟨d, hd, k1, k2, k3⟩ := h1
          refine ⟨d, List.mem_filter.2 ⟨hd, ?_⟩, k1, k2, k3⟩
          have : ¬ (d.tree = t ∧ d.sub = s) := fun hh => hxt (by rw [← k1]; exact hh.1)
          simp [isE, this]
theorem take_len {b : Broker} (h : InvK b) (t s : ID) (q : Int) : (takeB b t s q).1.entries.length ≤ b.entries.length := by
  rcases take_cases h t s q with ⟨hc, _⟩ | ⟨e, _, _, _, _, hc⟩ | ⟨e, _, _, _, _, r', u', hc, hR, _⟩
  · rw [hc]; exact Nat.le_refl _
  · rw [hc]; exact List.length_filter_le ..
  · rw [hc]
    show r'.length ≤ _
    rw [hR.len]; exact List.length_filter_le ..
theorem take_rest (b : Broker) (t s : ID) (q : Int) : (takeB b t s q).1 = { b with entries := (takeB b t s q).1.entries } := by
  unfold takeB
  split
  · rfl
  · split
    · split <;> rfl
    · rfl
theorem add_rest (b : Broker) (e : Entry) : (addB b e).1 = { b with entries := (addB b e).1.entries } := by
  unfold addB
  split <;> rfl
theorem add_len (b : Broker) (e : Entry) : (addB b e).1.entries.length ≤ b.entries.length + 1 := by
  unfold addB
  split
  · simp only [insE_len]; exact Nat.le_refl _
  · exact Nat.le_succ _
theorem SzK.take {b : Broker} {n : Nat} (h : SzK b n) (hi : InvK b) (t s : ID) (q : Int) : SzK (takeB b t s q).1 n := by
  have h1 := take_len hi t s q
  rw [take_rest] at h1 ⊢
  obtain ⟨a1, a2, a3, a4, a5⟩ := h
  exact ⟨a1, a2, a3, a4, Nat.le_trans h1 a5⟩
theorem SzK.add {b : Broker} {n : Nat} (h : SzK b n) (e : Entry) : SzK (addB b e).1 (n + 1) := by
  have h1 := add_len b e
  rw [add_rest] at h1 ⊢
  obtain ⟨a1, a2, a3, a4, a5⟩ := h
  have : (n + 1) * (n + 1) = n * n + n + n + 1 := by rw [Nat.add_mul, Nat.mul_add]; omega
  exact ⟨a1, Nat.le_succ_of_le a2, Nat.le_succ_of_le a3, Nat.le_succ_of_le a4, by simp only at h1 ⊢; omega⟩
end Go.Dm.Tc

/-
Brokers as one datum: what the machine's steps do to it; what functions answer of a broker that calls made.
-/
namespace Go.Dm.Tc
theorem agg_bC (t : Tags) (b : Broker) : DV.agg (bCells t b) = eBroker t b := _root_.id rfl
theorem ecells_eB (sz : Nat) (t : Tags) (b : Broker) : ecells sz (eBroker t b) = bCells t b := _root_.id rfl
theorem bC_len (t : Tags) (b : Broker) : (bCells t b).length = 6 := _root_.id rfl
theorem bC_take (t : Tags) (b : Broker) : (bCells t b).take 6 = bCells t b := _root_.id rfl
theorem bC_0 (t : Tags) (b : Broker) : (bCells t b)[0]? = some (.int .i64 b.me) := _root_.id rfl
theorem bC_1 (t : Tags) (b : Broker) : (bCells t b)[1]? = some (eL t.near 1 cInt b.near) := _root_.id rfl
theorem bC_2 (t : Tags) (b : Broker) : (bCells t b)[2]? = some (eL t.adverts 4 eAdvert b.adverts) := _root_.id rfl
theorem bC_3 (t : Tags) (b : Broker) : (bCells t b)[3]? = some (eL t.seen 2 eID b.seen) := _root_.id rfl
theorem bC_4 (t : Tags) (b : Broker) : (bCells t b)[4]? = some (eL t.entries 7 eEntry b.entries) := _root_.id rfl
theorem bC_5 (t : Tags) (b : Broker) : (bCells t b)[5]? = some (eL t.owns 3 eOwn b.owns) := _root_.id rfl
theorem bCg_0 (t : Tags) (b : Broker) (h : 0 < (bCells t b).length) : (bCells t b)[0] = .int .i64 b.me := _root_.id rfl
theorem bCg_1 (t : Tags) (b : Broker) (h : 1 < (bCells t b).length) : (bCells t b)[1] = eL t.near 1 cInt b.near := _root_.id rfl
theorem bCg_2 (t : Tags) (b : Broker) (h : 2 < (bCells t b).length) : (bCells t b)[2] = eL t.adverts 4 eAdvert b.adverts := _root_.id rfl
theorem bCg_3 (t : Tags) (b : Broker) (h : 3 < (bCells t b).length) : (bCells t b)[3] = eL t.seen 2 eID b.seen := _root_.id rfl
theorem bCg_4 (t : Tags) (b : Broker) (h : 4 < (bCells t b).length) : (bCells t b)[4] = eL t.entries 7 eEntry b.entries := _root_.id rfl
theorem bCg_5 (t : Tags) (b : Broker) (h : 5 < (bCells t b).length) : (bCells t b)[5] = eL t.owns 3 eOwn b.owns := _root_.id rfl
theorem storable_eB (t : Tags) (b : Broker) : storable 6 (eBroker t b) = true := _root_.id rfl
theorem res_eB (tg : Bool) (h : Heap) (n : Nat) (t : Tags) (b : Broker) : resolve tg h (n + 2) (eBroker t b) = some (eBroker t b) := by
  simp [eBroker]
theorem ul_eB (n : Nat) (b : Broker) : unlent (n + 24) (eBroker .none b) = true := by
  simp [eBroker, Tags.none]
theorem frA_eB (h : Heap) (t : Tags) (b : Broker) : freezeA h (eBroker t b) = some (eBroker t b, h) := by
  simp [eBroker, frA_agg, mapH_cons, mapH_nil, fr_int, fr_eL, consH_some, consL_some, aggH_some]
theorem fieldV_eB (off : Nat) (n : Option Nat) (t : Tags) (b : Broker) : fieldV off n (eBroker t b) = pickCells n (bCells t b) off := _root_.id rfl
attribute [simp] agg_bC ecells_eB bC_len bC_take bC_0 bC_1 bC_2 bC_3 bC_4 bC_5 bCg_0 bCg_1 bCg_2 bCg_3 bCg_4 bCg_5 storable_eB res_eB ul_eB frA_eB fieldV_eB frA_int frA_eL frA_pred frA_str frA_agg mapH_nil mapH_cons fr_int fr_bool fr_nsl fr_eL fr_pred fr_isl consH_some consL_some aggH_some
section
variable {b : Broker} (t : Tags)
def entOf (b : Broker) (t s : ID) : Option Entry := b.entries.find? (isE t s)
theorem kEF (h : InvK b) (z : Sized b) (p q c d : Int) : pcF D t20 [eBroker t b, .agg [.int .i64 p, .int .i64 q], .agg [.int .i64 c, .int .i64 d]] = some (.tup [eEntry ((entOf b ⟨p, q⟩ ⟨c, d⟩).getD entZero), .bool (hasO (entOf b ⟨p, q⟩ ⟨c, d⟩))]) :=
  s20 _ _ _ _ _ _ _ p q c d h.re (by have := z.ent; omega) ((flat_int _ _).mono (by decide)) ((flat_eL _ _ _ _).mono (by decide)) ((flat_eL _ _ _ _).mono (by decide)) ((flat_eL _ _ _ _).mono (by decide)) ((flat_eL _ _ _ _).mono (by decide))
theorem kOf (z : Sized b) (c d : Int) : pcF D t22 [eBroker t b, .agg [.int .i64 c, .int .i64 d]] = some (eL false 7 eEntry (ofT ⟨c, d⟩ b.entries)) :=
  s22 _ _ _ _ _ _ _ c d (by have := z.ent; omega)
theorem kCv (h : InvK b) (z : Sized b) (c d : Int) {p : Pred} (hp : PredOk p) : pcF D t18 [eBroker t b, .agg [.int .i64 c, .int .i64 d], ePred p] = some (.bool (coveredB b.entries ⟨c, d⟩ p)) :=
  s18 _ _ _ _ _ _ _ c d p (by have := z.ent; omega) hp.unlike (Nat.le_trans hp.len (by decide)) h.asked.len ((flat_int _ _).mono (by decide)) ((flat_eL _ _ _ _).mono (by decide)) ((flat_eL _ _ _ _).mono (by decide)) ((flat_eL _ _ _ _).mono (by decide)) ((flat_eL _ _ _ _).mono (by decide))
theorem kLearn (h : InvK b) (z : Sized b) (c d : Int) (p : Pred) (q : Int) : pcF D t9 [eBroker t b, .agg [.int .i64 c, .int .i64 d, ePred p, .int .i64 q]] = some (.tup [eBroker .none (learnB b ⟨⟨c, d⟩, p, q⟩).1, .bool (learnB b ⟨⟨c, d⟩, p, q⟩).2]) := s9 t b c d p q z h.ra h.rs
theorem kAdd (h : InvK b) (z : Sized b) (tc td sc sd : Int) {p : Pred} (hp : PredOk p) (q : Int) (u : Bool) : pcF D t17 [eBroker .none b, .agg [.int .i64 tc, .int .i64 td, .int .i64 sc, .int .i64 sd, ePred p, .int .i64 q, .bool u]] = some (.tup [eBroker .none (addB b ⟨⟨tc, td⟩, ⟨sc, sd⟩, p, q, u⟩).1, .bool (addB b ⟨⟨tc, td⟩, ⟨sc, sd⟩, p, q, u⟩).2]) :=
  s17 b ⟨⟨tc, td⟩, ⟨sc, sd⟩, p, q, u⟩ z h.asked hp h.ra h.re
theorem kTake (h : InvK b) (z : Sized b) (tc td sc sd q : Int) : pcF D t19 [eBroker .none b, .agg [.int .i64 tc, .int .i64 td], .agg [.int .i64 sc, .int .i64 sd], .int .i64 q] = some (.tup [eBroker .none (takeB b ⟨tc, td⟩ ⟨sc, sd⟩ q).1, eL false 7 eEntry (takeB b ⟨tc, td⟩ ⟨sc, sd⟩ q).2.1, .bool (takeB b ⟨tc, td⟩ ⟨sc, sd⟩ q).2.2]) :=
  s19 b tc td sc sd q z h.pe h.re
theorem kTight (h : InvK b) (z : Sized b) : pcF D t21 [eBroker t b] = some (.bool true) := by rw [← h.tight]; exact s21 t b z h.asked h.ra
end
end Go.Dm.Tc

/-
What the laws' arguments are: numbers of which predicates, steps, brokers are made.
-/
namespace Go.Dm.Tc
structure PK where
  has : List Int
  vals : List Int
def ePK (p : PK) : DV := .agg [eL false 1 cInt p.has, eL false 1 cInt p.vals]
def PK.pred (p : PK) : Pred := mkPred p.has p.vals
structure StepK where
  kind : Int
  frm : Int
  tree : Int
  client : Int
  seq : Int
  has : List Int
  vals : List Int
structure BrokK where
  near : Int
  steps : List StepK
end Go.Dm.Tc

/-
More plain laws of brokers: one entry for a tree and a number; what covers itself; what comes of an entry taken out, of one added.
-/
namespace Go.Dm.Tc
theorem ent_unique {l : List Entry} (h : RisingE l) {d e : Entry} (hd : d ∈ l) (he : e ∈ l) (ht : d.tree = e.tree) (hs : d.sub = e.sub) : d = e := by
  by_cases hde : d = e
  · exact hde
  · exfalso
    obtain ⟨i, hi, rfl⟩ := List.mem_iff_getElem.1 hd
    obtain ⟨j, hj, rfl⟩ := List.mem_iff_getElem.1 he
    rcases Nat.lt_trichotomy i j with hlt | hee | hlt
    · have := List.pairwise_iff_getElem.1 h i j hi hj hlt
      rw [sgnE_eq.2 ⟨ht, hs⟩] at this; omega
    · subst hee; exact hde rfl
    · have := List.pairwise_iff_getElem.1 h j i hj hi hlt
      rw [sgnE_eq.2 ⟨ht.symm, hs.symm⟩] at this; omega
theorem isE_iff {t s : ID} {e : Entry} : isE t s e = true ↔ e.tree = t ∧ e.sub = s := by simp [isE]
theorem isE_not {t s : ID} {e : Entry} : isE t s e = false ↔ ¬ (e.tree = t ∧ e.sub = s) := by simp [isE]
theorem entOf_some {b : Broker} (h : RisingE b.entries) {t s : ID} {e : Entry} : entOf b t s = some e ↔ e ∈ b.entries ∧ e.tree = t ∧ e.sub = s := by
  constructor
  · intro hf
    exact ⟨List.mem_of_find?_eq_some hf, isE_iff.1 (List.find?_some hf)⟩
  · rintro ⟨hm, ht, hs⟩
    cases hf : entOf b t s with
    | none => exact absurd (isE_iff.2 ⟨ht, hs⟩) (by have := List.find?_eq_none.1 hf e hm; simpa using this)
    | some d =>
      have hd := List.mem_of_find?_eq_some hf
      have hd2 := isE_iff.1 (List.find?_some hf)
      rw [ent_unique h hd hm (hd2.1.trans ht.symm) (hd2.2.trans hs.symm)]
theorem entOf_none {b : Broker} {t s : ID} : entOf b t s = none ↔ ∀ e ∈ b.entries, ¬ (e.tree = t ∧ e.sub = s) := by
  unfold entOf
  rw [List.find?_eq_none]
  exact ⟨fun h e he => isE_not.1 (by simpa using h e he), fun h e he => by rw [isE_not.2 (h e he)]; simp⟩
theorem countE {l : List Entry} (h : RisingE l) (t s : ID) : l.countP (isE t s) = if hasO (l.find? (isE t s)) = true then 1 else 0 := by
  induction l with
  | nil => rfl
  | cons e l ih =>
    have h' := List.pairwise_cons.1 h
    rw [List.countP_cons, List.find?_cons]
    cases he : isE t s e with
    | true =>
      have : l.countP (isE t s) = 0 := by
        rw [List.countP_eq_zero]
        intro x hx hix
        have k1 := isE_iff.1 he
        have k2 := isE_iff.1 hix
        have := h'.1 x hx
        rw [k2.1, k2.2, sgnE_eq.2 k1] at this; omega
      rw [this]; rfl
    | false =>
      rw [ih h'.2]; simp
theorem filter_one {b : Broker} (h : RisingE b.entries) {t s : ID} {e : Entry} (he : entOf b t s = some e) : (b.entries.filter fun x => !isE t s x).length + 1 = b.entries.length := by
  have h1 := countE h t s
  rw [show b.entries.find? (isE t s) = some e from he] at h1
  have h2 := List.length_eq_countP_add_countP (isE t s) (l := b.entries)
  rw [h1] at h2
  rw [← List.countP_eq_length_filter]
  have h3 : (b.entries.countP fun x => !isE t s x) = b.entries.countP (fun a => decide ¬ isE t s a = true) := by
    congr 1; funext x; cases isE t s x <;> rfl
  rw [h3, h2]; simp [hasO]; omega
theorem begins_self (s : List UInt8) : beginsS s s = true := by simp [beginsS]
theorem wider_self {c : Cons} (h : rightOne c = true) : widerC c c = true := by
  have hk : c.kind = 1 ∨ c.kind = 2 ∨ c.kind = 3 := by
    unfold rightOne at h
    rw [Bool.and_eq_true] at h
    have := h.2
    split at this
    · rename_i h; exact .inl h
    · split at this
      · rename_i h; exact .inr (.inr h)
      · split at this
        · rename_i h; exact .inr (.inl h)
        · cases this
  unfold widerC holdsT
  rcases hk with h | h | h <;> simp [h, begins_self]
theorem find_self {p : Pred} (h : Unlike p) {c : Cons} (hc : c ∈ p) : p.find? (fun x => decide (x.name = c.name)) = some c := by
  induction p with
  | nil => cases hc
  | cons d p ih =>
    have h' := List.pairwise_cons.1 h
    rw [List.find?_cons]
    rcases List.mem_cons.1 hc with rfl | hc
    · simp
    · have : d.name ≠ c.name := h'.1 c hc
      simp only [this, decide_false]
      exact ih h'.2 hc
theorem covers_self {p : Pred} (h : PredOk p) : coversP p p = true := by
  unfold coversP
  rw [List.all_eq_true]
  intro c hc
  rw [find_self h.unlike hc]
  exact wider_self (h.each c hc)
theorem add_yes {b : Broker} {e : Entry} {a : Advert} (ha : advOf b e.tree = some a) (hn : entOf b e.tree e.sub = none) (hf : e.frm = a.parent → a.parent = -1) : addB b e = ({ b with entries := insE { e with up := upOf b e } b.entries }, upOf b e) := by
  unfold addB
  rw [if_pos (mayAdd_iff.2 ⟨a, ha, fun x hx => isE_not.2 (entOf_none.1 hn x hx), hf⟩)]
theorem add_covers {b : Broker} {e : Entry} {a : Advert} (ha : advOf b e.tree = some a) (hn : entOf b e.tree e.sub = none) (hf : e.frm = a.parent → a.parent = -1) (hp : PredOk e.pred) (hl : a.parent ≠ -1) : coveredB (addB b e).1.entries e.tree e.pred = true := by
  rw [add_yes ha hn hf]
  have hpar : parentOf b e.tree = a.parent := by rw [parentOf_eq, ha]; rfl
  cases hc : coveredB b.entries e.tree e.pred with
  | true => exact covered_mono (fun x hx => insE_mem.2 (.inr hx)) hc
  | false =>
    rw [coveredB_iff]
    exact ⟨_, insE_mem.2 (.inl rfl), rfl, by simp [upOf, hpar, hl, hc], covers_self hp⟩
theorem take_own {b : Broker} (h : InvK b) {t s : ID} {e : Entry} (he : entOf b t s = some e) : (takeB b t s e.frm).2.2 = e.up ∧ (e.up = false → (takeB b t s e.frm).2.1 = []) ∧ (takeB b t s e.frm).1.entries.length + 1 = b.entries.length ∧
    (∃ r', (takeB b t s e.frm).1.entries = r' ∧ Raised t (b.entries.filter fun x => !isE t s x) r') ∧
    (∀ x ∈ (takeB b t s e.frm).2.1, entOf (takeB b t s e.frm).1 t x.sub = some x ∧ x.up = true ∧ coversP e.pred x.pred = true ∧ x.tree = t ∧ ∃ d ∈ b.entries, isE t s d = false ∧ d.tree = x.tree ∧ d.sub = x.sub ∧ d.pred = x.pred) := by
  have hm := (entOf_some h.re).1 he
  have hl := filter_one h.re he
  rcases take_cases h t s e.frm with ⟨_, hno⟩ | ⟨e', he', hi, _, hu, hc⟩ | ⟨e', he', hi, _, hu, r', u', hc, hR, htt, hup⟩
  · exact absurd rfl (hno e hm.1 (isE_iff.2 hm.2))
  · have hi' := isE_iff.1 hi
    have : e' = e := ent_unique h.re he' hm.1 (hi'.1.trans hm.2.1.symm) (hi'.2.trans hm.2.2.symm)
    subst this
    rw [hc]
    exact ⟨hu.symm, fun _ => rfl, hl, ⟨_, rfl, .refl ..⟩, fun x hx => by cases hx⟩
  · have hi' := isE_iff.1 hi
    have : e' = e := ent_unique h.re he' hm.1 (hi'.1.trans hm.2.1.symm) (hi'.2.trans hm.2.2.symm)
    subst this
    have hinv := h.take t s e'.frm
    rw [hc] at hinv ⊢
    refine ⟨hu.symm, fun q => (by rw [hu] at q; cases q), by rw [← hl, ← hR.len], ⟨_, rfl, hR⟩, fun x hx => ?_⟩
    obtain ⟨k1, k2, k3, k4, k5⟩ := hup x hx
    have k6 := List.mem_filter.1 k4
    refine ⟨(entOf_some hinv.re).2 ⟨k1, k2, rfl⟩, k3, ?_, k2, _, k6.1, by simpa using k6.2, rfl, rfl, rfl⟩
    have hpt : parentOf b t ≠ -1 := by
      have := h.up he' hu
      rw [hi'.1] at this; exact this
    rcases tightB_iff.1 h.tight _ k6.1 with q | q | q
    · cases q
    · exact absurd (by rw [← k2]; exact q) hpt
    · simp only at q
      rw [k2, coveredB_iff] at q
      obtain ⟨d, hd, q1, q2, q3⟩ := q
      cases hid : isE t s d with
      | true =>
        have hd' := isE_iff.1 hid
        have : d = e' := ent_unique h.re hd he' (hd'.1.trans hi'.1.symm) (hd'.2.trans hi'.2.symm)
        rw [← this]; exact q3
      | false =>
        exfalso
        have : coveredB (b.entries.filter fun x => !isE t s x) t x.pred = true := coveredB_iff.2 ⟨d, List.mem_filter.2 ⟨hd, by rw [hid]; rfl⟩, q1, q2, q3⟩
        rw [this] at k5; cases k5
theorem takeL_len (t : ID) : ∀ (rest done ups : List Entry), (takeL t done rest ups).2.length ≤ ups.length + rest.length := by
  intro rest
  induction rest with
  | nil => intro done ups; simp [takeL]
  | cons e rest ih =>
    intro done ups
    unfold takeL
    split
    · have := ih (done ++ [{ e with up := true }]) (ups ++ [{ e with up := true }]); simp at this ⊢; omega
    · have := ih (done ++ [e]) ups; simp at this ⊢; omega
theorem take_ups_le (b : Broker) (t s : ID) (q : Int) : (takeB b t s q).2.1.length ≤ b.entries.length := by
  unfold takeB
  split
  · simp
  · split
    · split
      · refine Nat.le_trans (takeL_len _ _ _ _) ?_
        simp only [List.length_nil, Nat.zero_add]
        exact List.length_filter_le ..
      · simp
    · simp
end Go.Dm.Tc

/-
SubsCovers: whatever is added, each predicate is covered; taken out one by one none is left; the law's walk.
-/
namespace Go.Dm.Tc
theorem s24 : pcF D t24 [] = some (.bool true) := pc_run (n := 2000) (args := []) e24 rfl (by kernel_rfl)
theorem s7_401 : pcF D t7 [.int .i64 4, .isl true 1 [.int .i64 0, .int .i64 1]] = some (eBroker .none ⟨4, [0, 1], [], [], [], []⟩) := pc_run (n := 2000) (args := [.int .i64 4, .isl true 1 [.int .i64 0, .int .i64 1]]) e7 rfl (by kernel_rfl)
def tOne : ID := ⟨1, 1⟩
structure CovI (b : Broker) (ids : List ID) (n : Nat) : Prop where
  inv : InvK b
  sz : SzK b n
  adv : advOf b tOne = some ⟨tOne, [], 0⟩
  own : ∀ e ∈ b.entries, e.tree = tOne ∧ e.frm = 1
  len : b.entries.length = ids.length
  sub : ∀ s ∈ ids, ∃ e ∈ b.entries, e.sub = s
  nd : ids.Nodup
  near : b.near = [0, 1]
def bCov : Broker := ⟨4, [0, 1], [⟨tOne, [], 0⟩], [tOne], [], []⟩
theorem learn_cov : learnB ⟨4, [0, 1], [], [], [], []⟩ ⟨tOne, [], 0⟩ = (bCov, true) := rfl
theorem inv_cov0 : InvK ⟨4, [0, 1], [], [], [], []⟩ := .start rfl (by decide)
theorem CovI.start : CovI bCov [] 1 := by
  have h := inv_cov0.learn (a := ⟨tOne, [], 0⟩) (by decide) .nil
  rw [learn_cov] at h
  exact ⟨h, ⟨by decide, by decide, by decide, by decide, by decide⟩, rfl, fun e he => (by cases he), rfl, fun s hs => (by cases hs), List.nodup_nil, rfl⟩
theorem CovI.add {b : Broker} {ids : List ID} {n : Nat} (h : CovI b ids n) {s : ID} {p : Pred} (hp : PredOk p) (hn : ∀ e ∈ b.entries, e.sub ≠ s) (hs : s ∉ ids) :
    CovI (addB b ⟨tOne, s, p, 1, false⟩).1 (ids ++ [s]) (n + 1) ∧ (addB b ⟨tOne, s, p, 1, false⟩).2 = !coveredB b.entries tOne p ∧ coveredB (addB b ⟨tOne, s, p, 1, false⟩).1.entries tOne p = true := by
  have hno : entOf b tOne s = none := entOf_none.2 fun e he hh => hn e he hh.2
  have hlink : linkB b 1 = true := by unfold linkB; rw [h.near]; rfl
  have hy := add_yes (e := ⟨tOne, s, p, 1, false⟩) h.adv hno (fun q => absurd q (by decide : ¬ (1 : Int) = 0))
  have hc := add_covers (e := ⟨tOne, s, p, 1, false⟩) h.adv hno (fun q => absurd q (by decide : ¬ (1 : Int) = 0)) hp (by decide)
  have hi := h.inv.add (e := ⟨tOne, s, p, 1, false⟩) hlink hp
  have hz := h.sz.add ⟨tOne, s, p, 1, false⟩
  refine ⟨⟨hi, hz, ?_, ?_, ?_, ?_, ?_, ?_⟩, ?_, hc⟩
  · rw [hy]; exact h.adv
  · intro e he
    rw [hy] at he
    rcases insE_mem.1 he with rfl | he
    · exact ⟨rfl, rfl⟩
    · exact h.own e he
  · rw [hy]; simp only [insE_len, h.len, List.length_append, List.length_singleton]
  · intro x hx
    rw [hy]
    rcases List.mem_append.1 hx with hx | hx
    · obtain ⟨e, he, h2⟩ := h.sub x hx
      exact ⟨e, insE_mem.2 (.inr he), h2⟩
    · simp only [List.mem_singleton] at hx
      exact ⟨_, insE_mem.2 (.inl rfl), hx.symm⟩
  · rw [List.nodup_append]
    refine ⟨h.nd, by simp, fun a ha c hc => ?_⟩
    simp only [List.mem_singleton] at hc
    subst hc
    exact fun e => hs (by rw [← e]; exact ha)
  · rw [hy]; exact h.near
  · rw [hy]
    have : parentOf b tOne = 0 := by rw [parentOf_eq, h.adv]; rfl
    simp [upOf, this]
theorem CovI.ent {b : Broker} {ids : List ID} {n : Nat} (h : CovI b ids n) {s : ID} (hs : s ∈ ids) : ∃ e, entOf b tOne s = some e ∧ e.frm = 1 ∧ e.sub = s := by
  obtain ⟨e, he, h2⟩ := h.sub s hs
  exact ⟨e, (entOf_some h.inv.re).2 ⟨he, (h.own e he).1, h2⟩, (h.own e he).2, h2⟩
theorem CovI.take {b : Broker} {ids : List ID} {n : Nat} (h : CovI b ids n) {k : Nat} (hk : k < ids.length) : CovI (takeB b tOne ids[k] 1).1 (ids.take k ++ ids.drop (k + 1)) n := by
  obtain ⟨e, h1, h2, h3⟩ := h.ent (List.getElem_mem hk)
  obtain ⟨_, _, hlen, ⟨r', hr, hR⟩, _⟩ := take_own h.inv h1
  rw [h2] at hlen hr
  have hrest := take_rest b tOne ids[k] 1
  have hnd := h.nd
  have hsplit : ids = ids.take k ++ ids[k] :: ids.drop (k + 1) := by rw [← List.drop_eq_getElem_cons hk, List.take_append_drop]
  have hids : ∀ x, x ∈ ids.take k ++ ids.drop (k + 1) → x ∈ ids ∧ x ≠ ids[k] := by
    intro x hx
    rw [hsplit, List.nodup_append, List.nodup_cons] at hnd
    rcases List.mem_append.1 hx with hx | hx
    · exact ⟨List.mem_of_mem_take hx, hnd.2.2 x hx _ (List.mem_cons_self ..)⟩
    · exact ⟨List.mem_of_mem_drop hx, fun e => hnd.2.1.1 (by rw [← e]; exact hx)⟩
  refine ⟨h.inv.take .., h.sz.take h.inv .., ?_, ?_, ?_, ?_, ?_, ?_⟩
  · rw [hrest]; exact h.adv
  · intro x hx
    rw [hr] at hx
    rcases hR.mem hx with hx | ⟨y, hy, _, _, rfl⟩
    · exact h.own x (List.mem_filter.1 hx).1
    · exact h.own y (List.mem_filter.1 hy).1
  · rw [List.length_append, List.length_take, List.length_drop]
    have := h.len
    omega
  · intro x hx
    obtain ⟨hx1, hx2⟩ := hids x hx
    obtain ⟨d, hd, hd2⟩ := h.sub x hx1
    have hdf : d ∈ b.entries.filter fun x => !isE tOne ids[k] x := List.mem_filter.2 ⟨hd, by rw [isE_not.2 (fun q => hx2 (by rw [← hd2]; exact q.2))]; rfl⟩
    rw [hr]
    rcases hR.of_mem hdf with q | ⟨_, _, q⟩
    · exact ⟨d, q, hd2⟩
    · exact ⟨_, q, hd2⟩
  · rw [hsplit, List.nodup_append, List.nodup_cons] at hnd
    rw [List.nodup_append]
    exact ⟨hnd.1, hnd.2.1.2, fun a ha c hc => hnd.2.2 a ha c (List.mem_cons_of_mem _ hc)⟩
  · rw [hrest]; exact h.near
theorem ownR_lim {lo : Nat} {h : Heap} {v : DV} {ety sz : Nat} {xs : List DV} (w : OwnR lo h v ety sz xs) {l : Nat} (hl : l ≤ lo) : OwnR lo (Dm.wl h l) v ety sz xs := by
  cases w with
  | nil hv hx => exact .nil hv hx
  | arr id sp cap hv hg hlim hlo => exact .arr id sp cap hv hg (Nat.le_trans hl hlo) hlo
structure CovH (h : Heap) (v : DV) (b : Broker) (ids : List ID) : Prop where
  g0 : h.get 0 = some (.arr 35 2 [.agg [.int .i64 1, .int .i64 1]] (some 1))
  g2 : h.get 2 = some (.arr 30 6 [eBroker .none b] (some 1))
  row : OwnR 3 h v 35 2 (ids.map eID)
  lim : h.lim = 0
  n : 3 ≤ h.n
  wf : WF h
set_option maxRecDepth 16000 in
set_option maxHeartbeats 8000000 in
theorem y4 (S : List Fr) (l : List PK) (i : Nat) (q : PK) (b : Broker) (ids : List ID) (f : FEnv) (h : Heap) (hhas : q.has.length ≤ 9223372036854775807) (hlt : i < l.length) (he : l[i] = q) (hi10 : i < 10)
    (hv : CovI b ids (i + 1)) (hid : ids.length = i) (hnew : ∀ e ∈ b.entries, e.sub.seq < i) (hnew2 : ∀ s ∈ ids, s.seq < i) (hh : CovH h (f 8) b ids) (h0 : f 0 = eL false 2 ePK l) (h5 : f 5 = .ptr 0 2 0 0) (h6 : f 6 = .ptr 2 6 0 0) (h9 : f 9 = .int .i64 i)
    (P : Res → Prop) (hfin : ∀ b' ids' F H, CovI b' ids' (i + 1 + 1) → ids'.length = i + 1 → (∀ e ∈ b'.entries, e.sub.seq < (i : Int) + 1) → (∀ s ∈ ids', s.seq < (i : Int) + 1) → CovH H (F 8) b' ids' → F 0 = eL false 2 ePK l → F 1 = f 1 → F 5 = .ptr 0 2 0 0 → F 6 = .ptr 2 6 0 0 → F 9 = .int .i64 ((i : Int) + 1) →
      P (run D 206 (.block 0 :: S) (.loop t4l0) F H)) :
    P (run D 206 (.block 0 :: S) (.loop t4l0) f h) := by
  obtain ⟨g0, g2, hrow, hlim, hn, wf⟩ := hh
  obtain ⟨m, hm⟩ : ∃ m, h.n = m + 3 := ⟨h.n - 3, by omega⟩
  have hw : IntKind.i64.wrap ((i : Int) + 1) = (i : Int) + 1 := wrap64 (by omega) (by omega)
  have hi10' : (i : Int) < 10 := by omega
  obtain ⟨c, hc⟩ : ∃ c : Int, arithD .rem (.int .i64 (i : Int)) (.int .i64 3) = some (.int .i64 c) := ⟨(i : Int).tmod 3, rfl⟩
  have hpr := s10 false false q.has q.vals hhas
  have hpo := mkPred_ok q.has q.vals
  obtain ⟨p, hp⟩ : ∃ p, mkPred q.has q.vals = p := ⟨_, rfl⟩
  rw [hp] at hpr hpo
  have z := hv.sz.sized (show i + 1 ≤ 300 by omega)
  obtain ⟨k1, k2, k3⟩ := hv.add (s := ⟨c, i⟩) hpo (fun e he hs => by have := hnew e he; rw [hs] at this; simp at this) (fun hs => by have := hnew2 _ hs; simp at this)
  have hA := kAdd hv.inv z 1 1 c i hpo 1 false
  have hC := kCv .none hv.inv z 1 1 hpo
  obtain ⟨b', hb'⟩ : ∃ b', (addB b ⟨tOne, ⟨c, i⟩, p, 1, false⟩).1 = b' := ⟨_, rfl⟩
  obtain ⟨u, hu⟩ : ∃ u, (addB b ⟨tOne, ⟨c, i⟩, p, 1, false⟩).2 = u := ⟨_, rfl⟩
  obtain ⟨w, hw1⟩ : ∃ w, coveredB b.entries tOne p = w := ⟨_, rfl⟩
  have hsub : ∀ e ∈ b'.entries, e.sub.seq < (i : Int) + 1 := by
    intro e he
    rw [← hb', add_yes (e := ⟨tOne, ⟨c, i⟩, p, 1, false⟩) hv.adv (entOf_none.2 fun e he hh => by have := hnew e he; rw [hh.2] at this; simp at this) (fun q => absurd q (by decide : ¬ (1 : Int) = 0))] at he
    rcases insE_mem.1 he with rfl | he
    · show (i : Int) < i + 1; omega
    · have := hnew e he; omega
  have hsub2 : ∀ s ∈ ids ++ [⟨c, i⟩], s.seq < (i : Int) + 1 := by
    intro s hs
    rcases List.mem_append.1 hs with hs | hs
    · have := hnew2 s hs; omega
    · simp only [List.mem_singleton] at hs; subst hs; show (i : Int) < i + 1; omega
  have hA' : pcF D t17 [eBroker .none b, .agg [.int .i64 1, .int .i64 1, .int .i64 c, .int .i64 i, ePred p, .int .i64 1, .bool false]] = some (.tup [eBroker .none b', .bool u]) := by rw [← hb', ← hu]; exact hA
  have hC' : pcF D t18 [eBroker .none b, .agg [.int .i64 1, .int .i64 1], ePred p] = some (.bool w) := by rw [← hw1]; exact hC
  rw [hb'] at k1 k3
  rw [hu, hw1] at k2
  have hC2 := kCv .none k1.inv (k1.sz.sized (show i + 1 + 1 ≤ 300 by omega)) 1 1 hpo
  have hC2' : pcF D t18 [eBroker .none b', .agg [.int .i64 1, .int .i64 1], ePred p] = some (.bool true) := by rw [← k3]; exact hC2
  clear hA hC hC2
  subst k2
  rw [run_loop_of t4l0.eq_1]
  have hni : ∀ id, id < m + 3 → (¬ m + 3 = id ∧ ¬ m + 3 + 1 = id ∧ ¬ id = m + 3 ∧ ¬ id = m + 3 + 1 ∧ ¬ id = m + 3 + 1 + 1) := fun id hid => by omega
  cases hrow with
  | nil hv8 hx =>
    have hids : ids = [] := by cases ids with | nil => rfl | cons a r => simp at hx
    subst hids
    have nn : ∀ k, NotAt .nsl k := fun k a b c e => by cases e
    cases w <;> simp [h0, h5, h6, h9, hlt, he, hi10', ePK, hlim, hm, wf, hc, e10, hpr, g0, g2, e17, hA', e18, hC', hC2', turn, hv8]
    all_goals
      generalize hA : appendD _ _ _ _ _ _ = A
      obtain ⟨v', K, rfl, o', x', fr, na⟩ := append_frame (lo := 3) (xs := []) (.nil rfl rfl) (by simp [wf]) (by simp [hm]) (by simp [hm]) hA (by simp) (by decide)
      clear hA
      have y0 := fr 0 (by simp [hm]) (nn 0)
      have y2 := fr 2 (by simp [hm]) (nn 2)
      have ny := na 2 (by simp [hm]) (nn 2)
      have yl := x'.lim
      have yw := x'.wf
      have yn := x'.le
      have hK2 : 2 < K.n := by omega
      simp [hlim, hm, wf, g0, g2] at y0 y2 yl
      simp [hlim, hm, yl, yw, y2, hK2, turn, h9, h0, h5, h6, t4s0, hw]
      have hrow' : OwnR 3 (K.set 2 (.arr 30 6 [eBroker .none b'] (some 1))) v' 35 2 (([] ++ [(⟨c, i⟩ : ID)]).map eID) := by
        have := own_set o' yw hK2 ny (o := .arr 30 6 [eBroker .none b'] (some 1))
        simpa [eID] using this
      generalize hF : upd _ 9 _ = F
      refine hfin b' ([] ++ [⟨c, i⟩]) F _ k1 (by simpa using hid.symm) hsub hsub2 ⟨?_, ?_, ?_, ?_, ?_, ?_⟩ ?_ ?_ ?_ ?_ ?_
      case refine_3 => rw [← hF]; exact ownR_lim hrow' (Nat.zero_le _)
      all_goals first | (rw [← hF]; simp [h0, h5, h6]; done) | (simp [y0, yw, hK2, yn, yl]; done)
  | arr id sp cap hv8 hg8 hl8 hlo8 =>
    have hid8 := get_some_lt hg8
    rw [hm] at hid8
    obtain ⟨q1, q2, q3, q4, q5⟩ := hni id hid8
    have q0 : ¬ 0 = id := by omega
    have q6 : ¬ 2 = id := by omega
    simp only [List.length_map] at hv8
    cases w <;> simp [h0, h5, h6, h9, hlt, he, hi10', ePK, hlim, hm, wf, hc, e10, hpr, g0, g2, e17, hA', e18, hC', hC2', turn, hv8, q1, q2, q3, q4, q5]
    all_goals
      generalize hA : appendD _ _ _ _ _ _ = A
      obtain ⟨v', K, rfl, o', x', fr, na⟩ := append_frame (lo := 3) (xs := ids.map eID) (.arr id sp cap (by simp) (by simp [hm, q3, q4, q5, hg8]) (by simp [hlim]) hlo8) (by simp [wf]) (by simp [hm]) (by simp [hlim]) hA (by simp; omega) (by decide)
      clear hA
      have nn : ∀ k, ¬ k = id → NotAt (.sl id 2 0 ids.length) k := fun k hk a b c e => by injection e with e1; exact hk e1.symm
      have y0 := fr 0 (by simp [hm]) (nn 0 q0)
      have y2 := fr 2 (by simp [hm]) (nn 2 q6)
      have ny := na 2 (by simp [hm]) (nn 2 q6)
      have yl := x'.lim
      have yw := x'.wf
      have yn := x'.le
      have hK2 : 2 < K.n := by omega
      simp [hlim, hm, wf, g0, g2] at y0 y2 yl
      simp [hlim, hm, yl, yw, y2, hK2, turn, h9, h0, h5, h6, t4s0, hw]
      have hrow' : OwnR 3 (K.set 2 (.arr 30 6 [eBroker .none b'] (some 1))) v' 35 2 ((ids ++ [(⟨c, i⟩ : ID)]).map eID) := by
        have := own_set o' yw hK2 ny (o := .arr 30 6 [eBroker .none b'] (some 1))
        simpa [eID] using this
      generalize hF : upd _ 9 _ = F
      refine hfin b' (ids ++ [⟨c, i⟩]) F _ k1 (by simp [hid]) hsub hsub2 ⟨?_, ?_, ?_, ?_, ?_, ?_⟩ ?_ ?_ ?_ ?_ ?_
      case refine_3 => rw [← hF]; exact hrow'
      all_goals first | (rw [← hF]; simp [h0, h5, h6]; done) | (simp [y0, yw, hK2, yn, yl]; done)
theorem z4 (S : List Fr) (l : List PK) (hl : ∀ q ∈ l, q.has.length ≤ 9223372036854775807) (P : Res → Prop) :
    ∀ (rest : List PK) (i : Nat) (b : Broker) (ids : List ID) (f : FEnv) (h : Heap), l.drop i = rest → i ≤ 10 → CovI b ids (i + 1) → ids.length = i → (∀ e ∈ b.entries, e.sub.seq < i) → (∀ s ∈ ids, s.seq < i) → CovH h (f 8) b ids → f 0 = eL false 2 ePK l → f 5 = .ptr 0 2 0 0 → f 6 = .ptr 2 6 0 0 → f 9 = .int .i64 i →
    (∀ n b' ids' F H, n ≤ 11 → CovI b' ids' n → ids'.length ≤ 10 → CovH H (F 8) b' ids' → F 1 = f 1 → F 5 = .ptr 0 2 0 0 → F 6 = .ptr 2 6 0 0 → P (run D 206 S t4k3 F H)) →
    P (run D 206 (.block 0 :: .seq t4k3 :: S) (.loop t4l0) f h) := by
  intro rest
  induction rest with
  | nil =>
    intro i b ids f h hd hi hv hid hn1 hn2 hh h0 h5 h6 h9 hfin
    have hi' := drop_nil hd
    have : ¬ (i < l.length) := by omega
    rw [run_loop_of t4l0.eq_1]
    simp [h0, h9, this]
    exact hfin (i + 1) b ids _ h (by omega) hv (by omega) (by simpa using hh) (by simp) (by simp [h5]) (by simp [h6])
  | cons q rest ih =>
    intro i b ids f h hd hi hv hid hn1 hn2 hh h0 h5 h6 h9 hfin
    obtain ⟨hlt, he, hd'⟩ := drop_at hd
    by_cases hi10 : i < 10
    · have hhas := hl q (by rw [← he]; exact List.getElem_mem hlt)
      refine y4 (.seq t4k3 :: S) l i q b ids f h hhas hlt he hi10 hv hid hn1 hn2 hh h0 h5 h6 h9 P fun b' ids' F H a1 a2 a3 a4 a5 a6 a7 a8 a9 a10 => ?_
      exact ih (i + 1) b' ids' F H hd' (by omega) a1 a2 (by simpa using a3) (by simpa using a4) a5 a6 a8 a9 (by rw [a10]; simp) fun n b2 ids2 F2 H2 c0 c1 c2 c3 c4 c5 c6 => hfin n b2 ids2 F2 H2 c0 c1 c2 c3 (c4.trans a7) c5 c6
    · rw [run_loop_of t4l0.eq_1]
      have hi10' : ¬ (i : Int) < 10 := by omega
      simp [h0, h9, hlt, hi10']
      exact hfin (i + 1) b ids _ h (by omega) hv (by omega) (by simpa using hh) (by simp) (by simp [h5]) (by simp [h6])
end Go.Dm.Tc

/-
SubsCovers: entries taken out one by one; the law's walk, further.
-/
namespace Go.Dm.Tc
set_option maxRecDepth 8000 in
theorem l41 (S : List Fr) (U : List Entry) (c : Broker) (e : Entry) (hc : InvK c) (z : Sized c) (he : PredOk e.pred) (hU : ∀ x ∈ U, entOf c tOne x.sub = some x ∧ x.up = true ∧ coversP e.pred x.pred = true ∧ PredOk x.pred) (hUl : U.length ≤ 1000000) (N E : Nat) (h0 : Heap)
    (g0 : h0.get 0 = some (.arr 35 2 [.agg [.int .i64 1, .int .i64 1]] (some 1))) (gN : h0.get N = some (.arr 30 6 [eBroker .none c] (some 1))) (gE : h0.get E = some (.arr 53 7 [eEntry e] (some 1))) (hlim : h0.lim = 0) :
    ∀ (rest : List Entry) (i : Nat) (f : FEnv) (h : Heap), U.drop i = rest → f 5 = .ptr 0 2 0 0 → f 15 = .ptr N 6 0 0 → f 18 = .ptr E 7 0 0 → f 158 = eL false 7 eEntry U → f 159 = .int .i64 U.length → f 160 = .int .i64 i → Ext h0.n h0 h →
    ∃ f' h', run D 206 (.block 4 :: .seq t4k0 :: S) (.loop t4l1) f h = run D 206 S t4k0 f' h' ∧ (∀ r, r < 20 → f' r = f r) ∧ Ext h0.n h0 h' := by
  have l0 := get_some_lt g0
  have lN := get_some_lt gN
  have lE := get_some_lt gE
  intro rest
  induction rest with
  | nil =>
    intro i f h hd h5 h15 h18 h158 h159 h160 x
    have := drop_nil hd
    have hi : ¬ (i < U.length) := by omega
    rw [run_loop_of t4l1.eq_1]
    simp [h159, h160, hi]
    refine ⟨_, _, rfl, fun r hr => ?_, x⟩
    have : ¬ r = 161 := by omega
    simp [this]
  | cons y rest ih =>
    intro i f h hd h5 h15 h18 h158 h159 h160 x
    obtain ⟨hlt, hy, hd'⟩ := drop_at hd
    obtain ⟨q1, q2, q3, q4⟩ := hU y (by rw [← hy]; exact List.getElem_mem hlt)
    have hw : IntKind.i64.wrap ((i : Int) + 1) = (i : Int) + 1 := wrap64 (by omega) (by omega)
    have nx := x.le
    have G0 := (x.get 0 l0).trans g0
    have GN := (x.get N lN).trans gN
    have GE := (x.get E lE).trans gE
    have lx : h.lim = 0 := by rw [x.lim]; exact hlim
    have n0 : ¬ 0 = h.n := by omega
    have nN : ¬ N = h.n := by omega
    have nE : ¬ E = h.n := by omega
    have nE1 : ¬ E = h.n + 1 := by omega
    have hF := kEF .none hc z 1 1 y.sub.client y.sub.seq
    have hq1 : entOf c ⟨1, 1⟩ ⟨y.sub.client, y.sub.seq⟩ = some y := q1
    rw [hq1] at hF
    have hC := s23 e.pred y.pred q4.unlike (Nat.le_trans he.len (by decide)) (Nat.le_trans q4.len (by decide))
    rw [q3] at hC
    rw [run_loop_of t4l1.eq_1]
    simp [h5, h15, h18, h158, h159, h160, hlt, hy, eEntry, G0, GN, GE, n0, nN, nE, nE1, e20, hF, hasO, q2, e23, hC, hw, lx, turn, t4s1]
    generalize hFF : upd _ 160 _ = F
    generalize hH : Heap.push (h.push _) _ = H
    have xH : Ext h0.n h0 H := by rw [← hH]; exact x.push.push
    obtain ⟨f', h', r1, r2, r3⟩ := ih (i + 1) F H hd' (by rw [← hFF]; simp [h5]) (by rw [← hFF]; simp [h15]) (by rw [← hFF]; simp [h18]) (by rw [← hFF]; simp [h158]) (by rw [← hFF]; simp [h159]) (by rw [← hFF]; simp) xH
    refine ⟨f', h', r1, fun r hr => ?_, r3⟩
    rw [r2 r hr, ← hFF]
    have k : ∀ q, 20 ≤ q → ¬ r = q := fun q hq => by omega
    simp [k]
set_option maxRecDepth 16000 in
set_option maxHeartbeats 8000000 in
theorem w4 (S : List Fr) (ids : List ID) (k j n : Nat) (b c : Broker) (U : List Entry) (e : Entry) (hk : k < ids.length) (hid : ids.length ≤ 10) (hj : j ≤ 1000000) (hn11 : n ≤ 11) (hc : CovI c (ids.take k ++ ids.drop (k + 1)) n) (he : PredOk e.pred)
    (hU : ∀ x ∈ U, entOf c tOne x.sub = some x ∧ x.up = true ∧ coversP e.pred x.pred = true ∧ PredOk x.pred) (hUl : U.length ≤ 1000000) (N E id : Nat) (sp : List DV) (cap : Option Nat) (f : FEnv) (h : Heap)
    (g0 : h.get 0 = some (.arr 35 2 [.agg [.int .i64 1, .int .i64 1]] (some 1))) (g2 : h.get 2 = some (.arr 30 6 [eBroker .none b] (some 1))) (gN : h.get N = some (.arr 30 6 [eBroker .none c] (some 1))) (gE : h.get E = some (.arr 53 7 [eEntry e] (some 1)))
    (hg8 : h.get id = some (.arr 35 2 (ids.map eID ++ sp) cap)) (hlo8 : 3 ≤ id) (hNid : ¬ N = id) (hlim : h.lim = 0) (hn : 3 ≤ h.n) (wf : WF h)
    (h5 : f 5 = .ptr 0 2 0 0) (h6 : f 6 = .ptr 2 6 0 0) (h8 : f 8 = .sl id 2 0 ids.length) (h13 : f 13 = .int .i64 j) (h14 : f 14 = .int .i64 k) (h15 : f 15 = .ptr N 6 0 0) (h18 : f 18 = .ptr E 7 0 0) (h158 : f 158 = eL false 7 eEntry U) (h159 : f 159 = .int .i64 U.length) (h160 : f 160 = .int .i64 0)
    (P : Res → Prop) (hfin : ∀ F H, CovH H (F 8) c (ids.take k ++ ids.drop (k + 1)) → F 1 = f 1 → F 5 = .ptr 0 2 0 0 → F 6 = .ptr 2 6 0 0 → F 13 = .int .i64 j → P (ret D 206 S .normal F H)) :
    P (run D 206 (.block 4 :: .seq t4k0 :: S) (.loop t4l1) f h) := by
  have zc := hc.sz.sized (show n ≤ 300 by omega)
  have l0 := get_some_lt g0
  have l2 := get_some_lt g2
  have lN := get_some_lt gN
  have lid := get_some_lt hg8
  obtain ⟨F, H, r1, r2, x⟩ := l41 S U c e hc.inv zc he hU hUl N E h g0 gN gE hlim U 0 f h rfl h5 h15 h18 h158 h159 h160 (.refl (Nat.le_refl _) wf)
  rw [r1]
  have F5 := (r2 5 (by decide)).trans h5
  have F6 := (r2 6 (by decide)).trans h6
  have F8 := (r2 8 (by decide)).trans h8
  have F13 := (r2 13 (by decide)).trans h13
  have F14 := (r2 14 (by decide)).trans h14
  have F15 := (r2 15 (by decide)).trans h15
  have F1 := r2 1 (by decide)
  have G0 := (x.get 0 l0).trans g0
  have G2 := (x.get 2 l2).trans g2
  have GN := (x.get N lN).trans gN
  have G8 := (x.get id lid).trans hg8
  have xl : H.lim = 0 := by rw [x.lim]; exact hlim
  have xn := x.le
  have xw := x.wf
  obtain ⟨m, hm⟩ : ∃ m, H.n = m + 3 := ⟨H.n - 3, by omega⟩
  have q1 : ¬ N = m + 3 := by omega
  have q2 : ¬ id = m + 3 := by omega
  have q3 : ¬ 0 = m + 3 := by omega
  have q7 : ¬ 2 = H.n := by omega
  have q5 : ¬ m + 3 = id := by omega
  have q6 : ¬ m + 3 = N := by omega
  have hk' : (k : Int) ≤ ids.length := by omega
  have hk1 : (k : Int) + 1 ≤ ids.length := by omega
  have hw1 : IntKind.i64.wrap ((k : Int) + 1) = (k : Int) + 1 := wrap64 (by omega) (by omega)
  have hs1 : ∀ H' : Heap, H'.get id = some (.arr 35 2 (ids.map eID ++ sp) cap) → sliceV H' 2 (.sl id 2 0 ids.length) none (some (.int .i64 (k : Int))) = some (.sl id 2 0 k) := fun H' hg => by
    simp only [sliceV, hg]
    rw [if_pos ⟨trivial, trivial, by simp⟩]
    simp only [boundV, asI]
    rw [if_pos ⟨by omega, by simp; omega⟩]
    simp
  have hs2 : ∀ H' : Heap, H'.get id = some (.arr 35 2 (ids.map eID ++ sp) cap) → sliceV H' 2 (.sl id 2 0 ids.length) (some (.int .i64 ((k : Int) + 1))) none = some (.sl id 2 (k + 1) (ids.length - (k + 1))) := fun H' hg => by
    have : ((k : Int) + 1).toNat = k + 1 := by omega
    simp only [sliceV, hg]
    rw [if_pos ⟨trivial, trivial, by simp⟩]
    simp only [boundV, asI]
    rw [if_pos ⟨by omega, by omega⟩, this]
    simp
  have he1 : elemsO 2 2 0 k (some (.arr 35 2 (ids.map eID ++ sp) cap)) = some ((ids.take k).map eID) := by
    rw [elemsO_some, if_pos ⟨rfl, rfl, by simp; omega⟩, List.drop_zero, List.take_append_of_le_length (by simp; omega), List.map_take]
  have he2 : elemsO 2 2 (k + 1) (ids.length - (k + 1)) (some (.arr 35 2 (ids.map eID ++ sp) cap)) = some ((ids.drop (k + 1)).map eID) := by
    rw [elemsO_some, if_pos ⟨rfl, rfl, by simp; omega⟩, List.drop_append_of_le_length (by simp; omega), List.take_left' (by simp), List.map_drop]
  rw [← hm] at q1 q2 q3 q5 q6
  simp [t4k0, F5, F6, F8, F13, F14, F15, G0, G2, GN, G8, xl, xw, q1, q2, q3, q5, q6, hs1, hs2, he1, he2, hw1, turn, -elemsO_some]
  generalize hA : appendD _ _ _ _ _ _ = A
  obtain ⟨i1, K1, rfl, o1, x1, _, j1⟩ := (OwnI.fresh (lo := m + 3) (h := H) (ety := 35) (sz := 2) (xs := []) (cap := some 0) (by simp [xl]) (by omega)).append (id := H.n) (n := 0) rfl (by simp [xw]) (by simp [hm]) (by simp [xl]) hA (by simp; omega) (by decide)
  clear hA
  have u1 := o1.lo
  have a0 := x1.get 0 (by omega)
  have a2 := x1.get 2 (by omega)
  have a8 := x1.get id (by omega)
  have al := x1.lim
  have aw := x1.wf
  have an := x1.le
  simp [q3, q2, q7, G0, G2, G8, xl] at a0 a2 a8 al
  have v1 : ¬ id = i1 := by omega
  have v2 : ¬ N = i1 := by omega
  simp [F5, F6, F8, F13, F14, F15, a0, a2, a8, al, aw, G8, q2, q5, q6, hs1, hs2, he2, hw1, turn, v1, v2, -elemsO_some]
  generalize hA : appendD _ _ _ _ _ _ = A
  obtain ⟨i2, K2, rfl, o2, x2, _, j2⟩ := o1.append (n := min k ids.length) (by simp) aw (by omega) (by omega) hA (by simp <;> omega) (by decide)
  clear hA
  have u2 := o2.lo
  have b0 := x2.get 0 (by omega)
  have b2 := x2.get 2 (by omega)
  have bl := x2.lim
  have bw := x2.wf
  have bn := x2.le
  rw [a0] at b0
  rw [a2] at b2
  rw [al] at bl
  have v3 : 2 < K2.n := by omega
  simp [F6, F13, b0, b2, bl, bw, v3, turn]
  generalize hF : upd _ 8 _ = F9
  have hkm : min k ids.length = k := by omega
  have hrow : (.sl i2 2 0 (min k ids.length + (ids.length - (k + 1))) : DV) = .sl i2 2 0 ((ids.take k ++ ids.drop (k + 1)).map eID).length := by simp
  refine hfin F9 _ ⟨?_, ?_, ?_, ?_, ?_, ?_⟩ ?_ ?_ ?_ ?_
  case refine_3 =>
    rw [← hF]
    have hr := o2.toR
    have hlen : ([] ++ List.take k (List.map eID ids) ++ List.drop (k + 1) (List.map eID ids)) = (ids.take k ++ ids.drop (k + 1)).map eID := by simp
    rw [hlen] at hr
    have hr2 : OwnR 3 K2 (.sl i2 2 0 ((ids.take k ++ ids.drop (k + 1)).map eID).length) 35 2 ((ids.take k ++ ids.drop (k + 1)).map eID) := by
      cases hr with
      | nil hv hx => exact .nil hv hx
      | arr id' sp' cap' hv hg hl hi => exact .arr id' sp' cap' hv hg hl (by omega)
    have hr3 := own_set hr2 bw v3 (not_low hr2 (by decide)) (o := .arr 30 6 [eBroker .none c] (some 1))
    rw [← hrow] at hr3
    exact hr3
  all_goals first | (rw [← hF]; simp [F1, F5, F6, F13]; done) | (simp [b0, b2, bl, bw, v3]; done) | (simp; omega)
set_option maxRecDepth 16000 in
set_option maxHeartbeats 8000000 in
theorem x4 (S : List Fr) (ord : List Int) (j n : Nat) (b : Broker) (ids : List ID) (f : FEnv) (h : Heap) (hj : j ≤ 1000000) (hn12 : n ≤ 11) (hv : CovI b ids n) (hid : ids.length ≤ 10) (hpos : 0 < ids.length) (hh : CovH h (f 8) b ids)
    (h1 : f 1 = eL false 1 cInt ord) (h5 : f 5 = .ptr 0 2 0 0) (h6 : f 6 = .ptr 2 6 0 0) (h13 : f 13 = .int .i64 j)
    (P : Res → Prop) (hfin : ∀ b' ids' F H, CovI b' ids' n → ids'.length + 1 = ids.length → CovH H (F 8) b' ids' → F 1 = f 1 → F 5 = .ptr 0 2 0 0 → F 6 = .ptr 2 6 0 0 → F 13 = .int .i64 ((j : Int) + 1) →
      P (run D 206 (.block 2 :: S) (.loop t4l2) F H)) :
    P (run D 206 (.block 2 :: S) (.loop t4l2) f h) := by
  obtain ⟨g0, g2, hrow, hlim, hn, wf⟩ := hh
  obtain ⟨m, hm⟩ : ∃ m, h.n = m + 3 := ⟨h.n - 3, by omega⟩
  have hw : IntKind.i64.wrap ((j : Int) + 1) = (j : Int) + 1 := wrap64 (by omega) (by omega)
  have z := hv.sz.sized (show n ≤ 300 by omega)
  cases hrow with
  | nil hv8 hx => exfalso; cases ids with | nil => simp at hpos | cons a r => simp at hx
  | arr id sp cap hv8 hg8 hl8 hlo8 =>
    have hid8 := get_some_lt hg8
    simp only [List.length_map] at hv8
    have hpos' : (0 : Int) < ids.length := by omega
    have hw0 : IntKind.i64.wrap ((ids.length : Int) - 1) = (ids.length : Int) - 1 := wrap64 (by omega) (by omega)
    -- which one
    obtain ⟨k, hk, hsel⟩ : ∃ k : Nat, k < ids.length ∧ (∀ hjo : j < ord.length, pcF D t8 [.int .i64 ord[j], .int .i64 0, .int .i64 ((ids.length : Int) - 1)] = some (.int .i64 k)) ∧ (¬ j < ord.length → k = 0) := by
      by_cases hjo : j < ord.length
      · have hb := within_bounds ord[j] (show (0 : Int) ≤ (ids.length : Int) - 1 by omega)
        obtain ⟨k, hk⟩ : ∃ k : Nat, within ord[j] 0 ((ids.length : Int) - 1) = k := ⟨(within ord[j] 0 ((ids.length : Int) - 1)).toNat, by omega⟩
        refine ⟨k, by omega, fun _ => ?_, fun q => absurd hjo q⟩
        rw [← hk]
        exact s8 _ _ _ (by omega) (by omega) (by omega)
      · exact ⟨0, hpos, fun q => absurd q hjo, fun _ => rfl⟩
    obtain ⟨s, hs⟩ : ∃ s, ids[k] = s := ⟨_, rfl⟩
    obtain ⟨e, e1, e2, e3⟩ := hv.ent (List.getElem_mem hk)
    rw [hs] at e1 e3
    obtain ⟨u1, u2, u3, _, u5⟩ := take_own hv.inv e1
    have hnext := hv.take hk
    rw [hs] at hnext
    rw [e2] at u1 u2 u3 u5
    have hem := (entOf_some hv.inv.re).1 e1
    have hepo := hv.inv.pe e hem.1
    have hT := kTake hv.inv z 1 1 s.client s.seq 1
    have hT' : pcF D t19 [eBroker .none b, .agg [.int .i64 1, .int .i64 1], .agg [.int .i64 s.client, .int .i64 s.seq], .int .i64 1] = some (.tup [eBroker .none (takeB b tOne s 1).1, eL false 7 eEntry (takeB b tOne s 1).2.1, .bool (takeB b tOne s 1).2.2]) := hT
    have hF := kEF .none hv.inv z 1 1 s.client s.seq
    have he1 : entOf b ⟨1, 1⟩ ⟨s.client, s.seq⟩ = some e := e1
    rw [he1] at hF
    clear hT
    obtain ⟨c, hc⟩ : ∃ c, (takeB b tOne s 1).1 = c := ⟨_, rfl⟩
    obtain ⟨U, hU⟩ : ∃ U, (takeB b tOne s 1).2.1 = U := ⟨_, rfl⟩
    rw [hc, hU, u1] at hT'
    rw [hc] at hnext u3 u5
    rw [hU] at u2 u5
    have zc := hnext.sz.sized (show n ≤ 300 by omega)
    have hTi := kTight .none hnext.inv zc
    have hOf := kOf .none zc 1 1
    have hofl : (ofT ⟨1, 1⟩ c.entries).length = c.entries.length := by
      unfold ofT
      rw [List.filter_eq_self.2 (fun x hx => by simpa [tOne] using (hnext.own x hx).1)]
    have hlen := hv.len
    have hcl : c.entries.length = ids.length - 1 := by omega
    have hcl2 : ((ofT ⟨1, 1⟩ c.entries).length : Int) = (ids.length : Int) - 1 := by omega
    have hup : e.up = false → U = [] := u2
    have hia : indexAddrV 2 (.sl id 2 0 ids.length) (.int .i64 (k : Int)) = some (.ptr id 2 k 0) := by simp [indexAddrV, asI, hk]
    have hel : (ids.map eID ++ sp)[k]? = some (eID s) := by
      rw [List.getElem?_append_left (by simpa using hk), List.getElem?_map, List.getElem?_eq_getElem hk, hs]; rfl
    have r1 : ¬ m + 3 = id := by omega
    have r2 : ¬ m + 3 + 1 = id := by omega
    have r3 : ¬ id = m + 3 := by omega
    have r4 : ¬ id = m + 3 + 1 := by omega
    rw [run_loop_of t4l2.eq_1]
    simp only [eID] at hel
    have hUo : ∀ x ∈ U, entOf c tOne x.sub = some x ∧ x.up = true ∧ coversP e.pred x.pred = true ∧ PredOk x.pred := fun x hx => by
      obtain ⟨p1, p2, p3, p4, p5⟩ := u5 x hx
      exact ⟨p1, p2, p3, hnext.inv.pe x ((entOf_some hnext.inv.re).1 p1).1⟩
    have hUl : U.length ≤ 1000000 := by
      rw [← hU]; exact Nat.le_trans (take_ups_le b tOne s 1) (by omega)
    have hsub : ∀ F : FEnv, ∀ H : Heap, CovH H (F 8) c (ids.take k ++ ids.drop (k + 1)) → F 1 = f 1 → F 5 = .ptr 0 2 0 0 → F 6 = .ptr 2 6 0 0 → F 13 = .int .i64 j → P (ret D 206 (.block 3 :: .seq t4k1 :: .loop t4l2 :: .block 2 :: S) .normal F H) := by
      intro F H c1 c2 c3 c4 c5
      simp [t4k1, c5, hw]
      generalize hG : upd _ 13 _ = G
      refine hfin c (ids.take k ++ ids.drop (k + 1)) G H hnext ?_ ?_ ?_ ?_ ?_ ?_
      · simp; omega
      · rw [← hG]; exact c1
      all_goals (rw [← hG]; simp [c2, c3, c4])
    have hne : ¬ m + 3 = id := r1
    by_cases hjo : j < ord.length
    · have hsel' := hsel.1 hjo
      cases hq : e.up with
      | true =>
        simp [h1, h5, h6, h13, hv8, hpos', hpos, cInt, hw0, e8, hlim, hm, wf, g0, g2, hg8, hia, hel, r1, r2, r3, r4, e19, hT', e20, hF, hasO, eEntry, turn, e21, hTi, e22, hOf, hcl2, hjo, hsel', hq]
        refine w4 _ ids k j n b c U e hk hid hj hn12 hnext hepo hUo hUl (m + 3) (m + 3 + 1) id sp cap _ _ ?_ ?_ ?_ ?_ ?_ hlo8 r1 ?_ ?_ ?_ ?_ ?_ ?_ ?_ ?_ ?_ ?_ ?_ ?_ ?_ P (fun F H c1 c2 c3 c4 c5 => ?hf)
        case hf => exact hsub F H c1 (c2.trans (by simp)) c3 c4 c5
        all_goals first | (simp [hm, g0, g2, eEntry, hq, r3, r4, hg8, hlim, wf, h5, h6, hv8, h13]; done) | (simp [hm]; omega)
      | false =>
        have hU0 := hup hq
        subst hU0
        simp [h1, h5, h6, h13, hv8, hpos', hpos, cInt, hw0, e8, hlim, hm, wf, g0, g2, hg8, hia, hel, r1, r2, r3, r4, e19, hT', e20, hF, hasO, eEntry, turn, e21, hTi, e22, hOf, hcl2, hjo, hsel', hq]
        refine w4 _ ids k j n b c [] e hk hid hj hn12 hnext hepo hUo hUl (m + 3) (m + 3 + 1) id sp cap _ _ ?_ ?_ ?_ ?_ ?_ hlo8 r1 ?_ ?_ ?_ ?_ ?_ ?_ ?_ ?_ ?_ ?_ ?_ ?_ ?_ P (fun F H c1 c2 c3 c4 c5 => ?hf)
        case hf => exact hsub F H c1 (c2.trans (by simp)) c3 c4 c5
        all_goals first | (simp [hm, g0, g2, eEntry, hq, r3, r4, hg8, hlim, wf, h5, h6, hv8, h13]; done) | (simp [hm]; omega)
    · have hk0 := hsel.2 hjo
      subst hk0
      have hia0 : indexAddrV 2 (.sl id 2 0 ids.length) (.int .i64 0) = some (.ptr id 2 0 0) := hia
      have hel0 : (ids.map eID ++ sp)[0]? = some (.agg [.int .i64 s.client, .int .i64 s.seq]) := hel
      cases hq : e.up with
      | true =>
        simp [h1, h5, h6, h13, hv8, hpos', hpos, cInt, hw0, e8, hlim, hm, wf, g0, g2, hg8, hia0, hel0, r1, r2, r3, r4, e19, hT', e20, hF, hasO, eEntry, turn, e21, hTi, e22, hOf, hcl2, hjo, hq]
        refine w4 _ ids 0 j n b c U e hk hid hj hn12 hnext hepo hUo hUl (m + 3) (m + 3 + 1) id sp cap _ _ ?_ ?_ ?_ ?_ ?_ hlo8 r1 ?_ ?_ ?_ ?_ ?_ ?_ ?_ ?_ ?_ ?_ ?_ ?_ ?_ P (fun F H c1 c2 c3 c4 c5 => ?hf)
        case hf => exact hsub F H c1 (c2.trans (by simp)) c3 c4 c5
        all_goals first | (simp [hm, g0, g2, eEntry, hq, r3, r4, hg8, hlim, wf, h5, h6, hv8, h13]; done) | (simp [hm]; omega)
      | false =>
        have hU0 := hup hq
        subst hU0
        simp [h1, h5, h6, h13, hv8, hpos', hpos, cInt, hw0, e8, hlim, hm, wf, g0, g2, hg8, hia0, hel0, r1, r2, r3, r4, e19, hT', e20, hF, hasO, eEntry, turn, e21, hTi, e22, hOf, hcl2, hjo, hq]
        refine w4 _ ids 0 j n b c [] e hk hid hj hn12 hnext hepo hUo hUl (m + 3) (m + 3 + 1) id sp cap _ _ ?_ ?_ ?_ ?_ ?_ hlo8 r1 ?_ ?_ ?_ ?_ ?_ ?_ ?_ ?_ ?_ ?_ ?_ ?_ ?_ P (fun F H c1 c2 c3 c4 c5 => ?hf)
        case hf => exact hsub F H c1 (c2.trans (by simp)) c3 c4 c5
        all_goals first | (simp [hm, g0, g2, eEntry, hq, r3, r4, hg8, hlim, wf, h5, h6, hv8, h13]; done) | (simp [hm]; omega)
end Go.Dm.Tc

/-
SubsCovers: the law answers true.
-/
namespace Go.Dm.Tc
theorem z42 (ord : List Int) (n : Nat) (hn12 : n ≤ 11) : ∀ (c j : Nat) (b : Broker) (ids : List ID) (f : FEnv) (h : Heap), ids.length = c → j + c ≤ 1000 → CovI b ids n → ids.length ≤ 10 → CovH h (f 8) b ids → f 1 = eL false 1 cInt ord → f 5 = .ptr 0 2 0 0 → f 6 = .ptr 2 6 0 0 → f 13 = .int .i64 j →
    pcOut (fin [.t 4] (run D 206 [.block 2, .seq t4k2] (.loop t4l2) f h)) = some (.bool true) := by
  intro c
  induction c with
  | zero =>
    intro j b ids f h hc hj hv hid hh h1 h5 h6 h13
    have hids : ids = [] := List.length_eq_zero_iff.1 hc
    subst hids
    have he : b.entries = [] := List.length_eq_zero_iff.1 hv.len
    have h8 : lenV h 1 (f 8) = some (.int .i64 0) := by
      cases hh.row with
      | nil hv hx => rw [hv]; rfl
      | arr id sp cap hv _ _ _ => rw [hv]; rfl
    have g2 := hh.g2
    rw [run_loop_of t4l2.eq_1]
    simp [t4k2, h6, h8, g2, he, e24, s24]
  | succ c ih =>
    intro j b ids f h hc hj hv hid hh h1 h5 h6 h13
    refine x4 [.seq t4k2] ord j n b ids f h (by omega) hn12 hv hid (by omega) hh h1 h5 h6 h13 (fun r => pcOut (fin [.t 4] r) = some (.bool true)) fun b' ids' F H a1 a2 a3 a4 a5 a6 a7 => ?_
    exact ih (j + 1) b' ids' F H (by omega) (by omega) a1 (by omega) a3 (a4.trans h1) a5 a6 (by rw [a7]; simp)
set_option maxRecDepth 8000 in
theorem s4 (l : List PK) (ord : List Int) (hl : ∀ q ∈ l, q.has.length ≤ 9223372036854775807) : pcF D t4 [eL false 2 ePK l, eL false 1 cInt ord] = some (.bool true) := by
  unfold pcF
  rw [goRun_eq _ _ _ _ (by simp [t4])]
  have hL := kLearn .none inv_cov0 ⟨by decide, by decide, by decide, by decide, by decide⟩ 1 1 [] 0
  have hL' : pcF D t9 [eBroker .none ⟨4, [0, 1], [], [], [], []⟩, .agg [.int .i64 1, .int .i64 1, .isl false 0 [], .int .i64 0]] = some (.tup [eBroker .none bCov, .bool true]) := hL
  simp [t4, List.replicate, mkIsl, e7, s7_401, e9, hL', turn]
  refine z4 [] l hl (fun r => pcOut (fin [.t 4] r) = some (.bool true)) l 0 bCov [] _ _ rfl (by decide) .start rfl (fun e he => by cases he) (fun s hs => by cases hs) ⟨?_, ?_, .nil ?_ rfl, ?_, ?_, ?_⟩ ?_ ?_ ?_ ?_ (fun n b' ids' F H c0 c1 c2 c3 c4 c5 c6 => ?_)
  case refine_11 =>
    simp [t4k3]
    exact z42 ord n c0 ids'.length 0 b' ids' _ H rfl (by omega) c1 c2 (by simpa using c3) (by simp [c4]) (by simp [c5]) (by simp [c6]) (by simp)
  all_goals simp
end Go.Dm.Tc

