/-
The broker that numbers make: the walk.
-/
import Derived.Test.YtfnhanajiibciaaGreatMs2
set_option linter.all false
namespace Go.Dm.Tc
set_option maxRecDepth 8000 in
set_option maxHeartbeats 4000000 in
theorem l29 (t : Bool) (near : Int) (l : List StepK) (hh : ∀ q ∈ l, q.has.length ≤ 9223372036854775807) (tx tb tn : Nat) :
    ∀ (n i : Nat) (nb : Broker) (f : FEnv) (h : Heap), 12 - i = n → InvK nb → SzK nb i → i ≤ 12 →
    f 1 = .ptr 0 2 0 0 → f 2 = .ptr 1 6 0 0 → f 3 = .ptr 2 6 0 0 → f 5 = .int .i64 i →
    h.get 0 = some (.arr tx 2 [.agg [.int .i64 near, eL t 7 eStepK l]] (some 1)) → h.get 1 = some (.arr tb 6 [zB] (some 1)) → h.get 2 = some (.arr tn 6 [eBroker .none nb] (some 1)) → h.lim = 0 → 3 ≤ h.n → WF h →
    pcOut (fin [.cell 2 (some 6)] (run D 124 [.block 2, .seq t29k0] (.loop t29l1) f h)) = some (eBroker .none (((l.take 12).drop i).foldl tellB nb)) := by
  intro n
  induction n with
  | zero =>
    intro i nb f h hn hi hz hi12 h1 h2 h3 h5 g0 g1 g2 hlim hn3 wf
    have : i = 12 := by omega
    subst this
    have he : (l.take 12).drop 12 = [] := List.drop_eq_nil_of_le (by simp; omega)
    have l1 : 1 < h.n := by omega
    rw [run_loop_of t29l1.eq_1, he]
    simp only [zB] at g1
    by_cases hlt : 12 < l.length
    · have hlt' : (12 : Int) < l.length := by omega
      simp [hlt', t29k0, h1, h2, h3, h5, g0, g1, g2, hlt, hlim, l1, wf, turn]
    · have hlt' : ¬ (12 : Int) < l.length := by omega
      simp [hlt', t29k0, h1, h2, h3, h5, g0, g1, g2, hlt, hlim, l1, wf, turn]
  | succ n ih =>
    intro i nb f h hn hi hz hi12 h1 h2 h3 h5 g0 g1 g2 hlim hn3 wf
    have hi12' : i < 12 := by omega
    have hi12i : (i : Int) < 12 := by omega
    by_cases hlt : i < l.length
    · have hlti : (i : Int) < l.length := by omega
      have hz' : Sized nb := hz.sized (by omega)
      have hside := s30 .none nb l[i].frm hz'
      have hpred := s18 false false l[i].has l[i].vals (hh _ (List.getElem_mem hlt))
      have w1 := s16 l[i].tree 0 2 (by decide) (by decide) (by decide)
      have w2 := s16 l[i].client 0 4 (by decide) (by decide) (by decide)
      have w3 := s16 l[i].seq 0 2 (by decide) (by decide) (by decide)
      have w4 := s16 l[i].kind 1 7 (by decide) (by decide) (by decide)
      obtain ⟨m, hmn⟩ : ∃ m, h.n = m + 3 := ⟨h.n - 3, by omega⟩
      rw [run_loop_of t29l1.eq_1]
      by_cases k6 : within l[i].kind 1 7 = 6
      · simp [h1, h3, h5, g0, g2, hlt, hlti, hi12i, hlim, wf, hmn, turn, eStepK, e16, w1, w2, w3, w4, e30, hside, e18, hpred, k6]
        have hS := s46 nb (within l[i].client 0 4) (within l[i].seq 0 2) (mkPred l[i].has l[i].vals) hi ⟨by have := hz.near; omega, by have := hz.adv; omega, by have := hz.seen; omega, by have := hz.own; omega, by have := hz.ent; have := hz.adv; have := Nat.mul_le_mul hi12 hi12; omega⟩ (mkPred_ok ..) (by have := hz.own; omega)
        have hte : tellB nb l[i] = (subscribeB nb ⟨within l[i].client 0 4, within l[i].seq 0 2⟩ (mkPred l[i].has l[i].vals)).1 := by simp [tellB, k6]
        have hdr : (l.take 12).drop i = l[i] :: (l.take 12).drop (i + 1) := by
          have : i < (l.take 12).length := by simp; omega
          rw [List.drop_eq_getElem_cons this]; simp
        rw [hdr, List.foldl_cons]
        simp [e46, hS, hmn, g2, hlim, wf, h3, h5, turn, t29s1]
        rw [wrap64 (by omega) (by omega)]
        generalize hF : upd _ 5 _ = F
        have hk := tell_keep hi hz l[i]
        rw [← hte]
        refine ih (i + 1) (tellB nb l[i]) F _ (by omega) hk.1 hk.2 (by omega) ?_ ?_ ?_ ?_ ?_ ?_ ?_ ?_ ?_ ?_
        all_goals first
          | (rw [← hF]; simp [h1, h2, h3]; done)
          | (simp [hmn, g0, g1, g2, hlim, wf]; done)
          | (simp [hmn] <;> omega)
      · by_cases k7 : within l[i].kind 1 7 = 7
        · simp [h1, h3, h5, g0, g2, hlt, hlti, hi12i, hlim, wf, hmn, turn, eStepK, e16, w1, w2, w3, w4, e30, hside, e18, hpred, k7]
          have hS := s61 nb (within l[i].client 0 4) (within l[i].seq 0 2) hi ⟨by have := hz.near; omega, by have := hz.adv; omega, by have := hz.seen; omega, by have := hz.own; omega, by have := hz.ent; have := Nat.mul_le_mul hi12 hi12; omega⟩ (by have := hz.adv; omega)
          have hte : tellB nb l[i] = (unsubscribeB nb ⟨within l[i].client 0 4, within l[i].seq 0 2⟩).1 := by simp [tellB, k7]
          have hdr : (l.take 12).drop i = l[i] :: (l.take 12).drop (i + 1) := by
            have : i < (l.take 12).length := by simp; omega
            rw [List.drop_eq_getElem_cons this]; simp
          rw [hdr, List.foldl_cons]
          simp [e61, hS, hmn, g2, hlim, wf, h3, h5, turn, t29s1]
          rw [wrap64 (by omega) (by omega)]
          generalize hF : upd _ 5 _ = F
          have hk := tell_keep hi hz l[i]
          rw [← hte]
          refine ih (i + 1) (tellB nb l[i]) F _ (by omega) hk.1 hk.2 (by omega) ?_ ?_ ?_ ?_ ?_ ?_ ?_ ?_ ?_ ?_
          all_goals first
            | (rw [← hF]; simp [h1, h2, h3]; done)
            | (simp [hmn, g0, g1, g2, hlim, wf]; done)
            | (simp [hmn] <;> omega)
        · by_cases k5 : within l[i].kind 1 7 = 5
          · simp [h1, h3, h5, g0, g2, hlt, hlti, hi12i, hlim, wf, hmn, turn, eStepK, e16, w1, w2, w3, w4, e30, hside, e18, hpred, k5]
            have hS := s59 nb (within l[i].tree 0 2) 0 (sideB nb l[i].frm) (mkPred l[i].has l[i].vals) hi ⟨by have := hz.near; omega, by have := hz.adv; omega, by have := hz.seen; omega, by have := hz.own; omega, by have := hz.ent; have := hz.own; have := Nat.mul_le_mul hi12 hi12; omega⟩ (mkPred_ok ..) (side_link ..) ⟨by have := hz.adv; omega, by have := hz.seen; omega⟩
            have hte : tellB nb l[i] = (advertiseB nb (sideB nb l[i].frm) ⟨within l[i].tree 0 2, 0⟩ (mkPred l[i].has l[i].vals)).1 := by simp [tellB, k5]
            have hdr : (l.take 12).drop i = l[i] :: (l.take 12).drop (i + 1) := by
              have : i < (l.take 12).length := by simp; omega
              rw [List.drop_eq_getElem_cons this]; simp
            rw [hdr, List.foldl_cons]
            simp [e59, hS, hmn, g2, hlim, wf, h3, h5, turn, t29s1]
            rw [wrap64 (by omega) (by omega)]
            generalize hF : upd _ 5 _ = F
            have hk := tell_keep hi hz l[i]
            rw [← hte]
            refine ih (i + 1) (tellB nb l[i]) F _ (by omega) hk.1 hk.2 (by omega) ?_ ?_ ?_ ?_ ?_ ?_ ?_ ?_ ?_ ?_
            all_goals first
              | (rw [← hF]; simp [h1, h2, h3]; done)
              | (simp [hmn, g0, g1, g2, hlim, wf]; done)
              | (simp [hmn] <;> omega)
          · by_cases k3 : within l[i].kind 1 7 = 3 ∧ sideB nb l[i].frm = -1
            · simp [h1, h3, h5, g0, g2, hlt, hlti, hi12i, hlim, wf, hmn, turn, eStepK, e16, w1, w2, w3, w4, e30, hside, e18, hpred, k3.1, k3.2]
              have hS := s59 nb (within l[i].tree 0 2) 0 (sideB nb l[i].frm) (mkPred l[i].has l[i].vals) hi ⟨by have := hz.near; omega, by have := hz.adv; omega, by have := hz.seen; omega, by have := hz.own; omega, by have := hz.ent; have := hz.own; have := Nat.mul_le_mul hi12 hi12; omega⟩ (mkPred_ok ..) (side_link ..) ⟨by have := hz.adv; omega, by have := hz.seen; omega⟩
              have hS2 := hS
              rw [k3.2] at hS2
              have hte : tellB nb l[i] = (advertiseB nb (sideB nb l[i].frm) ⟨within l[i].tree 0 2, 0⟩ (mkPred l[i].has l[i].vals)).1 := by simp [tellB, k3.1, k3.2]
              have hdr : (l.take 12).drop i = l[i] :: (l.take 12).drop (i + 1) := by
                have : i < (l.take 12).length := by simp; omega
                rw [List.drop_eq_getElem_cons this]; simp
              rw [hdr, List.foldl_cons]
              simp [e59, hS2, hmn, g2, hlim, wf, h3, h5, turn, t29s1]
              rw [wrap64 (by omega) (by omega)]
              generalize hF : upd _ 5 _ = F
              have hk := tell_keep hi hz l[i]
              rw [k3.2] at hte
              rw [← hte]
              refine ih (i + 1) (tellB nb l[i]) F _ (by omega) hk.1 hk.2 (by omega) ?_ ?_ ?_ ?_ ?_ ?_ ?_ ?_ ?_ ?_
              all_goals first
                | (rw [← hF]; simp [h1, h2, h3]; done)
                | (simp [hmn, g0, g1, g2, hlim, wf]; done)
                | (simp [hmn] <;> omega)
            · by_cases k4 : within l[i].kind 1 7 = 4 ∧ sideB nb l[i].frm = -1
              · simp [h1, h3, h5, g0, g2, hlt, hlti, hi12i, hlim, wf, hmn, turn, eStepK, e16, w1, w2, w3, w4, e30, hside, e18, hpred, k4.1, k4.2]
                have hS := s59 nb (within l[i].tree 0 2) 0 (sideB nb l[i].frm) (mkPred l[i].has l[i].vals) hi ⟨by have := hz.near; omega, by have := hz.adv; omega, by have := hz.seen; omega, by have := hz.own; omega, by have := hz.ent; have := hz.own; have := Nat.mul_le_mul hi12 hi12; omega⟩ (mkPred_ok ..) (side_link ..) ⟨by have := hz.adv; omega, by have := hz.seen; omega⟩
                have hS2 := hS
                rw [k4.2] at hS2
                have hte : tellB nb l[i] = (advertiseB nb (sideB nb l[i].frm) ⟨within l[i].tree 0 2, 0⟩ (mkPred l[i].has l[i].vals)).1 := by simp [tellB, k4.1, k4.2]
                have hdr : (l.take 12).drop i = l[i] :: (l.take 12).drop (i + 1) := by
                  have : i < (l.take 12).length := by simp; omega
                  rw [List.drop_eq_getElem_cons this]; simp
                rw [hdr, List.foldl_cons]
                simp [e59, hS2, hmn, g2, hlim, wf, h3, h5, turn, t29s1]
                rw [wrap64 (by omega) (by omega)]
                generalize hF : upd _ 5 _ = F
                have hk := tell_keep hi hz l[i]
                rw [k4.2] at hte
                rw [← hte]
                refine ih (i + 1) (tellB nb l[i]) F _ (by omega) hk.1 hk.2 (by omega) ?_ ?_ ?_ ?_ ?_ ?_ ?_ ?_ ?_ ?_
                all_goals first
                  | (rw [← hF]; simp [h1, h2, h3]; done)
                  | (simp [hmn, g0, g1, g2, hlim, wf]; done)
                  | (simp [hmn] <;> omega)
              · have hk4 : within l[i].kind 1 7 = 1 ∨ within l[i].kind 1 7 = 2 ∨ within l[i].kind 1 7 = 3 ∨ within l[i].kind 1 7 = 4 := by have := within_bounds l[i].kind (lo := 1) (hi := 7) (by decide); omega
                have hk5 := hk4
                rcases hk5 with kk | kk | kk | kk
                · simp [h1, h3, h5, g0, g2, hlt, hlti, hi12i, hlim, wf, hmn, turn, eStepK, e16, w1, w2, w3, w4, e30, hside, e18, hpred, kk]
                  have hS := s111 nb (sideB nb l[i].frm) (within l[i].kind 1 7) (within l[i].tree 0 2) 0 (within l[i].client 0 4) (within l[i].seq 0 2) (mkPred l[i].has l[i].vals) hi ⟨by have := hz.near; omega, by have := hz.adv; omega, by have := hz.seen; omega, by have := hz.own; omega, by have := hz.ent; have := hz.own; have := Nat.mul_le_mul hi12 hi12; omega⟩ (mkPred_ok ..) (side_link ..) ⟨by have := hz.adv; omega, by have := hz.seen; omega⟩ hk4
                  rw [kk] at hS
                  have hte : tellB nb l[i] = (stepB nb (sideB nb l[i].frm) 1 ⟨within l[i].tree 0 2, 0⟩ ⟨within l[i].client 0 4, within l[i].seq 0 2⟩ (mkPred l[i].has l[i].vals)).1 := by simp [tellB, kk]
                  have hdr : (l.take 12).drop i = l[i] :: (l.take 12).drop (i + 1) := by
                    have : i < (l.take 12).length := by simp; omega
                    rw [List.drop_eq_getElem_cons this]; simp
                  rw [hdr, List.foldl_cons]
                  simp [e111, hS, hmn, g2, hlim, wf, h3, h5, turn, t29s1]
                  rw [wrap64 (by omega) (by omega)]
                  generalize hF : upd _ 5 _ = F
                  have hk := tell_keep hi hz l[i]
                  rw [← hte]
                  refine ih (i + 1) (tellB nb l[i]) F _ (by omega) hk.1 hk.2 (by omega) ?_ ?_ ?_ ?_ ?_ ?_ ?_ ?_ ?_ ?_
                  all_goals first
                    | (rw [← hF]; simp [h1, h2, h3]; done)
                    | (simp [hmn, g0, g1, g2, hlim, wf]; done)
                    | (simp [hmn] <;> omega)
                · simp [h1, h3, h5, g0, g2, hlt, hlti, hi12i, hlim, wf, hmn, turn, eStepK, e16, w1, w2, w3, w4, e30, hside, e18, hpred, kk]
                  have hS := s111 nb (sideB nb l[i].frm) (within l[i].kind 1 7) (within l[i].tree 0 2) 0 (within l[i].client 0 4) (within l[i].seq 0 2) (mkPred l[i].has l[i].vals) hi ⟨by have := hz.near; omega, by have := hz.adv; omega, by have := hz.seen; omega, by have := hz.own; omega, by have := hz.ent; have := hz.own; have := Nat.mul_le_mul hi12 hi12; omega⟩ (mkPred_ok ..) (side_link ..) ⟨by have := hz.adv; omega, by have := hz.seen; omega⟩ hk4
                  rw [kk] at hS
                  have hte : tellB nb l[i] = (stepB nb (sideB nb l[i].frm) 2 ⟨within l[i].tree 0 2, 0⟩ ⟨within l[i].client 0 4, within l[i].seq 0 2⟩ (mkPred l[i].has l[i].vals)).1 := by simp [tellB, kk]
                  have hdr : (l.take 12).drop i = l[i] :: (l.take 12).drop (i + 1) := by
                    have : i < (l.take 12).length := by simp; omega
                    rw [List.drop_eq_getElem_cons this]; simp
                  rw [hdr, List.foldl_cons]
                  simp [e111, hS, hmn, g2, hlim, wf, h3, h5, turn, t29s1]
                  rw [wrap64 (by omega) (by omega)]
                  generalize hF : upd _ 5 _ = F
                  have hk := tell_keep hi hz l[i]
                  rw [← hte]
                  refine ih (i + 1) (tellB nb l[i]) F _ (by omega) hk.1 hk.2 (by omega) ?_ ?_ ?_ ?_ ?_ ?_ ?_ ?_ ?_ ?_
                  all_goals first
                    | (rw [← hF]; simp [h1, h2, h3]; done)
                    | (simp [hmn, g0, g1, g2, hlim, wf]; done)
                    | (simp [hmn] <;> omega)
                · have kf : ¬ sideB nb l[i].frm = -1 := fun e => k3 ⟨kk, e⟩
                  simp [h1, h3, h5, g0, g2, hlt, hlti, hi12i, hlim, wf, hmn, turn, eStepK, e16, w1, w2, w3, w4, e30, hside, e18, hpred, kk, kf]
                  have hS := s111 nb (sideB nb l[i].frm) (within l[i].kind 1 7) (within l[i].tree 0 2) 0 (within l[i].client 0 4) (within l[i].seq 0 2) (mkPred l[i].has l[i].vals) hi ⟨by have := hz.near; omega, by have := hz.adv; omega, by have := hz.seen; omega, by have := hz.own; omega, by have := hz.ent; have := hz.own; have := Nat.mul_le_mul hi12 hi12; omega⟩ (mkPred_ok ..) (side_link ..) ⟨by have := hz.adv; omega, by have := hz.seen; omega⟩ hk4
                  rw [kk] at hS
                  have hte : tellB nb l[i] = (stepB nb (sideB nb l[i].frm) 3 ⟨within l[i].tree 0 2, 0⟩ ⟨within l[i].client 0 4, within l[i].seq 0 2⟩ (mkPred l[i].has l[i].vals)).1 := by simp [tellB, kk, kf]
                  have hdr : (l.take 12).drop i = l[i] :: (l.take 12).drop (i + 1) := by
                    have : i < (l.take 12).length := by simp; omega
                    rw [List.drop_eq_getElem_cons this]; simp
                  rw [hdr, List.foldl_cons]
                  simp [e111, hS, hmn, g2, hlim, wf, h3, h5, turn, t29s1]
                  rw [wrap64 (by omega) (by omega)]
                  generalize hF : upd _ 5 _ = F
                  have hk := tell_keep hi hz l[i]
                  rw [← hte]
                  refine ih (i + 1) (tellB nb l[i]) F _ (by omega) hk.1 hk.2 (by omega) ?_ ?_ ?_ ?_ ?_ ?_ ?_ ?_ ?_ ?_
                  all_goals first
                    | (rw [← hF]; simp [h1, h2, h3]; done)
                    | (simp [hmn, g0, g1, g2, hlim, wf]; done)
                    | (simp [hmn] <;> omega)
                · have kf : ¬ sideB nb l[i].frm = -1 := fun e => k4 ⟨kk, e⟩
                  simp [h1, h3, h5, g0, g2, hlt, hlti, hi12i, hlim, wf, hmn, turn, eStepK, e16, w1, w2, w3, w4, e30, hside, e18, hpred, kk, kf]
                  have hS := s111 nb (sideB nb l[i].frm) (within l[i].kind 1 7) (within l[i].tree 0 2) 0 (within l[i].client 0 4) (within l[i].seq 0 2) (mkPred l[i].has l[i].vals) hi ⟨by have := hz.near; omega, by have := hz.adv; omega, by have := hz.seen; omega, by have := hz.own; omega, by have := hz.ent; have := hz.own; have := Nat.mul_le_mul hi12 hi12; omega⟩ (mkPred_ok ..) (side_link ..) ⟨by have := hz.adv; omega, by have := hz.seen; omega⟩ hk4
                  rw [kk] at hS
                  have hte : tellB nb l[i] = (stepB nb (sideB nb l[i].frm) 4 ⟨within l[i].tree 0 2, 0⟩ ⟨within l[i].client 0 4, within l[i].seq 0 2⟩ (mkPred l[i].has l[i].vals)).1 := by simp [tellB, kk, kf]
                  have hdr : (l.take 12).drop i = l[i] :: (l.take 12).drop (i + 1) := by
                    have : i < (l.take 12).length := by simp; omega
                    rw [List.drop_eq_getElem_cons this]; simp
                  rw [hdr, List.foldl_cons]
                  simp [e111, hS, hmn, g2, hlim, wf, h3, h5, turn, t29s1]
                  rw [wrap64 (by omega) (by omega)]
                  generalize hF : upd _ 5 _ = F
                  have hk := tell_keep hi hz l[i]
                  rw [← hte]
                  refine ih (i + 1) (tellB nb l[i]) F _ (by omega) hk.1 hk.2 (by omega) ?_ ?_ ?_ ?_ ?_ ?_ ?_ ?_ ?_ ?_
                  all_goals first
                    | (rw [← hF]; simp [h1, h2, h3]; done)
                    | (simp [hmn, g0, g1, g2, hlim, wf]; done)
                    | (simp [hmn] <;> omega)
    · have hlti : ¬ (i : Int) < l.length := by omega
      have he : (l.take 12).drop i = [] := List.drop_eq_nil_of_le (by simp; omega)
      have l1 : 1 < h.n := by omega
      rw [run_loop_of t29l1.eq_1, he]
      simp only [zB] at g1
      simp [t29k0, h1, h2, h3, h5, g0, g1, g2, hlt, hlti, hlim, l1, wf, turn]
end Go.Dm.Tc
/-
The broker that numbers make: its neighbours, and the first that it is told.
-/
namespace Go.Dm.Tc
theorem fr_near {lo : Nat} {h : Heap} {i ety : Nat} {os : List Int} {n : Nat} (o : OwnI lo h i ety 1 (os.map cInt)) (hn : n = os.length) : freeze h (.sl i 1 0 n) = some (eL false 1 cInt os, h.set i .dead) := by
 subst hn
 obtain ⟨⟨sp, cap, hg⟩, hl, _⟩ := o
 have hb : (List.take os.length (List.map cInt os ++ sp)).all (below 200 0) = true := by
  rw [List.take_left' (by simp), List.all_eq_true]
  intro x hx
  obtain ⟨y, _, rfl⟩ := List.mem_map.1 hx
  rfl
 simp only [freeze, hg, hl, List.drop_zero, hb, List.length_append, List.length_map, Nat.zero_add, Nat.le_add_right, and_self, if_true]
 rw [List.take_left' (by simp)]
 cases os <;> rfl
theorem res_near {t : Bool} {ety K : Nat} (H : Heap) (sp : List DV) (cap : Option Nat) : resSlO t H 198 1 0 K (some (.arr ety 1 ((nearK K).map cInt ++ sp) cap)) = some (eL t 1 cInt (nearK K)) := by
 have hl : (nearK K).length = K := by simp [nearK]
 rw [resSlO_some, if_pos ⟨rfl, by simp [hl]⟩, List.drop_zero, List.take_left' (by simp [hl])]
 have : resL t H 198 ((nearK K).map cInt) = some ((nearK K).map cInt) := mapM_self fun x hx => by
  obtain ⟨y, _, rfl⟩ := List.mem_map.1 hx
  exact plain_int.1 y t H 198 (by decide)
 rw [this]
 rfl
theorem nearK_len (n : Nat) : (nearK n).length = n := by simp [nearK]
set_option maxRecDepth 8000 in
set_option maxHeartbeats 4000000 in
theorem n29 (t : Bool) (near : Int) (l : List StepK) (hh : ∀ q ∈ l, q.has.length ≤ 9223372036854775807) (tx tb tn : Nat)
    (K : Nat) (hK : K ≤ 4) (iw : Nat) (f : FEnv) (h : Heap)
    (h1 : f 1 = .ptr 0 2 0 0) (h2 : f 2 = .ptr 1 6 0 0) (h3 : f 3 = .ptr 2 6 0 0) (h5 : f 5 = .int .i64 0)
    (g0 : h.get 0 = some (.arr tx 2 [.agg [.int .i64 near, eL t 7 eStepK l]] (some 1))) (g1 : h.get 1 = some (.arr tb 6 [zB] (some 1))) (g2 : h.get 2 = some (.arr tn 6 [.agg [.int .i64 0, .sl iw 1 0 K, .nsl, .nsl, .nsl, .nsl]] (some 1)))
    (ho : OwnI 3 h iw 3 1 ((nearK K).map cInt)) (hlim : h.lim = 0) (hn3 : 3 ≤ h.n) (wf : WF h) :
    pcOut (fin [.cell 2 (some 6)] (run D 124 [.block 2, .seq t29k0] (.loop t29l1) f h)) = some (eBroker .none ((l.take 12).foldl tellB (startK K))) := by
  obtain ⟨hi, hz⟩ := start_keep K hK
  have hil := ho.lt
  have hi3 := ho.lo
  have l1 : 1 < h.n := by omega
  by_cases hlt : 0 < l.length
  · have hlti : (0 : Int) < l.length := by omega
    have hz' : Sized (startK K) := hz.sized (by omega)
    have hside := s30 ⟨true, false, false, false, false⟩ (startK K) l[0].frm hz'
    have hpred := s18 false false l[0].has l[0].vals (hh _ (List.getElem_mem hlt))
    have w1 := s16 l[0].tree 0 2 (by decide) (by decide) (by decide)
    have w2 := s16 l[0].client 0 4 (by decide) (by decide) (by decide)
    have w3 := s16 l[0].seq 0 2 (by decide) (by decide) (by decide)
    have w4 := s16 l[0].kind 1 7 (by decide) (by decide) (by decide)
    obtain ⟨m, hmn⟩ : ∃ m, h.n = m + 3 := ⟨h.n - 3, by omega⟩
    have m0 : ¬ iw = 0 := by omega
    have m1 : ¬ iw = 1 := by omega
    have m2 : ¬ iw = 2 := by omega
    have m0' : ¬ 0 = iw := by omega
    have m1' : ¬ 1 = iw := by omega
    have m2' : ¬ 2 = iw := by omega
    have m3 : ¬ iw = m + 3 := by omega
    have m4 : ¬ iw = m + 3 + 1 := by omega
    have m5 : ¬ iw = m + 3 + 1 + 1 := by omega
    have m6 : ¬ iw = m + 3 + 1 + 1 + 1 := by omega
    have j3 : iw < m + 3 := by omega
    have j4 : iw < m + 3 + 1 := by omega
    have j5 : iw < m + 3 + 1 + 1 := by omega
    have j6 : iw < m + 3 + 1 + 1 + 1 := by omega
    have hfr : ∀ o1 o2 o3 o4, freeze ((((h.push o1).push o2).push o3).push o4) (.sl iw 1 0 K) = some (eL false 1 cInt (nearK K), ((((h.push o1).push o2).push o3).push o4).set iw .dead) := fun o1 o2 o3 o4 => fr_near ho.push.push.push.push (nearK_len K).symm
    obtain ⟨sp, cap, hg⟩ := ho.get
    have hr1 : ∀ H, resSlO true H 198 1 0 K (some (.arr 3 1 ((nearK K).map cInt ++ sp) cap)) = some (eL true 1 cInt (nearK K)) := fun H => res_near H sp cap
    have hbb : DV.agg [.int .i64 0, eL false 1 cInt (nearK K), .isl false 0 [], .isl false 0 [], .isl false 0 [], .isl false 0 []] = eBroker .none (startK K) := rfl
    have hbt : DV.agg [.int .i64 0, eL true 1 cInt (nearK K), .isl false 0 [], .isl false 0 [], .isl false 0 [], .isl false 0 []] = eBroker ⟨true, false, false, false, false⟩ (startK K) := rfl
    have hfold : (l.take 12).foldl tellB (startK K) = ((l.take 12).drop 1).foldl tellB (tellB (startK K) l[0]) := by cases l with
      | nil => simp at hlt
      | cons a l => simp
    have hi12 : 0 ≤ 12 := by decide
    obtain ⟨R, hR⟩ : ∃ R, R = eBroker .none (((l.take 12).drop 1).foldl tellB (tellB (startK K) l[0])) := ⟨_, rfl⟩
    rw [hfold, ← hR, run_loop_of t29l1.eq_1]
    by_cases k6 : within l[0].kind 1 7 = 6
    · simp [h1, h3, h5, g0, g2, hlt, hlti, hlim, wf, hmn, turn, eStepK, e16, w1, w2, w3, w4, e30, hr1, -resSlO_some, hg, j3, j4, j5, j6, m0, m1, m2, m0', m1', m2', m3, m4, m5, m6, hbt, hside, e18, hpred, k6]
      have hS := s46 (startK K) (within l[0].client 0 4) (within l[0].seq 0 2) (mkPred l[0].has l[0].vals) hi ⟨by have := hz.near; omega, by have := hz.adv; omega, by have := hz.seen; omega, by have := hz.own; omega, by have := hz.ent; have := hz.adv; have := Nat.mul_le_mul hi12 hi12; omega⟩ (mkPred_ok ..) (by have := hz.own; omega)
      have hte : tellB (startK K) l[0] = (subscribeB (startK K) ⟨within l[0].client 0 4, within l[0].seq 0 2⟩ (mkPred l[0].has l[0].vals)).1 := by simp [tellB, k6]
      simp [e46, hS, hmn, g2, hlim, wf, h3, h5, turn, hfr, hbb, j3, j4, j5, j6, m0, m1, m2, m0', m1', m2', m3, m4, m5, m6, t29s1]
      rw [hR]
      generalize hF : upd _ 5 _ = F
      have hk := tell_keep hi hz l[0]
      rw [← hte]
      refine l29 t near l hh tx tb tn 11 1 (tellB (startK K) l[0]) F _ (by decide) hk.1 hk.2 (by decide) ?_ ?_ ?_ ?_ ?_ ?_ ?_ ?_ ?_ ?_
      all_goals first
        | (rw [← hF]; simp [h1, h2, h3]; done)
        | (simp [hmn, g0, g1, g2, hlim, wf, j3, j4, j5, j6, m0, m1, m2, m0', m1', m2', m3, m4, m5, m6]; done)
        | (simp [hmn, m0, m1, m2, m0', m1', m2', m3, m4, m5, m6] <;> omega)
    · by_cases k7 : within l[0].kind 1 7 = 7
      · simp [h1, h3, h5, g0, g2, hlt, hlti, hlim, wf, hmn, turn, eStepK, e16, w1, w2, w3, w4, e30, hr1, -resSlO_some, hg, j3, j4, j5, j6, m0, m1, m2, m0', m1', m2', m3, m4, m5, m6, hbt, hside, e18, hpred, k7]
        have hS := s61 (startK K) (within l[0].client 0 4) (within l[0].seq 0 2) hi ⟨by have := hz.near; omega, by have := hz.adv; omega, by have := hz.seen; omega, by have := hz.own; omega, by have := hz.ent; have := Nat.mul_le_mul hi12 hi12; omega⟩ (by have := hz.adv; omega)
        have hte : tellB (startK K) l[0] = (unsubscribeB (startK K) ⟨within l[0].client 0 4, within l[0].seq 0 2⟩).1 := by simp [tellB, k7]
        simp [e61, hS, hmn, g2, hlim, wf, h3, h5, turn, hfr, hbb, j3, j4, j5, j6, m0, m1, m2, m0', m1', m2', m3, m4, m5, m6, t29s1]
        rw [hR]
        generalize hF : upd _ 5 _ = F
        have hk := tell_keep hi hz l[0]
        rw [← hte]
        refine l29 t near l hh tx tb tn 11 1 (tellB (startK K) l[0]) F _ (by decide) hk.1 hk.2 (by decide) ?_ ?_ ?_ ?_ ?_ ?_ ?_ ?_ ?_ ?_
        all_goals first
          | (rw [← hF]; simp [h1, h2, h3]; done)
          | (simp [hmn, g0, g1, g2, hlim, wf, j3, j4, j5, j6, m0, m1, m2, m0', m1', m2', m3, m4, m5, m6]; done)
          | (simp [hmn, m0, m1, m2, m0', m1', m2', m3, m4, m5, m6] <;> omega)
      · by_cases k5 : within l[0].kind 1 7 = 5
        · simp [h1, h3, h5, g0, g2, hlt, hlti, hlim, wf, hmn, turn, eStepK, e16, w1, w2, w3, w4, e30, hr1, -resSlO_some, hg, j3, j4, j5, j6, m0, m1, m2, m0', m1', m2', m3, m4, m5, m6, hbt, hside, e18, hpred, k5]
          have hS := s59 (startK K) (within l[0].tree 0 2) 0 (sideB (startK K) l[0].frm) (mkPred l[0].has l[0].vals) hi ⟨by have := hz.near; omega, by have := hz.adv; omega, by have := hz.seen; omega, by have := hz.own; omega, by have := hz.ent; have := hz.own; have := Nat.mul_le_mul hi12 hi12; omega⟩ (mkPred_ok ..) (side_link ..) ⟨by have := hz.adv; omega, by have := hz.seen; omega⟩
          have hte : tellB (startK K) l[0] = (advertiseB (startK K) (sideB (startK K) l[0].frm) ⟨within l[0].tree 0 2, 0⟩ (mkPred l[0].has l[0].vals)).1 := by simp [tellB, k5]
          simp [e59, hS, hmn, g2, hlim, wf, h3, h5, turn, hfr, hbb, j3, j4, j5, j6, m0, m1, m2, m0', m1', m2', m3, m4, m5, m6, t29s1]
          rw [hR]
          generalize hF : upd _ 5 _ = F
          have hk := tell_keep hi hz l[0]
          rw [← hte]
          refine l29 t near l hh tx tb tn 11 1 (tellB (startK K) l[0]) F _ (by decide) hk.1 hk.2 (by decide) ?_ ?_ ?_ ?_ ?_ ?_ ?_ ?_ ?_ ?_
          all_goals first
            | (rw [← hF]; simp [h1, h2, h3]; done)
            | (simp [hmn, g0, g1, g2, hlim, wf, j3, j4, j5, j6, m0, m1, m2, m0', m1', m2', m3, m4, m5, m6]; done)
            | (simp [hmn, m0, m1, m2, m0', m1', m2', m3, m4, m5, m6] <;> omega)
        · by_cases k3 : within l[0].kind 1 7 = 3 ∧ sideB (startK K) l[0].frm = -1
          · simp [h1, h3, h5, g0, g2, hlt, hlti, hlim, wf, hmn, turn, eStepK, e16, w1, w2, w3, w4, e30, hr1, -resSlO_some, hg, j3, j4, j5, j6, m0, m1, m2, m0', m1', m2', m3, m4, m5, m6, hbt, hside, e18, hpred, k3.1, k3.2]
            have hS := s59 (startK K) (within l[0].tree 0 2) 0 (sideB (startK K) l[0].frm) (mkPred l[0].has l[0].vals) hi ⟨by have := hz.near; omega, by have := hz.adv; omega, by have := hz.seen; omega, by have := hz.own; omega, by have := hz.ent; have := hz.own; have := Nat.mul_le_mul hi12 hi12; omega⟩ (mkPred_ok ..) (side_link ..) ⟨by have := hz.adv; omega, by have := hz.seen; omega⟩
            have hS2 := hS
            rw [k3.2] at hS2
            have hte : tellB (startK K) l[0] = (advertiseB (startK K) (sideB (startK K) l[0].frm) ⟨within l[0].tree 0 2, 0⟩ (mkPred l[0].has l[0].vals)).1 := by simp [tellB, k3.1, k3.2]
            simp [e59, hS2, hmn, g2, hlim, wf, h3, h5, turn, hfr, hbb, j3, j4, j5, j6, m0, m1, m2, m0', m1', m2', m3, m4, m5, m6, t29s1]
            rw [hR]
            generalize hF : upd _ 5 _ = F
            have hk := tell_keep hi hz l[0]
            rw [k3.2] at hte
            rw [← hte]
            refine l29 t near l hh tx tb tn 11 1 (tellB (startK K) l[0]) F _ (by decide) hk.1 hk.2 (by decide) ?_ ?_ ?_ ?_ ?_ ?_ ?_ ?_ ?_ ?_
            all_goals first
              | (rw [← hF]; simp [h1, h2, h3]; done)
              | (simp [hmn, g0, g1, g2, hlim, wf, j3, j4, j5, j6, m0, m1, m2, m0', m1', m2', m3, m4, m5, m6]; done)
              | (simp [hmn, m0, m1, m2, m0', m1', m2', m3, m4, m5, m6] <;> omega)
          · by_cases k4 : within l[0].kind 1 7 = 4 ∧ sideB (startK K) l[0].frm = -1
            · simp [h1, h3, h5, g0, g2, hlt, hlti, hlim, wf, hmn, turn, eStepK, e16, w1, w2, w3, w4, e30, hr1, -resSlO_some, hg, j3, j4, j5, j6, m0, m1, m2, m0', m1', m2', m3, m4, m5, m6, hbt, hside, e18, hpred, k4.1, k4.2]
              have hS := s59 (startK K) (within l[0].tree 0 2) 0 (sideB (startK K) l[0].frm) (mkPred l[0].has l[0].vals) hi ⟨by have := hz.near; omega, by have := hz.adv; omega, by have := hz.seen; omega, by have := hz.own; omega, by have := hz.ent; have := hz.own; have := Nat.mul_le_mul hi12 hi12; omega⟩ (mkPred_ok ..) (side_link ..) ⟨by have := hz.adv; omega, by have := hz.seen; omega⟩
              have hS2 := hS
              rw [k4.2] at hS2
              have hte : tellB (startK K) l[0] = (advertiseB (startK K) (sideB (startK K) l[0].frm) ⟨within l[0].tree 0 2, 0⟩ (mkPred l[0].has l[0].vals)).1 := by simp [tellB, k4.1, k4.2]
              simp [e59, hS2, hmn, g2, hlim, wf, h3, h5, turn, hfr, hbb, j3, j4, j5, j6, m0, m1, m2, m0', m1', m2', m3, m4, m5, m6, t29s1]
              rw [hR]
              generalize hF : upd _ 5 _ = F
              have hk := tell_keep hi hz l[0]
              rw [k4.2] at hte
              rw [← hte]
              refine l29 t near l hh tx tb tn 11 1 (tellB (startK K) l[0]) F _ (by decide) hk.1 hk.2 (by decide) ?_ ?_ ?_ ?_ ?_ ?_ ?_ ?_ ?_ ?_
              all_goals first
                | (rw [← hF]; simp [h1, h2, h3]; done)
                | (simp [hmn, g0, g1, g2, hlim, wf, j3, j4, j5, j6, m0, m1, m2, m0', m1', m2', m3, m4, m5, m6]; done)
                | (simp [hmn, m0, m1, m2, m0', m1', m2', m3, m4, m5, m6] <;> omega)
            · have hk4 : within l[0].kind 1 7 = 1 ∨ within l[0].kind 1 7 = 2 ∨ within l[0].kind 1 7 = 3 ∨ within l[0].kind 1 7 = 4 := by have := within_bounds l[0].kind (lo := 1) (hi := 7) (by decide); omega
              have hk5 := hk4
              rcases hk5 with kk | kk | kk | kk
              · simp [h1, h3, h5, g0, g2, hlt, hlti, hlim, wf, hmn, turn, eStepK, e16, w1, w2, w3, w4, e30, hr1, -resSlO_some, hg, j3, j4, j5, j6, m0, m1, m2, m0', m1', m2', m3, m4, m5, m6, hbt, hside, e18, hpred, kk]
                have hS := s111 (startK K) (sideB (startK K) l[0].frm) (within l[0].kind 1 7) (within l[0].tree 0 2) 0 (within l[0].client 0 4) (within l[0].seq 0 2) (mkPred l[0].has l[0].vals) hi ⟨by have := hz.near; omega, by have := hz.adv; omega, by have := hz.seen; omega, by have := hz.own; omega, by have := hz.ent; have := hz.own; have := Nat.mul_le_mul hi12 hi12; omega⟩ (mkPred_ok ..) (side_link ..) ⟨by have := hz.adv; omega, by have := hz.seen; omega⟩ hk4
                rw [kk] at hS
                have hte : tellB (startK K) l[0] = (stepB (startK K) (sideB (startK K) l[0].frm) 1 ⟨within l[0].tree 0 2, 0⟩ ⟨within l[0].client 0 4, within l[0].seq 0 2⟩ (mkPred l[0].has l[0].vals)).1 := by simp [tellB, kk]
                simp [e111, hS, hmn, g2, hlim, wf, h3, h5, turn, hfr, hbb, j3, j4, j5, j6, m0, m1, m2, m0', m1', m2', m3, m4, m5, m6, t29s1]
                rw [hR]
                generalize hF : upd _ 5 _ = F
                have hk := tell_keep hi hz l[0]
                rw [← hte]
                refine l29 t near l hh tx tb tn 11 1 (tellB (startK K) l[0]) F _ (by decide) hk.1 hk.2 (by decide) ?_ ?_ ?_ ?_ ?_ ?_ ?_ ?_ ?_ ?_
                all_goals first
                  | (rw [← hF]; simp [h1, h2, h3]; done)
                  | (simp [hmn, g0, g1, g2, hlim, wf, j3, j4, j5, j6, m0, m1, m2, m0', m1', m2', m3, m4, m5, m6]; done)
                  | (simp [hmn, m0, m1, m2, m0', m1', m2', m3, m4, m5, m6] <;> omega)
              · simp [h1, h3, h5, g0, g2, hlt, hlti, hlim, wf, hmn, turn, eStepK, e16, w1, w2, w3, w4, e30, hr1, -resSlO_some, hg, j3, j4, j5, j6, m0, m1, m2, m0', m1', m2', m3, m4, m5, m6, hbt, hside, e18, hpred, kk]
                have hS := s111 (startK K) (sideB (startK K) l[0].frm) (within l[0].kind 1 7) (within l[0].tree 0 2) 0 (within l[0].client 0 4) (within l[0].seq 0 2) (mkPred l[0].has l[0].vals) hi ⟨by have := hz.near; omega, by have := hz.adv; omega, by have := hz.seen; omega, by have := hz.own; omega, by have := hz.ent; have := hz.own; have := Nat.mul_le_mul hi12 hi12; omega⟩ (mkPred_ok ..) (side_link ..) ⟨by have := hz.adv; omega, by have := hz.seen; omega⟩ hk4
                rw [kk] at hS
                have hte : tellB (startK K) l[0] = (stepB (startK K) (sideB (startK K) l[0].frm) 2 ⟨within l[0].tree 0 2, 0⟩ ⟨within l[0].client 0 4, within l[0].seq 0 2⟩ (mkPred l[0].has l[0].vals)).1 := by simp [tellB, kk]
                simp [e111, hS, hmn, g2, hlim, wf, h3, h5, turn, hfr, hbb, j3, j4, j5, j6, m0, m1, m2, m0', m1', m2', m3, m4, m5, m6, t29s1]
                rw [hR]
                generalize hF : upd _ 5 _ = F
                have hk := tell_keep hi hz l[0]
                rw [← hte]
                refine l29 t near l hh tx tb tn 11 1 (tellB (startK K) l[0]) F _ (by decide) hk.1 hk.2 (by decide) ?_ ?_ ?_ ?_ ?_ ?_ ?_ ?_ ?_ ?_
                all_goals first
                  | (rw [← hF]; simp [h1, h2, h3]; done)
                  | (simp [hmn, g0, g1, g2, hlim, wf, j3, j4, j5, j6, m0, m1, m2, m0', m1', m2', m3, m4, m5, m6]; done)
                  | (simp [hmn, m0, m1, m2, m0', m1', m2', m3, m4, m5, m6] <;> omega)
              · have kf : ¬ sideB (startK K) l[0].frm = -1 := fun e => k3 ⟨kk, e⟩
                simp [h1, h3, h5, g0, g2, hlt, hlti, hlim, wf, hmn, turn, eStepK, e16, w1, w2, w3, w4, e30, hr1, -resSlO_some, hg, j3, j4, j5, j6, m0, m1, m2, m0', m1', m2', m3, m4, m5, m6, hbt, hside, e18, hpred, kk, kf]
                have hS := s111 (startK K) (sideB (startK K) l[0].frm) (within l[0].kind 1 7) (within l[0].tree 0 2) 0 (within l[0].client 0 4) (within l[0].seq 0 2) (mkPred l[0].has l[0].vals) hi ⟨by have := hz.near; omega, by have := hz.adv; omega, by have := hz.seen; omega, by have := hz.own; omega, by have := hz.ent; have := hz.own; have := Nat.mul_le_mul hi12 hi12; omega⟩ (mkPred_ok ..) (side_link ..) ⟨by have := hz.adv; omega, by have := hz.seen; omega⟩ hk4
                rw [kk] at hS
                have hte : tellB (startK K) l[0] = (stepB (startK K) (sideB (startK K) l[0].frm) 3 ⟨within l[0].tree 0 2, 0⟩ ⟨within l[0].client 0 4, within l[0].seq 0 2⟩ (mkPred l[0].has l[0].vals)).1 := by simp [tellB, kk, kf]
                simp [e111, hS, hmn, g2, hlim, wf, h3, h5, turn, hfr, hbb, j3, j4, j5, j6, m0, m1, m2, m0', m1', m2', m3, m4, m5, m6, t29s1]
                rw [hR]
                generalize hF : upd _ 5 _ = F
                have hk := tell_keep hi hz l[0]
                rw [← hte]
                refine l29 t near l hh tx tb tn 11 1 (tellB (startK K) l[0]) F _ (by decide) hk.1 hk.2 (by decide) ?_ ?_ ?_ ?_ ?_ ?_ ?_ ?_ ?_ ?_
                all_goals first
                  | (rw [← hF]; simp [h1, h2, h3]; done)
                  | (simp [hmn, g0, g1, g2, hlim, wf, j3, j4, j5, j6, m0, m1, m2, m0', m1', m2', m3, m4, m5, m6]; done)
                  | (simp [hmn, m0, m1, m2, m0', m1', m2', m3, m4, m5, m6] <;> omega)
              · have kf : ¬ sideB (startK K) l[0].frm = -1 := fun e => k4 ⟨kk, e⟩
                simp [h1, h3, h5, g0, g2, hlt, hlti, hlim, wf, hmn, turn, eStepK, e16, w1, w2, w3, w4, e30, hr1, -resSlO_some, hg, j3, j4, j5, j6, m0, m1, m2, m0', m1', m2', m3, m4, m5, m6, hbt, hside, e18, hpred, kk, kf]
                have hS := s111 (startK K) (sideB (startK K) l[0].frm) (within l[0].kind 1 7) (within l[0].tree 0 2) 0 (within l[0].client 0 4) (within l[0].seq 0 2) (mkPred l[0].has l[0].vals) hi ⟨by have := hz.near; omega, by have := hz.adv; omega, by have := hz.seen; omega, by have := hz.own; omega, by have := hz.ent; have := hz.own; have := Nat.mul_le_mul hi12 hi12; omega⟩ (mkPred_ok ..) (side_link ..) ⟨by have := hz.adv; omega, by have := hz.seen; omega⟩ hk4
                rw [kk] at hS
                have hte : tellB (startK K) l[0] = (stepB (startK K) (sideB (startK K) l[0].frm) 4 ⟨within l[0].tree 0 2, 0⟩ ⟨within l[0].client 0 4, within l[0].seq 0 2⟩ (mkPred l[0].has l[0].vals)).1 := by simp [tellB, kk, kf]
                simp [e111, hS, hmn, g2, hlim, wf, h3, h5, turn, hfr, hbb, j3, j4, j5, j6, m0, m1, m2, m0', m1', m2', m3, m4, m5, m6, t29s1]
                rw [hR]
                generalize hF : upd _ 5 _ = F
                have hk := tell_keep hi hz l[0]
                rw [← hte]
                refine l29 t near l hh tx tb tn 11 1 (tellB (startK K) l[0]) F _ (by decide) hk.1 hk.2 (by decide) ?_ ?_ ?_ ?_ ?_ ?_ ?_ ?_ ?_ ?_
                all_goals first
                  | (rw [← hF]; simp [h1, h2, h3]; done)
                  | (simp [hmn, g0, g1, g2, hlim, wf, j3, j4, j5, j6, m0, m1, m2, m0', m1', m2', m3, m4, m5, m6]; done)
                  | (simp [hmn, m0, m1, m2, m0', m1', m2', m3, m4, m5, m6] <;> omega)
  · have hl0 : l = [] := by cases l <;> simp_all
    subst hl0
    obtain ⟨sp, cap, hg⟩ := ho.get
    have hr1 : ∀ H, resSlO false H 198 1 0 K (some (.arr 3 1 ((nearK K).map cInt ++ sp) cap)) = some (eL false 1 cInt (nearK K)) := fun H => res_near H sp cap
    have hbb : DV.agg [.int .i64 0, eL false 1 cInt (nearK K), .isl false 0 [], .isl false 0 [], .isl false 0 [], .isl false 0 []] = eBroker .none (startK K) := rfl
    have k1 : ¬ iw = 1 := by omega
    have k2 : ¬ iw = 2 := by omega
    have l2 : 2 < h.n := by omega
    rw [run_loop_of t29l1.eq_1]
    simp only [zB] at g1
    simp [t29k0, h1, h2, h3, h5, g0, g1, g2, hlim, l1, l2, wf, turn, hr1, -resSlO_some, hg, k1, k2, hbb]
theorem nearK_succ (i : Nat) : (nearK (i + 1)).map cInt = (nearK i).map cInt ++ [.int .i64 ((i : Int) + 1)] := by
 simp [nearK, List.range_succ, cInt]
set_option maxRecDepth 8000 in
theorem r29 (t : Bool) (near : Int) (l : List StepK) (hh : ∀ q ∈ l, q.has.length ≤ 9223372036854775807) (tx tb tn : Nat) (K : Nat) (hK1 : 1 ≤ K) (hK : K ≤ 4) :
    ∀ (n i : Nat) (v : DV) (f : FEnv) (h : Heap), K - i = n → i ≤ K → f 1 = .ptr 0 2 0 0 → f 2 = .ptr 1 6 0 0 → f 3 = .ptr 2 6 0 0 → f 14 = .int .i64 K → f 15 = .int .i64 i →
    h.get 0 = some (.arr tx 2 [.agg [.int .i64 near, eL t 7 eStepK l]] (some 1)) → h.get 1 = some (.arr tb 6 [zB] (some 1)) → h.get 2 = some (.arr tn 6 [.agg [.int .i64 0, v, .nsl, .nsl, .nsl, .nsl]] (some 1)) →
    OwnR 3 h v 3 1 ((nearK i).map cInt) → h.lim = 0 → 3 ≤ h.n → WF h →
    pcOut (fin [.cell 2 (some 6)] (run D 124 [.block 0, .seq t29k1] (.loop t29l0) f h)) = some (eBroker .none ((l.take 12).foldl tellB (startK K))) := by
  intro n
  induction n with
  | zero =>
    intro i v f h hn hi h1 h2 h3 h14 h15 g0 g1 g2 ho hlim hn3 wf
    have : i = K := by omega
    subst this
    rw [run_loop_of t29l0.eq_1]
    simp [h14, h15, t29k1]
    cases ho with
    | nil hv hx => exact absurd hx (by rw [List.map_eq_nil_iff]; intro e; have := nearK_len i; rw [e] at this; simp at this; omega)
    | arr iw sp cap hv hg hl1 hl2 =>
      rw [hv] at g2
      rw [List.length_map, nearK_len] at g2
      refine n29 t near l hh tx tb tn i hK iw _ _ ?_ ?_ ?_ ?_ g0 g1 g2 ⟨⟨sp, cap, hg⟩, hl1, hl2⟩ hlim hn3 wf
      all_goals simp [h1, h2, h3]
  | succ n ih =>
    intro i v f h hn hi h1 h2 h3 h14 h15 g0 g1 g2 ho hlim hn3 wf
    have hlt : i < K := by omega
    have hlti : (i : Int) < K := by omega
    obtain ⟨m, hmn⟩ : ∃ m, h.n = m + 3 := ⟨h.n - 3, by omega⟩
    rw [run_loop_of t29l0.eq_1]
    simp [h3, h14, h15, hlt, hlti, g2, hmn, hlim, wf, turn, t29s0]
    rw [wrap64 (by omega) (by omega)]
    generalize hA : appendD _ _ _ _ _ _ = A
    obtain ⟨v', H, rfl, p', x', _⟩ := OwnR.append (lo := 3) ho.push (by simp [wf]) (by simp [hmn]) (by simp [hlim]) hA (by simp [nearK_len]; omega) (by decide)
    rw [← nearK_succ] at p'
    clear hA
    have a0 := x'.get 0 (by decide)
    have a1 := x'.get 1 (by decide)
    have a2 := x'.get 2 (by decide)
    have al := x'.lim
    have aw := x'.wf
    have an := x'.le
    have l2 : 2 < H.n := by omega
    simp [hmn, g0, g1, g2, hlim] at a0 a1 a2 al
    obtain ⟨m', hm'⟩ : ∃ m', H.n = m' + 3 := ⟨H.n - 3, by omega⟩
    have hst : storable 1 v' = true ∧ ecells 1 v' = [v'] := ⟨p'.storable, by cases p' with
      | nil hv _ => rw [hv]; rfl
      | arr _ _ _ hv _ _ _ => rw [hv]; rfl⟩
    simp [h3, h15, a2, al, aw, hm', turn, hst.1, hst.2]
    rw [wrap64 (by omega) (by omega)]
    generalize hF : upd _ 15 _ = F
    refine ih (i + 1) v' F _ (by omega) (by omega) ?_ ?_ ?_ ?_ ?_ ?_ ?_ ?_ (p'.setLow aw (by decide) l2) ?_ ?_ ?_
    all_goals first
      | (rw [← hF]; simp [h1, h2, h3, h14]; done)
      | (simp [hm', a0, a1, a2, al, aw]; done)
      | (simp [hm'] <;> omega)
set_option maxRecDepth 8000 in
theorem s29 (t : Bool) (near : Int) (l : List StepK) (hh : ∀ q ∈ l, q.has.length ≤ 9223372036854775807) :
  pcF D t29 [.agg [.int .i64 near, eL t 7 eStepK l]] = some (eBroker .none (brokerK near l)) := by
 have hw := s16 near 1 4 (by decide) (by decide) (by decide)
 have hb := within_bounds near (lo := 1) (hi := 4) (by decide)
 unfold brokerK
 generalize within near 1 4 = w at *
 obtain ⟨K, rfl⟩ : ∃ K : Nat, w = K := ⟨w.toNat, by omega⟩
 rw [Int.toNat_natCast]
 unfold pcF
 rw [goRun_eq _ _ _ _ (by simp [t29])]
 simp [t29, e16, hw]
 refine r29 t near l hh 55 29 29 K (by omega) (by omega) K 0 .nsl _ _ (by omega) (by omega) ?_ ?_ ?_ ?_ ?_ ?_ ?_ ?_ (.nil rfl rfl) ?_ ?_ ?_
 all_goals simp [zB]
end Go.Dm.Tc
/-
The broker that numbers make: how far its numbers go.
-/
namespace Go.Dm.Tc
structure LowK (b : Broker) : Prop where
 near : ∀ x ∈ b.near, 1 ≤ x ∧ x ≤ 4
 seen : ∀ x ∈ b.seen, x.client ≤ 4
 own : ∀ o ∈ b.owns, o.id.client ≤ 4
 ent : ∀ e ∈ b.entries, e.sub.client ≤ 4
theorem LowK.learn {b : Broker} (h : LowK b) {a : Advert} (ha : a.id.client ≤ 4) : LowK (learnB b a).1 := by
 unfold learnB
 split
 ·exact h
 ·refine ⟨h.near, fun x hx => ?_, h.own, h.ent⟩
  have hx := (ins_mem (fun x : ID => x) a.id b.seen x).1 hx
  rcases hx with rfl | hx
  ·exact ha
  ·exact h.seen x hx
theorem LowK.forget {b : Broker} (h : LowK b) (x : ID) (q : Int) : LowK (forgetB b x q).1 := by
 unfold forgetB
 split
 ·exact h
 ·split
  ·exact ⟨h.near, h.seen, h.own, fun e he => h.ent e (mem_without.1 he).1⟩
  ·exact h
theorem LowK.add {b : Broker} (h : LowK b) {e : Entry} (he : e.sub.client ≤ 4) : LowK (addB b e).1 := by
 unfold addB
 split
 ·refine ⟨h.near, h.seen, h.own, fun x hx => ?_⟩
  rcases insE_mem.1 hx with rfl | hx
  ·exact he
  ·exact h.ent x hx
 ·exact h
theorem LowK.take {b : Broker} (h : LowK b) (hi : InvK b) (t s : ID) (q : Int) : LowK (takeB b t s q).1 := by
 rcases take_cases hi t s q with ⟨e, _⟩ | ⟨e, _, _, _, _, ht⟩ | ⟨e, _, _, _, _, r', u', ht, hr, _⟩
 ·rw [e]; exact h
 ·rw [ht]
  exact ⟨h.near, h.seen, h.own, fun x hx => h.ent x (List.mem_filter.1 hx).1⟩
 ·rw [ht]
  refine ⟨h.near, h.seen, h.own, fun x hx => ?_⟩
  rcases hr.mem hx with hx | ⟨y, hy, _, _, rfl⟩
  ·exact h.ent x (List.mem_filter.1 hx).1
  ·exact h.ent y (List.mem_filter.1 hy).1
theorem low_adv (frm : Int) (x : ID) (p : Pred) : ∀ (l : List OwnS) (st : Broker × List OutS), LowK st.1 → (∀ o ∈ l, o.id.client ≤ 4) → LowK (l.foldl (advStep frm x p) st).1
 | [], _, h, _ => h
 | o :: r, st, h, hp => by
  have h1 : LowK (advStep frm x p st o).1 := by
   unfold advStep
   split
   ·exact h.add (hp o (List.mem_cons_self ..))
   ·exact h
  exact low_adv frm x p r _ h1 fun o ho => hp o (List.mem_cons_of_mem _ ho)
theorem low_sub (x : ID) (p : Pred) (hx : x.client ≤ 4) : ∀ (l : List Advert) (st : Broker × List OutS), LowK st.1 → LowK (l.foldl (subStep x p) st).1
 | [], _, h => h
 | o :: r, st, h => by
  have h1 : LowK (subStep x p st o).1 := by
   unfold subStep
   split
   ·exact h.add hx
   ·exact h
  exact low_sub x p hx r _ h1
theorem lowK_end (x : ID) : ∀ (l : List Advert) (st : Broker × List OutS), InvK st.1 → LowK st.1 → LowK (l.foldl (endStep x) st).1
 | [], _, _, h => h
 | o :: r, st, hi, h => by
  have h1 : LowK (endStep x st o).1 := by
   unfold endStep
   rw [drop_fst]
   exact h.take hi ..
  have h2 : InvK (endStep x st o).1 := by
   unfold endStep
   rw [drop_fst]
   exact hi.take ..
  exact lowK_end x r _ h2 h1
theorem low_advertise {b : Broker} (h : LowK b) (frm : Int) {x : ID} (hx : x.client ≤ 4) (p : Pred) : LowK (advertiseB b frm x p).1 := by
 unfold advertiseB
 split
 ·exact low_adv _ _ _ _ _ (h.learn (a := ⟨x, p, frm⟩) hx) h.own
 ·exact h
theorem low_unadvertise {b : Broker} (h : LowK b) (frm : Int) (x : ID) : LowK (unadvertiseB b frm x).1 := by
 unfold unadvertiseB
 split
 ·exact h.forget ..
 ·exact h
theorem low_subscribe {b : Broker} (h : LowK b) {x : ID} (hx : x.client ≤ 4) (p : Pred) : LowK (subscribeB b x p).1 := by
 unfold subscribeB
 split
 ·exact h
 ·refine low_sub _ _ hx _ _ ⟨h.near, h.seen, fun o ho => ?_, h.ent⟩
  have ho := (ins_mem (fun o : OwnS => o.id) ⟨x, p⟩ b.owns o).1 ho
  rcases ho with rfl | ho
  ·exact hx
  ·exact h.own o ho
theorem low_unsubscribe {b : Broker} (h : LowK b) (hi : InvK b) (x : ID) : LowK (unsubscribeB b x).1 := by
 unfold unsubscribeB
 split
 ·exact h
 ·exact lowK_end _ _ _ (hi.endOwn x) ⟨h.near, h.seen, fun o ho => h.own o (mem_without.1 ho).1, h.ent⟩
theorem tell_low {b : Broker} (h : LowK b) (hi : InvK b) (q : StepK) : LowK (tellB b q) := by
 have w1 := within_bounds q.tree (lo := 0) (hi := 2) (by decide)
 have w2 := within_bounds q.client (lo := 0) (hi := 4) (by decide)
 have hT : (⟨within q.tree 0 2, 0⟩ : ID).client ≤ 4 := by simp only; omega
 have hX : (⟨within q.client 0 4, within q.seq 0 2⟩ : ID).client ≤ 4 := by simp only; omega
 unfold tellB
 simp only
 split
 ·exact low_subscribe h hX _
 ·split
  ·exact low_unsubscribe h hi _
  ·split
   ·exact low_advertise h _ hT _
   ·unfold stepB
    split
    ·exact low_advertise h _ hT _
    ·split
     ·exact low_unadvertise h _ _
     ·split
      ·exact h.add hX
      ·rw [drop_fst]; exact h.take hi ..
theorem tells_low : ∀ (l : List StepK) {b : Broker} {n : Nat}, InvK b → SzK b n → LowK b → LowK (l.foldl tellB b)
 | [], _, _, _, _, h => h
 | q :: r, _, _, hi, z, h => tells_low r (tell_keep hi z q).1 (tell_keep hi z q).2 (tell_low h hi q)
theorem start_low (n : Nat) (hn : n ≤ 4) : LowK (startK n) :=
  ⟨by rcases n with _ | _ | _ | _ | _ | n
      · decide
      · decide
      · decide
      · decide
      · decide
      · omega, fun x h => (by cases h), fun x h => (by cases h), fun x h => (by cases h)⟩
theorem brokerK_low (near : Int) (l : List StepK) : LowK (brokerK near l) := by
 have hw := within_bounds near (lo := 1) (hi := 4) (by decide)
 obtain ⟨h, z⟩ := start_keep (within near 1 4).toNat (by omega)
 exact tells_low (l.take 12) h z (start_low _ (by omega))
theorem side_low {b : Broker} (h : LowK b) (n : Int) : -1 ≤ sideB b n ∧ sideB b n ≤ 4 := by
 unfold sideB
 cases hq : b.near[(within n 0 b.near.length).toNat]? with
 | none => simp
 | some x =>
  have := h.near x (List.mem_of_getElem? hq)
  simp only [Option.getD_some]; omega
end Go.Dm.Tc
/-
SubsFrom: plain laws.
-/
namespace Go.Dm.Tc
theorem take_other {b : Broker} {t s : ID} {q : Int} {e : Entry} (he : entOf b t s = some e) (hq : e.frm ≠ q) : takeB b t s q = (b, [], false) := by
 unfold takeB
 rw [show b.entries.find? (isE t s) = some e from he]
 simp only [if_neg hq]
theorem take_gone {b : Broker} (h : InvK b) {t s : ID} {e : Entry} (he : entOf b t s = some e) : entOf (takeB b t s e.frm).1 t s = none := by
 obtain ⟨_, _, _, ⟨r', h1, h2⟩, _⟩ := take_own h he
 rw [entOf_none, h1]
 intro x hx
 have hno : ∀ y ∈ b.entries.filter (fun x => !isE t s x), ¬ (y.tree = t ∧ y.sub = s) := fun y hy => isE_not.1 (by simpa using (List.mem_filter.1 hy).2)
 rcases h2.mem hx with hx | ⟨y, hy, _, _, rfl⟩
 ·exact hno x hx
 ·exact hno y hy
theorem add_again {b : Broker} {e d : Entry} (he : entOf b e.tree e.sub = some d) : addB b e = (b, false) := by
 unfold addB
 rw [if_neg]
 intro hm
 obtain ⟨a, _, hn, _⟩ := mayAdd_iff.1 hm
 have := hn d (List.mem_of_find?_eq_some he)
 rw [List.find?_some (p := isE e.tree e.sub) he] at this
 cases this
theorem add_no {b : Broker} {e : Entry} (h : ∀ a, advOf b e.tree = some a → e.frm = a.parent ∧ a.parent ≠ -1) : addB b e = (b, false) := by
 unfold addB
 rw [if_neg]
 intro hm
 obtain ⟨a, ha, _, hf⟩ := mayAdd_iff.1 hm
 obtain ⟨h1, h2⟩ := h a ha
 exact h2 (hf h1)
theorem add_is {b : Broker} (h : InvK b) {e : Entry} {a : Advert} (ha : advOf b e.tree = some a) (hn : entOf b e.tree e.sub = none) (hf : e.frm = a.parent → a.parent = -1) (hl : linkB b e.frm = true) (hp : PredOk e.pred) :
  entOf (addB b e).1 e.tree e.sub = some { e with up := upOf b e } ∧ (addB b e).2 = upOf b e ∧ (addB b e).1.entries.length = b.entries.length + 1 ∧ (upOf b e = true → a.parent ≠ -1) := by
 have hi := h.add hl hp
 have hy := add_yes ha hn hf
 refine ⟨?_, by rw [hy], by rw [hy]; exact insE_len .., ?_⟩
 ·rw [entOf_some hi.re, hy]
  exact ⟨insE_mem.2 (.inl rfl), rfl, rfl⟩
 ·unfold upOf
  rw [parentOf_eq, ha]
  simp
  intro q _; exact q
theorem fresh {b : Broker} (h : LowK b) (t s : ID) (hs : 4 < s.client) : entOf b t s = none := by
 rw [entOf_none]
 rintro e he ⟨_, hq⟩
 have := h.ent e he
 rw [hq] at this; omega
end Go.Dm.Tc
/-
SubsFrom: an entry from anywhere, added to any broker and taken out again: the law's walk.
-/
namespace Go.Dm.Tc
theorem s33 : pcF D t33 [] = some (.bool true) := pc_run (n := 2000) (args := []) e33 rfl (by kernel_rfl)
set_option maxRecDepth 16000 in
set_option maxHeartbeats 4000000 in
theorem s5 (k : BrokK) (tree client frm : Int) (p : PK) (hk : ∀ z ∈ k.steps, z.has.length ≤ 9223372036854775807) (hp : p.has.length ≤ 9223372036854775807) :
    pcF D t5 [eBrokK k, .int .i64 tree, .int .i64 client, .int .i64 frm, ePK p] = some (.bool true) := by
  have hB := s29 false k.near k.steps hk
  have hP := s18 false false p.has p.vals hp
  obtain ⟨hi, hz⟩ := brokerK_keep k.near k.steps
  have hlow := brokerK_low k.near k.steps
  generalize brokerK k.near k.steps = b at *
  have hq := mkPred_ok p.has p.vals
  generalize mkPred p.has p.vals = q at *
  have z := hz.sized (by decide)
  have w1 := s16 tree 0 2 (by decide) (by decide) (by decide)
  have w2 := s16 client 0 9 (by decide) (by decide) (by decide)
  generalize within tree 0 2 = T at *
  generalize within client 0 9 = C at *
  have hS := s30 .none b frm z
  have hfl := side_low hlow frm
  have hfk := side_link b frm
  generalize sideB b frm = f at *
  have hA := kAF .none hi z T 0
  have hE0 := fresh hlow ⟨T, 0⟩ ⟨9, C⟩ (by simp only; decide)
  have hAdd := kAdd hi z T 0 9 C hq f false
  have hR := s33
  have hSame := kSame .none hi z .none b
  have hEF := kEF .none hi z T 0 9 C
  rw [hE0] at hEF
  unfold pcF
  rw [goRun_eq _ _ _ _ (by simp [t5])]
  cases hadv : advOf b ⟨T, 0⟩ with
  | none =>
    rw [hadv] at hA
    rw [add_no (fun a ha => by rw [hadv] at ha; cases ha)] at hAdd
    simp [t5, eBrokK, ePK, e29, hB, e16, w1, w2, e30, hS, e23, hA, e18, hP, e31, hAdd, e32, hEF, hasO, eAdvert, eEntry, advZero, entZero, e26, hSame, e33, hR, turn]
  | some a =>
    have hid := (advOf_some hi.ra).1 hadv
    obtain ⟨⟨ac, ad⟩, ap, aq⟩ := a
    rw [hadv] at hA
    by_cases hb : f = aq ∧ aq ≠ -1
    · rw [add_no (fun a ha => by rw [hadv] at ha; injection ha with ha; subst ha; exact hb)] at hAdd
      obtain ⟨rfl, hb2⟩ := hb
      simp [t5, eBrokK, ePK, e29, hB, e16, w1, w2, e30, hS, e23, hA, e18, hP, e31, hAdd, e32, hEF, hasO, eAdvert, eEntry, advZero, entZero, e26, hSame, e33, hR, turn, hb2]
    · have hf : f = aq → aq = -1 := fun e => Decidable.byContradiction fun h => hb ⟨e, h⟩
      obtain ⟨c1, c2, c3, c4⟩ := add_is (e := ⟨⟨T, 0⟩, ⟨9, C⟩, q, f, false⟩) hi hadv hE0 hf hfk hq
      have hic := hi.add (e := ⟨⟨T, 0⟩, ⟨9, C⟩, q, f, false⟩) hfk hq
      have hzc := hz.add ⟨⟨T, 0⟩, ⟨9, C⟩, q, f, false⟩
      rw [c2] at hAdd
      simp only at c1 c2 c3 c4
      generalize (addB b ⟨⟨T, 0⟩, ⟨9, C⟩, q, f, false⟩).1 = c at *
      generalize upOf b ⟨⟨T, 0⟩, ⟨9, C⟩, q, f, false⟩ = u at *
      have zc := hzc.sized (by decide)
      have hSameC := kSame .none hic zc .none c
      have hEF2 := kEF .none hic zc T 0 9 C
      rw [c1] at hEF2
      have hAdd2 := kAdd hic zc T 0 9 C (p := []) .nil f false
      rw [add_again c1, show ePred [] = .isl false 0 [] from rfl] at hAdd2
      have hT1 := kTake hic zc T 0 9 C (f + 7)
      rw [take_other c1 (by simp only; omega)] at hT1
      have hT2 := kTake hic zc T 0 9 C f
      obtain ⟨t1, t2, t3, _⟩ := take_own hic c1
      have t4 := take_gone hic c1
      have hig := hic.take ⟨T, 0⟩ ⟨9, C⟩ f
      have zg := (hzc.take hic ⟨T, 0⟩ ⟨9, C⟩ f).sized (by decide)
      simp only at t1 t2 t3 t4
      generalize takeB c ⟨T, 0⟩ ⟨9, C⟩ f = G at *
      obtain ⟨g, m, u2⟩ := G
      simp only at t1 t2 t3 t4 hig zg hT2
      subst t1
      have hEF3 := kEF .none hig zg T 0 9 C
      rw [t4] at hEF3
      have hlen : g.entries.length = b.entries.length := by omega
      have hw7 : IntKind.i64.wrap (f + 7) = f + 7 := wrap64 (by omega) (by omega)
      cases u2 with
      | true =>
        have c5 := c4 rfl
        by_cases f1 : f = -1
        · subst f1
          rw [show (-1 : Int) + 7 = 6 from rfl] at hT1
          simp [t5, eBrokK, ePK, e29, hB, e16, w1, w2, e30, hS, e23, hA, e18, hP, e31, hAdd, hAdd2, e34, hT1, hT2, e32, hEF2, hEF3, hasO, eAdvert, eEntry, advZero, entZero, e26, hSame, hSameC, e33, hR, hw7, turn, c5, hlen]
        · have f2 : f ≠ aq := fun e => f1 (by rw [e]; exact hf e)
          simp [t5, eBrokK, ePK, e29, hB, e16, w1, w2, e30, hS, e23, hA, e18, hP, e31, hAdd, hAdd2, e34, hT1, hT2, e32, hEF2, hEF3, hasO, eAdvert, eEntry, advZero, entZero, e26, hSame, hSameC, e33, hR, hw7, turn, c5, hlen, f1, f2]
      | false =>
        have hm := t2 rfl
        subst hm
        by_cases f1 : f = -1
        · subst f1
          rw [show (-1 : Int) + 7 = 6 from rfl] at hT1
          simp [t5, eBrokK, ePK, e29, hB, e16, w1, w2, e30, hS, e23, hA, e18, hP, e31, hAdd, hAdd2, e34, hT1, hT2, e32, hEF2, hEF3, hasO, eAdvert, eEntry, advZero, entZero, e26, hSame, hSameC, e33, hR, hw7, turn, hlen]
        · have f2 : f ≠ aq := fun e => f1 (by rw [e]; exact hf e)
          simp [t5, eBrokK, ePK, e29, hB, e16, w1, w2, e30, hS, e23, hA, e18, hP, e31, hAdd, hAdd2, e34, hT1, hT2, e32, hEF2, hEF3, hasO, eAdvert, eEntry, advZero, entZero, e26, hSame, hSameC, e33, hR, hw7, turn, hlen, f1, f2]
end Go.Dm.Tc
