/-
Proved: the function NetLine answers true for all its arguments, in every world in which the statement lets it be called, and leaves what was there as it was. Conditions: those of the statement, no others.
The walk is a run of the machine "Dm", symbolic in the arguments; the law is in the text of its specifications.
-/
import Derived.Test.YtfkbogedodngeaaGreatDoorRows
import Derived.Test.YtfkbogedodngeaaGreatDoorCards
import Derived.Test.YtfkbogedodngeaaGreatDoorTie
import Derived.Test.YtfkbogedodngeaaGreatDoorLaid
import Derived.SevenTiedAt
import Derived.WalkKit
import Derived.ProofKit
import Derived.OpenShut
import Derived.ReadAgain
import Derived.Test.YtfkbogedodngeaaGreatDoorMm5
import Derived.Test.YtfkbogedodngeaaGreatDoorMs3
namespace Go.Proofs.YtfkbogedodngeaaGreatDoor.netLine
open Go.ChangeShapes Go.WideShapes Go.ChangeAt Go.RowKit

theorem own : ownKnob Tryz.prog.godebug = none := by kernel_rfl
theorem kids : Kids Tryz.prog (· < Tryz.prog.types.size) := kids_rows (by kernel_rfl) (by kernel_rfl)
theorem full : ∀ t e, t < Tryz.prog.types.size → Tryz.prog.underlying t = some (.slice e) → 0 < Tryz.prog.cellsOf e := slices_full_of Tryz.prog (by kernel_rfl)
theorem cells3 : Tryz.prog.cellsOf 3 = 1 := by kernel_rfl
theorem few3 : 3 < Tryz.prog.types.size := of_decide_eq_true (by kernel_rfl)
theorem vr_agg{c : Dm.Ctx}{ds : List Dm.DV}{cs : Array Value}(h : Dm.rP c ds cs.toList) : Dm.VR c (.agg ds) (.agg cs) := by
  have := Dm.VR.agg (c := c) h.1 (fun i h2 => (h.2 i (by rw[h.1]; exact h2) h2).2) (fun i h1 h2 => (h.2 i h1 h2).1)
  simpa using this

section
variable {H : Type} {enc : TypeId × Value → H} {w : World} {sp : Nat → Bool} {Vh : Bool} {fuel : Nat} {x : DataW H × List MemPlace}

end

theorem runs(x0 : Int)(x1 : Int)(x2 : Int)  : Dm.fc Dm.Tc.D 6 [.int .i64 x0, .int .i64 x1, .int .i64 x2] Dm.jA = some (.bool true, Dm.jA) := by
  rw[Dm.Tc.e6]
  have h1 : [.int .i64 x0, .int .i64 x1, .int .i64 x2].mapM (Dm.resolve true Dm.jA Dm.bO) = some [.int .i64 x0, .int .i64 x1, .int .i64 x2] := Dm.wY fun d hd => by
    simp only[List.mem_cons, List.not_mem_nil, or_false]at hd
    rcases hd with rfl | rfl | rfl
    · exact Dm.gT _ _ true Dm.jA Dm.bO (by decide)
    · exact Dm.gT _ _ true Dm.jA Dm.bO (by decide)
    · exact Dm.gT _ _ true Dm.jA Dm.bO (by decide)
  rw[h1, Dm.qC, Dm.Tc.s6 x0 x1 x2, Dm.uA]

/-! ### STEP 1: THE WALK -/
theorem walk {H : Type} {enc : TypeId × Value → H} {sp : Nat → Bool} {Vh : Bool} {u0 u1 u2 : Nat} {y0 y1 y2 : DataW H × List MemPlace} (w : World) (v0 : Value) (v1 : Value) (v2 : Value) (h0 : DataW.trod enc Tryz.prog w 0 sp Vh u0 3 [v0] = some y0) (h1 : DataW.trod enc Tryz.prog w 0 sp Vh u1 3 [v1] = some y1) (h2 : DataW.trod enc Tryz.prog w 0 sp Vh u2 3 [v2] = some y2) (hL : laidMetH Tryz.prog [("errors.errorType", Rows.laid_errors_errorType)] w) :
    Calls Tryz.prog 6 #[v0, v1, v2] w fun e w' => e = .returned (.bool true) ∧ Go.Dm.LE w w' ∧ ∀ b, b < w.heap.size → w'.heap[b]? = w.heap[b]? := by
  obtain⟨x0, k0⟩ := Dm.Gq Tryz.underlying3 h0 (Dm.Ig w)
  obtain⟨x1, k1⟩ := Dm.Gq Tryz.underlying3 h1 (Dm.Ig w)
  obtain⟨x2, k2⟩ := Dm.Gq Tryz.underlying3 h2 (Dm.Ig w)
  refine Dm.DS Dm.Tc.good (fn := Tryz.f6) (by kernel_rfl) rfl (by decide) (runs x0 x1 x2) w (Card.laid_of hL) (vs := [v0, v1, v2]) ⟨rfl, fun i a1 a2 => ?_⟩
  match i, a1, a2 with
  | 0, _, _ => exact(k0.2 0 (Nat.zero_lt_one) (Nat.zero_lt_one)).1
  | 1, _, _ => exact(k1.2 0 (Nat.zero_lt_one) (Nat.zero_lt_one)).1
  | 2, _, _ => exact(k2.2 0 (Nat.zero_lt_one) (Nat.zero_lt_one)).1

/-! ### THE ROW's STEP -/
set_option maxRecDepth 100000 in
theorem lifted(os : Os)(started : os.Started)(H : Type)(enc : TypeId × Value → H) :
    ReturnsInHanded {} Tryz.checked os 6 .any (fun w args => (Rows.netLineSpec.pre enc Tryz.prog Tryz.f6 Rows.netLineRow.domain false w args ∧ laidMetH Tryz.prog [("errors.errorType", Rows.laid_errors_errorType)] w) ∧ sizedMet enc Tryz.prog Tryz.f6 (OpenSpec.ofChange Rows.netLineSpec) false w args)
      (Rows.netLineSpec.post enc Tryz.prog Tryz.f6 false true false false) := by
  refine returnsInHanded_of_change_and (C := Tryz.checked) (X := fun w _ => laidMetH Tryz.prog [("errors.errorType", Rows.laid_errors_errorType)] w) (fun _ _ _ hh h => h.of_heap hh) Card.own started (by kernel_rfl) Tryz.func6
    (ChangeSpec.witness_at (enc := enc) (C := Tryz.checked) (os := os) (X := fun w _ => laidMetH Tryz.prog [("errors.errorType", Rows.laid_errors_errorType)] w) false (Card.laidWorld os) #[.int .i64 0, .int .i64 0, .int .i64 0] 8 rfl (by kernel_rfl) (by kernel_rfl) (by kernel_rfl) (by kernel_rfl) (by kernel_rfl) (Card.laidWorld_met os _)) ?_
  intro W base args ds gs before hval0 hW hcnd _ hL _
  have hval : ∀ (j : Nat) t v, Tryz.f6.params[j]? = some t → args[j]? = some v → Value.okWide Tryz.prog W .any base t v := hval0
  have hW' := hW
  obtain⟨p, q, hA0, hV, rfl, hfz, LN⟩ := hW
  have hA : DataW.TrodAll enc Tryz.prog W 0 (fun _ => true) true Tryz.f6.params.toList args.toList ds p := hA0
  have hAk := hA
  rw[Tryz.params6]at hA hval
  obtain⟨v0, r0, d0, e0, p0, q0, hargs, rfl, rfl, h0, b0⟩ := trodAll_cons hA
  obtain⟨v1, r1, d1, e1, p1, q1, rfl, rfl, rfl, h1, b1⟩ := trodAll_cons b0
  obtain⟨v2, r2, d2, e2, p2, q2, rfl, rfl, rfl, h2, b2⟩ := trodAll_cons b1
  obtain⟨rfl, rfl, rfl⟩ := trodAll_nil b2
  obtain rfl : args = #[v0, v1, v2] := by cases args; simp_all
  clear hargs
  obtain⟨rfl, rfl⟩ := trodVars_none hV
  obtain⟨m0, rfl⟩ := okWide_int Tryz.underlying3 (hval 0 3 v0 rfl rfl)
  obtain⟨m1, rfl⟩ := okWide_int Tryz.underlying3 (hval 1 3 v1 rfl rfl)
  obtain⟨m2, rfl⟩ := okWide_int Tryz.underlying3 (hval 2 3 v2 rfl rfl)
  obtain⟨u0, g0⟩ := h0
  obtain⟨u1, g1⟩ := h1
  obtain⟨u2, g2⟩ := h2
  clear hA0 hval0 hA
  have aY : ∀ y ∈ (p0 ++ (p1 ++ (p2 ++ []))), y.block < W.heap.size := DataW.TrodAll.lt hAk
  refine(walk W _ _ _ g0 g1 g2 hL).mono fun e W' ⟨he, hg, hb⟩ => ?_
  subst he
  exact⟨_, rfl, Go.Dm.AR (pa := (p0 ++ (p1 ++ (p2 ++ [])))) (pv := []) hW' (fun _ _ _ => (trodAll_cons_mk (shut_bool Tryz.underlying4 _) trodAll_mk0)) (fun sp hsp => DataW.TrodAll.respare kids full (by rw[Tryz.params6]; intro t ht; simp only[List.mem_cons, List.not_mem_nil, or_false]at ht; rcases ht with rfl | rfl | rfl <;> first | exact few3) (Dm.zO hb _ hAk aY) (fun y hy => hsp y (by simpa using hy))) (fun _ _ => rfl) (by simp)
    (hg.frame _) hg.2.1 (ok_one (by kernel_rfl) rfl (okWide_bool_mk Tryz.underlying4 _))⟩

theorem k0 : Tryz.pinned.checked.prog.funcNamed Rows.netLineRow.func = some 6 := by kernel_rfl
theorem k1 : Tryz.pinned.checked.prog.inPlace 6 = Rows.netLineRow.inPlace := by kernel_rfl
theorem k2 : Tryz.pinned.checked.prog.unfollowed 6 = Rows.netLineRow.unfollowed := by kernel_rfl
theorem k3 : Tryz.pinned.checked.prog.recurses 6 = Rows.netLineRow.recurses := by kernel_rfl
theorem k4 : Tryz.pinned.checked.prog.varsNamed 6 = Rows.netLineRow.named := by kernel_rfl
theorem k5 : false = Rows.netLineRow.goesBy Tryz.pinned.checked.prog := by kernel_rfl
theorem facts : joinedFacts Tryz.pinned.checked.prog 6 Tryz.f6 Rows.netLineSpec Rows.netLineRow = true := by
  unfold joinedFacts
  rw[k1, k2, k3, k4, Card.laidOut, Card.mapsRowed]
  kernel_rfl

theorem over : Rows.netLineRow.holds Tryz.pinned (OpenSpec.ofChange Rows.netLineSpec) :=
  OpenClaim.holds_of_wide 6 Tryz.f6 rfl rfl rfl rfl rfl rfl rfl ⟨rfl, rfl, rfl, rfl, rfl⟩ rfl rfl rfl rfl rfl k0 Tryz.func6 facts
    (of_decide_eq_true (by kernel_rfl)) (by unfold Func.isWrapper; first | (rw[if_pos (by decide +kernel)]; kernel_rfl) | (rw[if_neg (by decide +kernel)]; exact⟨rfl, rfl⟩))
    (fun os started H enc _ => lifted os started H enc)

/-- The statement. -/
theorem proved : Rows.NetLineCardSaid :=
  Claim7.holds_tied_plain_at .later [] [.handle] true (true, "4ac99bd332541256dde483e728c76890e75659608d3fdb028c7a72c9986e8138") true
    over (fun _ h => by cases h) (by kernel_rfl) (fun _ h => by cases h) netLine_row_tie rfl ⟨rfl, rfl⟩ (by kernel_rfl) rfl
    (fun f fn hf hfn => by
      obtain rfl : f = 6 := Option.some.inj (k0.symm.trans hf) |>.symm
      obtain rfl : fn = Tryz.f6 := (Option.some.inj (Tryz.func6.symm.trans hfn)).symm
      exact⟨by kernel_rfl, fun j t ht => by
        rw[Tryz.params6]at ht
        match j, ht with
        | 0, ht => obtain rfl : 3 = t := Option.some.inj ht; exact(show Tryz.prog.wantsStandIn 3 = false by kernel_rfl)
        | 1, ht => obtain rfl : 3 = t := Option.some.inj ht; exact(show Tryz.prog.wantsStandIn 3 = false by kernel_rfl)
        | 2, ht => obtain rfl : 3 = t := Option.some.inj ht; exact(show Tryz.prog.wantsStandIn 3 = false by kernel_rfl)
        | j + 3, ht => simp at ht⟩)
    k5
end Go.Proofs.YtfkbogedodngeaaGreatDoor.netLine
