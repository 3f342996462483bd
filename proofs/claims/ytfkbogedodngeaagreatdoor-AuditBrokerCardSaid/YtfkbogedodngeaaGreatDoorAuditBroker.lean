/-
Proved: the function AuditBroker answers true for all its arguments, in every world in which the statement lets it be called, and leaves what was there as it was. Conditions: those of the statement, no others.
The walk is a run of the machine "Dm", symbolic in the arguments; the law is in the text of its specifications.
-/
import Derived.Test.YtfkbogedodngeaaGreatDoorRows
import Derived.Test.YtfkbogedodngeaaGreatDoorCards
import Derived.Test.YtfkbogedodngeaaGreatDoorTie
import Derived.Test.YtfkbogedodngeaaGreatDoorLaid
import Derived.SevenTiedAt
import Derived.WalkKit
import Derived.ProofKit
import Derived.OpenShut
import Derived.ReadAgain
import Derived.Test.YtfkbogedodngeaaGreatDoorMm5
import Derived.Test.YtfkbogedodngeaaGreatDoorMs3
namespace Go.Proofs.YtfkbogedodngeaaGreatDoor.auditBroker
open Go.ChangeShapes Go.WideShapes Go.ChangeAt Go.RowKit

theorem own : ownKnob Tryz.prog.godebug = none := by kernel_rfl
theorem kids : Kids Tryz.prog (· < Tryz.prog.types.size) := kids_rows (by kernel_rfl) (by kernel_rfl)
theorem full : ∀ t e, t < Tryz.prog.types.size → Tryz.prog.underlying t = some (.slice e) → 0 < Tryz.prog.cellsOf e := slices_full_of Tryz.prog (by kernel_rfl)
theorem cells3 : Tryz.prog.cellsOf 3 = 1 := by kernel_rfl
theorem cells25 : Tryz.prog.cellsOf 25 = 1 := by kernel_rfl
theorem cells27 : Tryz.prog.cellsOf 27 = 2 := by kernel_rfl
theorem cells113 : Tryz.prog.cellsOf 113 = 7 := by kernel_rfl
theorem cells22 : Tryz.prog.cellsOf 22 = 1 := by kernel_rfl
theorem cells24 : Tryz.prog.cellsOf 24 = 2 := by kernel_rfl
theorem few3 : 3 < Tryz.prog.types.size := of_decide_eq_true (by kernel_rfl)
theorem few24 : 24 < Tryz.prog.types.size := of_decide_eq_true (by kernel_rfl)
theorem len2{α : Type} : ∀ {l : List α}, l.length = 2 → ∃ a b, l = [a, b]
  | [a, b], _ => ⟨a, b, rfl⟩
theorem len7{α : Type} : ∀ {l : List α}, l.length = 7 → ∃ a b c d e f g, l = [a, b, c, d, e, f, g]
  | [a, b, c, d, e, f, g], _ => ⟨a, b, c, d, e, f, g, rfl⟩
theorem vr_agg{c : Dm.Ctx}{ds : List Dm.DV}{cs : Array Value}(h : Dm.kG c ds cs.toList) : Dm.VR c (.agg ds) (.agg cs) := by
  have := Dm.VR.agg (c := c) h.1 (fun i h2 => (h.2 i (by rw[h.1]; exact h2) h2).2) (fun i h1 h2 => (h.2 i h1 h2).1)
  simpa using this

section
variable {H : Type} {enc : TypeId × Value → H} {w : World} {sp : Nat → Bool} {qH : Bool} {fuel : Nat} {x : DataW H × List MemPlace}

theorem read25{cs : List Value}(h : DataW.trod enc Tryz.prog w 0 sp qH fuel 25 cs = some x){c : Dm.Ctx}(hc : Dm.Fw c w) : ∃ a : List Int, (a).length ≤ maxLen ∧ Dm.kG c [Dm.eL false 1 Dm.cF a] cs := by
  obtain⟨l, h1, h2, h3⟩ := Dm.Ig (α := Int) Tryz.underlying25 cells3 (by decide) h hc Dm.cF (fun _ => True) (fun ecs y n hn => by
    obtain⟨m, hm⟩ := Dm.pF Tryz.underlying3 hn c.still
    exact⟨m, trivial, hm⟩)
  exact⟨l, h2, h3⟩

theorem read27{cs : List Value}(h : DataW.trod enc Tryz.prog w 0 sp qH fuel 27 cs = some x){c : Dm.Ctx}(hc : Dm.Fw c w) : ∃ a : Dm.Tc.PK, (a).has.length ≤ 9223372036854775807 ∧ Dm.kG c (Dm.aK 2 (Dm.Tc.ePK a)) cs := by
  obtain⟨xs, n, _, _, hl, hx, hf⟩ := DataW.trod_struct Tryz.underlying27 h
  rw[cells27]at hl
  have h0 : DataW.trod enc Tryz.prog w 0 sp qH n 25 ((cs.drop 0).take (Tryz.prog.cellsOf 25)) = xs[0]? := hf 0 _ rfl
  rw[cells25]at h0
  have h1 : DataW.trod enc Tryz.prog w 0 sp qH n 25 ((cs.drop 1).take (Tryz.prog.cellsOf 25)) = xs[1]? := hf 1 _ rfl
  rw[cells25]at h1
  clear h hf
  obtain⟨v0, v1, rfl⟩ := len2 hl
  have hx : xs.length = 2 := hx
  rw[List.getElem?_eq_getElem (by omega)]at h0 h1
  obtain⟨n0, k0, a0⟩ := read25 h0 hc
  obtain⟨n1, k1, a1⟩ := read25 h1 hc
  exact⟨⟨n0, n1⟩, k0, (a0.append a1)⟩

theorem read113{cs : List Value}(h : DataW.trod enc Tryz.prog w 0 sp qH fuel 113 cs = some x){c : Dm.Ctx}(hc : Dm.Fw c w) : ∃ a : Dm.Tc.nR, (a).has.length ≤ 9223372036854775807 ∧ Dm.kG c (Dm.aK 7 (Dm.Tc.fX a)) cs := by
  obtain⟨xs, n, _, _, hl, hx, hf⟩ := DataW.trod_struct Tryz.underlying113 h
  rw[cells113]at hl
  have h0 : DataW.trod enc Tryz.prog w 0 sp qH n 3 ((cs.drop 0).take (Tryz.prog.cellsOf 3)) = xs[0]? := hf 0 _ rfl
  rw[cells3]at h0
  have h1 : DataW.trod enc Tryz.prog w 0 sp qH n 3 ((cs.drop 1).take (Tryz.prog.cellsOf 3)) = xs[1]? := hf 1 _ rfl
  rw[cells3]at h1
  have h2 : DataW.trod enc Tryz.prog w 0 sp qH n 3 ((cs.drop 2).take (Tryz.prog.cellsOf 3)) = xs[2]? := hf 2 _ rfl
  rw[cells3]at h2
  have h3 : DataW.trod enc Tryz.prog w 0 sp qH n 3 ((cs.drop 3).take (Tryz.prog.cellsOf 3)) = xs[3]? := hf 3 _ rfl
  rw[cells3]at h3
  have h4 : DataW.trod enc Tryz.prog w 0 sp qH n 3 ((cs.drop 4).take (Tryz.prog.cellsOf 3)) = xs[4]? := hf 4 _ rfl
  rw[cells3]at h4
  have h5 : DataW.trod enc Tryz.prog w 0 sp qH n 27 ((cs.drop 5).take (Tryz.prog.cellsOf 27)) = xs[5]? := hf 5 _ rfl
  rw[cells27]at h5
  clear h hf
  obtain⟨v0, v1, v2, v3, v4, v5, v6, rfl⟩ := len7 hl
  have hx : xs.length = 6 := hx
  rw[List.getElem?_eq_getElem (by omega)]at h0 h1 h2 h3 h4 h5
  obtain⟨n0, a0⟩ := Dm.pF Tryz.underlying3 h0 c
  obtain⟨n1, a1⟩ := Dm.pF Tryz.underlying3 h1 c
  obtain⟨n2, a2⟩ := Dm.pF Tryz.underlying3 h2 c
  obtain⟨n3, a3⟩ := Dm.pF Tryz.underlying3 h3 c
  obtain⟨n4, a4⟩ := Dm.pF Tryz.underlying3 h4 c
  obtain⟨n5, k5, a5⟩ := read27 h5 hc
  exact⟨⟨n0, n1, n2, n3, n4, (n5).has, (n5).vals⟩, k5, (a0.append (a1.append (a2.append (a3.append (a4.append a5)))))⟩

theorem read22{cs : List Value}(h : DataW.trod enc Tryz.prog w 0 sp qH fuel 22 cs = some x){c : Dm.Ctx}(hc : Dm.Fw c w) : ∃ a : List Dm.Tc.nR, (∀ z ∈ a, (z).has.length ≤ 9223372036854775807) ∧ Dm.kG c [Dm.eL false 7 Dm.Tc.fX a] cs := by
  obtain⟨l, h1, h2, h3⟩ := Dm.Ig (α := Dm.Tc.nR) Tryz.underlying22 cells113 (by decide) h hc Dm.Tc.fX (fun(a : Dm.Tc.nR) => (a).has.length ≤ 9223372036854775807) (fun ecs y n hn => by
    exact read113 hn hc.still)
  exact⟨l, h1, h3⟩

theorem read24{cs : List Value}(h : DataW.trod enc Tryz.prog w 0 sp qH fuel 24 cs = some x){c : Dm.Ctx}(hc : Dm.Fw c w) : ∃ a : Dm.Tc.Y8, (∀ z ∈ (a).steps, z.has.length ≤ 9223372036854775807) ∧ Dm.kG c (Dm.aK 2 (Dm.Tc.Dq a)) cs := by
  obtain⟨xs, n, _, _, hl, hx, hf⟩ := DataW.trod_struct Tryz.underlying24 h
  rw[cells24]at hl
  have h0 : DataW.trod enc Tryz.prog w 0 sp qH n 3 ((cs.drop 0).take (Tryz.prog.cellsOf 3)) = xs[0]? := hf 0 _ rfl
  rw[cells3]at h0
  have h1 : DataW.trod enc Tryz.prog w 0 sp qH n 22 ((cs.drop 1).take (Tryz.prog.cellsOf 22)) = xs[1]? := hf 1 _ rfl
  rw[cells22]at h1
  clear h hf
  obtain⟨v0, v1, rfl⟩ := len2 hl
  have hx : xs.length = 2 := hx
  rw[List.getElem?_eq_getElem (by omega)]at h0 h1
  obtain⟨n0, a0⟩ := Dm.pF Tryz.underlying3 h0 c
  obtain⟨n1, k1, a1⟩ := read22 h1 hc
  exact⟨⟨n0, n1⟩, k1, (a0.append a1)⟩

end

theorem runs(x0 : Dm.Tc.Y8)(x1 : Int)(c0 : (∀ z ∈ (x0).steps, z.has.length ≤ 9223372036854775807)) : Dm.fc Dm.Tc.D 4 [Dm.Tc.Dq x0, .int .i64 x1] Dm.lQ = some (.bool true, Dm.lQ) := by
  rw[Dm.Tc.e4]
  have h1 : [Dm.Tc.Dq x0, .int .i64 x1].mapM (Dm.resolve true Dm.lQ Dm.cO) = some [Dm.Tc.Dq x0, .int .i64 x1] := Dm.mL fun d hd => by
    simp only[List.mem_cons, List.not_mem_nil, or_false]at hd
    rcases hd with rfl | rfl
    · refine Dm.Jr (k := 1) (fun y hy => ?_) true Dm.lQ Dm.cO (by decide); simp only[List.mem_cons, List.not_mem_nil, or_false]at hy; rcases hy with rfl | rfl <;> first | exact Dm.sF _ _ _ _ | exact Dm.iS _ _ | exact Dm.Nv _
    · exact Dm.iS _ _ true Dm.lQ Dm.cO (by decide)
  rw[h1, Dm.vI, Dm.Tc.s4 x0 x1 c0, Dm.Ah]

/-! ### STEP 1: THE WALK -/
theorem walk {H : Type} {enc : TypeId × Value → H} {sp : Nat → Bool} {qH : Bool} {u0 u1 : Nat} {y0 y1 : DataW H × List MemPlace} (w : World) (v0 : Array Value) (v1 : Value) (h0 : DataW.trod enc Tryz.prog w 0 sp qH u0 24 v0.toList = some y0) (h1 : DataW.trod enc Tryz.prog w 0 sp qH u1 3 [v1] = some y1) (hL : laidMetH Tryz.prog [("errors.errorType", Rows.laid_errors_errorType)] w) :
    Calls Tryz.prog 4 #[.agg v0, v1] w fun e w' => e = .returned (.bool true) ∧ Go.Dm.NG w w' ∧ ∀ b, b < w.heap.size → w'.heap[b]? = w.heap[b]? := by
  obtain⟨x0, c0, k0⟩ := read24 h0 (Dm.Fw.zero w)
  obtain⟨x1, k1⟩ := Dm.pF Tryz.underlying3 h1 (Dm.Sm w)
  refine Dm.GB Dm.Tc.good (fn := Tryz.f4) (by kernel_rfl) rfl (by decide) (runs x0 x1 c0) w (Card.laid_of hL) (vs := [.agg v0, v1]) ⟨rfl, fun i a1 a2 => ?_⟩
  match i, a1, a2 with
  | 0, _, _ => exact vr_agg k0
  | 1, _, _ => exact(k1.2 0 (Nat.zero_lt_one) (Nat.zero_lt_one)).1

/-! ### THE ROW's STEP -/
set_option maxRecDepth 100000 in
theorem lifted(os : Os)(started : os.Started)(H : Type)(enc : TypeId × Value → H) :
    ReturnsInHanded {} Tryz.checked os 4 .any (fun w args => (Rows.auditBrokerSpec.pre enc Tryz.prog Tryz.f4 Rows.auditBrokerRow.domain false w args ∧ laidMetH Tryz.prog [("errors.errorType", Rows.laid_errors_errorType)] w) ∧ sizedMet enc Tryz.prog Tryz.f4 (OpenSpec.ofChange Rows.auditBrokerSpec) false w args)
      (Rows.auditBrokerSpec.post enc Tryz.prog Tryz.f4 false true false false) := by
  refine returnsInHanded_of_change_and (C := Tryz.checked) (X := fun w _ => laidMetH Tryz.prog [("errors.errorType", Rows.laid_errors_errorType)] w) (fun _ _ _ hh h => h.of_heap hh) Card.own started (by kernel_rfl) Tryz.func4
    (ChangeSpec.witness_at (enc := enc) (C := Tryz.checked) (os := os) (X := fun w _ => laidMetH Tryz.prog [("errors.errorType", Rows.laid_errors_errorType)] w) false (Card.laidWorld os) #[.agg #[.int .i64 0, .slice none 0 0], .int .i64 0] 8 rfl (by kernel_rfl) (by kernel_rfl) (by kernel_rfl) (by kernel_rfl) (by kernel_rfl) (Card.laidWorld_met os _)) ?_
  intro W base args ds gs before hval0 hW hcnd _ hL _
  have hval : ∀ (j : Nat) t v, Tryz.f4.params[j]? = some t → args[j]? = some v → Value.okWide Tryz.prog W .any base t v := hval0
  have hW' := hW
  obtain⟨p, q, hA0, hV, rfl, hfz, hnd⟩ := hW
  have hA : DataW.TrodAll enc Tryz.prog W 0 (fun _ => true) true Tryz.f4.params.toList args.toList ds p := hA0
  have hAk := hA
  rw[Tryz.params4]at hA hval
  obtain⟨v0, r0, d0, e0, p0, q0, hargs, rfl, rfl, h0, b0⟩ := trodAll_cons hA
  obtain⟨v1, r1, d1, e1, p1, q1, rfl, rfl, rfl, h1, b1⟩ := trodAll_cons b0
  obtain⟨rfl, rfl, rfl⟩ := trodAll_nil b1
  obtain rfl : args = #[v0, v1] := by cases args; simp_all
  clear hargs
  obtain⟨rfl, rfl⟩ := trodVars_none hV
  obtain⟨cs0, rfl, _⟩ := okWide_struct Tryz.underlying24 (hval 0 24 v0 rfl rfl)
  obtain⟨m1, rfl⟩ := okWide_int Tryz.underlying3 (hval 1 3 v1 rfl rfl)
  obtain⟨u0, g0⟩ := h0
  obtain⟨u1, g1⟩ := h1
  clear hA0 hval0 hA
  have aZ : ∀ y ∈ (p0 ++ (p1 ++ [])), y.block < W.heap.size := DataW.TrodAll.lt hAk
  refine(walk W cs0 _ g0 g1 hL).mono fun e W' ⟨he, hg, hb⟩ => ?_
  subst he
  exact⟨_, rfl, Go.Dm.CY (pa := (p0 ++ (p1 ++ []))) (pv := []) hW' (fun _ _ _ => (trodAll_cons_mk (shut_bool Tryz.underlying4 _) trodAll_mk0)) (fun sp hsp => DataW.TrodAll.respare kids full (by rw[Tryz.params4]; intro t ht; simp only[List.mem_cons, List.not_mem_nil, or_false]at ht; rcases ht with rfl | rfl <;> first | exact few3 | exact few24) (Dm.Ap hb _ hAk aZ) (fun y hy => hsp y (by simpa using hy))) (fun _ _ => rfl) (by simp)
    (hg.frame _) hg.2.1 (ok_one (by kernel_rfl) rfl (okWide_bool_mk Tryz.underlying4 _))⟩

theorem k0 : Tryz.pinned.checked.prog.funcNamed Rows.auditBrokerRow.func = some 4 := by kernel_rfl
theorem k1 : Tryz.pinned.checked.prog.inPlace 4 = Rows.auditBrokerRow.inPlace := by kernel_rfl
theorem k2 : Tryz.pinned.checked.prog.unfollowed 4 = Rows.auditBrokerRow.unfollowed := by kernel_rfl
theorem k3 : Tryz.pinned.checked.prog.recurses 4 = Rows.auditBrokerRow.recurses := by kernel_rfl
theorem k4 : Tryz.pinned.checked.prog.varsNamed 4 = Rows.auditBrokerRow.named := by kernel_rfl
theorem k5 : false = Rows.auditBrokerRow.goesBy Tryz.pinned.checked.prog := by kernel_rfl
theorem facts : joinedFacts Tryz.pinned.checked.prog 4 Tryz.f4 Rows.auditBrokerSpec Rows.auditBrokerRow = true := by
  unfold joinedFacts
  rw[k1, k2, k3, k4, Card.laidOut, Card.mapsRowed]
  kernel_rfl

theorem over : Rows.auditBrokerRow.holds Tryz.pinned (OpenSpec.ofChange Rows.auditBrokerSpec) :=
  OpenClaim.holds_of_wide 4 Tryz.f4 rfl rfl rfl rfl rfl rfl rfl ⟨rfl, rfl, rfl, rfl, rfl⟩ rfl rfl rfl rfl rfl k0 Tryz.func4 facts
    (of_decide_eq_true (by kernel_rfl)) (by unfold Func.isWrapper; first | (rw[if_pos (by decide +kernel)]; kernel_rfl) | (rw[if_neg (by decide +kernel)]; exact⟨rfl, rfl⟩))
    (fun os started H enc _ => lifted os started H enc)

/-- The statement. -/
theorem proved : Rows.AuditBrokerCardSaid :=
  Claim7.holds_tied_plain_at .later [] [.handle] true (true, "4ac99bd332541256dde483e728c76890e75659608d3fdb028c7a72c9986e8138") true
    over (fun _ h => by cases h) (by kernel_rfl) (fun _ h => by cases h) auditBroker_row_tie rfl ⟨rfl, rfl⟩ (by kernel_rfl) rfl
    (fun f fn hf hfn => by
      obtain rfl : f = 4 := Option.some.inj (k0.symm.trans hf) |>.symm
      obtain rfl : fn = Tryz.f4 := (Option.some.inj (Tryz.func4.symm.trans hfn)).symm
      exact⟨by kernel_rfl, fun j t ht => by
        rw[Tryz.params4]at ht
        match j, ht with
        | 0, ht => obtain rfl : 24 = t := Option.some.inj ht; exact(show Tryz.prog.wantsStandIn 24 = false by kernel_rfl)
        | 1, ht => obtain rfl : 3 = t := Option.some.inj ht; exact(show Tryz.prog.wantsStandIn 3 = false by kernel_rfl)
        | j + 2, ht => simp at ht⟩)
    k5
end Go.Proofs.YtfkbogedodngeaaGreatDoor.auditBroker
