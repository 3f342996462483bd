/-
Proved: the function BrokerOrder answers true for all its arguments, in every world in which the statement lets it be called, and leaves what was there as it was. Conditions: those of the statement, no others.
The walk is a run of the machine "Dm", symbolic in the arguments; the law is in the text of its specifications.
-/
import Derived.Test.YtegofjiikhlokaaGreatDoorRows
import Derived.Test.YtegofjiikhlokaaGreatDoorCards
import Derived.Test.YtegofjiikhlokaaGreatDoorTie
import Derived.Test.YtegofjiikhlokaaGreatDoorLaid
import Derived.SevenTiedAt
import Derived.WalkKit
import Derived.ProofKit
import Derived.OpenShut
import Derived.ReadAgain
import Derived.Test.YtegofjiikhlokaaGreatDoorMm5
import Derived.Test.YtegofjiikhlokaaGreatDoorMs5
namespace Go.Proofs.YtegofjiikhlokaaGreatDoor.brokerOrder
open Go.ChangeShapes Go.WideShapes Go.ChangeAt Go.RowKit

theorem own : ownKnob Tryz.prog.godebug = none := by kernel_rfl
theorem kids : Kids Tryz.prog (· < Tryz.prog.types.size) := kids_rows (by kernel_rfl) (by kernel_rfl)
theorem full : ∀ t e, t < Tryz.prog.types.size → Tryz.prog.underlying t = some (.slice e) → 0 < Tryz.prog.cellsOf e := slices_full_of Tryz.prog (by kernel_rfl)
theorem cells3 : Tryz.prog.cellsOf 3 = 1 := by kernel_rfl
theorem cells25 : Tryz.prog.cellsOf 25 = 1 := by kernel_rfl
theorem cells27 : Tryz.prog.cellsOf 27 = 2 := by kernel_rfl
theorem cells77 : Tryz.prog.cellsOf 77 = 7 := by kernel_rfl
theorem cells22 : Tryz.prog.cellsOf 22 = 1 := by kernel_rfl
theorem cells24 : Tryz.prog.cellsOf 24 = 2 := by kernel_rfl
theorem cells28 : Tryz.prog.cellsOf 28 = 2 := by kernel_rfl
theorem cells30 : Tryz.prog.cellsOf 30 = 9 := by kernel_rfl
theorem few3 : 3 < Tryz.prog.types.size := of_decide_eq_true (by kernel_rfl)
theorem few24 : 24 < Tryz.prog.types.size := of_decide_eq_true (by kernel_rfl)
theorem few30 : 30 < Tryz.prog.types.size := of_decide_eq_true (by kernel_rfl)
theorem len2{α : Type} : ∀ {l : List α}, l.length = 2 → ∃ a b, l = [a, b]
  | [a, b], _ => ⟨a, b, rfl⟩
theorem len7{α : Type} : ∀ {l : List α}, l.length = 7 → ∃ a b c d e f g, l = [a, b, c, d, e, f, g]
  | [a, b, c, d, e, f, g], _ => ⟨a, b, c, d, e, f, g, rfl⟩
theorem len9{α : Type} : ∀ {l : List α}, l.length = 9 → ∃ a b c d e f g h i, l = [a, b, c, d, e, f, g, h, i]
  | [a, b, c, d, e, f, g, h, i], _ => ⟨a, b, c, d, e, f, g, h, i, rfl⟩
theorem vr_agg{c : Dm.Ctx}{ds : List Dm.DV}{cs : Array Value}(h : Dm.kA c ds cs.toList) : Dm.VR c (.agg ds) (.agg cs) := by
  have := Dm.VR.agg (c := c) h.1 (fun i h2 => (h.2 i (by rw[h.1]; exact h2) h2).2) (fun i h1 h2 => (h.2 i h1 h2).1)
  simpa using this

section
variable {H : Type} {enc : TypeId × Value → H} {w : World} {sp : Nat → Bool} {kY : Bool} {fuel : Nat} {x : DataW H × List MemPlace}

theorem read25{cs : List Value}(h : DataW.trod enc Tryz.prog w 0 sp kY fuel 25 cs = some x){c : Dm.Ctx}(hc : Dm.zM c w) : ∃ a : List Int, (a).length ≤ maxLen ∧ Dm.kA c [Dm.eL false 1 Dm.bQ a] cs := by
  obtain⟨l, h1, h2, h3⟩ := Dm.Jw (α := Int) Tryz.underlying25 cells3 (by decide) h hc Dm.bQ (fun _ => True) (fun ecs y n hn => by
    obtain⟨m, hm⟩ := Dm.jE Tryz.underlying3 hn c.still
    exact⟨m, trivial, hm⟩)
  exact⟨l, h2, h3⟩

theorem read27{cs : List Value}(h : DataW.trod enc Tryz.prog w 0 sp kY fuel 27 cs = some x){c : Dm.Ctx}(hc : Dm.zM c w) : ∃ a : Dm.Tc.PK, (a).has.length ≤ 9223372036854775807 ∧ Dm.kA c (Dm.aP 2 (Dm.Tc.ePK a)) cs := by
  obtain⟨xs, n, _, _, hl, hx, hf⟩ := DataW.trod_struct Tryz.underlying27 h
  rw[cells27]at hl
  have h0 : DataW.trod enc Tryz.prog w 0 sp kY n 25 ((cs.drop 0).take (Tryz.prog.cellsOf 25)) = xs[0]? := hf 0 _ rfl
  rw[cells25]at h0
  have h1 : DataW.trod enc Tryz.prog w 0 sp kY n 25 ((cs.drop 1).take (Tryz.prog.cellsOf 25)) = xs[1]? := hf 1 _ rfl
  rw[cells25]at h1
  clear h hf
  obtain⟨v0, v1, rfl⟩ := len2 hl
  have hx : xs.length = 2 := hx
  rw[List.getElem?_eq_getElem (by omega)]at h0 h1
  obtain⟨n0, k0, a0⟩ := read25 h0 hc
  obtain⟨n1, k1, a1⟩ := read25 h1 hc
  exact⟨⟨n0, n1⟩, k0, (a0.append a1)⟩

theorem read77{cs : List Value}(h : DataW.trod enc Tryz.prog w 0 sp kY fuel 77 cs = some x){c : Dm.Ctx}(hc : Dm.zM c w) : ∃ a : Dm.Tc.mY, (a).has.length ≤ 9223372036854775807 ∧ Dm.kA c (Dm.aP 7 (Dm.Tc.hU a)) cs := by
  obtain⟨xs, n, _, _, hl, hx, hf⟩ := DataW.trod_struct Tryz.underlying77 h
  rw[cells77]at hl
  have h0 : DataW.trod enc Tryz.prog w 0 sp kY n 3 ((cs.drop 0).take (Tryz.prog.cellsOf 3)) = xs[0]? := hf 0 _ rfl
  rw[cells3]at h0
  have h1 : DataW.trod enc Tryz.prog w 0 sp kY n 3 ((cs.drop 1).take (Tryz.prog.cellsOf 3)) = xs[1]? := hf 1 _ rfl
  rw[cells3]at h1
  have h2 : DataW.trod enc Tryz.prog w 0 sp kY n 3 ((cs.drop 2).take (Tryz.prog.cellsOf 3)) = xs[2]? := hf 2 _ rfl
  rw[cells3]at h2
  have h3 : DataW.trod enc Tryz.prog w 0 sp kY n 3 ((cs.drop 3).take (Tryz.prog.cellsOf 3)) = xs[3]? := hf 3 _ rfl
  rw[cells3]at h3
  have h4 : DataW.trod enc Tryz.prog w 0 sp kY n 3 ((cs.drop 4).take (Tryz.prog.cellsOf 3)) = xs[4]? := hf 4 _ rfl
  rw[cells3]at h4
  have h5 : DataW.trod enc Tryz.prog w 0 sp kY n 27 ((cs.drop 5).take (Tryz.prog.cellsOf 27)) = xs[5]? := hf 5 _ rfl
  rw[cells27]at h5
  clear h hf
  obtain⟨v0, v1, v2, v3, v4, v5, v6, rfl⟩ := len7 hl
  have hx : xs.length = 6 := hx
  rw[List.getElem?_eq_getElem (by omega)]at h0 h1 h2 h3 h4 h5
  obtain⟨n0, a0⟩ := Dm.jE Tryz.underlying3 h0 c
  obtain⟨n1, a1⟩ := Dm.jE Tryz.underlying3 h1 c
  obtain⟨n2, a2⟩ := Dm.jE Tryz.underlying3 h2 c
  obtain⟨n3, a3⟩ := Dm.jE Tryz.underlying3 h3 c
  obtain⟨n4, a4⟩ := Dm.jE Tryz.underlying3 h4 c
  obtain⟨n5, k5, a5⟩ := read27 h5 hc
  exact⟨⟨n0, n1, n2, n3, n4, (n5).has, (n5).vals⟩, k5, (a0.append (a1.append (a2.append (a3.append (a4.append a5)))))⟩

theorem read22{cs : List Value}(h : DataW.trod enc Tryz.prog w 0 sp kY fuel 22 cs = some x){c : Dm.Ctx}(hc : Dm.zM c w) : ∃ a : List Dm.Tc.mY, (∀ z ∈ a, (z).has.length ≤ 9223372036854775807) ∧ Dm.kA c [Dm.eL false 7 Dm.Tc.hU a] cs := by
  obtain⟨l, h1, h2, h3⟩ := Dm.Jw (α := Dm.Tc.mY) Tryz.underlying22 cells77 (by decide) h hc Dm.Tc.hU (fun(a : Dm.Tc.mY) => (a).has.length ≤ 9223372036854775807) (fun ecs y n hn => by
    exact read77 hn hc.still)
  exact⟨l, h1, h3⟩

theorem read24{cs : List Value}(h : DataW.trod enc Tryz.prog w 0 sp kY fuel 24 cs = some x){c : Dm.Ctx}(hc : Dm.zM c w) : ∃ a : Dm.Tc.D9, (∀ z ∈ (a).steps, z.has.length ≤ 9223372036854775807) ∧ Dm.kA c (Dm.aP 2 (Dm.Tc.xY a)) cs := by
  obtain⟨xs, n, _, _, hl, hx, hf⟩ := DataW.trod_struct Tryz.underlying24 h
  rw[cells24]at hl
  have h0 : DataW.trod enc Tryz.prog w 0 sp kY n 3 ((cs.drop 0).take (Tryz.prog.cellsOf 3)) = xs[0]? := hf 0 _ rfl
  rw[cells3]at h0
  have h1 : DataW.trod enc Tryz.prog w 0 sp kY n 22 ((cs.drop 1).take (Tryz.prog.cellsOf 22)) = xs[1]? := hf 1 _ rfl
  rw[cells22]at h1
  clear h hf
  obtain⟨v0, v1, rfl⟩ := len2 hl
  have hx : xs.length = 2 := hx
  rw[List.getElem?_eq_getElem (by omega)]at h0 h1
  obtain⟨n0, a0⟩ := Dm.jE Tryz.underlying3 h0 c
  obtain⟨n1, k1, a1⟩ := read22 h1 hc
  exact⟨⟨n0, n1⟩, k1, (a0.append a1)⟩

theorem read28{cs : List Value}(h : DataW.trod enc Tryz.prog w 0 sp kY fuel 28 cs = some x){c : Dm.Ctx}(hc : Dm.zM c w) : ∃ a : Dm.Tc.PK, Dm.kA c (Dm.aP 2 (Dm.Tc.ePK a)) cs := by
  obtain⟨xs, n, _, _, hl, hx, hf⟩ := DataW.trod_struct Tryz.underlying28 h
  rw[cells28]at hl
  have h0 : DataW.trod enc Tryz.prog w 0 sp kY n 25 ((cs.drop 0).take (Tryz.prog.cellsOf 25)) = xs[0]? := hf 0 _ rfl
  rw[cells25]at h0
  have h1 : DataW.trod enc Tryz.prog w 0 sp kY n 25 ((cs.drop 1).take (Tryz.prog.cellsOf 25)) = xs[1]? := hf 1 _ rfl
  rw[cells25]at h1
  clear h hf
  obtain⟨v0, v1, rfl⟩ := len2 hl
  have hx : xs.length = 2 := hx
  rw[List.getElem?_eq_getElem (by omega)]at h0 h1
  obtain⟨n0, k0, a0⟩ := read25 h0 hc
  obtain⟨n1, k1, a1⟩ := read25 h1 hc
  exact⟨⟨n0, n1⟩, (a0.append a1)⟩

theorem read30{cs : List Value}(h : DataW.trod enc Tryz.prog w 0 sp kY fuel 30 cs = some x){c : Dm.Ctx}(hc : Dm.zM c w) : ∃ a : Dm.Tc.Bt, (a).has.length ≤ 9223372036854775807 ∧ Dm.kA c (Dm.aP 9 (Dm.Tc.qH a)) cs := by
  obtain⟨xs, n, _, _, hl, hx, hf⟩ := DataW.trod_struct Tryz.underlying30 h
  rw[cells30]at hl
  have h0 : DataW.trod enc Tryz.prog w 0 sp kY n 3 ((cs.drop 0).take (Tryz.prog.cellsOf 3)) = xs[0]? := hf 0 _ rfl
  rw[cells3]at h0
  have h1 : DataW.trod enc Tryz.prog w 0 sp kY n 3 ((cs.drop 1).take (Tryz.prog.cellsOf 3)) = xs[1]? := hf 1 _ rfl
  rw[cells3]at h1
  have h2 : DataW.trod enc Tryz.prog w 0 sp kY n 3 ((cs.drop 2).take (Tryz.prog.cellsOf 3)) = xs[2]? := hf 2 _ rfl
  rw[cells3]at h2
  have h3 : DataW.trod enc Tryz.prog w 0 sp kY n 3 ((cs.drop 3).take (Tryz.prog.cellsOf 3)) = xs[3]? := hf 3 _ rfl
  rw[cells3]at h3
  have h4 : DataW.trod enc Tryz.prog w 0 sp kY n 3 ((cs.drop 4).take (Tryz.prog.cellsOf 3)) = xs[4]? := hf 4 _ rfl
  rw[cells3]at h4
  have h5 : DataW.trod enc Tryz.prog w 0 sp kY n 27 ((cs.drop 5).take (Tryz.prog.cellsOf 27)) = xs[5]? := hf 5 _ rfl
  rw[cells27]at h5
  have h6 : DataW.trod enc Tryz.prog w 0 sp kY n 28 ((cs.drop 7).take (Tryz.prog.cellsOf 28)) = xs[6]? := hf 6 _ rfl
  rw[cells28]at h6
  clear h hf
  obtain⟨v0, v1, v2, v3, v4, v5, v6, v7, v8, rfl⟩ := len9 hl
  have hx : xs.length = 7 := hx
  rw[List.getElem?_eq_getElem (by omega)]at h0 h1 h2 h3 h4 h5 h6
  obtain⟨n0, a0⟩ := Dm.jE Tryz.underlying3 h0 c
  obtain⟨n1, a1⟩ := Dm.jE Tryz.underlying3 h1 c
  obtain⟨n2, a2⟩ := Dm.jE Tryz.underlying3 h2 c
  obtain⟨n3, a3⟩ := Dm.jE Tryz.underlying3 h3 c
  obtain⟨n4, a4⟩ := Dm.jE Tryz.underlying3 h4 c
  obtain⟨n5, k5, a5⟩ := read27 h5 hc
  obtain⟨n6, a6⟩ := read28 h6 hc
  exact⟨⟨n0, n1, n2, n3, n4, (n5).has, (n5).vals, (n6).has, (n6).vals⟩, k5, (a0.append (a1.append (a2.append (a3.append (a4.append (a5.append a6))))))⟩

end

theorem runs(x0 : Dm.Tc.D9)(x1 : Dm.Tc.Bt)(x2 : Dm.Tc.Bt)(x3 : Int)(x4 : Int)(c0 : (∀ z ∈ (x0).steps, z.has.length ≤ 9223372036854775807))(c1 : (x1).has.length ≤ 9223372036854775807)(c2 : (x2).has.length ≤ 9223372036854775807) : Dm.fc Dm.Tc.D 4 [Dm.Tc.xY x0, Dm.Tc.qH x1, Dm.Tc.qH x2, .int .i64 x3, .int .i64 x4] Dm.pQ = some (.bool true, Dm.pQ) := by
  rw[Dm.Tc.e4]
  have h1 : [Dm.Tc.xY x0, Dm.Tc.qH x1, Dm.Tc.qH x2, .int .i64 x3, .int .i64 x4].mapM (Dm.resolve true Dm.pQ Dm.cW) = some [Dm.Tc.xY x0, Dm.Tc.qH x1, Dm.Tc.qH x2, .int .i64 x3, .int .i64 x4] := Dm.pK fun d hd => by
    simp only[List.mem_cons, List.not_mem_nil, or_false]at hd
    rcases hd with rfl | rfl | rfl | rfl | rfl
    · refine Dm.xQ (k := 1) (fun y hy => ?_) true Dm.pQ Dm.cW (by decide); simp only[List.mem_cons, List.not_mem_nil, or_false]at hy; rcases hy with rfl | rfl <;> first | exact Dm.eM _ _ _ _ | exact Dm.fA _ _ | exact Dm.pP _
    · refine Dm.xQ (k := 1) (fun y hy => ?_) true Dm.pQ Dm.cW (by decide); simp only[List.mem_cons, List.not_mem_nil, or_false]at hy; rcases hy with rfl | rfl | rfl | rfl | rfl | rfl | rfl | rfl | rfl <;> first | exact Dm.eM _ _ _ _ | exact Dm.fA _ _ | exact Dm.pP _
    · refine Dm.xQ (k := 1) (fun y hy => ?_) true Dm.pQ Dm.cW (by decide); simp only[List.mem_cons, List.not_mem_nil, or_false]at hy; rcases hy with rfl | rfl | rfl | rfl | rfl | rfl | rfl | rfl | rfl <;> first | exact Dm.eM _ _ _ _ | exact Dm.fA _ _ | exact Dm.pP _
    · exact Dm.fA _ _ true Dm.pQ Dm.cW (by decide)
    · exact Dm.fA _ _ true Dm.pQ Dm.cW (by decide)
  rw[h1, Dm.Br, Dm.Tc.s4 x0 x1 x2 x3 x4 c0 c1 c2, Dm.Bq]

theorem walk {H : Type} {enc : TypeId × Value → H} {sp : Nat → Bool} {kY : Bool} {u0 u1 u2 u3 u4 : Nat} {y0 y1 y2 y3 y4 : DataW H × List MemPlace} (w : World) (v0 : Array Value) (v1 : Array Value) (v2 : Array Value) (v3 : Value) (v4 : Value) (h0 : DataW.trod enc Tryz.prog w 0 sp kY u0 24 v0.toList = some y0) (h1 : DataW.trod enc Tryz.prog w 0 sp kY u1 30 v1.toList = some y1) (h2 : DataW.trod enc Tryz.prog w 0 sp kY u2 30 v2.toList = some y2) (h3 : DataW.trod enc Tryz.prog w 0 sp kY u3 3 [v3] = some y3) (h4 : DataW.trod enc Tryz.prog w 0 sp kY u4 3 [v4] = some y4) (hL : laidMetH Tryz.prog [("errors.errorType", Rows.laid_errors_errorType)] w) :
    Calls Tryz.prog 4 #[.agg v0, .agg v1, .agg v2, v3, v4] w fun e w' => e = .returned (.bool true) ∧ Grown w w' ∧ ∀ b, b < w.heap.size → w'.heap[b]? = w.heap[b]? := by
  obtain⟨x0, c0, k0⟩ := read24 h0 (Dm.zM.zero w)
  obtain⟨x1, c1, k1⟩ := read30 h1 (Dm.zM.zero w)
  obtain⟨x2, c2, k2⟩ := read30 h2 (Dm.zM.zero w)
  obtain⟨x3, k3⟩ := Dm.jE Tryz.underlying3 h3 (Dm.V1 w)
  obtain⟨x4, k4⟩ := Dm.jE Tryz.underlying3 h4 (Dm.V1 w)
  refine Dm.IF Dm.Tc.OL (fn := Tryz.f4) (by kernel_rfl) rfl (by decide) (runs x0 x1 x2 x3 x4 c0 c1 c2) w (Card.laid_of hL) (vs := [.agg v0, .agg v1, .agg v2, v3, v4]) ⟨rfl, fun i a1 a2 => ?_⟩
  match i, a1, a2 with
  | 0, _, _ => exact vr_agg k0
  | 1, _, _ => exact vr_agg k1
  | 2, _, _ => exact vr_agg k2
  | 3, _, _ => exact(k3.2 0 (Nat.zero_lt_one) (Nat.zero_lt_one)).1
  | 4, _, _ => exact(k4.2 0 (Nat.zero_lt_one) (Nat.zero_lt_one)).1

set_option maxRecDepth 100000 in
theorem lifted(os : Os)(started : os.Started)(H : Type)(enc : TypeId × Value → H) :
    ReturnsInHanded {} Tryz.checked os 4 .any (fun w args => (Rows.brokerOrderSpec.pre enc Tryz.prog Tryz.f4 Rows.brokerOrderRow.domain false w args ∧ laidMetH Tryz.prog [("errors.errorType", Rows.laid_errors_errorType)] w) ∧ sizedMet enc Tryz.prog Tryz.f4 (OpenSpec.ofChange Rows.brokerOrderSpec) false w args)
      (Rows.brokerOrderSpec.post enc Tryz.prog Tryz.f4 false true false false) := by
  refine returnsInHanded_of_change_and (C := Tryz.checked) (X := fun w _ => laidMetH Tryz.prog [("errors.errorType", Rows.laid_errors_errorType)] w) (fun _ _ _ hh h => h.of_heap hh) Card.own started (by kernel_rfl) Tryz.func4
    (ChangeSpec.witness_at (enc := enc) (C := Tryz.checked) (os := os) (X := fun w _ => laidMetH Tryz.prog [("errors.errorType", Rows.laid_errors_errorType)] w) false (Card.laidWorld os) #[.agg #[.int .i64 0, .slice none 0 0], .agg #[.int .i64 0, .int .i64 0, .int .i64 0, .int .i64 0, .int .i64 0, .slice none 0 0, .slice none 0 0, .slice none 0 0, .slice none 0 0], .agg #[.int .i64 0, .int .i64 0, .int .i64 0, .int .i64 0, .int .i64 0, .slice none 0 0, .slice none 0 0, .slice none 0 0, .slice none 0 0], .int .i64 0, .int .i64 0] 8 rfl (by kernel_rfl) (by kernel_rfl) (by kernel_rfl) (by kernel_rfl) (by kernel_rfl) (Card.laidWorld_met os _)) ?_
  intro W base args ds gs before hval0 hW hcnd _ hL _
  have Zc : ∀ (j : Nat) t v, Tryz.f4.params[j]? = some t → args[j]? = some v → Value.okWide Tryz.prog W .any base t v := hval0
  have hW' := hW
  obtain⟨p, q, hA0, hV, rfl, hfz, hnd⟩ := hW
  have hA : DataW.TrodAll enc Tryz.prog W 0 (fun _ => true) true Tryz.f4.params.toList args.toList ds p := hA0
  have hAk := hA
  rw[Tryz.params4]at hA Zc
  obtain⟨v0, r0, d0, e0, p0, q0, hargs, rfl, rfl, h0, b0⟩ := trodAll_cons hA
  obtain⟨v1, r1, d1, e1, p1, q1, rfl, rfl, rfl, h1, b1⟩ := trodAll_cons b0
  obtain⟨v2, r2, d2, e2, p2, q2, rfl, rfl, rfl, h2, b2⟩ := trodAll_cons b1
  obtain⟨v3, r3, d3, e3, p3, q3, rfl, rfl, rfl, h3, b3⟩ := trodAll_cons b2
  obtain⟨v4, r4, d4, e4, p4, q4, rfl, rfl, rfl, h4, b4⟩ := trodAll_cons b3
  obtain⟨rfl, rfl, rfl⟩ := trodAll_nil b4
  obtain rfl : args = #[v0, v1, v2, v3, v4] := by cases args; simp_all
  clear hargs
  obtain⟨rfl, rfl⟩ := trodVars_none hV
  obtain⟨cs0, rfl, _⟩ := okWide_struct Tryz.underlying24 (Zc 0 24 v0 rfl rfl)
  obtain⟨cs1, rfl, _⟩ := okWide_struct Tryz.underlying30 (Zc 1 30 v1 rfl rfl)
  obtain⟨cs2, rfl, _⟩ := okWide_struct Tryz.underlying30 (Zc 2 30 v2 rfl rfl)
  obtain⟨m3, rfl⟩ := okWide_int Tryz.underlying3 (Zc 3 3 v3 rfl rfl)
  obtain⟨m4, rfl⟩ := okWide_int Tryz.underlying3 (Zc 4 3 v4 rfl rfl)
  obtain⟨u0, g0⟩ := h0
  obtain⟨u1, g1⟩ := h1
  obtain⟨u2, g2⟩ := h2
  obtain⟨u3, g3⟩ := h3
  obtain⟨u4, g4⟩ := h4
  clear hA0 hval0 hA
  have bD : ∀ y ∈ (p0 ++ (p1 ++ (p2 ++ (p3 ++ (p4 ++ []))))), y.block < W.heap.size := DataW.TrodAll.lt hAk
  refine(walk W cs0 cs1 cs2 _ _ g0 g1 g2 g3 g4 hL).mono fun e W' ⟨he, hg, hb⟩ => ?_
  subst he
  exact⟨_, rfl, post_of_same (pa := (p0 ++ (p1 ++ (p2 ++ (p3 ++ (p4 ++ [])))))) (pv := []) hW' (fun _ _ _ => (trodAll_cons_mk (shut_bool Tryz.underlying4 _) trodAll_mk0)) (fun sp hsp => DataW.TrodAll.respare kids full (by rw[Tryz.params4]; intro t ht; simp only[List.mem_cons, List.not_mem_nil, or_false]at ht; rcases ht with rfl | rfl | rfl | rfl | rfl <;> first | exact few3 | exact few24 | exact few30) (Dm.Cc hb _ hAk bD) (fun y hy => hsp y (by simpa using hy))) (fun _ _ => rfl) (by simp)
    (hg.frame _) hg.2.1 (ok_one (by kernel_rfl) rfl (okWide_bool_mk Tryz.underlying4 _))⟩

theorem k0 : Tryz.pinned.checked.prog.funcNamed Rows.brokerOrderRow.func = some 4 := by kernel_rfl
theorem k1 : Tryz.pinned.checked.prog.inPlace 4 = Rows.brokerOrderRow.inPlace := by kernel_rfl
theorem k2 : Tryz.pinned.checked.prog.unfollowed 4 = Rows.brokerOrderRow.unfollowed := by kernel_rfl
theorem k3 : Tryz.pinned.checked.prog.recurses 4 = Rows.brokerOrderRow.recurses := by kernel_rfl
theorem k4 : Tryz.pinned.checked.prog.varsNamed 4 = Rows.brokerOrderRow.named := by kernel_rfl
theorem k5 : false = Rows.brokerOrderRow.goesBy Tryz.pinned.checked.prog := by kernel_rfl
theorem facts : joinedFacts Tryz.pinned.checked.prog 4 Tryz.f4 Rows.brokerOrderSpec Rows.brokerOrderRow = true := by
  unfold joinedFacts
  rw[k1, k2, k3, k4, Card.laidOut, Card.mapsRowed]
  kernel_rfl

theorem over : Rows.brokerOrderRow.holds Tryz.pinned (OpenSpec.ofChange Rows.brokerOrderSpec) :=
  OpenClaim.holds_of_wide 4 Tryz.f4 rfl rfl rfl rfl rfl rfl rfl ⟨rfl, rfl, rfl, rfl, rfl⟩ rfl rfl rfl rfl rfl k0 Tryz.func4 facts
    (of_decide_eq_true (by kernel_rfl)) (by unfold Func.isWrapper; first | (rw[if_pos (by decide +kernel)]; kernel_rfl) | (rw[if_neg (by decide +kernel)]; exact⟨rfl, rfl⟩))
    (fun os started H enc _ => lifted os started H enc)

theorem proved : Rows.BrokerOrderCardSaid :=
  Claim7.holds_tied_plain_at .later [] [.handle] true (true, "3d22f4f3f612e728fc6d646ac5512cd5b5d21aad3fd25a6260a4eb73a19e7b69") true
    over (fun _ h => by cases h) (by kernel_rfl) (fun _ h => by cases h) brokerOrder_row_tie rfl ⟨rfl, rfl⟩ (by kernel_rfl) rfl
    (fun f fn hf hfn => by
      obtain rfl : f = 4 := Option.some.inj (k0.symm.trans hf) |>.symm
      obtain rfl : fn = Tryz.f4 := (Option.some.inj (Tryz.func4.symm.trans hfn)).symm
      exact⟨by kernel_rfl, fun j t ht => by
        rw[Tryz.params4]at ht
        match j, ht with
        | 0, ht => obtain rfl : 24 = t := Option.some.inj ht; exact (show Tryz.prog.wantsStandIn 24 = false by kernel_rfl)
        | 1, ht => obtain rfl : 30 = t := Option.some.inj ht; exact (show Tryz.prog.wantsStandIn 30 = false by kernel_rfl)
        | 2, ht => obtain rfl : 30 = t := Option.some.inj ht; exact (show Tryz.prog.wantsStandIn 30 = false by kernel_rfl)
        | 3, ht => obtain rfl : 3 = t := Option.some.inj ht; exact (show Tryz.prog.wantsStandIn 3 = false by kernel_rfl)
        | 4, ht => obtain rfl : 3 = t := Option.some.inj ht; exact (show Tryz.prog.wantsStandIn 3 = false by kernel_rfl)
        | j + 5, ht => simp at ht⟩)
    k5
end Go.Proofs.YtegofjiikhlokaaGreatDoor.brokerOrder
