/-
Proved: the function NetFloods answers true for all its arguments, in every world in which the statement lets it be called, and leaves what was there as it was. Conditions: those of the statement, no others.
The walk is a run of the machine "Dm", symbolic in the arguments; the law is in the text of its specifications.
-/
import Derived.Test.YtfkbogedodngeaaGreatDoorRows
import Derived.Test.YtfkbogedodngeaaGreatDoorCards
import Derived.Test.YtfkbogedodngeaaGreatDoorTie
import Derived.Test.YtfkbogedodngeaaGreatDoorLaid
import Derived.SevenTiedAt
import Derived.WalkKit
import Derived.ProofKit
import Derived.OpenShut
import Derived.ReadAgain
import Derived.Test.YtfkbogedodngeaaGreatDoorMm6
import Derived.Test.YtfkbogedodngeaaGreatDoorMs3
namespace Go.Proofs.YtfkbogedodngeaaGreatDoor.netFloods
open Go.ChangeShapes Go.WideShapes Go.ChangeAt Go.RowKit

theorem own : ownKnob Tryz.prog.godebug = none := by kernel_rfl
theorem kids : Kids Tryz.prog (· < Tryz.prog.types.size) := kids_rows (by kernel_rfl) (by kernel_rfl)
theorem full : ∀ t e, t < Tryz.prog.types.size → Tryz.prog.underlying t = some (.slice e) → 0 < Tryz.prog.cellsOf e := slices_full_of Tryz.prog (by kernel_rfl)
theorem cells3 : Tryz.prog.cellsOf 3 = 1 := by kernel_rfl
theorem cells25 : Tryz.prog.cellsOf 25 = 1 := by kernel_rfl
theorem cells73 : Tryz.prog.cellsOf 73 = 3 := by kernel_rfl
theorem cells27 : Tryz.prog.cellsOf 27 = 2 := by kernel_rfl
theorem few3 : 3 < Tryz.prog.types.size := of_decide_eq_true (by kernel_rfl)
theorem few25 : 25 < Tryz.prog.types.size := of_decide_eq_true (by kernel_rfl)
theorem few27 : 27 < Tryz.prog.types.size := of_decide_eq_true (by kernel_rfl)
theorem few73 : 73 < Tryz.prog.types.size := of_decide_eq_true (by kernel_rfl)
theorem len2{α : Type} : ∀ {l : List α}, l.length = 2 → ∃ a b, l = [a, b]
  | [a, b], _ => ⟨a, b, rfl⟩
theorem len3{α : Type} : ∀ {l : List α}, l.length = 3 → ∃ a b c, l = [a, b, c]
  | [a, b, c], _ => ⟨a, b, c, rfl⟩
theorem vr_agg{c : Dm.Ctx}{ds : List Dm.DV}{cs : Array Value}(h : Dm.jZ c ds cs.toList) : Dm.VR c (.agg ds) (.agg cs) := by
  have := Dm.VR.agg (c := c) h.1 (fun i h2 => (h.2 i (by rw[h.1]; exact h2) h2).2) (fun i h1 h2 => (h.2 i h1 h2).1)
  simpa using this

section
variable {H : Type} {enc : TypeId × Value → H} {w : World} {sp : Nat → Bool} {tD : Bool} {fuel : Nat} {x : DataW H × List MemPlace}

theorem read25{cs : List Value}(h : DataW.trod enc Tryz.prog w 0 sp tD fuel 25 cs = some x){c : Dm.Ctx}(hc : Dm.El c w) : ∃ a : List Int, (a).length ≤ maxLen ∧ Dm.jZ c [Dm.eL false 1 Dm.bW a] cs := by
  obtain⟨l, h1, h2, h3⟩ := Dm.Zp (α := Int) Tryz.underlying25 cells3 (by decide) h hc Dm.bW (fun _ => True) (fun ecs y n hn => by
    obtain⟨m, hm⟩ := Dm.Ge Tryz.underlying3 hn c.still
    exact⟨m, trivial, hm⟩)
  exact⟨l, h2, h3⟩

theorem read73{cs : List Value}(h : DataW.trod enc Tryz.prog w 0 sp tD fuel 73 cs = some x){c : Dm.Ctx}(hc : Dm.El c w) : ∃ a : Dm.Tc.Rc, Dm.jZ c (Dm.aF 3 (Dm.Tc.wP a)) cs := by
  obtain⟨xs, n, _, _, hl, hx, hf⟩ := DataW.trod_struct Tryz.underlying73 h
  rw[cells73]at hl
  have h0 : DataW.trod enc Tryz.prog w 0 sp tD n 3 ((cs.drop 0).take (Tryz.prog.cellsOf 3)) = xs[0]? := hf 0 _ rfl
  rw[cells3]at h0
  have h1 : DataW.trod enc Tryz.prog w 0 sp tD n 25 ((cs.drop 1).take (Tryz.prog.cellsOf 25)) = xs[1]? := hf 1 _ rfl
  rw[cells25]at h1
  have h2 : DataW.trod enc Tryz.prog w 0 sp tD n 25 ((cs.drop 2).take (Tryz.prog.cellsOf 25)) = xs[2]? := hf 2 _ rfl
  rw[cells25]at h2
  clear h hf
  obtain⟨v0, v1, v2, rfl⟩ := len3 hl
  have hx : xs.length = 3 := hx
  rw[List.getElem?_eq_getElem (by omega)]at h0 h1 h2
  obtain⟨n0, a0⟩ := Dm.Ge Tryz.underlying3 h0 c
  obtain⟨n1, k1, a1⟩ := read25 h1 hc
  obtain⟨n2, k2, a2⟩ := read25 h2 hc
  exact⟨⟨n0, n1, n2⟩, (a0.append (a1.append a2))⟩

theorem read27{cs : List Value}(h : DataW.trod enc Tryz.prog w 0 sp tD fuel 27 cs = some x){c : Dm.Ctx}(hc : Dm.El c w) : ∃ a : Dm.Tc.PK, (a).has.length ≤ 9223372036854775807 ∧ Dm.jZ c (Dm.aF 2 (Dm.Tc.ePK a)) cs := by
  obtain⟨xs, n, _, _, hl, hx, hf⟩ := DataW.trod_struct Tryz.underlying27 h
  rw[cells27]at hl
  have h0 : DataW.trod enc Tryz.prog w 0 sp tD n 25 ((cs.drop 0).take (Tryz.prog.cellsOf 25)) = xs[0]? := hf 0 _ rfl
  rw[cells25]at h0
  have h1 : DataW.trod enc Tryz.prog w 0 sp tD n 25 ((cs.drop 1).take (Tryz.prog.cellsOf 25)) = xs[1]? := hf 1 _ rfl
  rw[cells25]at h1
  clear h hf
  obtain⟨v0, v1, rfl⟩ := len2 hl
  have hx : xs.length = 2 := hx
  rw[List.getElem?_eq_getElem (by omega)]at h0 h1
  obtain⟨n0, k0, a0⟩ := read25 h0 hc
  obtain⟨n1, k1, a1⟩ := read25 h1 hc
  exact⟨⟨n0, n1⟩, k0, (a0.append a1)⟩

end

theorem runs(x0 : Dm.Tc.Rc)(x1 : Int)(x2 : List Int)(x3 : Dm.Tc.PK)(c2 : (x2).length ≤ maxLen)(c3 : (x3).has.length ≤ 9223372036854775807) : Dm.fc Dm.Tc.D 5 [Dm.Tc.wP x0, .int .i64 x1, Dm.eL false 1 Dm.bW x2, Dm.Tc.ePK x3] Dm.iK = some (.bool true, Dm.iK) := by
  rw[Dm.Tc.e5]
  have h1 : [Dm.Tc.wP x0, .int .i64 x1, Dm.eL false 1 Dm.bW x2, Dm.Tc.ePK x3].mapM (Dm.resolve true Dm.iK Dm.bT) = some [Dm.Tc.wP x0, .int .i64 x1, Dm.eL false 1 Dm.bW x2, Dm.Tc.ePK x3] := Dm.wI fun d hd => by
    simp only[List.mem_cons, List.not_mem_nil, or_false]at hd
    rcases hd with rfl | rfl | rfl | rfl
    · refine Dm.sB (k := 1) (fun y hy => ?_) true Dm.iK Dm.bT (by decide); simp only[List.mem_cons, List.not_mem_nil, or_false]at hy; rcases hy with rfl | rfl | rfl <;> first | exact Dm.eX _ _ _ _ | exact Dm.gU _ _ | exact Dm.Ce _
    · exact Dm.gU _ _ true Dm.iK Dm.bT (by decide)
    · exact Dm.eX _ _ _ _ true Dm.iK Dm.bT (by decide)
    · refine Dm.sB (k := 1) (fun y hy => ?_) true Dm.iK Dm.bT (by decide); simp only[List.mem_cons, List.not_mem_nil, or_false]at hy; rcases hy with rfl | rfl <;> first | exact Dm.eX _ _ _ _ | exact Dm.gU _ _ | exact Dm.Ce _
  rw[h1, Dm.tP, Dm.Tc.s5 x0 x1 x2 x3 c3, Dm.yT]

/-! ### STEP 1: THE WALK -/
theorem walk {H : Type} {enc : TypeId × Value → H} {sp : Nat → Bool} {tD : Bool} {u0 u1 u2 u3 : Nat} {y0 y1 y2 y3 : DataW H × List MemPlace} (w : World) (v0 : Array Value) (v1 : Value) (v2 : Value) (v3 : Array Value) (h0 : DataW.trod enc Tryz.prog w 0 sp tD u0 73 v0.toList = some y0) (h1 : DataW.trod enc Tryz.prog w 0 sp tD u1 3 [v1] = some y1) (h2 : DataW.trod enc Tryz.prog w 0 sp tD u2 25 [v2] = some y2) (h3 : DataW.trod enc Tryz.prog w 0 sp tD u3 27 v3.toList = some y3) (hL : laidMetH Tryz.prog [("errors.errorType", Rows.laid_errors_errorType)] w) :
    Calls Tryz.prog 5 #[.agg v0, v1, v2, .agg v3] w fun e w' => e = .returned (.bool true) ∧ Go.Dm.LF w w' ∧ ∀ b, b < w.heap.size → w'.heap[b]? = w.heap[b]? := by
  obtain⟨x0, k0⟩ := read73 h0 (Dm.El.zero w)
  obtain⟨x1, k1⟩ := Dm.Ge Tryz.underlying3 h1 (Dm.Ql w)
  obtain⟨x2, c2, k2⟩ := read25 h2 (Dm.El.zero w)
  obtain⟨x3, c3, k3⟩ := read27 h3 (Dm.El.zero w)
  refine Dm.DI Dm.Tc.good (fn := Tryz.f5) (by kernel_rfl) rfl (by decide) (runs x0 x1 x2 x3 c2 c3) w (Card.laid_of hL) (vs := [.agg v0, v1, v2, .agg v3]) ⟨rfl, fun i a1 a2 => ?_⟩
  match i, a1, a2 with
  | 0, _, _ => exact vr_agg k0
  | 1, _, _ => exact(k1.2 0 (Nat.zero_lt_one) (Nat.zero_lt_one)).1
  | 2, _, _ => exact(k2.2 0 (Nat.zero_lt_one) (Nat.zero_lt_one)).1
  | 3, _, _ => exact vr_agg k3

/-! ### THE ROW's STEP -/
set_option maxRecDepth 100000 in
theorem lifted(os : Os)(started : os.Started)(H : Type)(enc : TypeId × Value → H) :
    ReturnsInHanded {} Tryz.checked os 5 .any (fun w args => (Rows.netFloodsSpec.pre enc Tryz.prog Tryz.f5 Rows.netFloodsRow.domain false w args ∧ laidMetH Tryz.prog [("errors.errorType", Rows.laid_errors_errorType)] w) ∧ sizedMet enc Tryz.prog Tryz.f5 (OpenSpec.ofChange Rows.netFloodsSpec) false w args)
      (Rows.netFloodsSpec.post enc Tryz.prog Tryz.f5 false true false false) := by
  refine returnsInHanded_of_change_and (C := Tryz.checked) (X := fun w _ => laidMetH Tryz.prog [("errors.errorType", Rows.laid_errors_errorType)] w) (fun _ _ _ hh h => h.of_heap hh) Card.own started (by kernel_rfl) Tryz.func5
    (ChangeSpec.witness_at (enc := enc) (C := Tryz.checked) (os := os) (X := fun w _ => laidMetH Tryz.prog [("errors.errorType", Rows.laid_errors_errorType)] w) false (Card.laidWorld os) #[.agg #[.int .i64 0, .slice none 0 0, .slice none 0 0], .int .i64 0, .slice none 0 0, .agg #[.slice none 0 0, .slice none 0 0]] 8 rfl (by kernel_rfl) (by kernel_rfl) (by kernel_rfl) (by kernel_rfl) (by kernel_rfl) (Card.laidWorld_met os _)) ?_
  intro W base args ds gs before hval0 hW hcnd _ hL _
  have D3 : ∀ (j : Nat) t v, Tryz.f5.params[j]? = some t → args[j]? = some v → Value.okWide Tryz.prog W .any base t v := hval0
  have hW' := hW
  obtain⟨p, q, hA0, hV, rfl, hfz, LM⟩ := hW
  have hA : DataW.TrodAll enc Tryz.prog W 0 (fun _ => true) true Tryz.f5.params.toList args.toList ds p := hA0
  have hAk := hA
  rw[Tryz.params5]at hA D3
  obtain⟨v0, r0, d0, e0, p0, q0, hargs, rfl, rfl, h0, b0⟩ := trodAll_cons hA
  obtain⟨v1, r1, d1, e1, p1, q1, rfl, rfl, rfl, h1, b1⟩ := trodAll_cons b0
  obtain⟨v2, r2, d2, e2, p2, q2, rfl, rfl, rfl, h2, b2⟩ := trodAll_cons b1
  obtain⟨v3, r3, d3, e3, p3, q3, rfl, rfl, rfl, h3, b3⟩ := trodAll_cons b2
  obtain⟨rfl, rfl, rfl⟩ := trodAll_nil b3
  obtain rfl : args = #[v0, v1, v2, v3] := by cases args; simp_all
  clear hargs
  obtain⟨rfl, rfl⟩ := trodVars_none hV
  obtain⟨cs0, rfl, _⟩ := okWide_struct Tryz.underlying73 (D3 0 73 v0 rfl rfl)
  obtain⟨m1, rfl⟩ := okWide_int Tryz.underlying3 (D3 1 3 v1 rfl rfl)
  obtain⟨a2, n2, m2, rfl⟩ := okWide_slice Tryz.underlying25 (D3 2 25 v2 rfl rfl)
  obtain⟨cs3, rfl, _⟩ := okWide_struct Tryz.underlying27 (D3 3 27 v3 rfl rfl)
  obtain⟨u0, g0⟩ := h0
  obtain⟨u1, g1⟩ := h1
  obtain⟨u2, g2⟩ := h2
  obtain⟨u3, g3⟩ := h3
  clear hA0 hval0 hA
  have aZ : ∀ y ∈ (p0 ++ (p1 ++ (p2 ++ (p3 ++ [])))), y.block < W.heap.size := DataW.TrodAll.lt hAk
  refine(walk W cs0 _ _ cs3 g0 g1 g2 g3 hL).mono fun e W' ⟨he, hg, hb⟩ => ?_
  subst he
  exact⟨_, rfl, Go.Dm.AF (pa := (p0 ++ (p1 ++ (p2 ++ (p3 ++ []))))) (pv := []) hW' (fun _ _ _ => (trodAll_cons_mk (shut_bool Tryz.underlying4 _) trodAll_mk0)) (fun sp hsp => DataW.TrodAll.respare kids full (by rw[Tryz.params5]; intro t ht; simp only[List.mem_cons, List.not_mem_nil, or_false]at ht; rcases ht with rfl | rfl | rfl | rfl <;> first | exact few3 | exact few25 | exact few27 | exact few73) (Dm.zB hb _ hAk aZ) (fun y hy => hsp y (by simpa using hy))) (fun _ _ => rfl) (by simp)
    (hg.frame _) hg.2.1 (ok_one (by kernel_rfl) rfl (okWide_bool_mk Tryz.underlying4 _))⟩

theorem k0 : Tryz.pinned.checked.prog.funcNamed Rows.netFloodsRow.func = some 5 := by kernel_rfl
theorem k1 : Tryz.pinned.checked.prog.inPlace 5 = Rows.netFloodsRow.inPlace := by kernel_rfl
theorem k2 : Tryz.pinned.checked.prog.unfollowed 5 = Rows.netFloodsRow.unfollowed := by kernel_rfl
theorem k3 : Tryz.pinned.checked.prog.recurses 5 = Rows.netFloodsRow.recurses := by kernel_rfl
theorem k4 : Tryz.pinned.checked.prog.varsNamed 5 = Rows.netFloodsRow.named := by kernel_rfl
theorem k5 : false = Rows.netFloodsRow.goesBy Tryz.pinned.checked.prog := by kernel_rfl
theorem facts : joinedFacts Tryz.pinned.checked.prog 5 Tryz.f5 Rows.netFloodsSpec Rows.netFloodsRow = true := by
  unfold joinedFacts
  rw[k1, k2, k3, k4, Card.laidOut, Card.mapsRowed]
  kernel_rfl

theorem over : Rows.netFloodsRow.holds Tryz.pinned (OpenSpec.ofChange Rows.netFloodsSpec) :=
  OpenClaim.holds_of_wide 5 Tryz.f5 rfl rfl rfl rfl rfl rfl rfl ⟨rfl, rfl, rfl, rfl, rfl⟩ rfl rfl rfl rfl rfl k0 Tryz.func5 facts
    (of_decide_eq_true (by kernel_rfl)) (by unfold Func.isWrapper; first | (rw[if_pos (by decide +kernel)]; kernel_rfl) | (rw[if_neg (by decide +kernel)]; exact⟨rfl, rfl⟩))
    (fun os started H enc _ => lifted os started H enc)

/-- The statement. -/
theorem proved : Rows.NetFloodsCardSaid :=
  Claim7.holds_tied_plain_at .later [] [.handle] true (true, "4ac99bd332541256dde483e728c76890e75659608d3fdb028c7a72c9986e8138") true
    over (fun _ h => by cases h) (by kernel_rfl) (fun _ h => by cases h) netFloods_row_tie rfl ⟨rfl, rfl⟩ (by kernel_rfl) rfl
    (fun f fn hf hfn => by
      obtain rfl : f = 5 := Option.some.inj (k0.symm.trans hf) |>.symm
      obtain rfl : fn = Tryz.f5 := (Option.some.inj (Tryz.func5.symm.trans hfn)).symm
      exact⟨by kernel_rfl, fun j t ht => by
        rw[Tryz.params5]at ht
        match j, ht with
        | 0, ht => obtain rfl : 73 = t := Option.some.inj ht; exact(show Tryz.prog.wantsStandIn 73 = false by kernel_rfl)
        | 1, ht => obtain rfl : 3 = t := Option.some.inj ht; exact(show Tryz.prog.wantsStandIn 3 = false by kernel_rfl)
        | 2, ht => obtain rfl : 25 = t := Option.some.inj ht; exact(show Tryz.prog.wantsStandIn 25 = false by kernel_rfl)
        | 3, ht => obtain rfl : 27 = t := Option.some.inj ht; exact(show Tryz.prog.wantsStandIn 27 = false by kernel_rfl)
        | j + 4, ht => simp at ht⟩)
    k5
end Go.Proofs.YtfkbogedodngeaaGreatDoor.netFloods
