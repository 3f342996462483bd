/-
Proved: the function AdvertsOnce answers true for every two rows of numbers and every predicate made of numbers, in every world in which the statement lets it be called, and leaves what was there as it was. Conditions: those of the statement, no others.
The walk is a run of the machine "Dm", symbolic in the arguments; the law is in the text of its specifications.
-/
import Derived.Test.YtkkbjjobdcjaiaaRows
import Derived.WalkKit
import Derived.ProofKit
import Derived.OpenShut
import Derived.ReadAgain
import Derived.Test.YtkkbjjobdcjaiaaMm5
import Derived.Test.YtkkbjjobdcjaiaaMs1
namespace Go.Proofs.Ytkkbjjobdcjaiaa.advertsOnce
open Go.ChangeShapes Go.WideShapes Go.ChangeAt Go.RowKit

theorem own : ownKnob Try.prog.godebug = none := by kernel_rfl
theorem kids : Kids Try.prog (· < Try.prog.types.size) := kids_rows (by kernel_rfl) (by kernel_rfl)
theorem full : ∀ t e, t < Try.prog.types.size → Try.prog.underlying t = some (.slice e) → 0 < Try.prog.cellsOf e := slices_full_of Try.prog (by kernel_rfl)
theorem cells3 : Try.prog.cellsOf 3 = 1 := by kernel_rfl
theorem cells22 : Try.prog.cellsOf 22 = 1 := by kernel_rfl
theorem cells24 : Try.prog.cellsOf 24 = 2 := by kernel_rfl
theorem few : 24 < Try.prog.types.size := of_decide_eq_true (by kernel_rfl)
theorem len2 {α : Type} : ∀ {l : List α}, l.length = 2 → ∃ a b, l = [a, b]
  | [a, b], _ => ⟨a, b, rfl⟩
theorem vr_agg {c : Dm.Ctx} {ds : List Dm.DV} {cs : Array Value} (h : Dm.CellsR c ds cs.toList) : Dm.VR c (.agg ds) (.agg cs) := by
  have := Dm.VR.agg (c := c) h.1 (fun i h2 => (h.2 i (by rw [h.1]; exact h2) h2).2) (fun i h1 h2 => (h.2 i h1 h2).1)
  simpa using this

section
variable {H : Type} {enc : TypeId × Value → H} {w : World} {sp : Nat → Bool} {held : Bool} {fuel : Nat} {x : DataW H × List MemPlace}

theorem read_ints {cs : List Value} (h : DataW.trod enc Try.prog w 0 sp held fuel 22 cs = some x) {c : Dm.Ctx} (hc : Dm.Bare c w) : ∃ l : List Int, l.length ≤ maxLen ∧ Dm.CellsR c [Dm.eL false 1 Dm.cInt l] cs := by
  obtain ⟨l, _, h2, h3⟩ := Dm.read_slice (α := Int) Try.underlying22 cells3 (by decide) h hc Dm.cInt (fun _ => True) (fun ecs y n hn => by
    obtain ⟨m, hm⟩ := Dm.read_int Try.underlying3 hn c.still
    exact ⟨m, trivial, hm⟩)
  exact ⟨l, h2, h3⟩

theorem read_pred {cs : List Value} (h : DataW.trod enc Try.prog w 0 sp held fuel 24 cs = some x) {c : Dm.Ctx} (hc : Dm.Bare c w) : ∃ has vals : List Int, has.length ≤ maxLen ∧ Dm.CellsR c [Dm.eL false 1 Dm.cInt has, Dm.eL false 1 Dm.cInt vals] cs := by
  obtain ⟨xs, n, _, _, hl, hx, hf⟩ := DataW.trod_struct Try.underlying24 h
  rw [cells24] at hl
  have h0 : DataW.trod enc Try.prog w 0 sp held n 22 ((cs.drop 0).take (Try.prog.cellsOf 22)) = xs[0]? := hf 0 _ rfl
  have h1 : DataW.trod enc Try.prog w 0 sp held n 22 ((cs.drop 1).take (Try.prog.cellsOf 22)) = xs[1]? := hf 1 _ rfl
  rw [cells22] at h0 h1
  clear h hf
  obtain ⟨v0, v1, rfl⟩ := len2 hl
  have hx : xs.length = 2 := hx
  rw [List.getElem?_eq_getElem (by omega)] at h0 h1
  obtain ⟨has, a1, a2⟩ := read_ints h0 hc
  obtain ⟨vals, _, b2⟩ := read_ints h1 hc
  exact ⟨has, vals, a1, a2.append b2⟩
end

theorem runs (cs ss has vals : List Int) (hl : has.length ≤ 9223372036854775807) : Dm.fc Dm.Tc.D 3 [Dm.eL false 1 Dm.cInt cs, Dm.eL false 1 Dm.cInt ss, .agg [Dm.eL false 1 Dm.cInt has, Dm.eL false 1 Dm.cInt vals]] Dm.emptyH = some (.bool true, Dm.emptyH) := by
  rw [Dm.Tc.e3]
  have fl := fun l : List Int => Dm.flat_eL false 1 Dm.cInt l
  have h1 : [Dm.eL false 1 Dm.cInt cs, Dm.eL false 1 Dm.cInt ss, .agg [Dm.eL false 1 Dm.cInt has, Dm.eL false 1 Dm.cInt vals]].mapM (Dm.resolve true Dm.emptyH Dm.deepFuel) = some [Dm.eL false 1 Dm.cInt cs, Dm.eL false 1 Dm.cInt ss, .agg [Dm.eL false 1 Dm.cInt has, Dm.eL false 1 Dm.cInt vals]] := Dm.mapM_self fun d hd => by
    simp only [List.mem_cons, List.not_mem_nil, or_false] at hd
    rcases hd with rfl | rfl | rfl
    · exact fl cs true Dm.emptyH Dm.deepFuel (by decide)
    · exact fl ss true Dm.emptyH Dm.deepFuel (by decide)
    · refine Dm.flat_agg (k := 1) (fun y hy => ?_) true Dm.emptyH Dm.deepFuel (by decide)
      simp only [List.mem_cons, List.not_mem_nil, or_false] at hy
      rcases hy with rfl | rfl
      · exact fl has
      · exact fl vals
  rw [h1, Dm.callP_some, Dm.Tc.s3 false false cs ss has vals hl, Dm.callR_some]

/-! ### STEP 1: THE WALK -/
theorem walk {H : Type} {enc : TypeId × Value → H} {sp : Nat → Bool} {held : Bool} {u1 u2 u3 : Nat} {x1 x2 x3 : DataW H × List MemPlace} (w : World) (v1 v2 : Value) (cs : Array Value) (h1 : DataW.trod enc Try.prog w 0 sp held u1 22 [v1] = some x1) (h2 : DataW.trod enc Try.prog w 0 sp held u2 22 [v2] = some x2) (h3 : DataW.trod enc Try.prog w 0 sp held u3 24 cs.toList = some x3) :
    Calls Try.prog 3 #[v1, v2, .agg cs] w fun e w' => e = .returned (.bool true) ∧ Grown w w' ∧ ∀ b, b < w.heap.size → w'.heap[b]? = w.heap[b]? := by
  obtain ⟨l1, _, k1⟩ := read_ints h1 (Dm.Bare.zero w)
  obtain ⟨l2, _, k2⟩ := read_ints h2 (Dm.Bare.zero w)
  obtain ⟨has, vals, k0, k3⟩ := read_pred h3 (Dm.Bare.zero w)
  refine Dm.args_true Dm.Tc.good (fn := Try.f3) (by kernel_rfl) rfl (by decide) (runs l1 l2 has vals k0) w (fun b v h => by cases h) (vs := [v1, v2, .agg cs]) ⟨rfl, fun i a1 a2 => ?_⟩
  match i, a1, a2 with
  | 0, _, _ => exact (k1.2 0 (Nat.zero_lt_one) (Nat.zero_lt_one)).1
  | 1, _, _ => exact (k2.2 0 (Nat.zero_lt_one) (Nat.zero_lt_one)).1
  | 2, _, _ => exact vr_agg k3

/-! ### THE ROW's STEP -/
set_option maxRecDepth 100000 in
theorem lifted (os : Os) (started : os.Started) (H : Type) (enc : TypeId × Value → H) :
    ReturnsInHanded {} Try.checked os 3 .any (Rows.advertsOnceSpec.pre6 enc Try.prog Try.f3 Rows.advertsOnceRow.domain false) (Rows.advertsOnceSpec.post enc Try.prog Try.f3 false true false false) := by
  refine returnsInHanded_of_change (C := Try.checked) own started (by kernel_rfl) Try.func3
    (ChangeSpec.witness6 (enc := enc) (C := Try.checked) false ⟨#[], #[.slice none 0 0, .slice none 0 0, .agg #[.slice none 0 0, .slice none 0 0]], []⟩ 8 (by kernel_rfl) (by kernel_rfl) (by kernel_rfl) (by kernel_rfl)) ?_
  intro W base args ds gs before hval0 hW hcnd _
  have hval : ∀ (j : Nat) t v, Try.f3.params[j]? = some t → args[j]? = some v → Value.okWide Try.prog W .any base t v := hval0
  have hW' := hW
  obtain ⟨p, q, hA0, hV, rfl, hfz, hnd⟩ := hW
  have hA : DataW.TrodAll enc Try.prog W 0 (fun _ => true) true Try.f3.params.toList args.toList ds p := hA0
  have hAk := hA
  rw [Try.params3] at hA hval
  obtain ⟨v0, v1, v2, d0, d1, d2, p0, p1, p2, rfl, rfl, rfl, h0, h1, h2⟩ := trodAll_three hA
  obtain ⟨rfl, rfl⟩ := trodVars_none hV
  obtain ⟨a0, n0, m0, rfl⟩ := okWide_slice Try.underlying22 (hval 0 22 v0 rfl rfl)
  obtain ⟨a1, n1, m1, rfl⟩ := okWide_slice Try.underlying22 (hval 1 22 v1 rfl rfl)
  obtain ⟨cs, rfl, _⟩ := okWide_struct Try.underlying24 (hval 2 24 v2 rfl rfl)
  obtain ⟨u0, g0⟩ := h0
  obtain ⟨u1, g1⟩ := h1
  obtain ⟨u2, g2⟩ := h2
  clear hA0 hval0 hA
  have hlt : ∀ y ∈ p0 ++ p1 ++ p2, y.block < W.heap.size := DataW.TrodAll.lt hAk
  refine (walk W _ _ cs g0 g1 g2).mono fun e W' ⟨he, hg, hb⟩ => ?_
  subst he
  exact ⟨_, rfl, post_of_same (pa := p0 ++ p1 ++ p2) (pv := []) hW' (fun _ _ _ => (trodAll_cons_mk (shut_bool Try.underlying4 _) trodAll_mk0)) (fun sp hsp => DataW.TrodAll.respare kids full (by rw [Try.params3]; intro t ht; simp only [List.mem_cons, List.not_mem_nil, or_false] at ht; have h24 := few; have h22 : 22 < Try.prog.types.size := Nat.lt_trans (by decide) h24; rcases ht with rfl | rfl | rfl <;> assumption) (Dm.trodAll_same hb _ hAk hlt) (fun y hy => hsp y (by simpa using hy))) (fun _ _ => rfl) (by simp)
    (hg.frame _) hg.2.1 (ok_one (by kernel_rfl) rfl (okWide_bool_mk Try.underlying4 _))⟩

theorem over : Rows.advertsOnceRow.holds Try.pinned (OpenSpec.ofChange Rows.advertsOnceSpec) :=
  OpenClaim.holds_of_wide 3 Try.f3 rfl rfl rfl rfl rfl rfl rfl ⟨rfl, rfl, rfl, rfl, rfl⟩ rfl rfl rfl rfl rfl (by kernel_rfl) Try.func3 (by kernel_rfl)
    (of_decide_eq_true (by kernel_rfl)) (by unfold Func.isWrapper; first | (rw [if_pos (by decide +kernel)]; kernel_rfl) | (rw [if_neg (by decide +kernel)]; exact ⟨rfl, rfl⟩))
    (fun os started H enc _ => lifted os started H enc)

/-- The statement. -/
theorem proved : Rows.AdvertsOnceSaid :=
  over
end Go.Proofs.Ytkkbjjobdcjaiaa.advertsOnce
