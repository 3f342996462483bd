/-
Proved: the function AdvertsWrong answers true for all its arguments, in every world in which the statement lets it be called, and leaves what was there as it was. Conditions: those of the statement, no others.
The walk is a run of the machine "Dm", symbolic in the arguments; the law is in the text of its specifications.
-/
import Derived.Test.YtfnhanajiibciaaGreatRows
import Derived.WalkKit
import Derived.ProofKit
import Derived.OpenShut
import Derived.ReadAgain
import Derived.Test.YtfnhanajiibciaaGreatMm4
import Derived.Test.YtfnhanajiibciaaGreatMs3
namespace Go.Proofs.YtfnhanajiibciaaGreat.advertsWrong
open Go.ChangeShapes Go.WideShapes Go.ChangeAt Go.RowKit

theorem own : ownKnob Tryz.prog.godebug = none := by kernel_rfl
theorem kids : Kids Tryz.prog (· < Tryz.prog.types.size) := kids_rows (by kernel_rfl) (by kernel_rfl)
theorem full : ∀ t e, t < Tryz.prog.types.size → Tryz.prog.underlying t = some (.slice e) → 0 < Tryz.prog.cellsOf e := slices_full_of Tryz.prog (by kernel_rfl)
theorem cells3 : Tryz.prog.cellsOf 3 = 1 := by kernel_rfl
theorem cells23 : Tryz.prog.cellsOf 23 = 1 := by kernel_rfl
theorem cells32 : Tryz.prog.cellsOf 32 = 2 := by kernel_rfl
theorem cells96 : Tryz.prog.cellsOf 96 = 7 := by kernel_rfl
theorem cells53 : Tryz.prog.cellsOf 53 = 1 := by kernel_rfl
theorem cells55 : Tryz.prog.cellsOf 55 = 2 := by kernel_rfl
theorem few3 : 3 < Tryz.prog.types.size := of_decide_eq_true (by kernel_rfl)
theorem few55 : 55 < Tryz.prog.types.size := of_decide_eq_true (by kernel_rfl)
theorem len2 {α : Type} : ∀ {l : List α}, l.length = 2 → ∃ a b, l = [a, b]
  | [a, b], _ => ⟨a, b, rfl⟩
theorem len7 {α : Type} : ∀ {l : List α}, l.length = 7 → ∃ a b c d e f g, l = [a, b, c, d, e, f, g]
  | [a, b, c, d, e, f, g], _ => ⟨a, b, c, d, e, f, g, rfl⟩
theorem vr_agg {c : Dm.Ctx} {ds : List Dm.DV} {cs : Array Value} (h : Dm.CellsR c ds cs.toList) : Dm.VR c (.agg ds) (.agg cs) := by
  have := Dm.VR.agg (c := c) h.1 (fun i h2 => (h.2 i (by rw [h.1]; exact h2) h2).2) (fun i h1 h2 => (h.2 i h1 h2).1)
  simpa using this

section
variable {H : Type} {enc : TypeId × Value → H} {w : World} {sp : Nat → Bool} {held : Bool} {fuel : Nat} {x : DataW H × List MemPlace}

theorem read23 {cs : List Value} (h : DataW.trod enc Tryz.prog w 0 sp held fuel 23 cs = some x) {c : Dm.Ctx} (hc : Dm.Bare c w) : ∃ a : List Int, (a).length ≤ maxLen ∧ Dm.CellsR c [Dm.eL false 1 Dm.cInt a] cs := by
  obtain ⟨l, h1, h2, h3⟩ := Dm.read_slice (α := Int) Tryz.underlying23 cells3 (by decide) h hc Dm.cInt (fun _ => True) (fun ecs y n hn => by
    obtain ⟨m, hm⟩ := Dm.read_int Tryz.underlying3 hn c.still
    exact ⟨m, trivial, hm⟩)
  exact ⟨l, h2, h3⟩

theorem read32 {cs : List Value} (h : DataW.trod enc Tryz.prog w 0 sp held fuel 32 cs = some x) {c : Dm.Ctx} (hc : Dm.Bare c w) : ∃ a : Dm.Tc.PK, (a).has.length ≤ 9223372036854775807 ∧ Dm.CellsR c (Dm.ecells 2 (Dm.Tc.ePK a)) cs := by
  obtain ⟨xs, n, _, _, hl, hx, hf⟩ := DataW.trod_struct Tryz.underlying32 h
  rw [cells32] at hl
  have h0 : DataW.trod enc Tryz.prog w 0 sp held n 23 ((cs.drop 0).take (Tryz.prog.cellsOf 23)) = xs[0]? := hf 0 _ rfl
  rw [cells23] at h0
  have h1 : DataW.trod enc Tryz.prog w 0 sp held n 23 ((cs.drop 1).take (Tryz.prog.cellsOf 23)) = xs[1]? := hf 1 _ rfl
  rw [cells23] at h1
  clear h hf
  obtain ⟨v0, v1, rfl⟩ := len2 hl
  have hx : xs.length = 2 := hx
  rw [List.getElem?_eq_getElem (by omega)] at h0 h1
  obtain ⟨n0, k0, a0⟩ := read23 h0 hc
  obtain ⟨n1, k1, a1⟩ := read23 h1 hc
  exact ⟨⟨n0, n1⟩, k0, (a0.append a1)⟩

theorem read96 {cs : List Value} (h : DataW.trod enc Tryz.prog w 0 sp held fuel 96 cs = some x) {c : Dm.Ctx} (hc : Dm.Bare c w) : ∃ a : Dm.Tc.StepK, (a).has.length ≤ 9223372036854775807 ∧ Dm.CellsR c (Dm.ecells 7 (Dm.Tc.eStepK a)) cs := by
  obtain ⟨xs, n, _, _, hl, hx, hf⟩ := DataW.trod_struct Tryz.underlying96 h
  rw [cells96] at hl
  have h0 : DataW.trod enc Tryz.prog w 0 sp held n 3 ((cs.drop 0).take (Tryz.prog.cellsOf 3)) = xs[0]? := hf 0 _ rfl
  rw [cells3] at h0
  have h1 : DataW.trod enc Tryz.prog w 0 sp held n 3 ((cs.drop 1).take (Tryz.prog.cellsOf 3)) = xs[1]? := hf 1 _ rfl
  rw [cells3] at h1
  have h2 : DataW.trod enc Tryz.prog w 0 sp held n 3 ((cs.drop 2).take (Tryz.prog.cellsOf 3)) = xs[2]? := hf 2 _ rfl
  rw [cells3] at h2
  have h3 : DataW.trod enc Tryz.prog w 0 sp held n 3 ((cs.drop 3).take (Tryz.prog.cellsOf 3)) = xs[3]? := hf 3 _ rfl
  rw [cells3] at h3
  have h4 : DataW.trod enc Tryz.prog w 0 sp held n 3 ((cs.drop 4).take (Tryz.prog.cellsOf 3)) = xs[4]? := hf 4 _ rfl
  rw [cells3] at h4
  have h5 : DataW.trod enc Tryz.prog w 0 sp held n 32 ((cs.drop 5).take (Tryz.prog.cellsOf 32)) = xs[5]? := hf 5 _ rfl
  rw [cells32] at h5
  clear h hf
  obtain ⟨v0, v1, v2, v3, v4, v5, v6, rfl⟩ := len7 hl
  have hx : xs.length = 6 := hx
  rw [List.getElem?_eq_getElem (by omega)] at h0 h1 h2 h3 h4 h5
  obtain ⟨n0, a0⟩ := Dm.read_int Tryz.underlying3 h0 c
  obtain ⟨n1, a1⟩ := Dm.read_int Tryz.underlying3 h1 c
  obtain ⟨n2, a2⟩ := Dm.read_int Tryz.underlying3 h2 c
  obtain ⟨n3, a3⟩ := Dm.read_int Tryz.underlying3 h3 c
  obtain ⟨n4, a4⟩ := Dm.read_int Tryz.underlying3 h4 c
  obtain ⟨n5, k5, a5⟩ := read32 h5 hc
  exact ⟨⟨n0, n1, n2, n3, n4, (n5).has, (n5).vals⟩, k5, (a0.append (a1.append (a2.append (a3.append (a4.append a5)))))⟩

theorem read53 {cs : List Value} (h : DataW.trod enc Tryz.prog w 0 sp held fuel 53 cs = some x) {c : Dm.Ctx} (hc : Dm.Bare c w) : ∃ a : List Dm.Tc.StepK, (∀ z ∈ a, (z).has.length ≤ 9223372036854775807) ∧ Dm.CellsR c [Dm.eL false 7 Dm.Tc.eStepK a] cs := by
  obtain ⟨l, h1, h2, h3⟩ := Dm.read_slice (α := Dm.Tc.StepK) Tryz.underlying53 cells96 (by decide) h hc Dm.Tc.eStepK (fun (a : Dm.Tc.StepK) => (a).has.length ≤ 9223372036854775807) (fun ecs y n hn => by
    exact read96 hn hc.still)
  exact ⟨l, h1, h3⟩

theorem read55 {cs : List Value} (h : DataW.trod enc Tryz.prog w 0 sp held fuel 55 cs = some x) {c : Dm.Ctx} (hc : Dm.Bare c w) : ∃ a : Dm.Tc.BrokK, (∀ z ∈ (a).steps, z.has.length ≤ 9223372036854775807) ∧ Dm.CellsR c (Dm.ecells 2 (Dm.Tc.eBrokK a)) cs := by
  obtain ⟨xs, n, _, _, hl, hx, hf⟩ := DataW.trod_struct Tryz.underlying55 h
  rw [cells55] at hl
  have h0 : DataW.trod enc Tryz.prog w 0 sp held n 3 ((cs.drop 0).take (Tryz.prog.cellsOf 3)) = xs[0]? := hf 0 _ rfl
  rw [cells3] at h0
  have h1 : DataW.trod enc Tryz.prog w 0 sp held n 53 ((cs.drop 1).take (Tryz.prog.cellsOf 53)) = xs[1]? := hf 1 _ rfl
  rw [cells53] at h1
  clear h hf
  obtain ⟨v0, v1, rfl⟩ := len2 hl
  have hx : xs.length = 2 := hx
  rw [List.getElem?_eq_getElem (by omega)] at h0 h1
  obtain ⟨n0, a0⟩ := Dm.read_int Tryz.underlying3 h0 c
  obtain ⟨n1, k1, a1⟩ := read53 h1 hc
  exact ⟨⟨n0, n1⟩, k1, (a0.append a1)⟩

end

theorem runs (x0 : Dm.Tc.BrokK) (x1 : Int) (c0 : (∀ z ∈ (x0).steps, z.has.length ≤ 9223372036854775807)) : Dm.fc Dm.Tc.D 4 [Dm.Tc.eBrokK x0, .int .i64 x1] Dm.emptyH = some (.bool true, Dm.emptyH) := by
  rw [Dm.Tc.e4]
  have h1 : [Dm.Tc.eBrokK x0, .int .i64 x1].mapM (Dm.resolve true Dm.emptyH Dm.deepFuel) = some [Dm.Tc.eBrokK x0, .int .i64 x1] := Dm.mapM_self fun d hd => by
    simp only [List.mem_cons, List.not_mem_nil, or_false] at hd
    rcases hd with rfl | rfl
    · refine Dm.flat_agg (k := 1) (fun y hy => ?_) true Dm.emptyH Dm.deepFuel (by decide); simp only [List.mem_cons, List.not_mem_nil, or_false] at hy; rcases hy with rfl | rfl <;> first | exact Dm.flat_eL _ _ _ _ | exact Dm.flat_int _ _ | exact Dm.flat_bool _
    · exact Dm.flat_int _ _ true Dm.emptyH Dm.deepFuel (by decide)
  rw [h1, Dm.callP_some, Dm.Tc.s4 x0 x1 c0, Dm.callR_some]

/-! ### STEP 1: THE WALK -/
theorem walk {H : Type} {enc : TypeId × Value → H} {sp : Nat → Bool} {held : Bool} {u0 u1 : Nat} {y0 y1 : DataW H × List MemPlace} (w : World) (v0 : Array Value) (v1 : Value) (h0 : DataW.trod enc Tryz.prog w 0 sp held u0 55 v0.toList = some y0) (h1 : DataW.trod enc Tryz.prog w 0 sp held u1 3 [v1] = some y1) :
    Calls Tryz.prog 4 #[.agg v0, v1] w fun e w' => e = .returned (.bool true) ∧ Grown w w' ∧ ∀ b, b < w.heap.size → w'.heap[b]? = w.heap[b]? := by
  obtain ⟨x0, c0, k0⟩ := read55 h0 (Dm.Bare.zero w)
  obtain ⟨x1, k1⟩ := Dm.read_int Tryz.underlying3 h1 (Dm.ctx0 w)
  refine Dm.args_true Dm.Tc.good (fn := Tryz.f4) (by kernel_rfl) rfl (by decide) (runs x0 x1 c0) w (fun b v h => by cases h) (vs := [.agg v0, v1]) ⟨rfl, fun i a1 a2 => ?_⟩
  match i, a1, a2 with
  | 0, _, _ => exact vr_agg k0
  | 1, _, _ => exact (k1.2 0 (Nat.zero_lt_one) (Nat.zero_lt_one)).1

/-! ### THE ROW's STEP -/
set_option maxRecDepth 100000 in
theorem lifted (os : Os) (started : os.Started) (H : Type) (enc : TypeId × Value → H) :
    ReturnsInHanded {} Tryz.checked os 4 .any (Rows.advertsWrongSpec.pre6 enc Tryz.prog Tryz.f4 Rows.advertsWrongRow.domain false) (Rows.advertsWrongSpec.post enc Tryz.prog Tryz.f4 false true false false) := by
  refine returnsInHanded_of_change (C := Tryz.checked) own started (by kernel_rfl) Tryz.func4
    (ChangeSpec.witness6 (enc := enc) (C := Tryz.checked) false ⟨#[], #[.agg #[.int .i64 0, .slice none 0 0], .int .i64 0], []⟩ 8 (by kernel_rfl) (by kernel_rfl) (by kernel_rfl) (by kernel_rfl)) ?_
  intro W base args ds gs before hval0 hW hcnd _
  have hval : ∀ (j : Nat) t v, Tryz.f4.params[j]? = some t → args[j]? = some v → Value.okWide Tryz.prog W .any base t v := hval0
  have hW' := hW
  obtain ⟨p, q, hA0, hV, rfl, hfz, hnd⟩ := hW
  have hA : DataW.TrodAll enc Tryz.prog W 0 (fun _ => true) true Tryz.f4.params.toList args.toList ds p := hA0
  have hAk := hA
  rw [Tryz.params4] at hA hval
  obtain ⟨v0, r0, d0, e0, p0, q0, hargs, rfl, rfl, h0, b0⟩ := trodAll_cons hA
  obtain ⟨v1, r1, d1, e1, p1, q1, rfl, rfl, rfl, h1, b1⟩ := trodAll_cons b0
  obtain ⟨rfl, rfl, rfl⟩ := trodAll_nil b1
  obtain rfl : args = #[v0, v1] := by cases args; simp_all
  clear hargs
  obtain ⟨rfl, rfl⟩ := trodVars_none hV
  obtain ⟨cs0, rfl, _⟩ := okWide_struct Tryz.underlying55 (hval 0 55 v0 rfl rfl)
  obtain ⟨m1, rfl⟩ := okWide_int Tryz.underlying3 (hval 1 3 v1 rfl rfl)
  obtain ⟨u0, g0⟩ := h0
  obtain ⟨u1, g1⟩ := h1
  clear hA0 hval0 hA
  have hlt : ∀ y ∈ (p0 ++ (p1 ++ [])), y.block < W.heap.size := DataW.TrodAll.lt hAk
  refine (walk W cs0 _ g0 g1).mono fun e W' ⟨he, hg, hb⟩ => ?_
  subst he
  exact ⟨_, rfl, post_of_same (pa := (p0 ++ (p1 ++ []))) (pv := []) hW' (fun _ _ _ => (trodAll_cons_mk (shut_bool Tryz.underlying4 _) trodAll_mk0)) (fun sp hsp => DataW.TrodAll.respare kids full (by rw [Tryz.params4]; intro t ht; simp only [List.mem_cons, List.not_mem_nil, or_false] at ht; rcases ht with rfl | rfl <;> first | exact few3 | exact few55) (Dm.trodAll_same hb _ hAk hlt) (fun y hy => hsp y (by simpa using hy))) (fun _ _ => rfl) (by simp)
    (hg.frame _) hg.2.1 (ok_one (by kernel_rfl) rfl (okWide_bool_mk Tryz.underlying4 _))⟩

theorem over : Rows.advertsWrongRow.holds Tryz.pinned (OpenSpec.ofChange Rows.advertsWrongSpec) :=
  OpenClaim.holds_of_wide 4 Tryz.f4 rfl rfl rfl rfl rfl rfl rfl ⟨rfl, rfl, rfl, rfl, rfl⟩ rfl rfl rfl rfl rfl (by kernel_rfl) Tryz.func4 (by kernel_rfl)
    (of_decide_eq_true (by kernel_rfl)) (by unfold Func.isWrapper; first | (rw [if_pos (by decide +kernel)]; kernel_rfl) | (rw [if_neg (by decide +kernel)]; exact ⟨rfl, rfl⟩))
    (fun os started H enc _ => lifted os started H enc)

/-- The statement. -/
theorem proved : Rows.AdvertsWrongSaid :=
  over
end Go.Proofs.YtfnhanajiibciaaGreat.advertsWrong
