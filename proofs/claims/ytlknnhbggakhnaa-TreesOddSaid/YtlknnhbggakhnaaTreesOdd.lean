/-
Proved: the function TreesOdd answers true for all its arguments, in every world in which the statement lets it be called, and leaves what was there as it was. Conditions: those of the statement, no others.
The walk is a run of the machine "Dm", symbolic in the arguments; the law is in the text of its specifications.
-/
import Derived.Test.YtlknnhbggakhnaaRows
import Derived.WalkKit
import Derived.ProofKit
import Derived.OpenShut
import Derived.ReadAgain
import Derived.Test.YtlknnhbggakhnaaMm4
import Derived.Test.YtlknnhbggakhnaaMs0
namespace Go.Proofs.Ytlknnhbggakhnaa.treesOdd
open Go.ChangeShapes Go.WideShapes Go.ChangeAt Go.RowKit

theorem own : ownKnob Try.prog.godebug = none := by kernel_rfl
theorem kids : Kids Try.prog (· < Try.prog.types.size) := kids_rows (by kernel_rfl) (by kernel_rfl)
theorem full : ∀ t e, t < Try.prog.types.size → Try.prog.underlying t = some (.slice e) → 0 < Try.prog.cellsOf e := slices_full_of Try.prog (by kernel_rfl)
theorem cells3 : Try.prog.cellsOf 3 = 1 := by kernel_rfl
theorem few3 : 3 < Try.prog.types.size := of_decide_eq_true (by kernel_rfl)
theorem vr_agg {c : Dm.Ctx} {ds : List Dm.DV} {cs : Array Value} (h : Dm.CellsR c ds cs.toList) : Dm.VR c (.agg ds) (.agg cs) := by
  have := Dm.VR.agg (c := c) h.1 (fun i h2 => (h.2 i (by rw [h.1]; exact h2) h2).2) (fun i h1 h2 => (h.2 i h1 h2).1)
  simpa using this

section
variable {H : Type} {enc : TypeId × Value → H} {w : World} {sp : Nat → Bool} {held : Bool} {fuel : Nat} {x : DataW H × List MemPlace}

end

theorem runs (x0 : Int) (x1 : Int) (x2 : Int)  : Dm.fc Dm.Tc.D 4 [.int .i64 x0, .int .i64 x1, .int .i64 x2] Dm.emptyH = some (.bool true, Dm.emptyH) := by
  rw [Dm.Tc.e4]
  have h1 : [.int .i64 x0, .int .i64 x1, .int .i64 x2].mapM (Dm.resolve true Dm.emptyH Dm.deepFuel) = some [.int .i64 x0, .int .i64 x1, .int .i64 x2] := Dm.mapM_self fun d hd => by
    simp only [List.mem_cons, List.not_mem_nil, or_false] at hd
    rcases hd with rfl | rfl | rfl
    · exact Dm.flat_int _ _ true Dm.emptyH Dm.deepFuel (by decide)
    · exact Dm.flat_int _ _ true Dm.emptyH Dm.deepFuel (by decide)
    · exact Dm.flat_int _ _ true Dm.emptyH Dm.deepFuel (by decide)
  rw [h1, Dm.callP_some, Dm.Tc.s4 x0 x1 x2, Dm.callR_some]

/-! ### STEP 1: THE WALK -/
theorem walk {H : Type} {enc : TypeId × Value → H} {sp : Nat → Bool} {held : Bool} {u0 u1 u2 : Nat} {y0 y1 y2 : DataW H × List MemPlace} (w : World) (v0 : Value) (v1 : Value) (v2 : Value) (h0 : DataW.trod enc Try.prog w 0 sp held u0 3 [v0] = some y0) (h1 : DataW.trod enc Try.prog w 0 sp held u1 3 [v1] = some y1) (h2 : DataW.trod enc Try.prog w 0 sp held u2 3 [v2] = some y2) :
    Calls Try.prog 4 #[v0, v1, v2] w fun e w' => e = .returned (.bool true) ∧ Grown w w' ∧ ∀ b, b < w.heap.size → w'.heap[b]? = w.heap[b]? := by
  obtain ⟨x0, k0⟩ := Dm.read_int Try.underlying3 h0 (Dm.ctx0 w)
  obtain ⟨x1, k1⟩ := Dm.read_int Try.underlying3 h1 (Dm.ctx0 w)
  obtain ⟨x2, k2⟩ := Dm.read_int Try.underlying3 h2 (Dm.ctx0 w)
  refine Dm.args_true Dm.Tc.good (fn := Try.f4) (by kernel_rfl) rfl (by decide) (runs x0 x1 x2) w (fun b v h => by cases h) (vs := [v0, v1, v2]) ⟨rfl, fun i a1 a2 => ?_⟩
  match i, a1, a2 with
  | 0, _, _ => exact (k0.2 0 (Nat.zero_lt_one) (Nat.zero_lt_one)).1
  | 1, _, _ => exact (k1.2 0 (Nat.zero_lt_one) (Nat.zero_lt_one)).1
  | 2, _, _ => exact (k2.2 0 (Nat.zero_lt_one) (Nat.zero_lt_one)).1

/-! ### THE ROW's STEP -/
set_option maxRecDepth 100000 in
theorem lifted (os : Os) (started : os.Started) (H : Type) (enc : TypeId × Value → H) :
    ReturnsInHanded {} Try.checked os 4 .any (Rows.treesOddSpec.pre6 enc Try.prog Try.f4 Rows.treesOddRow.domain false) (Rows.treesOddSpec.post enc Try.prog Try.f4 false true false false) := by
  refine returnsInHanded_of_change (C := Try.checked) own started (by kernel_rfl) Try.func4
    (ChangeSpec.witness6 (enc := enc) (C := Try.checked) false ⟨#[], #[.int .i64 0, .int .i64 0, .int .i64 0], []⟩ 8 (by kernel_rfl) (by kernel_rfl) (by kernel_rfl) (by kernel_rfl)) ?_
  intro W base args ds gs before hval0 hW hcnd _
  have hval : ∀ (j : Nat) t v, Try.f4.params[j]? = some t → args[j]? = some v → Value.okWide Try.prog W .any base t v := hval0
  have hW' := hW
  obtain ⟨p, q, hA0, hV, rfl, hfz, hnd⟩ := hW
  have hA : DataW.TrodAll enc Try.prog W 0 (fun _ => true) true Try.f4.params.toList args.toList ds p := hA0
  have hAk := hA
  rw [Try.params4] at hA hval
  obtain ⟨v0, r0, d0, e0, p0, q0, hargs, rfl, rfl, h0, b0⟩ := trodAll_cons hA
  obtain ⟨v1, r1, d1, e1, p1, q1, rfl, rfl, rfl, h1, b1⟩ := trodAll_cons b0
  obtain ⟨v2, r2, d2, e2, p2, q2, rfl, rfl, rfl, h2, b2⟩ := trodAll_cons b1
  obtain ⟨rfl, rfl, rfl⟩ := trodAll_nil b2
  obtain rfl : args = #[v0, v1, v2] := by cases args; simp_all
  clear hargs
  obtain ⟨rfl, rfl⟩ := trodVars_none hV
  obtain ⟨m0, rfl⟩ := okWide_int Try.underlying3 (hval 0 3 v0 rfl rfl)
  obtain ⟨m1, rfl⟩ := okWide_int Try.underlying3 (hval 1 3 v1 rfl rfl)
  obtain ⟨m2, rfl⟩ := okWide_int Try.underlying3 (hval 2 3 v2 rfl rfl)
  obtain ⟨u0, g0⟩ := h0
  obtain ⟨u1, g1⟩ := h1
  obtain ⟨u2, g2⟩ := h2
  clear hA0 hval0 hA
  have hlt : ∀ y ∈ (p0 ++ (p1 ++ (p2 ++ []))), y.block < W.heap.size := DataW.TrodAll.lt hAk
  refine (walk W _ _ _ g0 g1 g2).mono fun e W' ⟨he, hg, hb⟩ => ?_
  subst he
  exact ⟨_, rfl, post_of_same (pa := (p0 ++ (p1 ++ (p2 ++ [])))) (pv := []) hW' (fun _ _ _ => (trodAll_cons_mk (shut_bool Try.underlying4 _) trodAll_mk0)) (fun sp hsp => DataW.TrodAll.respare kids full (by rw [Try.params4]; intro t ht; simp only [List.mem_cons, List.not_mem_nil, or_false] at ht; rcases ht with rfl | rfl | rfl <;> first | exact few3) (Dm.trodAll_same hb _ hAk hlt) (fun y hy => hsp y (by simpa using hy))) (fun _ _ => rfl) (by simp)
    (hg.frame _) hg.2.1 (ok_one (by kernel_rfl) rfl (okWide_bool_mk Try.underlying4 _))⟩

theorem over : Rows.treesOddRow.holds Try.pinned (OpenSpec.ofChange Rows.treesOddSpec) :=
  OpenClaim.holds_of_wide 4 Try.f4 rfl rfl rfl rfl rfl rfl rfl ⟨rfl, rfl, rfl, rfl, rfl⟩ rfl rfl rfl rfl rfl (by kernel_rfl) Try.func4 (by kernel_rfl)
    (of_decide_eq_true (by kernel_rfl)) (by unfold Func.isWrapper; first | (rw [if_pos (by decide +kernel)]; kernel_rfl) | (rw [if_neg (by decide +kernel)]; exact ⟨rfl, rfl⟩))
    (fun os started H enc _ => lifted os started H enc)

/-- The statement. -/
theorem proved : Rows.TreesOddSaid :=
  over
end Go.Proofs.Ytlknnhbggakhnaa.treesOdd
