/-
Proved: the function TreesPaths answers true for all its arguments, in every world in which the statement lets it be called, and leaves what was there as it was. Conditions: those of the statement, no others.
The walk is a run of the machine "Dm", symbolic in the arguments; the law is in the text of its specifications.
-/
import Derived.Test.YtfkbogedodngeaaGreatRows
import Derived.WalkKit
import Derived.ProofKit
import Derived.OpenShut
import Derived.ReadAgain
import Derived.Test.YtfkbogedodngeaaGreatMm5
import Derived.Test.YtfkbogedodngeaaGreatMs3
namespace Go.Proofs.YtfkbogedodngeaaGreat.treesPaths
open Go.ChangeShapes Go.WideShapes Go.ChangeAt Go.RowKit

theorem own : ownKnob Tryz.prog.godebug = none := by kernel_rfl
theorem kids : Kids Tryz.prog (· < Tryz.prog.types.size) := kids_rows (by kernel_rfl) (by kernel_rfl)
theorem full : ∀ t e, t < Tryz.prog.types.size → Tryz.prog.underlying t = some (.slice e) → 0 < Tryz.prog.cellsOf e := slices_full_of Tryz.prog (by kernel_rfl)
theorem cells3 : Tryz.prog.cellsOf 3 = 1 := by kernel_rfl
theorem cells25 : Tryz.prog.cellsOf 25 = 1 := by kernel_rfl
theorem cells63 : Tryz.prog.cellsOf 63 = 3 := by kernel_rfl
theorem few3 : 3 < Tryz.prog.types.size := of_decide_eq_true (by kernel_rfl)
theorem few25 : 25 < Tryz.prog.types.size := of_decide_eq_true (by kernel_rfl)
theorem few63 : 63 < Tryz.prog.types.size := of_decide_eq_true (by kernel_rfl)
theorem len3{α : Type} : ∀ {l : List α}, l.length = 3 → ∃ a b c, l = [a, b, c]
  | [a, b, c], _ => ⟨a, b, c, rfl⟩
theorem vr_agg{c : Dm.Ctx}{ds : List Dm.DV}{cs : Array Value}(h : Dm.kH c ds cs.toList) : Dm.VR c (.agg ds) (.agg cs) := by
  have := Dm.VR.agg (c := c) h.1 (fun i h2 => (h.2 i (by rw[h.1]; exact h2) h2).2) (fun i h1 h2 => (h.2 i h1 h2).1)
  simpa using this

section
variable {H : Type} {enc : TypeId × Value → H} {w : World} {sp : Nat → Bool} {wC : Bool} {fuel : Nat} {x : DataW H × List MemPlace}

theorem read25{cs : List Value}(h : DataW.trod enc Tryz.prog w 0 sp wC fuel 25 cs = some x){c : Dm.Ctx}(hc : Dm.Jg c w) : ∃ a : List Int, (a).length ≤ maxLen ∧ Dm.kH c [Dm.eL false 1 Dm.bF a] cs := by
  obtain⟨l, h1, h2, h3⟩ := Dm.Xr (α := Int) Tryz.underlying25 cells3 (by decide) h hc Dm.bF (fun _ => True) (fun ecs y n hn => by
    obtain⟨m, hm⟩ := Dm.yT Tryz.underlying3 hn c.still
    exact⟨m, trivial, hm⟩)
  exact⟨l, h2, h3⟩

theorem read63{cs : List Value}(h : DataW.trod enc Tryz.prog w 0 sp wC fuel 63 cs = some x){c : Dm.Ctx}(hc : Dm.Jg c w) : ∃ a : Dm.Tc.Ph, Dm.kH c (Dm.aF 3 (Dm.Tc.vP a)) cs := by
  obtain⟨xs, n, _, _, hl, hx, hf⟩ := DataW.trod_struct Tryz.underlying63 h
  rw[cells63]at hl
  have h0 : DataW.trod enc Tryz.prog w 0 sp wC n 3 ((cs.drop 0).take (Tryz.prog.cellsOf 3)) = xs[0]? := hf 0 _ rfl
  rw[cells3]at h0
  have h1 : DataW.trod enc Tryz.prog w 0 sp wC n 25 ((cs.drop 1).take (Tryz.prog.cellsOf 25)) = xs[1]? := hf 1 _ rfl
  rw[cells25]at h1
  have h2 : DataW.trod enc Tryz.prog w 0 sp wC n 25 ((cs.drop 2).take (Tryz.prog.cellsOf 25)) = xs[2]? := hf 2 _ rfl
  rw[cells25]at h2
  clear h hf
  obtain⟨v0, v1, v2, rfl⟩ := len3 hl
  have hx : xs.length = 3 := hx
  rw[List.getElem?_eq_getElem (by omega)]at h0 h1 h2
  obtain⟨n0, a0⟩ := Dm.yT Tryz.underlying3 h0 c
  obtain⟨n1, k1, a1⟩ := read25 h1 hc
  obtain⟨n2, k2, a2⟩ := read25 h2 hc
  exact⟨⟨n0, n1, n2⟩, (a0.append (a1.append a2))⟩

end

theorem runs(x0 : Dm.Tc.Ph)(x1 : List Int)(x2 : Int)(x3 : Int)(c1 : (x1).length ≤ maxLen) : Dm.fc Dm.Tc.D 5 [Dm.Tc.vP x0, Dm.eL false 1 Dm.bF x1, .int .i64 x2, .int .i64 x3] Dm.iH = some (.bool true, Dm.iH) := by
  rw[Dm.Tc.e5]
  have h1 : [Dm.Tc.vP x0, Dm.eL false 1 Dm.bF x1, .int .i64 x2, .int .i64 x3].mapM (Dm.resolve true Dm.iH Dm.bT) = some [Dm.Tc.vP x0, Dm.eL false 1 Dm.bF x1, .int .i64 x2, .int .i64 x3] := Dm.vI fun d hd => by
    simp only[List.mem_cons, List.not_mem_nil, or_false]at hd
    rcases hd with rfl | rfl | rfl | rfl
    · refine Dm.uB (k := 1) (fun y hy => ?_) true Dm.iH Dm.bT (by decide); simp only[List.mem_cons, List.not_mem_nil, or_false]at hy; rcases hy with rfl | rfl | rfl <;> first | exact Dm.dR _ _ _ _ | exact Dm.gU _ _ | exact Dm.Kz _
    · exact Dm.dR _ _ _ _ true Dm.iH Dm.bT (by decide)
    · exact Dm.gU _ _ true Dm.iH Dm.bT (by decide)
    · exact Dm.gU _ _ true Dm.iH Dm.bT (by decide)
  rw[h1, Dm.sO, Dm.Tc.s5 x0 x1 x2 x3, Dm.xU]

/-! ### STEP 1: THE WALK -/
theorem walk{H : Type}{enc : TypeId × Value → H}{sp : Nat → Bool}{wC : Bool}{u0 u1 u2 u3 : Nat}{y0 y1 y2 y3 : DataW H × List MemPlace}(w : World)(v0 : Array Value)(v1 : Value)(v2 : Value)(v3 : Value)(h0 : DataW.trod enc Tryz.prog w 0 sp wC u0 63 v0.toList = some y0)(h1 : DataW.trod enc Tryz.prog w 0 sp wC u1 25 [v1] = some y1)(h2 : DataW.trod enc Tryz.prog w 0 sp wC u2 3 [v2] = some y2)(h3 : DataW.trod enc Tryz.prog w 0 sp wC u3 3 [v3] = some y3) :
    Calls Tryz.prog 5 #[.agg v0, v1, v2, v3] w fun e w' => e = .returned (.bool true) ∧ Go.Dm.HZ w w' ∧ ∀ b, b < w.heap.size → w'.heap[b]? = w.heap[b]? := by
  obtain⟨x0, k0⟩ := read63 h0 (Dm.Jg.zero w)
  obtain⟨x1, c1, k1⟩ := read25 h1 (Dm.Jg.zero w)
  obtain⟨x2, k2⟩ := Dm.yT Tryz.underlying3 h2 (Dm.Iu w)
  obtain⟨x3, k3⟩ := Dm.yT Tryz.underlying3 h3 (Dm.Iu w)
  refine Dm.BE Dm.Tc.good (fn := Tryz.f5) (by kernel_rfl) rfl (by decide) (runs x0 x1 x2 x3 c1) w (fun b v h => by cases h) (vs := [.agg v0, v1, v2, v3]) ⟨rfl, fun i a1 a2 => ?_⟩
  match i, a1, a2 with
  | 0, _, _ => exact vr_agg k0
  | 1, _, _ => exact(k1.2 0 (Nat.zero_lt_one) (Nat.zero_lt_one)).1
  | 2, _, _ => exact(k2.2 0 (Nat.zero_lt_one) (Nat.zero_lt_one)).1
  | 3, _, _ => exact(k3.2 0 (Nat.zero_lt_one) (Nat.zero_lt_one)).1

/-! ### THE ROW's STEP -/
set_option maxRecDepth 100000 in
theorem lifted(os : Os)(started : os.Started)(H : Type)(enc : TypeId × Value → H) :
    ReturnsInHanded {} Tryz.checked os 5 .any (Rows.treesPathsSpec.pre6 enc Tryz.prog Tryz.f5 Rows.treesPathsRow.domain false) (Rows.treesPathsSpec.post enc Tryz.prog Tryz.f5 false true false false) := by
  refine returnsInHanded_of_change (C := Tryz.checked) own started (by kernel_rfl) Tryz.func5
    (ChangeSpec.witness6 (enc := enc) (C := Tryz.checked) false ⟨#[], #[.agg #[.int .i64 0, .slice none 0 0, .slice none 0 0], .slice none 0 0, .int .i64 0, .int .i64 0], []⟩ 8 (by kernel_rfl) (by kernel_rfl) (by kernel_rfl) (by kernel_rfl)) ?_
  intro W base args ds gs before hval0 hW hcnd _
  have Ze : ∀ (j : Nat) t v, Tryz.f5.params[j]? = some t → args[j]? = some v → Value.okWide Tryz.prog W .any base t v := hval0
  have hW' := hW
  obtain⟨p, q, hA0, hV, rfl, hfz, IE⟩ := hW
  have hA : DataW.TrodAll enc Tryz.prog W 0 (fun _ => true) true Tryz.f5.params.toList args.toList ds p := hA0
  have hAk := hA
  rw[Tryz.params5]at hA Ze
  obtain⟨v0, r0, d0, e0, p0, q0, hargs, rfl, rfl, h0, b0⟩ := trodAll_cons hA
  obtain⟨v1, r1, d1, e1, p1, q1, rfl, rfl, rfl, h1, b1⟩ := trodAll_cons b0
  obtain⟨v2, r2, d2, e2, p2, q2, rfl, rfl, rfl, h2, b2⟩ := trodAll_cons b1
  obtain⟨v3, r3, d3, e3, p3, q3, rfl, rfl, rfl, h3, b3⟩ := trodAll_cons b2
  obtain⟨rfl, rfl, rfl⟩ := trodAll_nil b3
  obtain rfl : args = #[v0, v1, v2, v3] := by cases args; simp_all
  clear hargs
  obtain⟨rfl, rfl⟩ := trodVars_none hV
  obtain⟨cs0, rfl, _⟩ := okWide_struct Tryz.underlying63 (Ze 0 63 v0 rfl rfl)
  obtain⟨a1, n1, m1, rfl⟩ := okWide_slice Tryz.underlying25 (Ze 1 25 v1 rfl rfl)
  obtain⟨m2, rfl⟩ := okWide_int Tryz.underlying3 (Ze 2 3 v2 rfl rfl)
  obtain⟨m3, rfl⟩ := okWide_int Tryz.underlying3 (Ze 3 3 v3 rfl rfl)
  obtain⟨u0, g0⟩ := h0
  obtain⟨u1, g1⟩ := h1
  obtain⟨u2, g2⟩ := h2
  obtain⟨u3, g3⟩ := h3
  clear hA0 hval0 hA
  have aZ : ∀ y ∈ (p0 ++ (p1 ++ (p2 ++ (p3 ++ [])))), y.block < W.heap.size := DataW.TrodAll.lt hAk
  refine(walk W cs0 _ _ _ g0 g1 g2 g3).mono fun e W' ⟨he, hg, hb⟩ => ?_
  subst he
  exact⟨_, rfl, Go.Dm.U4 (pa := (p0 ++ (p1 ++ (p2 ++ (p3 ++ []))))) (pv := []) hW' (fun _ _ _ => (trodAll_cons_mk (shut_bool Tryz.underlying4 _) trodAll_mk0)) (fun sp hsp => DataW.TrodAll.respare kids full (by rw[Tryz.params5]; intro t ht; simp only[List.mem_cons, List.not_mem_nil, or_false]at ht; rcases ht with rfl | rfl | rfl | rfl <;> first | exact few3 | exact few25 | exact few63) (Dm.yD hb _ hAk aZ) (fun y hy => hsp y (by simpa using hy))) (fun _ _ => rfl) (by simp)
    (hg.frame _) hg.2.1 (ok_one (by kernel_rfl) rfl (okWide_bool_mk Tryz.underlying4 _))⟩

theorem over : Rows.treesPathsRow.holds Tryz.pinned (OpenSpec.ofChange Rows.treesPathsSpec) :=
  OpenClaim.holds_of_wide 5 Tryz.f5 rfl rfl rfl rfl rfl rfl rfl ⟨rfl, rfl, rfl, rfl, rfl⟩ rfl rfl rfl rfl rfl (by kernel_rfl) Tryz.func5 (by kernel_rfl)
    (of_decide_eq_true (by kernel_rfl)) (by unfold Func.isWrapper; first | (rw[if_pos (by decide +kernel)]; kernel_rfl) | (rw[if_neg (by decide +kernel)]; exact⟨rfl, rfl⟩))
    (fun os started H enc _ => lifted os started H enc)

/-- The statement. -/
theorem proved : Rows.TreesPathsSaid :=
  over
end Go.Proofs.YtfkbogedodngeaaGreat.treesPaths
