/-
Proved: the function RouteAbove answers true for all its arguments, in every world in which the statement lets it be called, and leaves what was there as it was. Conditions: those of the statement, no others.
The walk is a run of the machine "Dm", symbolic in the arguments; the law is in the text of its specifications.
-/
import Derived.Test.YtfkbogedodngeaaGreatRows
import Derived.WalkKit
import Derived.ProofKit
import Derived.OpenShut
import Derived.ReadAgain
import Derived.Test.YtfkbogedodngeaaGreatMm5
import Derived.Test.YtfkbogedodngeaaGreatMs3
namespace Go.Proofs.YtfkbogedodngeaaGreat.routeAbove
open Go.ChangeShapes Go.WideShapes Go.ChangeAt Go.RowKit

theorem own : ownKnob Tryz.prog.godebug = none := by kernel_rfl
theorem kids : Kids Tryz.prog (· < Tryz.prog.types.size) := kids_rows (by kernel_rfl) (by kernel_rfl)
theorem full : ∀ t e, t < Tryz.prog.types.size → Tryz.prog.underlying t = some (.slice e) → 0 < Tryz.prog.cellsOf e := slices_full_of Tryz.prog (by kernel_rfl)
theorem cells3 : Tryz.prog.cellsOf 3 = 1 := by kernel_rfl
theorem cells25 : Tryz.prog.cellsOf 25 = 1 := by kernel_rfl
theorem cells40 : Tryz.prog.cellsOf 40 = 2 := by kernel_rfl
theorem cells42 : Tryz.prog.cellsOf 42 = 7 := by kernel_rfl
theorem cells22 : Tryz.prog.cellsOf 22 = 1 := by kernel_rfl
theorem few22 : 22 < Tryz.prog.types.size := of_decide_eq_true (by kernel_rfl)
theorem len2{α : Type} : ∀ {l : List α}, l.length = 2 → ∃ a b, l = [a, b]
  | [a, b], _ => ⟨a, b, rfl⟩
theorem len7{α : Type} : ∀ {l : List α}, l.length = 7 → ∃ a b c d e f g, l = [a, b, c, d, e, f, g]
  | [a, b, c, d, e, f, g], _ => ⟨a, b, c, d, e, f, g, rfl⟩
theorem vr_agg{c : Dm.Ctx}{ds : List Dm.DV}{cs : Array Value}(h : Dm.jV c ds cs.toList) : Dm.VR c (.agg ds) (.agg cs) := by
  have := Dm.VR.agg (c := c) h.1 (fun i h2 => (h.2 i (by rw[h.1]; exact h2) h2).2) (fun i h1 h2 => (h.2 i h1 h2).1)
  simpa using this

section
variable {H : Type} {enc : TypeId × Value → H} {w : World} {sp : Nat → Bool} {sI : Bool} {fuel : Nat} {x : DataW H × List MemPlace}

theorem read25{cs : List Value}(h : DataW.trod enc Tryz.prog w 0 sp sI fuel 25 cs = some x){c : Dm.Ctx}(hc : Dm.Ik c w) : ∃ a : List Int, (a).length ≤ maxLen ∧ Dm.jV c [Dm.eL false 1 Dm.fJ a] cs := by
  obtain⟨l, h1, h2, h3⟩ := Dm.Fk (α := Int) Tryz.underlying25 cells3 (by decide) h hc Dm.fJ (fun _ => True) (fun ecs y n hn => by
    obtain⟨m, hm⟩ := Dm.rZ Tryz.underlying3 hn c.still
    exact⟨m, trivial, hm⟩)
  exact⟨l, h2, h3⟩

theorem read40{cs : List Value}(h : DataW.trod enc Tryz.prog w 0 sp sI fuel 40 cs = some x){c : Dm.Ctx}(hc : Dm.Ik c w) : ∃ a : Dm.Tc.PK, (a).has.length ≤ 9223372036854775807 ∧ Dm.jV c (Dm.aF 2 (Dm.Tc.ePK a)) cs := by
  obtain⟨xs, n, _, _, hl, hx, hf⟩ := DataW.trod_struct Tryz.underlying40 h
  rw[cells40]at hl
  have h0 : DataW.trod enc Tryz.prog w 0 sp sI n 25 ((cs.drop 0).take (Tryz.prog.cellsOf 25)) = xs[0]? := hf 0 _ rfl
  rw[cells25]at h0
  have h1 : DataW.trod enc Tryz.prog w 0 sp sI n 25 ((cs.drop 1).take (Tryz.prog.cellsOf 25)) = xs[1]? := hf 1 _ rfl
  rw[cells25]at h1
  clear h hf
  obtain⟨v0, v1, rfl⟩ := len2 hl
  have hx : xs.length = 2 := hx
  rw[List.getElem?_eq_getElem (by omega)]at h0 h1
  obtain⟨n0, k0, a0⟩ := read25 h0 hc
  obtain⟨n1, k1, a1⟩ := read25 h1 hc
  exact⟨⟨n0, n1⟩, k0, (a0.append a1)⟩

theorem read42{cs : List Value}(h : DataW.trod enc Tryz.prog w 0 sp sI fuel 42 cs = some x){c : Dm.Ctx}(hc : Dm.Ik c w) : ∃ a : Dm.Tc.An, (a).has.length ≤ 9223372036854775807 ∧ Dm.jV c (Dm.aF 7 (Dm.Tc.oE a)) cs := by
  obtain⟨xs, n, _, _, hl, hx, hf⟩ := DataW.trod_struct Tryz.underlying42 h
  rw[cells42]at hl
  have h0 : DataW.trod enc Tryz.prog w 0 sp sI n 3 ((cs.drop 0).take (Tryz.prog.cellsOf 3)) = xs[0]? := hf 0 _ rfl
  rw[cells3]at h0
  have h1 : DataW.trod enc Tryz.prog w 0 sp sI n 3 ((cs.drop 1).take (Tryz.prog.cellsOf 3)) = xs[1]? := hf 1 _ rfl
  rw[cells3]at h1
  have h2 : DataW.trod enc Tryz.prog w 0 sp sI n 3 ((cs.drop 2).take (Tryz.prog.cellsOf 3)) = xs[2]? := hf 2 _ rfl
  rw[cells3]at h2
  have h3 : DataW.trod enc Tryz.prog w 0 sp sI n 3 ((cs.drop 3).take (Tryz.prog.cellsOf 3)) = xs[3]? := hf 3 _ rfl
  rw[cells3]at h3
  have h4 : DataW.trod enc Tryz.prog w 0 sp sI n 3 ((cs.drop 4).take (Tryz.prog.cellsOf 3)) = xs[4]? := hf 4 _ rfl
  rw[cells3]at h4
  have h5 : DataW.trod enc Tryz.prog w 0 sp sI n 40 ((cs.drop 5).take (Tryz.prog.cellsOf 40)) = xs[5]? := hf 5 _ rfl
  rw[cells40]at h5
  clear h hf
  obtain⟨v0, v1, v2, v3, v4, v5, v6, rfl⟩ := len7 hl
  have hx : xs.length = 6 := hx
  rw[List.getElem?_eq_getElem (by omega)]at h0 h1 h2 h3 h4 h5
  obtain⟨n0, a0⟩ := Dm.rZ Tryz.underlying3 h0 c
  obtain⟨n1, a1⟩ := Dm.rZ Tryz.underlying3 h1 c
  obtain⟨n2, a2⟩ := Dm.rZ Tryz.underlying3 h2 c
  obtain⟨n3, a3⟩ := Dm.rZ Tryz.underlying3 h3 c
  obtain⟨n4, a4⟩ := Dm.rZ Tryz.underlying3 h4 c
  obtain⟨n5, k5, a5⟩ := read40 h5 hc
  exact⟨⟨n0, n1, n2, n3, n4, (n5).has, (n5).vals⟩, k5, (a0.append (a1.append (a2.append (a3.append (a4.append a5)))))⟩

theorem read22{cs : List Value}(h : DataW.trod enc Tryz.prog w 0 sp sI fuel 22 cs = some x){c : Dm.Ctx}(hc : Dm.Ik c w) : ∃ a : List Dm.Tc.An, (∀ z ∈ a, (z).has.length ≤ 9223372036854775807) ∧ Dm.jV c [Dm.eL false 7 Dm.Tc.oE a] cs := by
  obtain⟨l, h1, h2, h3⟩ := Dm.Fk (α := Dm.Tc.An) Tryz.underlying22 cells42 (by decide) h hc Dm.Tc.oE (fun(a : Dm.Tc.An) => (a).has.length ≤ 9223372036854775807) (fun ecs y n hn => by
    exact read42 hn hc.still)
  exact⟨l, h1, h3⟩

end

theorem runs(x0 : List Dm.Tc.An)(c0 : (∀ z ∈ x0, (z).has.length ≤ 9223372036854775807)) : Dm.fc Dm.Tc.D 3 [Dm.eL false 7 Dm.Tc.oE x0] Dm.lD = some (.bool true, Dm.lD) := by
  rw[Dm.Tc.e3]
  have h1 : [Dm.eL false 7 Dm.Tc.oE x0].mapM (Dm.resolve true Dm.lD Dm.cG) = some [Dm.eL false 7 Dm.Tc.oE x0] := Dm.pM fun d hd => by
    simp only[List.mem_cons, List.not_mem_nil, or_false]at hd
    subst hd
    exact Dm.nM _ _ _ _ true Dm.lD Dm.cG (by decide)
  rw[h1, Dm.uA, Dm.Tc.s3 x0 c0, Dm.yJ]

/-! ### STEP 1: THE WALK -/
theorem walk{H : Type}{enc : TypeId × Value → H}{sp : Nat → Bool}{sI : Bool}{u0 : Nat}{y0 : DataW H × List MemPlace}(w : World)(v0 : Value)(h0 : DataW.trod enc Tryz.prog w 0 sp sI u0 22 [v0] = some y0) :
    Calls Tryz.prog 3 #[v0] w fun e w' => e = .returned (.bool true) ∧ Go.Dm.GG w w' ∧ ∀ b, b < w.heap.size → w'.heap[b]? = w.heap[b]? := by
  obtain⟨x0, c0, k0⟩ := read22 h0 (Dm.Ik.zero w)
  refine Dm.Y7 Dm.Tc.good (fn := Tryz.f3) (by kernel_rfl) rfl (by decide) (runs x0 c0) w (fun b v h => by cases h) (vs := [v0]) ⟨rfl, fun i a1 a2 => ?_⟩
  match i, a1, a2 with
  | 0, _, _ => exact(k0.2 0 (Nat.zero_lt_one) (Nat.zero_lt_one)).1

/-! ### THE ROW's STEP -/
set_option maxRecDepth 100000 in
theorem lifted(os : Os)(started : os.Started)(H : Type)(enc : TypeId × Value → H) :
    ReturnsInHanded {} Tryz.checked os 3 .any (Rows.routeAboveSpec.pre6 enc Tryz.prog Tryz.f3 Rows.routeAboveRow.domain false) (Rows.routeAboveSpec.post enc Tryz.prog Tryz.f3 false true false false) := by
  refine returnsInHanded_of_change (C := Tryz.checked) own started (by kernel_rfl) Tryz.func3
    (ChangeSpec.witness6 (enc := enc) (C := Tryz.checked) false ⟨#[], #[.slice none 0 0], []⟩ 8 (by kernel_rfl) (by kernel_rfl) (by kernel_rfl) (by kernel_rfl)) ?_
  intro W base args ds gs before hval0 hW hcnd _
  have hval : ∀ (j : Nat) t v, Tryz.f3.params[j]? = some t → args[j]? = some v → Value.okWide Tryz.prog W .any base t v := hval0
  have hW' := hW
  obtain⟨p, q, hA0, hV, rfl, hfz, Vm⟩ := hW
  have hA : DataW.TrodAll enc Tryz.prog W 0 (fun _ => true) true Tryz.f3.params.toList args.toList ds p := hA0
  have hAk := hA
  rw[Tryz.params3]at hA hval
  obtain⟨v0, r0, d0, e0, p0, q0, hargs, rfl, rfl, h0, b0⟩ := trodAll_cons hA
  obtain⟨rfl, rfl, rfl⟩ := trodAll_nil b0
  obtain rfl : args = #[v0] := by cases args; simp_all
  clear hargs
  obtain⟨rfl, rfl⟩ := trodVars_none hV
  obtain⟨a0, n0, m0, rfl⟩ := okWide_slice Tryz.underlying22 (hval 0 22 v0 rfl rfl)
  obtain⟨u0, g0⟩ := h0
  clear hA0 hval0 hA
  have aY : ∀ y ∈ (p0 ++ []), y.block < W.heap.size := DataW.TrodAll.lt hAk
  refine(walk W _ g0).mono fun e W' ⟨he, hg, hb⟩ => ?_
  subst he
  exact⟨_, rfl, Go.Dm.Q3 (pa := (p0 ++ [])) (pv := []) hW' (fun _ _ _ => (trodAll_cons_mk (shut_bool Tryz.underlying4 _) trodAll_mk0)) (fun sp hsp => DataW.TrodAll.respare kids full (by rw[Tryz.params3]; intro t ht; simp only[List.mem_cons, List.not_mem_nil, or_false]at ht; subst ht; exact few22) (Dm.yT hb _ hAk aY) (fun y hy => hsp y (by simpa using hy))) (fun _ _ => rfl) (by simp)
    (hg.frame _) hg.2.1 (ok_one (by kernel_rfl) rfl (okWide_bool_mk Tryz.underlying4 _))⟩

theorem over : Rows.routeAboveRow.holds Tryz.pinned (OpenSpec.ofChange Rows.routeAboveSpec) :=
  OpenClaim.holds_of_wide 3 Tryz.f3 rfl rfl rfl rfl rfl rfl rfl ⟨rfl, rfl, rfl, rfl, rfl⟩ rfl rfl rfl rfl rfl (by kernel_rfl) Tryz.func3 (by kernel_rfl)
    (of_decide_eq_true (by kernel_rfl)) (by unfold Func.isWrapper; first | (rw[if_pos (by decide +kernel)]; kernel_rfl) | (rw[if_neg (by decide +kernel)]; exact⟨rfl, rfl⟩))
    (fun os started H enc _ => lifted os started H enc)

/-- The statement. -/
theorem proved : Rows.RouteAboveSaid :=
  over
end Go.Proofs.YtfkbogedodngeaaGreat.routeAbove
