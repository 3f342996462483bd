/-
Proved: the function AdvertsPlays answers true for every list of calls, in every world in which the statement lets it be called, and leaves what was there as it was. Conditions: those of the statement, no others.
The walk is a run of the machine "Dm", symbolic in the list; the law is in the text of its specifications.
-/
import Derived.Test.YtkkbjjobdcjaiaaGreatRows
import Derived.WalkKit
import Derived.ProofKit
import Derived.OpenShut
import Derived.ReadAgain
import Derived.Test.YtkkbjjobdcjaiaaGreatMm5
import Derived.Test.YtkkbjjobdcjaiaaGreatMs1
namespace Go.Proofs.YtkkbjjobdcjaiaaGreat.advertsPlays
open Go.ChangeShapes Go.WideShapes Go.ChangeAt Go.RowKit

theorem own : ownKnob Tryz.prog.godebug = none := by kernel_rfl
theorem kids : Kids Tryz.prog (· < Tryz.prog.types.size) := kids_rows (by kernel_rfl) (by kernel_rfl)
theorem full : ∀ t e, t < Tryz.prog.types.size → Tryz.prog.underlying t = some (.slice e) → 0 < Tryz.prog.cellsOf e := slices_full_of Tryz.prog (by kernel_rfl)
theorem cells3 : Tryz.prog.cellsOf 3 = 1 := by kernel_rfl
theorem cells23 : Tryz.prog.cellsOf 23 = 1 := by kernel_rfl
theorem cells32 : Tryz.prog.cellsOf 32 = 2 := by kernel_rfl
theorem cells34 : Tryz.prog.cellsOf 34 = 6 := by kernel_rfl
theorem few : 22 < Tryz.prog.types.size := of_decide_eq_true (by kernel_rfl)

theorem len2 {α : Type} : ∀ {l : List α}, l.length = 2 → ∃ a b, l = [a, b]
  | [a, b], _ => ⟨a, b, rfl⟩
theorem len6 {α : Type} : ∀ {l : List α}, l.length = 6 → ∃ a b c d e f, l = [a, b, c, d, e, f]
  | [a, b, c, d, e, f], _ => ⟨a, b, c, d, e, f, rfl⟩

section
variable {H : Type} {enc : TypeId × Value → H} {w : World} {sp : Nat → Bool} {held : Bool} {fuel : Nat} {x : DataW H × List MemPlace}

theorem read_ints {cs : List Value} (h : DataW.trod enc Tryz.prog w 0 sp held fuel 23 cs = some x) {c : Dm.Ctx} (hc : Dm.Bare c w) : ∃ l : List Int, l.length ≤ maxLen ∧ Dm.CellsR c [Dm.eL false 1 Dm.cInt l] cs := by
  obtain ⟨l, _, h2, h3⟩ := Dm.read_slice (α := Int) Tryz.underlying23 cells3 (by decide) h hc Dm.cInt (fun _ => True) (fun ecs y n hn => by
    obtain ⟨m, hm⟩ := Dm.read_int Tryz.underlying3 hn c.still
    exact ⟨m, trivial, hm⟩)
  exact ⟨l, h2, h3⟩

theorem read_pred {cs : List Value} (h : DataW.trod enc Tryz.prog w 0 sp held fuel 32 cs = some x) {c : Dm.Ctx} (hc : Dm.Bare c w) : ∃ has vals : List Int, has.length ≤ maxLen ∧ Dm.CellsR c [Dm.eL false 1 Dm.cInt has, Dm.eL false 1 Dm.cInt vals] cs := by
  obtain ⟨xs, n, _, _, hl, hx, hf⟩ := DataW.trod_struct Tryz.underlying32 h
  rw [cells32] at hl
  have h0 : DataW.trod enc Tryz.prog w 0 sp held n 23 ((cs.drop 0).take (Tryz.prog.cellsOf 23)) = xs[0]? := hf 0 _ rfl
  have h1 : DataW.trod enc Tryz.prog w 0 sp held n 23 ((cs.drop 1).take (Tryz.prog.cellsOf 23)) = xs[1]? := hf 1 _ rfl
  rw [cells23] at h0 h1
  clear h hf
  obtain ⟨v0, v1, rfl⟩ := len2 hl
  have hx : xs.length = 2 := hx
  rw [List.getElem?_eq_getElem (by omega)] at h0 h1
  obtain ⟨has, a1, a2⟩ := read_ints h0 hc
  obtain ⟨vals, _, b2⟩ := read_ints h1 hc
  exact ⟨has, vals, a1, a2.append b2⟩

theorem read_ask {cs : List Value} (h : DataW.trod enc Tryz.prog w 0 sp held fuel 34 cs = some x) {c : Dm.Ctx} (hc : Dm.Bare c w) : ∃ a : Dm.Tc.AskA, a.has.length ≤ 9223372036854775807 ∧ Dm.CellsR c (Dm.ecells 6 (Dm.Tc.eAsk a)) cs := by
  obtain ⟨xs, n, _, _, hl, hx, hf⟩ := DataW.trod_struct Tryz.underlying34 h
  rw [cells34] at hl
  have h0 : DataW.trod enc Tryz.prog w 0 sp held n 3 ((cs.drop 0).take (Tryz.prog.cellsOf 3)) = xs[0]? := hf 0 _ rfl
  have h1 : DataW.trod enc Tryz.prog w 0 sp held n 3 ((cs.drop 1).take (Tryz.prog.cellsOf 3)) = xs[1]? := hf 1 _ rfl
  have h2 : DataW.trod enc Tryz.prog w 0 sp held n 3 ((cs.drop 2).take (Tryz.prog.cellsOf 3)) = xs[2]? := hf 2 _ rfl
  have h3 : DataW.trod enc Tryz.prog w 0 sp held n 3 ((cs.drop 3).take (Tryz.prog.cellsOf 3)) = xs[3]? := hf 3 _ rfl
  have h4 : DataW.trod enc Tryz.prog w 0 sp held n 32 ((cs.drop 4).take (Tryz.prog.cellsOf 32)) = xs[4]? := hf 4 _ rfl
  rw [cells3] at h0 h1 h2 h3
  rw [cells32] at h4
  clear h hf
  obtain ⟨v0, v1, v2, v3, v4, v5, rfl⟩ := len6 hl
  have hx : xs.length = 5 := hx
  rw [List.getElem?_eq_getElem (by omega)] at h0 h1 h2 h3 h4
  obtain ⟨n0, a0⟩ := Dm.read_int Tryz.underlying3 h0 c
  obtain ⟨n1, a1⟩ := Dm.read_int Tryz.underlying3 h1 c
  obtain ⟨n2, a2⟩ := Dm.read_int Tryz.underlying3 h2 c
  obtain ⟨n3, a3⟩ := Dm.read_int Tryz.underlying3 h3 c
  obtain ⟨has, vals, b1, b2⟩ := read_pred h4 hc
  exact ⟨⟨n0, n1, n2, n3, has, vals⟩, b1, a0.append (a1.append (a2.append (a3.append b2)))⟩
end

theorem runs (l : List Dm.Tc.AskA) (hl : ∀ q ∈ l, q.has.length ≤ 9223372036854775807) : Dm.fc Dm.Tc.D 3 [Dm.eL false 6 Dm.Tc.eAsk l] Dm.emptyH = some (.bool true, Dm.emptyH) := by
  rw [Dm.Tc.e3]
  have h1 : [Dm.eL false 6 Dm.Tc.eAsk l].mapM (Dm.resolve true Dm.emptyH Dm.deepFuel) = some [Dm.eL false 6 Dm.Tc.eAsk l] := Dm.mapM_self fun d hd => by
    simp only [List.mem_singleton] at hd
    subst hd
    exact Dm.flat_eL false 6 Dm.Tc.eAsk l true Dm.emptyH Dm.deepFuel (by decide)
  rw [h1, Dm.callP_some, Dm.Tc.s3 false l hl, Dm.callR_some]

/-! ### STEP 1: THE WALK -/
theorem walk {H : Type} {enc : TypeId × Value → H} {sp : Nat → Bool} {held : Bool} {fuel : Nat} {x : DataW H × List MemPlace} (w : World) (v : Value) (h : DataW.trod enc Tryz.prog w 0 sp held fuel 22 [v] = some x) :
    Calls Tryz.prog 3 #[v] w fun e w' => e = .returned (.bool true) ∧ Grown w w' ∧ ∀ b, b < w.heap.size → w'.heap[b]? = w.heap[b]? := by
  obtain ⟨l, h1, _, h2⟩ := Dm.read_slice (α := Dm.Tc.AskA) Tryz.underlying22 cells34 (by decide) h (Dm.Bare.zero w) Dm.Tc.eAsk (fun a => a.has.length ≤ 9223372036854775807) (fun ecs y n hn => read_ask hn (Dm.Bare.zero w).still)
  exact Dm.args_true Dm.Tc.good (fn := Tryz.f3) (by kernel_rfl) rfl (by decide) (runs l h1) w (fun b v h => by cases h) (vs := [v]) ⟨rfl, fun i h3 h4 => (h2.2 i h3 h4).1⟩

/-! ### THE ROW's STEP -/
set_option maxRecDepth 100000 in
theorem lifted (os : Os) (started : os.Started) (H : Type) (enc : TypeId × Value → H) :
    ReturnsInHanded {} Tryz.checked os 3 .any (Rows.advertsPlaysSpec.pre6 enc Tryz.prog Tryz.f3 Rows.advertsPlaysRow.domain false) (Rows.advertsPlaysSpec.post enc Tryz.prog Tryz.f3 false true false false) := by
  refine returnsInHanded_of_change (C := Tryz.checked) own started (by kernel_rfl) Tryz.func3
    (ChangeSpec.witness6 (enc := enc) (C := Tryz.checked) false ⟨#[], #[.slice none 0 0], []⟩ 8 (by kernel_rfl) (by kernel_rfl) (by kernel_rfl) (by kernel_rfl)) ?_
  intro W base args ds gs before hval0 hW hcnd _
  have hval : ∀ (j : Nat) t v, Tryz.f3.params[j]? = some t → args[j]? = some v → Value.okWide Tryz.prog W .any base t v := hval0
  have hW' := hW
  obtain ⟨p, q, hA0, hV, rfl, hfz, hnd⟩ := hW
  have hA : DataW.TrodAll enc Tryz.prog W 0 (fun _ => true) true Tryz.f3.params.toList args.toList ds p := hA0
  have hAk := hA
  rw [Tryz.params3] at hA hval
  obtain ⟨v0, d0, rfl, rfl, h0⟩ := trodAll_one hA
  obtain ⟨rfl, rfl⟩ := trodVars_none hV
  obtain ⟨a0, len, cap, rfl⟩ := okWide_slice Tryz.underlying22 (hval 0 22 v0 rfl rfl)
  obtain ⟨fuel, hf⟩ := h0
  clear hA0 hval0 hA
  have hlt : ∀ y ∈ p, y.block < W.heap.size := DataW.TrodAll.lt hAk
  refine (walk W _ hf).mono fun e W' ⟨he, hg, hb⟩ => ?_
  subst he
  exact ⟨_, rfl, post_of_same (pa := p) (pv := []) hW' (fun _ _ _ => (trodAll_cons_mk (shut_bool Tryz.underlying4 _) trodAll_mk0)) (fun sp hsp => DataW.TrodAll.respare kids full (by rw [Tryz.params3]; intro t ht; simp only [List.mem_singleton] at ht; subst ht; exact few) (Dm.trodAll_same hb _ hAk hlt) (fun y hy => hsp y (by simpa using hy))) (fun _ _ => rfl) (by simp)
    (hg.frame _) hg.2.1 (ok_one (by kernel_rfl) rfl (okWide_bool_mk Tryz.underlying4 _))⟩

theorem over : Rows.advertsPlaysRow.holds Tryz.pinned (OpenSpec.ofChange Rows.advertsPlaysSpec) :=
  OpenClaim.holds_of_wide 3 Tryz.f3 rfl rfl rfl rfl rfl rfl rfl ⟨rfl, rfl, rfl, rfl, rfl⟩ rfl rfl rfl rfl rfl (by kernel_rfl) Tryz.func3 (by kernel_rfl)
    (of_decide_eq_true (by kernel_rfl)) (by unfold Func.isWrapper; first | (rw [if_pos (by decide +kernel)]; kernel_rfl) | (rw [if_neg (by decide +kernel)]; exact ⟨rfl, rfl⟩))
    (fun os started H enc _ => lifted os started H enc)

/-- The statement. -/
theorem proved : Rows.AdvertsPlaysSaid :=
  over
end Go.Proofs.YtkkbjjobdcjaiaaGreat.advertsPlays
