/-
Proved: the card of the function WorldRuns, which takes no argument: where the listed package variable reads as the program's text lays it, the function answers true and leaves what was there as it was. Conditions: those of the statement, no others.
The walk is a run of the machine "Dm" of the texts Dm1 to Dm33; the frame follows the kit's worked examples.
-/
import Derived.Test.YtkhmbjajaibinaaGreatDoorCards
import Derived.Test.YtkhmbjajaibinaaGreatDoorTie
import Derived.Test.YtkhmbjajaibinaaGreatDoorLaid
import Derived.Test.YtkhmbjajaibinaaGreatDoorRunTabWR
import Derived.WalkKit
import Derived.ProofKit
import Derived.OpenShut
import Derived.SevenTiedAt
namespace Go.Proofs.YtkhmbjajaibinaaGreatDoor.worldRuns
open Go.ChangeShapes Go.WideShapes Go.ChangeAt Go.RowKit

theorem walk (w : World) (hL : laidMetH Tryz.prog [("errors.errorType", Rows.laid_errors_errorType)] w) :
    Calls Tryz.prog 3 #[] w fun e w' => e = .returned (.bool true) ∧ Grown w w' :=
  Go.Dm.closed_true Go.Dm.TabW.good (fn := Tryz.f3) (by kernel_rfl) rfl (by decide) Go.Dm.TabWR.runs w (Card.laid_of hL)

set_option maxRecDepth 100000 in
theorem lifted (os : Os) (started : os.Started) (H : Type) (enc : TypeId × Value → H) :
    ReturnsInHanded {} Tryz.checked os 3 .any (fun w args => (Rows.worldRunsSpec.pre enc Tryz.prog Tryz.f3 Rows.worldRunsRow.domain false w args ∧ laidMetH Tryz.prog [("errors.errorType", Rows.laid_errors_errorType)] w) ∧ sizedMet enc Tryz.prog Tryz.f3 (OpenSpec.ofChange Rows.worldRunsSpec) false w args)
      (Rows.worldRunsSpec.post enc Tryz.prog Tryz.f3 false true false false) := by
  refine returnsInHanded_of_change_and (C := Tryz.checked) (X := fun w _ => laidMetH Tryz.prog [("errors.errorType", Rows.laid_errors_errorType)] w) (fun _ _ _ hh h => h.of_heap hh) Card.own started (by kernel_rfl) Tryz.func3
    (ChangeSpec.witness_at (enc := enc) (C := Tryz.checked) (os := os) (X := fun w _ => laidMetH Tryz.prog [("errors.errorType", Rows.laid_errors_errorType)] w) false (Card.laidWorld os) #[] 8 rfl (by kernel_rfl) (by kernel_rfl) (by kernel_rfl) (by kernel_rfl) (by kernel_rfl) (Card.laidWorld_met os _)) ?_
  intro W base args ds gs before hval0 hW hcnd _ hL _
  have hW' := hW
  obtain ⟨p, q, hA0, hV, rfl, hfz, hnd⟩ := hW
  have hA : DataW.TrodAll enc Tryz.prog W 0 (fun _ => true) true Tryz.f3.params.toList args.toList ds p := hA0
  rw [Tryz.params3] at hA
  obtain ⟨rfl, rfl, rfl⟩ := trodAll_none hA
  obtain ⟨rfl, rfl⟩ := trodVars_none hV
  clear hA0 hval0
  simp only [List.append_nil] at hW'
  refine (walk W hL).mono fun e W' ⟨he, hg⟩ => ?_
  subst he
  exact ⟨_, rfl, post_of_same (pa := []) (pv := []) hW' (fun _ _ _ => (trodAll_cons_mk (shut_bool Tryz.underlying4 _) trodAll_mk0)) (fun sp _ => rfl) (fun _ _ => rfl) rfl
    (hg.frame _) hg.2.1 (ok_one (by kernel_rfl) rfl (okWide_bool_mk Tryz.underlying4 _))⟩

theorem k0 : Tryz.pinned.checked.prog.funcNamed Rows.worldRunsRow.func = some 3 := by kernel_rfl
theorem k1 : Tryz.pinned.checked.prog.inPlace 3 = Rows.worldRunsRow.inPlace := by kernel_rfl
theorem k2 : Tryz.pinned.checked.prog.unfollowed 3 = Rows.worldRunsRow.unfollowed := by kernel_rfl
theorem k3 : Tryz.pinned.checked.prog.recurses 3 = Rows.worldRunsRow.recurses := by kernel_rfl
theorem k4 : Tryz.pinned.checked.prog.varsNamed 3 = Rows.worldRunsRow.named := by kernel_rfl
theorem k5 : false = Rows.worldRunsRow.goesBy Tryz.pinned.checked.prog := by kernel_rfl
theorem facts : joinedFacts Tryz.pinned.checked.prog 3 Tryz.f3 Rows.worldRunsSpec Rows.worldRunsRow = true := by
  unfold joinedFacts
  rw [k1, k2, k3, k4, Card.laidOut, Card.mapsRowed]
  kernel_rfl

theorem over : Rows.worldRunsRow.holds Tryz.pinned (OpenSpec.ofChange Rows.worldRunsSpec) :=
  OpenClaim.holds_of_wide 3 Tryz.f3 rfl rfl rfl rfl rfl rfl rfl ⟨rfl, rfl, rfl, rfl, rfl⟩ rfl rfl rfl rfl rfl k0 Tryz.func3 facts
    (of_decide_eq_true (by kernel_rfl)) (by unfold Func.isWrapper; first | (rw [if_pos (by decide +kernel)]; kernel_rfl) | (rw [if_neg (by decide +kernel)]; exact ⟨rfl, rfl⟩))
    (fun os started H enc _ => lifted os started H enc)

/-- The statement. -/
theorem proved : Rows.WorldRunsCardSaid :=
  Claim7.holds_tied_plain_at .later [] [.handle] true (true, "9cecd2f5ad3173ab96f31eeb6d9edfe48bcfdc5fd6002d04e3e67cb4e8b57c58") true
    over (fun _ h => by cases h) (by kernel_rfl) (fun _ h => by cases h) worldRuns_row_tie rfl ⟨rfl, rfl⟩ (by kernel_rfl) rfl
    (fun f fn hf hfn => by
      obtain rfl : f = 3 := Option.some.inj (k0.symm.trans hf) |>.symm
      obtain rfl : fn = Tryz.f3 := (Option.some.inj (Tryz.func3.symm.trans hfn)).symm
      exact ⟨by kernel_rfl, fun j t ht => by
        rw [Tryz.params3] at ht
        simp at ht⟩)
    k5

end Go.Proofs.YtkhmbjajaibinaaGreatDoor.worldRuns
