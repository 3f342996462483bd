/-
Proved: the card of the function ScriptRuns, which takes no argument: where the listed package variable reads as the program's text lays it, the function answers true and leaves what was there as it was. Conditions: those of the statement, no others.
The walk is a run of the machine "Dm" of the texts Dm1 to Dm33; the frame follows the kit's worked examples.
-/
import Derived.Test.YtdacnhfdcejahaaGreatDoorCards
import Derived.Test.YtdacnhfdcejahaaGreatDoorTie
import Derived.Test.YtdacnhfdcejahaaGreatDoorLaid
import Derived.Test.YtdacnhfdcejahaaGreatDoorRunRunScript
import Derived.WalkKit
import Derived.ProofKit
import Derived.OpenShut
import Derived.SevenTiedAt
namespace Go.Proofs.YtdacnhfdcejahaaGreatDoor.scriptRuns
open Go.ChangeShapes Go.WideShapes Go.ChangeAt Go.RowKit

theorem walk (w : World) (hL : laidMetH Tryz.prog [("errors.errorType", Rows.laid_errors_errorType)] w) :
    Calls Tryz.prog 10 #[] w fun e w' => e = .returned (.bool true) ∧ Grown w w' :=
  Go.Dm.closed_true Go.Dm.TabS.good (fn := Tryz.f10) (by kernel_rfl) rfl (by decide) Go.Dm.RunScript.runs w (Card.laid_of hL)

set_option maxRecDepth 100000 in
theorem lifted (os : Os) (started : os.Started) (H : Type) (enc : TypeId × Value → H) :
    ReturnsInHanded {} Tryz.checked os 10 .any (fun w args => (Rows.scriptRunsSpec.pre enc Tryz.prog Tryz.f10 Rows.scriptRunsRow.domain false w args ∧ laidMetH Tryz.prog [("errors.errorType", Rows.laid_errors_errorType)] w) ∧ sizedMet enc Tryz.prog Tryz.f10 (OpenSpec.ofChange Rows.scriptRunsSpec) false w args)
      (Rows.scriptRunsSpec.post enc Tryz.prog Tryz.f10 false true false false) := by
  refine returnsInHanded_of_change_and (C := Tryz.checked) (X := fun w _ => laidMetH Tryz.prog [("errors.errorType", Rows.laid_errors_errorType)] w) (fun _ _ _ hh h => h.of_heap hh) Card.own started (by kernel_rfl) Tryz.func10
    (ChangeSpec.witness_at (enc := enc) (C := Tryz.checked) (os := os) (X := fun w _ => laidMetH Tryz.prog [("errors.errorType", Rows.laid_errors_errorType)] w) false (Card.laidWorld os) #[] 8 rfl (by kernel_rfl) (by kernel_rfl) (by kernel_rfl) (by kernel_rfl) (by kernel_rfl) (Card.laidWorld_met os _)) ?_
  intro W base args ds gs before hval0 hW hcnd _ hL _
  have hW' := hW
  obtain ⟨p, q, hA0, hV, rfl, hfz, hnd⟩ := hW
  have hA : DataW.TrodAll enc Tryz.prog W 0 (fun _ => true) true Tryz.f10.params.toList args.toList ds p := hA0
  rw [Tryz.params10] at hA
  obtain ⟨rfl, rfl, rfl⟩ := trodAll_none hA
  obtain ⟨rfl, rfl⟩ := trodVars_none hV
  clear hA0 hval0
  simp only [List.append_nil] at hW'
  refine (walk W hL).mono fun e W' ⟨he, hg⟩ => ?_
  subst he
  exact ⟨_, rfl, post_of_same (pa := []) (pv := []) hW' (fun _ _ _ => (trodAll_cons_mk (shut_bool Tryz.underlying4 _) trodAll_mk0)) (fun sp _ => rfl) (fun _ _ => rfl) rfl
    (hg.frame _) hg.2.1 (ok_one (by kernel_rfl) rfl (okWide_bool_mk Tryz.underlying4 _))⟩

theorem k0 : Tryz.pinned.checked.prog.funcNamed Rows.scriptRunsRow.func = some 10 := by kernel_rfl
theorem k1 : Tryz.pinned.checked.prog.inPlace 10 = Rows.scriptRunsRow.inPlace := by kernel_rfl
theorem k2 : Tryz.pinned.checked.prog.unfollowed 10 = Rows.scriptRunsRow.unfollowed := by kernel_rfl
theorem k3 : Tryz.pinned.checked.prog.recurses 10 = Rows.scriptRunsRow.recurses := by kernel_rfl
theorem k4 : Tryz.pinned.checked.prog.varsNamed 10 = Rows.scriptRunsRow.named := by kernel_rfl
theorem k5 : false = Rows.scriptRunsRow.goesBy Tryz.pinned.checked.prog := by kernel_rfl
theorem facts : joinedFacts Tryz.pinned.checked.prog 10 Tryz.f10 Rows.scriptRunsSpec Rows.scriptRunsRow = true := by
  unfold joinedFacts
  rw [k1, k2, k3, k4, Card.laidOut, Card.mapsRowed]
  kernel_rfl

theorem over : Rows.scriptRunsRow.holds Tryz.pinned (OpenSpec.ofChange Rows.scriptRunsSpec) :=
  OpenClaim.holds_of_wide 10 Tryz.f10 rfl rfl rfl rfl rfl rfl rfl ⟨rfl, rfl, rfl, rfl, rfl⟩ rfl rfl rfl rfl rfl k0 Tryz.func10 facts
    (of_decide_eq_true (by kernel_rfl)) (by unfold Func.isWrapper; first | (rw [if_pos (by decide +kernel)]; kernel_rfl) | (rw [if_neg (by decide +kernel)]; exact ⟨rfl, rfl⟩))
    (fun os started H enc _ => lifted os started H enc)

/-- The statement. -/
theorem proved : Rows.ScriptRunsCardSaid :=
  Claim7.holds_tied_plain_at .later [] [.handle] true (true, "51d06752aa9d51359a1ffd51fce78a6fc26918c4255b62611840638f60cfd78e") true
    over (fun _ h => by cases h) (by kernel_rfl) (fun _ h => by cases h) scriptRuns_row_tie rfl ⟨rfl, rfl⟩ (by kernel_rfl) rfl
    (fun f fn hf hfn => by
      obtain rfl : f = 10 := Option.some.inj (k0.symm.trans hf) |>.symm
      obtain rfl : fn = Tryz.f10 := (Option.some.inj (Tryz.func10.symm.trans hfn)).symm
      exact ⟨by kernel_rfl, fun j t ht => by
        rw [Tryz.params10] at ht
        simp at ht⟩)
    k5

end Go.Proofs.YtdacnhfdcejahaaGreatDoor.scriptRuns
