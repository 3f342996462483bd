/-
Proved: the card of the function QuietRuns, which takes no argument: where the listed package variable reads as the program's text lays it, the function answers true and leaves what was there as it was. Conditions: those of the statement, no others.
The walk is a run of the machine "Dm" of the texts Dm1 to Dm33; the frame follows the kit's worked examples.
-/
import Derived.Test.YtloabemenciijaaGreatDoorCards
import Derived.Test.YtloabemenciijaaGreatDoorTie
import Derived.Test.YtloabemenciijaaGreatDoorLaid
import Derived.Test.YtloabemenciijaaGreatDoorRunTrR7
import Derived.WalkKit
import Derived.ProofKit
import Derived.OpenShut
import Derived.SevenTiedAt
namespace Go.Proofs.YtloabemenciijaaGreatDoor.quietRuns
open Go.ChangeShapes Go.WideShapes Go.ChangeAt Go.RowKit

theorem walk (w : World) (hL : laidMetH Tryz.prog [("errors.errorType", Rows.laid_errors_errorType)] w) :
    Calls Tryz.prog 7 #[] w fun e w' => e = .returned (.bool true) ∧ Grown w w' :=
  Go.Dm.closed_true Go.Dm.Tr7.good (fn := Tryz.f7) (by kernel_rfl) rfl (by decide) Go.Dm.TrR7.runs w (Card.laid_of hL)

set_option maxRecDepth 100000 in
theorem lifted (os : Os) (started : os.Started) (H : Type) (enc : TypeId × Value → H) :
    ReturnsInHanded {} Tryz.checked os 7 .any (fun w args => (Rows.quietRunsSpec.pre enc Tryz.prog Tryz.f7 Rows.quietRunsRow.domain false w args ∧ laidMetH Tryz.prog [("errors.errorType", Rows.laid_errors_errorType)] w) ∧ sizedMet enc Tryz.prog Tryz.f7 (OpenSpec.ofChange Rows.quietRunsSpec) false w args)
      (Rows.quietRunsSpec.post enc Tryz.prog Tryz.f7 false true false false) := by
  refine returnsInHanded_of_change_and (C := Tryz.checked) (X := fun w _ => laidMetH Tryz.prog [("errors.errorType", Rows.laid_errors_errorType)] w) (fun _ _ _ hh h => h.of_heap hh) Card.own started (by kernel_rfl) Tryz.func7
    (ChangeSpec.witness_at (enc := enc) (C := Tryz.checked) (os := os) (X := fun w _ => laidMetH Tryz.prog [("errors.errorType", Rows.laid_errors_errorType)] w) false (Card.laidWorld os) #[] 8 rfl (by kernel_rfl) (by kernel_rfl) (by kernel_rfl) (by kernel_rfl) (by kernel_rfl) (Card.laidWorld_met os _)) ?_
  intro W base args ds gs before hval0 hW hcnd _ hL _
  have hW' := hW
  obtain ⟨p, q, hA0, hV, rfl, hfz, hnd⟩ := hW
  have hA : DataW.TrodAll enc Tryz.prog W 0 (fun _ => true) true Tryz.f7.params.toList args.toList ds p := hA0
  rw [Tryz.params7] at hA
  obtain ⟨rfl, rfl, rfl⟩ := trodAll_none hA
  obtain ⟨rfl, rfl⟩ := trodVars_none hV
  clear hA0 hval0
  simp only [List.append_nil] at hW'
  refine (walk W hL).mono fun e W' ⟨he, hg⟩ => ?_
  subst he
  exact ⟨_, rfl, post_of_same (pa := []) (pv := []) hW' (fun _ _ _ => (trodAll_cons_mk (shut_bool Tryz.underlying4 _) trodAll_mk0)) (fun sp _ => rfl) (fun _ _ => rfl) rfl
    (hg.frame _) hg.2.1 (ok_one (by kernel_rfl) rfl (okWide_bool_mk Tryz.underlying4 _))⟩

theorem k0 : Tryz.pinned.checked.prog.funcNamed Rows.quietRunsRow.func = some 7 := by kernel_rfl
theorem k1 : Tryz.pinned.checked.prog.inPlace 7 = Rows.quietRunsRow.inPlace := by kernel_rfl
theorem k2 : Tryz.pinned.checked.prog.unfollowed 7 = Rows.quietRunsRow.unfollowed := by kernel_rfl
theorem k3 : Tryz.pinned.checked.prog.recurses 7 = Rows.quietRunsRow.recurses := by kernel_rfl
theorem k4 : Tryz.pinned.checked.prog.varsNamed 7 = Rows.quietRunsRow.named := by kernel_rfl
theorem k5 : false = Rows.quietRunsRow.goesBy Tryz.pinned.checked.prog := by kernel_rfl
theorem facts : joinedFacts Tryz.pinned.checked.prog 7 Tryz.f7 Rows.quietRunsSpec Rows.quietRunsRow = true := by
  unfold joinedFacts
  rw [k1, k2, k3, k4, Card.laidOut, Card.mapsRowed]
  kernel_rfl

theorem over : Rows.quietRunsRow.holds Tryz.pinned (OpenSpec.ofChange Rows.quietRunsSpec) :=
  OpenClaim.holds_of_wide 7 Tryz.f7 rfl rfl rfl rfl rfl rfl rfl ⟨rfl, rfl, rfl, rfl, rfl⟩ rfl rfl rfl rfl rfl k0 Tryz.func7 facts
    (of_decide_eq_true (by kernel_rfl)) (by unfold Func.isWrapper; first | (rw [if_pos (by decide +kernel)]; kernel_rfl) | (rw [if_neg (by decide +kernel)]; exact ⟨rfl, rfl⟩))
    (fun os started H enc _ => lifted os started H enc)

/-- The statement. -/
theorem proved : Rows.QuietRunsCardSaid :=
  Claim7.holds_tied_plain_at .later [] [.handle] true (true, "285c119e5d8bbfddb6e3c6e6bc5c93178fa1a9b75fdcc19f26b79b5e61b1124f") true
    over (fun _ h => by cases h) (by kernel_rfl) (fun _ h => by cases h) quietRuns_row_tie rfl ⟨rfl, rfl⟩ (by kernel_rfl) rfl
    (fun f fn hf hfn => by
      obtain rfl : f = 7 := Option.some.inj (k0.symm.trans hf) |>.symm
      obtain rfl : fn = Tryz.f7 := (Option.some.inj (Tryz.func7.symm.trans hfn)).symm
      exact ⟨by kernel_rfl, fun j t ht => by
        rw [Tryz.params7] at ht
        simp at ht⟩)
    k5

end Go.Proofs.YtloabemenciijaaGreatDoor.quietRuns
