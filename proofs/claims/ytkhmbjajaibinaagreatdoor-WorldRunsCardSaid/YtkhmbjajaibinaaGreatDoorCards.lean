/-
  DERIVED. GIVEN WITH THE SEED: THE CARDS: each row of YtkhmbjajaibinaaGreatDoorRows.lean that lists a variable, with what it lists TIED to the program's text (the seventh form; the later family's looks); each row that meets fmt, with fmt's text TOLD by the authors' own Lean function (tested against real Go, not proved from fmt's source: count such statements apart). THE CARD IS WHAT COUNTS. Prove the row's statement (the work); the ties are given (YtkhmbjajaibinaaGreatDoorTie.lean); close each card by the builder's one call (the guide's Derived/Test/ToyasCard.lean, 'card_holds'). Laid BY PROGRAM, IN A SANDBOX (cutbox-door.mjs). By AI agents, Wed Nov 11 2026. No macro, syntax, notation, axiom, sorry.
-/
import Derived.Test.YtkhmbjajaibinaaGreatDoorRows
import GoSem.ClaimSeven
namespace Go.Proofs.YtkhmbjajaibinaaGreatDoor
namespace Rows

/-- THE TIED CARD OF 'broadsidelaw19.WorldRuns'. -/
def worldRunsCard : Claim7 := { stood := { row := worldRunsRow, standIns := [], harness := (true, "9cecd2f5ad3173ab96f31eeb6d9edfe48bcfdc5fd6002d04e3e67cb4e8b57c58"), looks := true }, kinds := [], alts := [], laidByText := true, laidKinds := [.handle], laidTests := true, laidLooks := .later }
def WorldRunsCardSaid : Prop := Claim7.holds Tryz.pinned (.plain (OpenSpec.ofChange worldRunsSpec)) worldRunsCard

/-- THE TIED CARD OF 'broadsidelaw16.NetLine'. -/
def netLineCard : Claim7 := { stood := { row := netLineRow, standIns := [], harness := (true, "9cecd2f5ad3173ab96f31eeb6d9edfe48bcfdc5fd6002d04e3e67cb4e8b57c58"), looks := true }, kinds := [], alts := [], laidByText := true, laidKinds := [.handle], laidTests := true, laidLooks := .later }
def NetLineCardSaid : Prop := Claim7.holds Tryz.pinned (.plain (OpenSpec.ofChange netLineSpec)) netLineCard

/-- THE TIED CARD OF 'broadsidelaw22.QuietRuns'. -/
def quietRunsCard : Claim7 := { stood := { row := quietRunsRow, standIns := [], harness := (true, "9cecd2f5ad3173ab96f31eeb6d9edfe48bcfdc5fd6002d04e3e67cb4e8b57c58"), looks := true }, kinds := [], alts := [], laidByText := true, laidKinds := [.handle], laidTests := true, laidLooks := .later }
def QuietRunsCardSaid : Prop := Claim7.holds Tryz.pinned (.plain (OpenSpec.ofChange quietRunsSpec)) quietRunsCard

/-- THE TIED CARD OF 'broadsidelaw22.QuietBound'. -/
def quietBoundCard : Claim7 := { stood := { row := quietBoundRow, standIns := [], harness := (true, "9cecd2f5ad3173ab96f31eeb6d9edfe48bcfdc5fd6002d04e3e67cb4e8b57c58"), looks := true }, kinds := [], alts := [], laidByText := true, laidKinds := [.handle], laidTests := true, laidLooks := .later }
def QuietBoundCardSaid : Prop := Claim7.holds Tryz.pinned (.plain (OpenSpec.ofChange quietBoundSpec)) quietBoundCard

/-- THE TIED CARD OF 'broadsidelaw25.AuditRuns'. -/
def auditRunsCard : Claim7 := { stood := { row := auditRunsRow, standIns := [], harness := (true, "9cecd2f5ad3173ab96f31eeb6d9edfe48bcfdc5fd6002d04e3e67cb4e8b57c58"), looks := true }, kinds := [], alts := [], laidByText := true, laidKinds := [.handle], laidTests := true, laidLooks := .later }
def AuditRunsCardSaid : Prop := Claim7.holds Tryz.pinned (.plain (OpenSpec.ofChange auditRunsSpec)) auditRunsCard

/-- THE SECOND FORM's CARD OF 'broadsidelaw19.WorldRuns'. -/
def worldRunsUptoCard : Claim7 := { stood := { row := worldRunsUptoRow, standIns := [], harness := (true, "9cecd2f5ad3173ab96f31eeb6d9edfe48bcfdc5fd6002d04e3e67cb4e8b57c58"), looks := true }, kinds := [], alts := [], laidByText := true, laidKinds := [.handle], laidTests := true, laidLooks := .later }
def WorldRunsUptoCardSaid : Prop := Claim7.holds Tryz.pinned (.plain (OpenSpec.upto worldRunsSpec)) worldRunsUptoCard

/-- THE SECOND FORM's CARD OF 'broadsidelaw16.NetLine'. -/
def netLineUptoCard : Claim7 := { stood := { row := netLineUptoRow, standIns := [], harness := (true, "9cecd2f5ad3173ab96f31eeb6d9edfe48bcfdc5fd6002d04e3e67cb4e8b57c58"), looks := true }, kinds := [], alts := [], laidByText := true, laidKinds := [.handle], laidTests := true, laidLooks := .later }
def NetLineUptoCardSaid : Prop := Claim7.holds Tryz.pinned (.plain (OpenSpec.upto netLineSpec)) netLineUptoCard

/-- THE SECOND FORM's CARD OF 'broadsidelaw22.QuietRuns'. -/
def quietRunsUptoCard : Claim7 := { stood := { row := quietRunsUptoRow, standIns := [], harness := (true, "9cecd2f5ad3173ab96f31eeb6d9edfe48bcfdc5fd6002d04e3e67cb4e8b57c58"), looks := true }, kinds := [], alts := [], laidByText := true, laidKinds := [.handle], laidTests := true, laidLooks := .later }
def QuietRunsUptoCardSaid : Prop := Claim7.holds Tryz.pinned (.plain (OpenSpec.upto quietRunsSpec)) quietRunsUptoCard

/-- THE SECOND FORM's CARD OF 'broadsidelaw22.QuietBound'. -/
def quietBoundUptoCard : Claim7 := { stood := { row := quietBoundUptoRow, standIns := [], harness := (true, "9cecd2f5ad3173ab96f31eeb6d9edfe48bcfdc5fd6002d04e3e67cb4e8b57c58"), looks := true }, kinds := [], alts := [], laidByText := true, laidKinds := [.handle], laidTests := true, laidLooks := .later }
def QuietBoundUptoCardSaid : Prop := Claim7.holds Tryz.pinned (.plain (OpenSpec.upto quietBoundSpec)) quietBoundUptoCard

/-- THE SECOND FORM's CARD OF 'broadsidelaw25.AuditRuns'. -/
def auditRunsUptoCard : Claim7 := { stood := { row := auditRunsUptoRow, standIns := [], harness := (true, "9cecd2f5ad3173ab96f31eeb6d9edfe48bcfdc5fd6002d04e3e67cb4e8b57c58"), looks := true }, kinds := [], alts := [], laidByText := true, laidKinds := [.handle], laidTests := true, laidLooks := .later }
def AuditRunsUptoCardSaid : Prop := Claim7.holds Tryz.pinned (.plain (OpenSpec.upto auditRunsSpec)) auditRunsUptoCard
end Rows
end Go.Proofs.YtkhmbjajaibinaaGreatDoor
