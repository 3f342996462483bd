/-
  DERIVED. GIVEN WITH THE SEED: THE CARDS: each row of YtloabemenciijaaGreatDoorRows.lean that lists a variable, with what it lists TIED to the program's text (the seventh form; the later family's looks); each row that meets fmt, with fmt's text TOLD by the authors' own Lean function (tested against real Go, not proved from fmt's source: count such statements apart). THE CARD IS WHAT COUNTS. Prove the row's statement (the work); the ties are given (YtloabemenciijaaGreatDoorTie.lean); close each card by the builder's one call (the guide's Derived/Test/ToyasCard.lean, 'card_holds'). Laid BY PROGRAM, IN A SANDBOX (cutbox-door.mjs). By AI agents, Wed Nov 11 2026. No macro, syntax, notation, axiom, sorry.
-/
import Derived.Test.YtloabemenciijaaGreatDoorRows
import GoSem.ClaimSeven
namespace Go.Proofs.YtloabemenciijaaGreatDoor
namespace Rows

/-- THE TIED CARD OF 'broadsidelaw14.BrokerBytes'. -/
def brokerBytesCard : Claim7 := { stood := { row := brokerBytesRow, standIns := [], harness := (true, "285c119e5d8bbfddb6e3c6e6bc5c93178fa1a9b75fdcc19f26b79b5e61b1124f"), looks := true }, kinds := [], alts := [], laidByText := true, laidKinds := [.handle], laidTests := true, laidLooks := .later }
def BrokerBytesCardSaid : Prop := Claim7.holds Tryz.pinned (.plain (OpenSpec.ofChange brokerBytesSpec)) brokerBytesCard

/-- THE TIED CARD OF 'broadsidelaw14.BrokerSteps'. -/
def brokerStepsCard : Claim7 := { stood := { row := brokerStepsRow, standIns := [], harness := (true, "285c119e5d8bbfddb6e3c6e6bc5c93178fa1a9b75fdcc19f26b79b5e61b1124f"), looks := true }, kinds := [], alts := [], laidByText := true, laidKinds := [.handle], laidTests := true, laidLooks := .later }
def BrokerStepsCardSaid : Prop := Claim7.holds Tryz.pinned (.plain (OpenSpec.ofChange brokerStepsSpec)) brokerStepsCard

/-- THE TIED CARD OF 'broadsidelaw25.AuditRuns'. -/
def auditRunsCard : Claim7 := { stood := { row := auditRunsRow, standIns := [], harness := (true, "285c119e5d8bbfddb6e3c6e6bc5c93178fa1a9b75fdcc19f26b79b5e61b1124f"), looks := true }, kinds := [], alts := [], laidByText := true, laidKinds := [.handle], laidTests := true, laidLooks := .later }
def AuditRunsCardSaid : Prop := Claim7.holds Tryz.pinned (.plain (OpenSpec.ofChange auditRunsSpec)) auditRunsCard

/-- THE TIED CARD OF 'broadsidelaw25.AuditBroker'. -/
def auditBrokerCard : Claim7 := { stood := { row := auditBrokerRow, standIns := [], harness := (true, "285c119e5d8bbfddb6e3c6e6bc5c93178fa1a9b75fdcc19f26b79b5e61b1124f"), looks := true }, kinds := [], alts := [], laidByText := true, laidKinds := [.handle], laidTests := true, laidLooks := .later }
def AuditBrokerCardSaid : Prop := Claim7.holds Tryz.pinned (.plain (OpenSpec.ofChange auditBrokerSpec)) auditBrokerCard

/-- THE TIED CARD OF 'broadsidelaw22.QuietRuns'. -/
def quietRunsCard : Claim7 := { stood := { row := quietRunsRow, standIns := [], harness := (true, "285c119e5d8bbfddb6e3c6e6bc5c93178fa1a9b75fdcc19f26b79b5e61b1124f"), looks := true }, kinds := [], alts := [], laidByText := true, laidKinds := [.handle], laidTests := true, laidLooks := .later }
def QuietRunsCardSaid : Prop := Claim7.holds Tryz.pinned (.plain (OpenSpec.ofChange quietRunsSpec)) quietRunsCard

/-- THE TIED CARD OF 'broadsidelaw22.QuietBound'. -/
def quietBoundCard : Claim7 := { stood := { row := quietBoundRow, standIns := [], harness := (true, "285c119e5d8bbfddb6e3c6e6bc5c93178fa1a9b75fdcc19f26b79b5e61b1124f"), looks := true }, kinds := [], alts := [], laidByText := true, laidKinds := [.handle], laidTests := true, laidLooks := .later }
def QuietBoundCardSaid : Prop := Claim7.holds Tryz.pinned (.plain (OpenSpec.ofChange quietBoundSpec)) quietBoundCard

/-- THE TIED CARD OF 'broadsidelaw16.NetFloods'. -/
def netFloodsCard : Claim7 := { stood := { row := netFloodsRow, standIns := [], harness := (true, "285c119e5d8bbfddb6e3c6e6bc5c93178fa1a9b75fdcc19f26b79b5e61b1124f"), looks := true }, kinds := [], alts := [], laidByText := true, laidKinds := [.handle], laidTests := true, laidLooks := .later }
def NetFloodsCardSaid : Prop := Claim7.holds Tryz.pinned (.plain (OpenSpec.ofChange netFloodsSpec)) netFloodsCard

/-- THE TIED CARD OF 'broadsidelaw16.NetLine'. -/
def netLineCard : Claim7 := { stood := { row := netLineRow, standIns := [], harness := (true, "285c119e5d8bbfddb6e3c6e6bc5c93178fa1a9b75fdcc19f26b79b5e61b1124f"), looks := true }, kinds := [], alts := [], laidByText := true, laidKinds := [.handle], laidTests := true, laidLooks := .later }
def NetLineCardSaid : Prop := Claim7.holds Tryz.pinned (.plain (OpenSpec.ofChange netLineSpec)) netLineCard

/-- THE TIED CARD OF 'broadsidelaw16.NetLinks'. -/
def netLinksCard : Claim7 := { stood := { row := netLinksRow, standIns := [], harness := (true, "285c119e5d8bbfddb6e3c6e6bc5c93178fa1a9b75fdcc19f26b79b5e61b1124f"), looks := true }, kinds := [], alts := [], laidByText := true, laidKinds := [.handle], laidTests := true, laidLooks := .later }
def NetLinksCardSaid : Prop := Claim7.holds Tryz.pinned (.plain (OpenSpec.ofChange netLinksSpec)) netLinksCard

/-- THE SECOND FORM's CARD OF 'broadsidelaw14.BrokerBytes'. -/
def brokerBytesUptoCard : Claim7 := { stood := { row := brokerBytesUptoRow, standIns := [], harness := (true, "285c119e5d8bbfddb6e3c6e6bc5c93178fa1a9b75fdcc19f26b79b5e61b1124f"), looks := true }, kinds := [], alts := [], laidByText := true, laidKinds := [.handle], laidTests := true, laidLooks := .later }
def BrokerBytesUptoCardSaid : Prop := Claim7.holds Tryz.pinned (.plain (OpenSpec.upto brokerBytesSpec)) brokerBytesUptoCard

/-- THE SECOND FORM's CARD OF 'broadsidelaw14.BrokerSteps'. -/
def brokerStepsUptoCard : Claim7 := { stood := { row := brokerStepsUptoRow, standIns := [], harness := (true, "285c119e5d8bbfddb6e3c6e6bc5c93178fa1a9b75fdcc19f26b79b5e61b1124f"), looks := true }, kinds := [], alts := [], laidByText := true, laidKinds := [.handle], laidTests := true, laidLooks := .later }
def BrokerStepsUptoCardSaid : Prop := Claim7.holds Tryz.pinned (.plain (OpenSpec.upto brokerStepsSpec)) brokerStepsUptoCard

/-- THE SECOND FORM's CARD OF 'broadsidelaw25.AuditRuns'. -/
def auditRunsUptoCard : Claim7 := { stood := { row := auditRunsUptoRow, standIns := [], harness := (true, "285c119e5d8bbfddb6e3c6e6bc5c93178fa1a9b75fdcc19f26b79b5e61b1124f"), looks := true }, kinds := [], alts := [], laidByText := true, laidKinds := [.handle], laidTests := true, laidLooks := .later }
def AuditRunsUptoCardSaid : Prop := Claim7.holds Tryz.pinned (.plain (OpenSpec.upto auditRunsSpec)) auditRunsUptoCard

/-- THE SECOND FORM's CARD OF 'broadsidelaw25.AuditBroker'. -/
def auditBrokerUptoCard : Claim7 := { stood := { row := auditBrokerUptoRow, standIns := [], harness := (true, "285c119e5d8bbfddb6e3c6e6bc5c93178fa1a9b75fdcc19f26b79b5e61b1124f"), looks := true }, kinds := [], alts := [], laidByText := true, laidKinds := [.handle], laidTests := true, laidLooks := .later }
def AuditBrokerUptoCardSaid : Prop := Claim7.holds Tryz.pinned (.plain (OpenSpec.upto auditBrokerSpec)) auditBrokerUptoCard

/-- THE SECOND FORM's CARD OF 'broadsidelaw22.QuietRuns'. -/
def quietRunsUptoCard : Claim7 := { stood := { row := quietRunsUptoRow, standIns := [], harness := (true, "285c119e5d8bbfddb6e3c6e6bc5c93178fa1a9b75fdcc19f26b79b5e61b1124f"), looks := true }, kinds := [], alts := [], laidByText := true, laidKinds := [.handle], laidTests := true, laidLooks := .later }
def QuietRunsUptoCardSaid : Prop := Claim7.holds Tryz.pinned (.plain (OpenSpec.upto quietRunsSpec)) quietRunsUptoCard

/-- THE SECOND FORM's CARD OF 'broadsidelaw22.QuietBound'. -/
def quietBoundUptoCard : Claim7 := { stood := { row := quietBoundUptoRow, standIns := [], harness := (true, "285c119e5d8bbfddb6e3c6e6bc5c93178fa1a9b75fdcc19f26b79b5e61b1124f"), looks := true }, kinds := [], alts := [], laidByText := true, laidKinds := [.handle], laidTests := true, laidLooks := .later }
def QuietBoundUptoCardSaid : Prop := Claim7.holds Tryz.pinned (.plain (OpenSpec.upto quietBoundSpec)) quietBoundUptoCard

/-- THE SECOND FORM's CARD OF 'broadsidelaw16.NetFloods'. -/
def netFloodsUptoCard : Claim7 := { stood := { row := netFloodsUptoRow, standIns := [], harness := (true, "285c119e5d8bbfddb6e3c6e6bc5c93178fa1a9b75fdcc19f26b79b5e61b1124f"), looks := true }, kinds := [], alts := [], laidByText := true, laidKinds := [.handle], laidTests := true, laidLooks := .later }
def NetFloodsUptoCardSaid : Prop := Claim7.holds Tryz.pinned (.plain (OpenSpec.upto netFloodsSpec)) netFloodsUptoCard

/-- THE SECOND FORM's CARD OF 'broadsidelaw16.NetLine'. -/
def netLineUptoCard : Claim7 := { stood := { row := netLineUptoRow, standIns := [], harness := (true, "285c119e5d8bbfddb6e3c6e6bc5c93178fa1a9b75fdcc19f26b79b5e61b1124f"), looks := true }, kinds := [], alts := [], laidByText := true, laidKinds := [.handle], laidTests := true, laidLooks := .later }
def NetLineUptoCardSaid : Prop := Claim7.holds Tryz.pinned (.plain (OpenSpec.upto netLineSpec)) netLineUptoCard

/-- THE SECOND FORM's CARD OF 'broadsidelaw16.NetLinks'. -/
def netLinksUptoCard : Claim7 := { stood := { row := netLinksUptoRow, standIns := [], harness := (true, "285c119e5d8bbfddb6e3c6e6bc5c93178fa1a9b75fdcc19f26b79b5e61b1124f"), looks := true }, kinds := [], alts := [], laidByText := true, laidKinds := [.handle], laidTests := true, laidLooks := .later }
def NetLinksUptoCardSaid : Prop := Claim7.holds Tryz.pinned (.plain (OpenSpec.upto netLinksSpec)) netLinksUptoCard
end Rows
end Go.Proofs.YtloabemenciijaaGreatDoor
