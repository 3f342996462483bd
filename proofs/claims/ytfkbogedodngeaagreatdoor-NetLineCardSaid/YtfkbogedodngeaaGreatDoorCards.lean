/-
  DERIVED. GIVEN WITH THE SEED: THE CARDS: each row of YtfkbogedodngeaaGreatDoorRows.lean that lists a variable, with what it lists TIED to the program's text (the seventh form; the later family's looks); each row that meets fmt, with fmt's text TOLD by the authors' own Lean function (tested against real Go, not proved from fmt's source: count such statements apart). THE CARD IS WHAT COUNTS. Prove the row's statement (the work); the ties are given (YtfkbogedodngeaaGreatDoorTie.lean); close each card by the builder's one call (the guide's Derived/Test/ToyasCard.lean, 'card_holds'). Laid BY PROGRAM, IN A SANDBOX (cutbox-door.mjs). By AI agents, Wed Nov 11 2026. No macro, syntax, notation, axiom, sorry.
-/
import Derived.Test.YtfkbogedodngeaaGreatDoorRows
import GoSem.ClaimSeven
namespace Go.Proofs.YtfkbogedodngeaaGreatDoor
namespace Rows

/-- THE TIED CARD OF 'broadsidelaw14.BrokerBytes'. -/
def brokerBytesCard : Claim7 := { stood := { row := brokerBytesRow, standIns := [], harness := (true, "4ac99bd332541256dde483e728c76890e75659608d3fdb028c7a72c9986e8138"), looks := true }, kinds := [], alts := [], laidByText := true, laidKinds := [.handle], laidTests := true, laidLooks := .later }
def BrokerBytesCardSaid : Prop := Claim7.holds Tryz.pinned (.plain (OpenSpec.ofChange brokerBytesSpec)) brokerBytesCard

/-- THE TIED CARD OF 'broadsidelaw25.AuditBroker'. -/
def auditBrokerCard : Claim7 := { stood := { row := auditBrokerRow, standIns := [], harness := (true, "4ac99bd332541256dde483e728c76890e75659608d3fdb028c7a72c9986e8138"), looks := true }, kinds := [], alts := [], laidByText := true, laidKinds := [.handle], laidTests := true, laidLooks := .later }
def AuditBrokerCardSaid : Prop := Claim7.holds Tryz.pinned (.plain (OpenSpec.ofChange auditBrokerSpec)) auditBrokerCard

/-- THE TIED CARD OF 'broadsidelaw16.NetFloods'. -/
def netFloodsCard : Claim7 := { stood := { row := netFloodsRow, standIns := [], harness := (true, "4ac99bd332541256dde483e728c76890e75659608d3fdb028c7a72c9986e8138"), looks := true }, kinds := [], alts := [], laidByText := true, laidKinds := [.handle], laidTests := true, laidLooks := .later }
def NetFloodsCardSaid : Prop := Claim7.holds Tryz.pinned (.plain (OpenSpec.ofChange netFloodsSpec)) netFloodsCard

/-- THE TIED CARD OF 'broadsidelaw16.NetLine'. -/
def netLineCard : Claim7 := { stood := { row := netLineRow, standIns := [], harness := (true, "4ac99bd332541256dde483e728c76890e75659608d3fdb028c7a72c9986e8138"), looks := true }, kinds := [], alts := [], laidByText := true, laidKinds := [.handle], laidTests := true, laidLooks := .later }
def NetLineCardSaid : Prop := Claim7.holds Tryz.pinned (.plain (OpenSpec.ofChange netLineSpec)) netLineCard

/-- THE TIED CARD OF 'broadsidelaw16.NetLinks'. -/
def netLinksCard : Claim7 := { stood := { row := netLinksRow, standIns := [], harness := (true, "4ac99bd332541256dde483e728c76890e75659608d3fdb028c7a72c9986e8138"), looks := true }, kinds := [], alts := [], laidByText := true, laidKinds := [.handle], laidTests := true, laidLooks := .later }
def NetLinksCardSaid : Prop := Claim7.holds Tryz.pinned (.plain (OpenSpec.ofChange netLinksSpec)) netLinksCard

/-- THE TIED CARD OF 'broadsidelaw16.NetCopies'. -/
def netCopiesCard : Claim7 := { stood := { row := netCopiesRow, standIns := [], harness := (true, "4ac99bd332541256dde483e728c76890e75659608d3fdb028c7a72c9986e8138"), looks := true }, kinds := [], alts := [], laidByText := true, laidKinds := [.handle], laidTests := true, laidLooks := .later }
def NetCopiesCardSaid : Prop := Claim7.holds Tryz.pinned (.plain (OpenSpec.ofChange netCopiesSpec)) netCopiesCard

/-- THE SECOND FORM's CARD OF 'broadsidelaw14.BrokerBytes'. -/
def brokerBytesUptoCard : Claim7 := { stood := { row := brokerBytesUptoRow, standIns := [], harness := (true, "4ac99bd332541256dde483e728c76890e75659608d3fdb028c7a72c9986e8138"), looks := true }, kinds := [], alts := [], laidByText := true, laidKinds := [.handle], laidTests := true, laidLooks := .later }
def BrokerBytesUptoCardSaid : Prop := Claim7.holds Tryz.pinned (.plain (OpenSpec.upto brokerBytesSpec)) brokerBytesUptoCard

/-- THE SECOND FORM's CARD OF 'broadsidelaw25.AuditBroker'. -/
def auditBrokerUptoCard : Claim7 := { stood := { row := auditBrokerUptoRow, standIns := [], harness := (true, "4ac99bd332541256dde483e728c76890e75659608d3fdb028c7a72c9986e8138"), looks := true }, kinds := [], alts := [], laidByText := true, laidKinds := [.handle], laidTests := true, laidLooks := .later }
def AuditBrokerUptoCardSaid : Prop := Claim7.holds Tryz.pinned (.plain (OpenSpec.upto auditBrokerSpec)) auditBrokerUptoCard

/-- THE SECOND FORM's CARD OF 'broadsidelaw16.NetFloods'. -/
def netFloodsUptoCard : Claim7 := { stood := { row := netFloodsUptoRow, standIns := [], harness := (true, "4ac99bd332541256dde483e728c76890e75659608d3fdb028c7a72c9986e8138"), looks := true }, kinds := [], alts := [], laidByText := true, laidKinds := [.handle], laidTests := true, laidLooks := .later }
def NetFloodsUptoCardSaid : Prop := Claim7.holds Tryz.pinned (.plain (OpenSpec.upto netFloodsSpec)) netFloodsUptoCard

/-- THE SECOND FORM's CARD OF 'broadsidelaw16.NetLine'. -/
def netLineUptoCard : Claim7 := { stood := { row := netLineUptoRow, standIns := [], harness := (true, "4ac99bd332541256dde483e728c76890e75659608d3fdb028c7a72c9986e8138"), looks := true }, kinds := [], alts := [], laidByText := true, laidKinds := [.handle], laidTests := true, laidLooks := .later }
def NetLineUptoCardSaid : Prop := Claim7.holds Tryz.pinned (.plain (OpenSpec.upto netLineSpec)) netLineUptoCard

/-- THE SECOND FORM's CARD OF 'broadsidelaw16.NetLinks'. -/
def netLinksUptoCard : Claim7 := { stood := { row := netLinksUptoRow, standIns := [], harness := (true, "4ac99bd332541256dde483e728c76890e75659608d3fdb028c7a72c9986e8138"), looks := true }, kinds := [], alts := [], laidByText := true, laidKinds := [.handle], laidTests := true, laidLooks := .later }
def NetLinksUptoCardSaid : Prop := Claim7.holds Tryz.pinned (.plain (OpenSpec.upto netLinksSpec)) netLinksUptoCard

/-- THE SECOND FORM's CARD OF 'broadsidelaw16.NetCopies'. -/
def netCopiesUptoCard : Claim7 := { stood := { row := netCopiesUptoRow, standIns := [], harness := (true, "4ac99bd332541256dde483e728c76890e75659608d3fdb028c7a72c9986e8138"), looks := true }, kinds := [], alts := [], laidByText := true, laidKinds := [.handle], laidTests := true, laidLooks := .later }
def NetCopiesUptoCardSaid : Prop := Claim7.holds Tryz.pinned (.plain (OpenSpec.upto netCopiesSpec)) netCopiesUptoCard
end Rows
end Go.Proofs.YtfkbogedodngeaaGreatDoor
