/-
  DERIVED. GIVEN WITH THE SEED: THE CARDS: each row of YtegofjiikhlokaaGreatDoorRows.lean that lists a variable, with what it lists TIED to the program's text (the seventh form; the later family's looks); each row that meets fmt, with fmt's text TOLD by the authors' own Lean function (tested against real Go, not proved from fmt's source: count such statements apart). THE CARD IS WHAT COUNTS. Prove the row's statement (the work); the ties are given (YtegofjiikhlokaaGreatDoorTie.lean); close each card by the builder's one call (the guide's Derived/Test/ToyasCard.lean, 'card_holds'). Laid BY PROGRAM, IN A SANDBOX (cutbox-door.mjs). By AI agents, Wed Nov 11 2026. No macro, syntax, notation, axiom, sorry.
-/
import Derived.Test.YtegofjiikhlokaaGreatDoorRows
import GoSem.ClaimSeven
namespace Go.Proofs.YtegofjiikhlokaaGreatDoor
namespace Rows

/-- THE TIED CARD OF 'broadsidelaw14.BrokerTwice'. -/
def brokerTwiceCard : Claim7 := { stood := { row := brokerTwiceRow, standIns := [], harness := (true, "3d22f4f3f612e728fc6d646ac5512cd5b5d21aad3fd25a6260a4eb73a19e7b69"), looks := true }, kinds := [], alts := [], laidByText := true, laidKinds := [.handle], laidTests := true, laidLooks := .later }
def BrokerTwiceCardSaid : Prop := Claim7.holds Tryz.pinned (.plain (OpenSpec.ofChange brokerTwiceSpec)) brokerTwiceCard

/-- THE TIED CARD OF 'broadsidelaw14.BrokerOrder'. -/
def brokerOrderCard : Claim7 := { stood := { row := brokerOrderRow, standIns := [], harness := (true, "3d22f4f3f612e728fc6d646ac5512cd5b5d21aad3fd25a6260a4eb73a19e7b69"), looks := true }, kinds := [], alts := [], laidByText := true, laidKinds := [.handle], laidTests := true, laidLooks := .later }
def BrokerOrderCardSaid : Prop := Claim7.holds Tryz.pinned (.plain (OpenSpec.ofChange brokerOrderSpec)) brokerOrderCard

/-- THE TIED CARD OF 'broadsidelaw14.BrokerBytes'. -/
def brokerBytesCard : Claim7 := { stood := { row := brokerBytesRow, standIns := [], harness := (true, "3d22f4f3f612e728fc6d646ac5512cd5b5d21aad3fd25a6260a4eb73a19e7b69"), looks := true }, kinds := [], alts := [], laidByText := true, laidKinds := [.handle], laidTests := true, laidLooks := .later }
def BrokerBytesCardSaid : Prop := Claim7.holds Tryz.pinned (.plain (OpenSpec.ofChange brokerBytesSpec)) brokerBytesCard

/-- THE TIED CARD OF 'broadsidelaw14.BrokerSteps'. -/
def brokerStepsCard : Claim7 := { stood := { row := brokerStepsRow, standIns := [], harness := (true, "3d22f4f3f612e728fc6d646ac5512cd5b5d21aad3fd25a6260a4eb73a19e7b69"), looks := true }, kinds := [], alts := [], laidByText := true, laidKinds := [.handle], laidTests := true, laidLooks := .later }
def BrokerStepsCardSaid : Prop := Claim7.holds Tryz.pinned (.plain (OpenSpec.ofChange brokerStepsSpec)) brokerStepsCard

/-- THE SECOND FORM's CARD OF 'broadsidelaw14.BrokerTwice'. -/
def brokerTwiceUptoCard : Claim7 := { stood := { row := brokerTwiceUptoRow, standIns := [], harness := (true, "3d22f4f3f612e728fc6d646ac5512cd5b5d21aad3fd25a6260a4eb73a19e7b69"), looks := true }, kinds := [], alts := [], laidByText := true, laidKinds := [.handle], laidTests := true, laidLooks := .later }
def BrokerTwiceUptoCardSaid : Prop := Claim7.holds Tryz.pinned (.plain (OpenSpec.upto brokerTwiceSpec)) brokerTwiceUptoCard

/-- THE SECOND FORM's CARD OF 'broadsidelaw14.BrokerOrder'. -/
def brokerOrderUptoCard : Claim7 := { stood := { row := brokerOrderUptoRow, standIns := [], harness := (true, "3d22f4f3f612e728fc6d646ac5512cd5b5d21aad3fd25a6260a4eb73a19e7b69"), looks := true }, kinds := [], alts := [], laidByText := true, laidKinds := [.handle], laidTests := true, laidLooks := .later }
def BrokerOrderUptoCardSaid : Prop := Claim7.holds Tryz.pinned (.plain (OpenSpec.upto brokerOrderSpec)) brokerOrderUptoCard

/-- THE SECOND FORM's CARD OF 'broadsidelaw14.BrokerBytes'. -/
def brokerBytesUptoCard : Claim7 := { stood := { row := brokerBytesUptoRow, standIns := [], harness := (true, "3d22f4f3f612e728fc6d646ac5512cd5b5d21aad3fd25a6260a4eb73a19e7b69"), looks := true }, kinds := [], alts := [], laidByText := true, laidKinds := [.handle], laidTests := true, laidLooks := .later }
def BrokerBytesUptoCardSaid : Prop := Claim7.holds Tryz.pinned (.plain (OpenSpec.upto brokerBytesSpec)) brokerBytesUptoCard

/-- THE SECOND FORM's CARD OF 'broadsidelaw14.BrokerSteps'. -/
def brokerStepsUptoCard : Claim7 := { stood := { row := brokerStepsUptoRow, standIns := [], harness := (true, "3d22f4f3f612e728fc6d646ac5512cd5b5d21aad3fd25a6260a4eb73a19e7b69"), looks := true }, kinds := [], alts := [], laidByText := true, laidKinds := [.handle], laidTests := true, laidLooks := .later }
def BrokerStepsUptoCardSaid : Prop := Claim7.holds Tryz.pinned (.plain (OpenSpec.upto brokerStepsSpec)) brokerStepsUptoCard
end Rows
end Go.Proofs.YtegofjiikhlokaaGreatDoor
