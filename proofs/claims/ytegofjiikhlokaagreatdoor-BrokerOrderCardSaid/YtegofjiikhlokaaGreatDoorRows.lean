/-
  NARROWER THAN 'FOR EVERY INPUT', by the rows' own cells (each row's printed sentence says how): BrokerTwice: laid · BrokerOrder: laid · BrokerBytes: laid · BrokerSteps: laid.
  DERIVED. THE GIVEN ROWS OF THIS SEAT. 4 by the template 'for every input the law returns true; each argument reads behind the call as it read before'; 0 by the template 'total and deterministic' (their statements: YtegofjiikhlokaaGreatDoorTotals.lean).
  GIVEN WITH THE SEED: the statements are not yours to turn. If you find one false, say at which input.
  Laid BY PROGRAM, IN A SANDBOX (cutbox-rows.mjs): the forced cells as the released guide's own fill.sh prints them over the translation 94e6e77dcc0cd65c… (all of the seat's roots in one cut). By AI agents, Wed Nov 11 2026. No macro, syntax, notation, axiom, sorry.
-/
import Derived.Test.YtegofjiikhlokaaGreatDoorChecked
import GoSem.Claim
import GoSem.ClaimJoined
import GoSem.ClaimMapViews
import Derived.JoinedTies
import Derived.KernelRfl
namespace Go.Proofs.YtegofjiikhlokaaGreatDoor
/- THE CELL 'sum', in the pinned program and in every row, IS THE sha256 OF THE DUMP (.gsa) THAT YtegofjiikhlokaaGreatDoorProg.lean LOADS. Nothing in Lean hashes anything: it is a label: what it is worth is what the hold of that sum in a sandbox is worth. -/
noncomputable def Tryz.pinned : Pinned := { name := "ytegofjiikhlokaagreatdoor", sum := "94e6e77dcc0cd65c201181d3e5747c785d46b0f841535cd5b9720062da63d8b6", checked := Tryz.checked }
namespace Rows
def none {H : Type} : Left H := { results := [], args := [] }

/- WHAT THE LISTED PACKAGE-LEVEL VARIABLES READ AS WHEN THE CALL BEGINS. Each datum BY PROGRAM (the guide's laid-datum.mjs) off the statement by which the dump's own 'gosem.cut.vars' lays the variable. In a bare row this is a premise. The card (YtegofjiikhlokaaGreatDoorCards.lean) ties it to the program's text. -/
def laid_errors_errorType {H : Type} : DataW H := .iface "internal/reflectlite.rtype" (.agg [.ptr (.lit (.string [101, 114, 114, 111, 114]))])

/-- 'broadsidelaw14.BrokerTwice': WHATEVER THE INPUT: true; the input reads as it did. -/
def brokerTwiceSpec : ChangeSpec := { name := "brokerTwice", fn := fun _ => fun
  | [d1, d2, d3] => { results := [.lit (.bool true)], args := [d1, d2, d3] }
  | _ => none }
def brokerTwiceRow : OpenClaim := { program := "ytegofjiikhlokaagreatdoor", sum := "94e6e77dcc0cd65c201181d3e5747c785d46b0f841535cd5b9720062da63d8b6", func := "broadside/broadsidelaw14.BrokerTwice", spec := "brokerTwice", inPlace := ["slices.overlaps[broadside/api.Advert]", "slices.overlaps[broadside/api.ID]", "internal/bytealg.abigen_runtime_cmpstring", "slices.overlaps[broadside/api.Constraint]", "slices.overlaps[broadside/api.Entry]", "internal/reflectlite.ValueOf", "(internal/reflectlite.Value).Type", "(internal/reflectlite.Value).IsNil", "internal/reflectlite.TypeOf", "(internal/reflectlite.Value).Elem", "(internal/reflectlite.Value).Set"], unfollowed := true, recurses := true, named := ["errors.errorType"], apart := false, laid := [("errors.errorType", laid_errors_errorType)] }
def BrokerTwiceSaid : Prop := brokerTwiceRow.holds Tryz.pinned (OpenSpec.ofChange brokerTwiceSpec)

/-- ITS FALSE NEIGHBOUR: 'it returns false'. Refute it at one input. -/
def brokerTwiceWrong : ChangeSpec := { name := "brokerTwice", fn := fun _ => fun
  | [d1, d2, d3] => { results := [.lit (.bool false)], args := [d1, d2, d3] }
  | _ => none }
def BrokerTwiceWrongFalsely : Prop := brokerTwiceRow.holds Tryz.pinned (OpenSpec.ofChange brokerTwiceWrong)

/-- 'broadsidelaw14.BrokerOrder': WHATEVER THE INPUT: true; the input reads as it did. -/
def brokerOrderSpec : ChangeSpec := { name := "brokerOrder", fn := fun _ => fun
  | [d1, d2, d3, d4, d5] => { results := [.lit (.bool true)], args := [d1, d2, d3, d4, d5] }
  | _ => none }
def brokerOrderRow : OpenClaim := { program := "ytegofjiikhlokaagreatdoor", sum := "94e6e77dcc0cd65c201181d3e5747c785d46b0f841535cd5b9720062da63d8b6", func := "broadside/broadsidelaw14.BrokerOrder", spec := "brokerOrder", inPlace := ["slices.overlaps[broadside/api.Advert]", "slices.overlaps[broadside/api.ID]", "internal/bytealg.abigen_runtime_cmpstring", "slices.overlaps[broadside/api.Constraint]", "slices.overlaps[broadside/api.Entry]", "internal/reflectlite.ValueOf", "(internal/reflectlite.Value).Type", "(internal/reflectlite.Value).IsNil", "internal/reflectlite.TypeOf", "(internal/reflectlite.Value).Elem", "(internal/reflectlite.Value).Set"], unfollowed := true, recurses := true, named := ["errors.errorType"], apart := false, laid := [("errors.errorType", laid_errors_errorType)] }
def BrokerOrderSaid : Prop := brokerOrderRow.holds Tryz.pinned (OpenSpec.ofChange brokerOrderSpec)

/-- ITS FALSE NEIGHBOUR: 'it returns false'. Refute it at one input. -/
def brokerOrderWrong : ChangeSpec := { name := "brokerOrder", fn := fun _ => fun
  | [d1, d2, d3, d4, d5] => { results := [.lit (.bool false)], args := [d1, d2, d3, d4, d5] }
  | _ => none }
def BrokerOrderWrongFalsely : Prop := brokerOrderRow.holds Tryz.pinned (OpenSpec.ofChange brokerOrderWrong)

/-- 'broadsidelaw14.BrokerBytes': WHATEVER THE INPUT: true; the input reads as it did. -/
def brokerBytesSpec : ChangeSpec := { name := "brokerBytes", fn := fun _ => fun
  | [d1, d2, d3, d4, d5] => { results := [.lit (.bool true)], args := [d1, d2, d3, d4, d5] }
  | _ => none }
def brokerBytesRow : OpenClaim := { program := "ytegofjiikhlokaagreatdoor", sum := "94e6e77dcc0cd65c201181d3e5747c785d46b0f841535cd5b9720062da63d8b6", func := "broadside/broadsidelaw14.BrokerBytes", spec := "brokerBytes", inPlace := ["slices.overlaps[broadside/api.Advert]", "slices.overlaps[broadside/api.ID]", "internal/bytealg.abigen_runtime_cmpstring", "slices.overlaps[broadside/api.Constraint]", "slices.overlaps[broadside/api.Entry]", "internal/reflectlite.ValueOf", "(internal/reflectlite.Value).Type", "(internal/reflectlite.Value).IsNil", "internal/reflectlite.TypeOf", "(internal/reflectlite.Value).Elem", "(internal/reflectlite.Value).Set"], unfollowed := true, recurses := true, named := ["errors.errorType"], apart := false, laid := [("errors.errorType", laid_errors_errorType)] }
def BrokerBytesSaid : Prop := brokerBytesRow.holds Tryz.pinned (OpenSpec.ofChange brokerBytesSpec)

/-- ITS FALSE NEIGHBOUR: 'it returns false'. Refute it at one input. -/
def brokerBytesWrong : ChangeSpec := { name := "brokerBytes", fn := fun _ => fun
  | [d1, d2, d3, d4, d5] => { results := [.lit (.bool false)], args := [d1, d2, d3, d4, d5] }
  | _ => none }
def BrokerBytesWrongFalsely : Prop := brokerBytesRow.holds Tryz.pinned (OpenSpec.ofChange brokerBytesWrong)

/-- 'broadsidelaw14.BrokerSteps': WHATEVER THE INPUT: true; the input reads as it did. -/
def brokerStepsSpec : ChangeSpec := { name := "brokerSteps", fn := fun _ => fun
  | [d1, d2, d3, d4] => { results := [.lit (.bool true)], args := [d1, d2, d3, d4] }
  | _ => none }
def brokerStepsRow : OpenClaim := { program := "ytegofjiikhlokaagreatdoor", sum := "94e6e77dcc0cd65c201181d3e5747c785d46b0f841535cd5b9720062da63d8b6", func := "broadside/broadsidelaw14.BrokerSteps", spec := "brokerSteps", inPlace := ["slices.overlaps[broadside/api.Advert]", "slices.overlaps[broadside/api.ID]", "internal/bytealg.abigen_runtime_cmpstring", "slices.overlaps[broadside/api.Constraint]", "slices.overlaps[broadside/api.Entry]", "internal/reflectlite.ValueOf", "(internal/reflectlite.Value).Type", "(internal/reflectlite.Value).IsNil", "internal/reflectlite.TypeOf", "(internal/reflectlite.Value).Elem", "(internal/reflectlite.Value).Set"], unfollowed := true, recurses := true, named := ["errors.errorType"], apart := false, laid := [("errors.errorType", laid_errors_errorType)] }
def BrokerStepsSaid : Prop := brokerStepsRow.holds Tryz.pinned (OpenSpec.ofChange brokerStepsSpec)

/-- ITS FALSE NEIGHBOUR: 'it returns false'. Refute it at one input. -/
def brokerStepsWrong : ChangeSpec := { name := "brokerSteps", fn := fun _ => fun
  | [d1, d2, d3, d4] => { results := [.lit (.bool false)], args := [d1, d2, d3, d4] }
  | _ => none }
def BrokerStepsWrongFalsely : Prop := brokerStepsRow.holds Tryz.pinned (OpenSpec.ofChange brokerStepsWrong)

/- THE SECOND FORM. 'bulk': how many values and letters a reading holds, each counted each time it is reached (what is shared counts as often as it is met; a slice's spare places count too). A statement '..UptoSaid' is the law's where the arguments, and the package variables that the reading takes, are together of bulk at most 1048576: NARROWER than '..Said'. Prove '..Said' where nothing that the law and all that it calls make is longer than what came in: it says more and counts as full. Else prove '..UptoSaid'. A law counts once. -/
mutual
def uptoBulk {H : Type} : DataW H → Nat
  | .lit (.string bytes) => bytes.length + 1
  | .lit _ => 1
  | .nil => 1
  | .ptr d => uptoBulk d + 1
  | .slice elems spare => uptoBulkAll elems + uptoBulkAll spare + 1
  | .agg parts => uptoBulkAll parts + 1
  | .iface _ d => uptoBulk d + 1
  | .map entries => uptoBulkEntries entries + 1
  | .held _ => 1
def uptoBulkAll {H : Type} : List (DataW H) → Nat
  | [] => 0
  | d :: r => uptoBulk d + uptoBulkAll r
def uptoBulkEntries {H : Type} : List (Lit × DataW H) → Nat
  | [] => 0
  | x :: r => uptoBulkEntry x + uptoBulkEntries r
def uptoBulkEntry {H : Type} : Lit × DataW H → Nat
  | (.string bytes, d) => bytes.length + uptoBulk d + 1
  | (_, d) => uptoBulk d + 1
 end
def uptoSmall : (H : Type) → List (DataW H) → Bool := fun _ ds => decide (uptoBulkAll ds ≤ 1048576)
def OpenSpec.upto (s : _root_.Go.ChangeSpec) : _root_.Go.OpenSpec := { _root_.Go.OpenSpec.ofChange s with cond := some uptoSmall }

/-- 'broadsidelaw14.BrokerTwice', WHERE WHAT IT READS IS OF BULK AT MOST 1048576: true; the input reads as it did. -/
def brokerTwiceUptoRow : OpenClaim := { program := "ytegofjiikhlokaagreatdoor", sum := "94e6e77dcc0cd65c201181d3e5747c785d46b0f841535cd5b9720062da63d8b6", func := "broadside/broadsidelaw14.BrokerTwice", spec := "brokerTwice", inPlace := ["slices.overlaps[broadside/api.Advert]", "slices.overlaps[broadside/api.ID]", "internal/bytealg.abigen_runtime_cmpstring", "slices.overlaps[broadside/api.Constraint]", "slices.overlaps[broadside/api.Entry]", "internal/reflectlite.ValueOf", "(internal/reflectlite.Value).Type", "(internal/reflectlite.Value).IsNil", "internal/reflectlite.TypeOf", "(internal/reflectlite.Value).Elem", "(internal/reflectlite.Value).Set"], unfollowed := true, recurses := true, named := ["errors.errorType"], apart := false, laid := [("errors.errorType", laid_errors_errorType)], narrowed := true }
def BrokerTwiceUptoSaid : Prop := brokerTwiceUptoRow.holds Tryz.pinned (OpenSpec.upto brokerTwiceSpec)

/-- 'broadsidelaw14.BrokerOrder', WHERE WHAT IT READS IS OF BULK AT MOST 1048576: true; the input reads as it did. -/
def brokerOrderUptoRow : OpenClaim := { program := "ytegofjiikhlokaagreatdoor", sum := "94e6e77dcc0cd65c201181d3e5747c785d46b0f841535cd5b9720062da63d8b6", func := "broadside/broadsidelaw14.BrokerOrder", spec := "brokerOrder", inPlace := ["slices.overlaps[broadside/api.Advert]", "slices.overlaps[broadside/api.ID]", "internal/bytealg.abigen_runtime_cmpstring", "slices.overlaps[broadside/api.Constraint]", "slices.overlaps[broadside/api.Entry]", "internal/reflectlite.ValueOf", "(internal/reflectlite.Value).Type", "(internal/reflectlite.Value).IsNil", "internal/reflectlite.TypeOf", "(internal/reflectlite.Value).Elem", "(internal/reflectlite.Value).Set"], unfollowed := true, recurses := true, named := ["errors.errorType"], apart := false, laid := [("errors.errorType", laid_errors_errorType)], narrowed := true }
def BrokerOrderUptoSaid : Prop := brokerOrderUptoRow.holds Tryz.pinned (OpenSpec.upto brokerOrderSpec)

/-- 'broadsidelaw14.BrokerBytes', WHERE WHAT IT READS IS OF BULK AT MOST 1048576: true; the input reads as it did. -/
def brokerBytesUptoRow : OpenClaim := { program := "ytegofjiikhlokaagreatdoor", sum := "94e6e77dcc0cd65c201181d3e5747c785d46b0f841535cd5b9720062da63d8b6", func := "broadside/broadsidelaw14.BrokerBytes", spec := "brokerBytes", inPlace := ["slices.overlaps[broadside/api.Advert]", "slices.overlaps[broadside/api.ID]", "internal/bytealg.abigen_runtime_cmpstring", "slices.overlaps[broadside/api.Constraint]", "slices.overlaps[broadside/api.Entry]", "internal/reflectlite.ValueOf", "(internal/reflectlite.Value).Type", "(internal/reflectlite.Value).IsNil", "internal/reflectlite.TypeOf", "(internal/reflectlite.Value).Elem", "(internal/reflectlite.Value).Set"], unfollowed := true, recurses := true, named := ["errors.errorType"], apart := false, laid := [("errors.errorType", laid_errors_errorType)], narrowed := true }
def BrokerBytesUptoSaid : Prop := brokerBytesUptoRow.holds Tryz.pinned (OpenSpec.upto brokerBytesSpec)

/-- 'broadsidelaw14.BrokerSteps', WHERE WHAT IT READS IS OF BULK AT MOST 1048576: true; the input reads as it did. -/
def brokerStepsUptoRow : OpenClaim := { program := "ytegofjiikhlokaagreatdoor", sum := "94e6e77dcc0cd65c201181d3e5747c785d46b0f841535cd5b9720062da63d8b6", func := "broadside/broadsidelaw14.BrokerSteps", spec := "brokerSteps", inPlace := ["slices.overlaps[broadside/api.Advert]", "slices.overlaps[broadside/api.ID]", "internal/bytealg.abigen_runtime_cmpstring", "slices.overlaps[broadside/api.Constraint]", "slices.overlaps[broadside/api.Entry]", "internal/reflectlite.ValueOf", "(internal/reflectlite.Value).Type", "(internal/reflectlite.Value).IsNil", "internal/reflectlite.TypeOf", "(internal/reflectlite.Value).Elem", "(internal/reflectlite.Value).Set"], unfollowed := true, recurses := true, named := ["errors.errorType"], apart := false, laid := [("errors.errorType", laid_errors_errorType)], narrowed := true }
def BrokerStepsUptoSaid : Prop := brokerStepsUptoRow.holds Tryz.pinned (OpenSpec.upto brokerStepsSpec)

end Rows
end Go.Proofs.YtegofjiikhlokaaGreatDoor
