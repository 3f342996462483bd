/-
  NARROWER THAN 'FOR EVERY INPUT', by the rows' own cells (each row's printed sentence says how): BrokerBytes: laid · AuditBroker: laid · NetFloods: laid · NetLine: laid · NetLinks: laid · NetCopies: laid.
  DERIVED. THE GIVEN ROWS OF THIS SEAT. 6 by the template 'for every input the law returns true; each argument reads behind the call as it read before'; 0 by the template 'total and deterministic' (their statements: YtfkbogedodngeaaGreatDoorTotals.lean).
  GIVEN WITH THE SEED: the statements are not yours to turn. If you find one false, say at which input.
  Laid BY PROGRAM, IN A SANDBOX (cutbox-rows.mjs): the forced cells as the released guide's own fill.sh prints them over the translation 0ad2cb918c2a6309… (all of the seat's roots in one cut). By AI agents, Wed Nov 11 2026. No macro, syntax, notation, axiom, sorry.
-/
import Derived.Test.YtfkbogedodngeaaGreatDoorChecked
import GoSem.Claim
import GoSem.ClaimJoined
import GoSem.ClaimMapViews
import Derived.JoinedTies
import Derived.KernelRfl
namespace Go.Proofs.YtfkbogedodngeaaGreatDoor
/- THE CELL 'sum', in the pinned program and in every row, IS THE sha256 OF THE DUMP (.gsa) THAT YtfkbogedodngeaaGreatDoorProg.lean LOADS. Nothing in Lean hashes anything: it is a label: what it is worth is what the hold of that sum in a sandbox is worth. -/
noncomputable def Tryz.pinned : Pinned := { name := "ytfkbogedodngeaagreatdoor", sum := "0ad2cb918c2a63091bd19aa740ecee44f77e76ff47ecaf944266b2ff299bbba0", checked := Tryz.checked }
namespace Rows
def none {H : Type} : Left H := { results := [], args := [] }

/- WHAT THE LISTED PACKAGE-LEVEL VARIABLES READ AS WHEN THE CALL BEGINS. Each datum BY PROGRAM (the guide's laid-datum.mjs) off the statement by which the dump's own 'gosem.cut.vars' lays the variable. In a bare row this is a premise. The card (YtfkbogedodngeaaGreatDoorCards.lean) ties it to the program's text. -/
def laid_errors_errorType {H : Type} : DataW H := .iface "internal/reflectlite.rtype" (.agg [.ptr (.lit (.string [101, 114, 114, 111, 114]))])

/-- 'broadsidelaw14.BrokerBytes': WHATEVER THE INPUT: true; the input reads as it did. -/
def brokerBytesSpec : ChangeSpec := { name := "brokerBytes", fn := fun _ => fun
  | [d1, d2, d3, d4, d5] => { results := [.lit (.bool true)], args := [d1, d2, d3, d4, d5] }
  | _ => none }
def brokerBytesRow : OpenClaim := { program := "ytfkbogedodngeaagreatdoor", sum := "0ad2cb918c2a63091bd19aa740ecee44f77e76ff47ecaf944266b2ff299bbba0", func := "broadside/broadsidelaw14.BrokerBytes", spec := "brokerBytes", inPlace := ["slices.overlaps[broadside/api.Advert]", "slices.overlaps[broadside/api.ID]", "internal/bytealg.abigen_runtime_cmpstring", "slices.overlaps[broadside/api.Constraint]", "slices.overlaps[broadside/api.Entry]", "internal/reflectlite.ValueOf", "(internal/reflectlite.Value).Type", "(internal/reflectlite.Value).IsNil", "internal/reflectlite.TypeOf", "(internal/reflectlite.Value).Elem", "(internal/reflectlite.Value).Set"], unfollowed := true, recurses := true, named := ["errors.errorType"], plainKeys := false, apart := false, laid := [("errors.errorType", laid_errors_errorType)] }
def BrokerBytesSaid : Prop := brokerBytesRow.holds Tryz.pinned (OpenSpec.ofChange brokerBytesSpec)

/-- ITS FALSE NEIGHBOUR: 'it returns false'. Refute it at one input. -/
def brokerBytesWrong : ChangeSpec := { name := "brokerBytes", fn := fun _ => fun
  | [d1, d2, d3, d4, d5] => { results := [.lit (.bool false)], args := [d1, d2, d3, d4, d5] }
  | _ => none }
def BrokerBytesWrongFalsely : Prop := brokerBytesRow.holds Tryz.pinned (OpenSpec.ofChange brokerBytesWrong)

/-- 'broadsidelaw25.AuditBroker': WHATEVER THE INPUT: true; the input reads as it did. -/
def auditBrokerSpec : ChangeSpec := { name := "auditBroker", fn := fun _ => fun
  | [d1, d2] => { results := [.lit (.bool true)], args := [d1, d2] }
  | _ => none }
def auditBrokerRow : OpenClaim := { program := "ytfkbogedodngeaagreatdoor", sum := "0ad2cb918c2a63091bd19aa740ecee44f77e76ff47ecaf944266b2ff299bbba0", func := "broadside/broadsidelaw25.AuditBroker", spec := "auditBroker", inPlace := ["internal/reflectlite.ValueOf", "(internal/reflectlite.Value).Type", "(internal/reflectlite.Value).IsNil", "internal/reflectlite.TypeOf", "(internal/reflectlite.Value).Elem", "(internal/reflectlite.Value).Set", "internal/bytealg.abigen_runtime_cmpstring", "slices.overlaps[broadside/api.Constraint]"], unfollowed := true, recurses := true, named := ["errors.errorType"], plainKeys := false, apart := false, laid := [("errors.errorType", laid_errors_errorType)] }
def AuditBrokerSaid : Prop := auditBrokerRow.holds Tryz.pinned (OpenSpec.ofChange auditBrokerSpec)

/-- ITS FALSE NEIGHBOUR: 'it returns false'. Refute it at one input. -/
def auditBrokerWrong : ChangeSpec := { name := "auditBroker", fn := fun _ => fun
  | [d1, d2] => { results := [.lit (.bool false)], args := [d1, d2] }
  | _ => none }
def AuditBrokerWrongFalsely : Prop := auditBrokerRow.holds Tryz.pinned (OpenSpec.ofChange auditBrokerWrong)

/-- 'broadsidelaw16.NetFloods': WHATEVER THE INPUT: true; the input reads as it did. -/
def netFloodsSpec : ChangeSpec := { name := "netFloods", fn := fun _ => fun
  | [d1, d2, d3, d4] => { results := [.lit (.bool true)], args := [d1, d2, d3, d4] }
  | _ => none }
def netFloodsRow : OpenClaim := { program := "ytfkbogedodngeaagreatdoor", sum := "0ad2cb918c2a63091bd19aa740ecee44f77e76ff47ecaf944266b2ff299bbba0", func := "broadside/broadsidelaw16.NetFloods", spec := "netFloods", inPlace := ["slices.overlaps[broadside/api.Advert]", "slices.overlaps[broadside/api.ID]", "internal/bytealg.abigen_runtime_cmpstring", "slices.overlaps[broadside/api.Constraint]", "slices.overlaps[broadside/api.Entry]", "internal/reflectlite.ValueOf", "(internal/reflectlite.Value).Type", "(internal/reflectlite.Value).IsNil", "internal/reflectlite.TypeOf", "(internal/reflectlite.Value).Elem", "(internal/reflectlite.Value).Set"], unfollowed := true, recurses := true, named := ["errors.errorType"], plainKeys := false, apart := false, laid := [("errors.errorType", laid_errors_errorType)] }
def NetFloodsSaid : Prop := netFloodsRow.holds Tryz.pinned (OpenSpec.ofChange netFloodsSpec)

/-- ITS FALSE NEIGHBOUR: 'it returns false'. Refute it at one input. -/
def netFloodsWrong : ChangeSpec := { name := "netFloods", fn := fun _ => fun
  | [d1, d2, d3, d4] => { results := [.lit (.bool false)], args := [d1, d2, d3, d4] }
  | _ => none }
def NetFloodsWrongFalsely : Prop := netFloodsRow.holds Tryz.pinned (OpenSpec.ofChange netFloodsWrong)

/-- 'broadsidelaw16.NetLine': WHATEVER THE INPUT: true; the input reads as it did. -/
def netLineSpec : ChangeSpec := { name := "netLine", fn := fun _ => fun
  | [d1, d2, d3] => { results := [.lit (.bool true)], args := [d1, d2, d3] }
  | _ => none }
def netLineRow : OpenClaim := { program := "ytfkbogedodngeaagreatdoor", sum := "0ad2cb918c2a63091bd19aa740ecee44f77e76ff47ecaf944266b2ff299bbba0", func := "broadside/broadsidelaw16.NetLine", spec := "netLine", inPlace := ["slices.overlaps[broadside/api.Advert]", "slices.overlaps[broadside/api.ID]", "internal/bytealg.abigen_runtime_cmpstring", "slices.overlaps[broadside/api.Constraint]", "slices.overlaps[broadside/api.Entry]", "slices.overlaps[broadside/api.Own]", "internal/reflectlite.ValueOf", "(internal/reflectlite.Value).Type", "(internal/reflectlite.Value).IsNil", "internal/reflectlite.TypeOf", "(internal/reflectlite.Value).Elem", "(internal/reflectlite.Value).Set"], unfollowed := true, recurses := true, named := ["errors.errorType"], plainKeys := false, apart := false, laid := [("errors.errorType", laid_errors_errorType)] }
def NetLineSaid : Prop := netLineRow.holds Tryz.pinned (OpenSpec.ofChange netLineSpec)

/-- ITS FALSE NEIGHBOUR: 'it returns false'. Refute it at one input. -/
def netLineWrong : ChangeSpec := { name := "netLine", fn := fun _ => fun
  | [d1, d2, d3] => { results := [.lit (.bool false)], args := [d1, d2, d3] }
  | _ => none }
def NetLineWrongFalsely : Prop := netLineRow.holds Tryz.pinned (OpenSpec.ofChange netLineWrong)

/-- 'broadsidelaw16.NetLinks': WHATEVER THE INPUT: true; the input reads as it did. -/
def netLinksSpec : ChangeSpec := { name := "netLinks", fn := fun _ => fun
  | [d1, d2, d3] => { results := [.lit (.bool true)], args := [d1, d2, d3] }
  | _ => none }
def netLinksRow : OpenClaim := { program := "ytfkbogedodngeaagreatdoor", sum := "0ad2cb918c2a63091bd19aa740ecee44f77e76ff47ecaf944266b2ff299bbba0", func := "broadside/broadsidelaw16.NetLinks", spec := "netLinks", inPlace := ["slices.overlaps[broadside/api.Advert]", "slices.overlaps[broadside/api.ID]", "internal/bytealg.abigen_runtime_cmpstring", "slices.overlaps[broadside/api.Constraint]", "slices.overlaps[broadside/api.Entry]", "slices.overlaps[broadside/api.Own]", "internal/reflectlite.ValueOf", "(internal/reflectlite.Value).Type", "(internal/reflectlite.Value).IsNil", "internal/reflectlite.TypeOf", "(internal/reflectlite.Value).Elem", "(internal/reflectlite.Value).Set"], unfollowed := true, recurses := true, named := ["errors.errorType"], plainKeys := false, apart := false, laid := [("errors.errorType", laid_errors_errorType)] }
def NetLinksSaid : Prop := netLinksRow.holds Tryz.pinned (OpenSpec.ofChange netLinksSpec)

/-- ITS FALSE NEIGHBOUR: 'it returns false'. Refute it at one input. -/
def netLinksWrong : ChangeSpec := { name := "netLinks", fn := fun _ => fun
  | [d1, d2, d3] => { results := [.lit (.bool false)], args := [d1, d2, d3] }
  | _ => none }
def NetLinksWrongFalsely : Prop := netLinksRow.holds Tryz.pinned (OpenSpec.ofChange netLinksWrong)

/-- 'broadsidelaw16.NetCopies': WHATEVER THE INPUT: true; the input reads as it did. -/
def netCopiesSpec : ChangeSpec := { name := "netCopies", fn := fun _ => fun
  | [d1, d2, d3] => { results := [.lit (.bool true)], args := [d1, d2, d3] }
  | _ => none }
def netCopiesRow : OpenClaim := { program := "ytfkbogedodngeaagreatdoor", sum := "0ad2cb918c2a63091bd19aa740ecee44f77e76ff47ecaf944266b2ff299bbba0", func := "broadside/broadsidelaw16.NetCopies", spec := "netCopies", inPlace := ["slices.overlaps[broadside/api.Advert]", "slices.overlaps[broadside/api.ID]", "internal/bytealg.abigen_runtime_cmpstring", "slices.overlaps[broadside/api.Constraint]", "slices.overlaps[broadside/api.Entry]", "slices.overlaps[broadside/api.Own]", "internal/reflectlite.ValueOf", "(internal/reflectlite.Value).Type", "(internal/reflectlite.Value).IsNil", "internal/reflectlite.TypeOf", "(internal/reflectlite.Value).Elem", "(internal/reflectlite.Value).Set"], unfollowed := true, recurses := true, named := ["errors.errorType"], plainKeys := false, apart := false, laid := [("errors.errorType", laid_errors_errorType)] }
def NetCopiesSaid : Prop := netCopiesRow.holds Tryz.pinned (OpenSpec.ofChange netCopiesSpec)

/-- ITS FALSE NEIGHBOUR: 'it returns false'. Refute it at one input. -/
def netCopiesWrong : ChangeSpec := { name := "netCopies", fn := fun _ => fun
  | [d1, d2, d3] => { results := [.lit (.bool false)], args := [d1, d2, d3] }
  | _ => none }
def NetCopiesWrongFalsely : Prop := netCopiesRow.holds Tryz.pinned (OpenSpec.ofChange netCopiesWrong)

/- THE SECOND FORM. 'bulk': how many values and letters a reading holds, each counted each time it is reached (what is shared counts as often as it is met; a slice's spare places count too). A statement '..UptoSaid' is the law's where the arguments, and the package variables that the reading takes, are together of bulk at most 1048576: NARROWER than '..Said'. Prove '..Said' where nothing that the law and all that it calls make is longer than what came in: it says more and counts as full. Else prove '..UptoSaid'. A law counts once. -/
mutual
def uptoBulk {H : Type} : DataW H → Nat
  | .lit (.string bytes) => bytes.length + 1
  | .lit _ => 1
  | .nil => 1
  | .ptr d => uptoBulk d + 1
  | .slice elems spare => uptoBulkAll elems + uptoBulkAll spare + 1
  | .agg parts => uptoBulkAll parts + 1
  | .iface _ d => uptoBulk d + 1
  | .map entries => uptoBulkEntries entries + 1
  | .held _ => 1
def uptoBulkAll {H : Type} : List (DataW H) → Nat
  | [] => 0
  | d :: r => uptoBulk d + uptoBulkAll r
def uptoBulkEntries {H : Type} : List (Lit × DataW H) → Nat
  | [] => 0
  | x :: r => uptoBulkEntry x + uptoBulkEntries r
def uptoBulkEntry {H : Type} : Lit × DataW H → Nat
  | (.string bytes, d) => bytes.length + uptoBulk d + 1
  | (_, d) => uptoBulk d + 1
 end
def uptoSmall : (H : Type) → List (DataW H) → Bool := fun _ ds => decide (uptoBulkAll ds ≤ 1048576)
def OpenSpec.upto (s : _root_.Go.ChangeSpec) : _root_.Go.OpenSpec := { _root_.Go.OpenSpec.ofChange s with cond := some uptoSmall }

/-- 'broadsidelaw14.BrokerBytes', WHERE WHAT IT READS IS OF BULK AT MOST 1048576: true; the input reads as it did. -/
def brokerBytesUptoRow : OpenClaim := { program := "ytfkbogedodngeaagreatdoor", sum := "0ad2cb918c2a63091bd19aa740ecee44f77e76ff47ecaf944266b2ff299bbba0", func := "broadside/broadsidelaw14.BrokerBytes", spec := "brokerBytes", inPlace := ["slices.overlaps[broadside/api.Advert]", "slices.overlaps[broadside/api.ID]", "internal/bytealg.abigen_runtime_cmpstring", "slices.overlaps[broadside/api.Constraint]", "slices.overlaps[broadside/api.Entry]", "internal/reflectlite.ValueOf", "(internal/reflectlite.Value).Type", "(internal/reflectlite.Value).IsNil", "internal/reflectlite.TypeOf", "(internal/reflectlite.Value).Elem", "(internal/reflectlite.Value).Set"], unfollowed := true, recurses := true, named := ["errors.errorType"], plainKeys := false, apart := false, laid := [("errors.errorType", laid_errors_errorType)], narrowed := true }
def BrokerBytesUptoSaid : Prop := brokerBytesUptoRow.holds Tryz.pinned (OpenSpec.upto brokerBytesSpec)

/-- 'broadsidelaw25.AuditBroker', WHERE WHAT IT READS IS OF BULK AT MOST 1048576: true; the input reads as it did. -/
def auditBrokerUptoRow : OpenClaim := { program := "ytfkbogedodngeaagreatdoor", sum := "0ad2cb918c2a63091bd19aa740ecee44f77e76ff47ecaf944266b2ff299bbba0", func := "broadside/broadsidelaw25.AuditBroker", spec := "auditBroker", inPlace := ["internal/reflectlite.ValueOf", "(internal/reflectlite.Value).Type", "(internal/reflectlite.Value).IsNil", "internal/reflectlite.TypeOf", "(internal/reflectlite.Value).Elem", "(internal/reflectlite.Value).Set", "internal/bytealg.abigen_runtime_cmpstring", "slices.overlaps[broadside/api.Constraint]"], unfollowed := true, recurses := true, named := ["errors.errorType"], plainKeys := false, apart := false, laid := [("errors.errorType", laid_errors_errorType)], narrowed := true }
def AuditBrokerUptoSaid : Prop := auditBrokerUptoRow.holds Tryz.pinned (OpenSpec.upto auditBrokerSpec)

/-- 'broadsidelaw16.NetFloods', WHERE WHAT IT READS IS OF BULK AT MOST 1048576: true; the input reads as it did. -/
def netFloodsUptoRow : OpenClaim := { program := "ytfkbogedodngeaagreatdoor", sum := "0ad2cb918c2a63091bd19aa740ecee44f77e76ff47ecaf944266b2ff299bbba0", func := "broadside/broadsidelaw16.NetFloods", spec := "netFloods", inPlace := ["slices.overlaps[broadside/api.Advert]", "slices.overlaps[broadside/api.ID]", "internal/bytealg.abigen_runtime_cmpstring", "slices.overlaps[broadside/api.Constraint]", "slices.overlaps[broadside/api.Entry]", "internal/reflectlite.ValueOf", "(internal/reflectlite.Value).Type", "(internal/reflectlite.Value).IsNil", "internal/reflectlite.TypeOf", "(internal/reflectlite.Value).Elem", "(internal/reflectlite.Value).Set"], unfollowed := true, recurses := true, named := ["errors.errorType"], plainKeys := false, apart := false, laid := [("errors.errorType", laid_errors_errorType)], narrowed := true }
def NetFloodsUptoSaid : Prop := netFloodsUptoRow.holds Tryz.pinned (OpenSpec.upto netFloodsSpec)

/-- 'broadsidelaw16.NetLine', WHERE WHAT IT READS IS OF BULK AT MOST 1048576: true; the input reads as it did. -/
def netLineUptoRow : OpenClaim := { program := "ytfkbogedodngeaagreatdoor", sum := "0ad2cb918c2a63091bd19aa740ecee44f77e76ff47ecaf944266b2ff299bbba0", func := "broadside/broadsidelaw16.NetLine", spec := "netLine", inPlace := ["slices.overlaps[broadside/api.Advert]", "slices.overlaps[broadside/api.ID]", "internal/bytealg.abigen_runtime_cmpstring", "slices.overlaps[broadside/api.Constraint]", "slices.overlaps[broadside/api.Entry]", "slices.overlaps[broadside/api.Own]", "internal/reflectlite.ValueOf", "(internal/reflectlite.Value).Type", "(internal/reflectlite.Value).IsNil", "internal/reflectlite.TypeOf", "(internal/reflectlite.Value).Elem", "(internal/reflectlite.Value).Set"], unfollowed := true, recurses := true, named := ["errors.errorType"], plainKeys := false, apart := false, laid := [("errors.errorType", laid_errors_errorType)], narrowed := true }
def NetLineUptoSaid : Prop := netLineUptoRow.holds Tryz.pinned (OpenSpec.upto netLineSpec)

/-- 'broadsidelaw16.NetLinks', WHERE WHAT IT READS IS OF BULK AT MOST 1048576: true; the input reads as it did. -/
def netLinksUptoRow : OpenClaim := { program := "ytfkbogedodngeaagreatdoor", sum := "0ad2cb918c2a63091bd19aa740ecee44f77e76ff47ecaf944266b2ff299bbba0", func := "broadside/broadsidelaw16.NetLinks", spec := "netLinks", inPlace := ["slices.overlaps[broadside/api.Advert]", "slices.overlaps[broadside/api.ID]", "internal/bytealg.abigen_runtime_cmpstring", "slices.overlaps[broadside/api.Constraint]", "slices.overlaps[broadside/api.Entry]", "slices.overlaps[broadside/api.Own]", "internal/reflectlite.ValueOf", "(internal/reflectlite.Value).Type", "(internal/reflectlite.Value).IsNil", "internal/reflectlite.TypeOf", "(internal/reflectlite.Value).Elem", "(internal/reflectlite.Value).Set"], unfollowed := true, recurses := true, named := ["errors.errorType"], plainKeys := false, apart := false, laid := [("errors.errorType", laid_errors_errorType)], narrowed := true }
def NetLinksUptoSaid : Prop := netLinksUptoRow.holds Tryz.pinned (OpenSpec.upto netLinksSpec)

/-- 'broadsidelaw16.NetCopies', WHERE WHAT IT READS IS OF BULK AT MOST 1048576: true; the input reads as it did. -/
def netCopiesUptoRow : OpenClaim := { program := "ytfkbogedodngeaagreatdoor", sum := "0ad2cb918c2a63091bd19aa740ecee44f77e76ff47ecaf944266b2ff299bbba0", func := "broadside/broadsidelaw16.NetCopies", spec := "netCopies", inPlace := ["slices.overlaps[broadside/api.Advert]", "slices.overlaps[broadside/api.ID]", "internal/bytealg.abigen_runtime_cmpstring", "slices.overlaps[broadside/api.Constraint]", "slices.overlaps[broadside/api.Entry]", "slices.overlaps[broadside/api.Own]", "internal/reflectlite.ValueOf", "(internal/reflectlite.Value).Type", "(internal/reflectlite.Value).IsNil", "internal/reflectlite.TypeOf", "(internal/reflectlite.Value).Elem", "(internal/reflectlite.Value).Set"], unfollowed := true, recurses := true, named := ["errors.errorType"], plainKeys := false, apart := false, laid := [("errors.errorType", laid_errors_errorType)], narrowed := true }
def NetCopiesUptoSaid : Prop := netCopiesUptoRow.holds Tryz.pinned (OpenSpec.upto netCopiesSpec)

end Rows
end Go.Proofs.YtfkbogedodngeaaGreatDoor
