/-
  No cell of these rows narrows 'for every input' (looked for: loops, veiled, ifaces, maps, wideKeys, modest, calm, conditions, laid).
  DERIVED. THE GIVEN ROWS OF THIS SEAT. 3 by the template 'for every input the law returns true; each argument reads behind the call as it read before'; 0 by the template 'total and deterministic' (their statements: YtfkbogedodngeaaGreatTotals.lean).
  GIVEN WITH THE SEED: the statements are not yours to turn. If you find one false, say at which input.
  Laid BY PROGRAM, IN A SANDBOX (cutbox-rows.mjs): the forced cells as the released guide's own fill.sh prints them over the translation a8c6c584ff16ffaa… (all of the seat's roots in one cut). By AI agents, Wed Nov 11 2026. No macro, syntax, notation, axiom, sorry.
-/
import Derived.Test.YtfkbogedodngeaaGreatChecked
import GoSem.Claim
import GoSem.ClaimJoined
import GoSem.ClaimMapViews
import Derived.JoinedTies
import Derived.KernelRfl
namespace Go.Proofs.YtfkbogedodngeaaGreat
/- THE CELL 'sum', in the pinned program and in every row, IS THE sha256 OF THE DUMP (.gsa) THAT YtfkbogedodngeaaGreatProg.lean LOADS. Nothing in Lean hashes anything: it is a label: what it is worth is what the hold of that sum in a sandbox is worth. -/
noncomputable def Tryz.pinned : Pinned := { name := "ytfkbogedodngeaagreat", sum := "a8c6c584ff16ffaa9749faa9b05ae6a7e642563b7c2a044cc5a53e4443d1f95e", checked := Tryz.checked }
namespace Rows
def none {H : Type} : Left H := { results := [], args := [] }

/-- 'broadsidelaw12.RouteAbove': WHATEVER THE INPUT: true; the input reads as it did. -/
def routeAboveSpec : ChangeSpec := { name := "routeAbove", fn := fun _ => fun
  | [d] => { results := [.lit (.bool true)], args := [d] }
  | _ => none }
def routeAboveRow : OpenClaim := { program := "ytfkbogedodngeaagreat", sum := "a8c6c584ff16ffaa9749faa9b05ae6a7e642563b7c2a044cc5a53e4443d1f95e", func := "broadside/broadsidelaw12.RouteAbove", spec := "routeAbove", inPlace := ["slices.overlaps[broadside/api.Advert]", "slices.overlaps[broadside/api.ID]", "slices.overlaps[broadside/api.Own]", "internal/bytealg.abigen_runtime_cmpstring", "slices.overlaps[broadside/api.Constraint]", "slices.overlaps[broadside/api.Entry]"], unfollowed := true, recurses := true, plainKeys := false, apart := false }
def RouteAboveSaid : Prop := routeAboveRow.holds Tryz.pinned (OpenSpec.ofChange routeAboveSpec)

/-- ITS FALSE NEIGHBOUR: 'it returns false'. Refute it at one input. -/
def routeAboveWrong : ChangeSpec := { name := "routeAbove", fn := fun _ => fun
  | [d] => { results := [.lit (.bool false)], args := [d] }
  | _ => none }
def RouteAboveWrongFalsely : Prop := routeAboveRow.holds Tryz.pinned (OpenSpec.ofChange routeAboveWrong)

/-- 'broadsidelaw21.TreesGrow': WHATEVER THE INPUT: true; the input reads as it did. -/
def treesGrowSpec : ChangeSpec := { name := "treesGrow", fn := fun _ => fun
  | [d1, d2, d3, d4] => { results := [.lit (.bool true)], args := [d1, d2, d3, d4] }
  | _ => none }
def treesGrowRow : OpenClaim := { program := "ytfkbogedodngeaagreat", sum := "a8c6c584ff16ffaa9749faa9b05ae6a7e642563b7c2a044cc5a53e4443d1f95e", func := "broadside/broadsidelaw21.TreesGrow", spec := "treesGrow", inPlace := ["slices.overlaps[broadside/api.Advert]", "slices.overlaps[broadside/api.ID]", "internal/bytealg.abigen_runtime_cmpstring", "slices.overlaps[broadside/api.Constraint]", "slices.overlaps[broadside/api.Entry]"], unfollowed := true, recurses := true, plainKeys := false, apart := false }
def TreesGrowSaid : Prop := treesGrowRow.holds Tryz.pinned (OpenSpec.ofChange treesGrowSpec)

/-- ITS FALSE NEIGHBOUR: 'it returns false'. Refute it at one input. -/
def treesGrowWrong : ChangeSpec := { name := "treesGrow", fn := fun _ => fun
  | [d1, d2, d3, d4] => { results := [.lit (.bool false)], args := [d1, d2, d3, d4] }
  | _ => none }
def TreesGrowWrongFalsely : Prop := treesGrowRow.holds Tryz.pinned (OpenSpec.ofChange treesGrowWrong)

/-- 'broadsidelaw21.TreesPaths': WHATEVER THE INPUT: true; the input reads as it did. -/
def treesPathsSpec : ChangeSpec := { name := "treesPaths", fn := fun _ => fun
  | [d1, d2, d3, d4] => { results := [.lit (.bool true)], args := [d1, d2, d3, d4] }
  | _ => none }
def treesPathsRow : OpenClaim := { program := "ytfkbogedodngeaagreat", sum := "a8c6c584ff16ffaa9749faa9b05ae6a7e642563b7c2a044cc5a53e4443d1f95e", func := "broadside/broadsidelaw21.TreesPaths", spec := "treesPaths", inPlace := ["slices.overlaps[broadside/api.Advert]", "slices.overlaps[broadside/api.ID]", "internal/bytealg.abigen_runtime_cmpstring", "slices.overlaps[broadside/api.Constraint]", "slices.overlaps[broadside/api.Entry]"], unfollowed := true, recurses := true, plainKeys := false, apart := false }
def TreesPathsSaid : Prop := treesPathsRow.holds Tryz.pinned (OpenSpec.ofChange treesPathsSpec)

/-- ITS FALSE NEIGHBOUR: 'it returns false'. Refute it at one input. -/
def treesPathsWrong : ChangeSpec := { name := "treesPaths", fn := fun _ => fun
  | [d1, d2, d3, d4] => { results := [.lit (.bool false)], args := [d1, d2, d3, d4] }
  | _ => none }
def TreesPathsWrongFalsely : Prop := treesPathsRow.holds Tryz.pinned (OpenSpec.ofChange treesPathsWrong)

/- THE SECOND FORM. 'bulk': how many values and letters a reading holds, each counted each time it is reached (what is shared counts as often as it is met; a slice's spare places count too). A statement '..UptoSaid' is the law's where the arguments, and the package variables that the reading takes, are together of bulk at most 1048576: NARROWER than '..Said'. Prove '..Said' where nothing that the law and all that it calls make is longer than what came in: it says more and counts as full. Else prove '..UptoSaid'. A law counts once. -/
mutual
def uptoBulk {H : Type} : DataW H → Nat
  | .lit (.string bytes) => bytes.length + 1
  | .lit _ => 1
  | .nil => 1
  | .ptr d => uptoBulk d + 1
  | .slice elems spare => uptoBulkAll elems + uptoBulkAll spare + 1
  | .agg parts => uptoBulkAll parts + 1
  | .iface _ d => uptoBulk d + 1
  | .map entries => uptoBulkEntries entries + 1
  | .held _ => 1
def uptoBulkAll {H : Type} : List (DataW H) → Nat
  | [] => 0
  | d :: r => uptoBulk d + uptoBulkAll r
def uptoBulkEntries {H : Type} : List (Lit × DataW H) → Nat
  | [] => 0
  | x :: r => uptoBulkEntry x + uptoBulkEntries r
def uptoBulkEntry {H : Type} : Lit × DataW H → Nat
  | (.string bytes, d) => bytes.length + uptoBulk d + 1
  | (_, d) => uptoBulk d + 1
 end
def uptoSmall : (H : Type) → List (DataW H) → Bool := fun _ ds => decide (uptoBulkAll ds ≤ 1048576)
def OpenSpec.upto (s : _root_.Go.ChangeSpec) : _root_.Go.OpenSpec := { _root_.Go.OpenSpec.ofChange s with cond := some uptoSmall }

/-- 'broadsidelaw12.RouteAbove', WHERE WHAT IT READS IS OF BULK AT MOST 1048576: true; the input reads as it did. -/
def routeAboveUptoRow : OpenClaim := { program := "ytfkbogedodngeaagreat", sum := "a8c6c584ff16ffaa9749faa9b05ae6a7e642563b7c2a044cc5a53e4443d1f95e", func := "broadside/broadsidelaw12.RouteAbove", spec := "routeAbove", inPlace := ["slices.overlaps[broadside/api.Advert]", "slices.overlaps[broadside/api.ID]", "slices.overlaps[broadside/api.Own]", "internal/bytealg.abigen_runtime_cmpstring", "slices.overlaps[broadside/api.Constraint]", "slices.overlaps[broadside/api.Entry]"], unfollowed := true, recurses := true, plainKeys := false, apart := false, narrowed := true }
def RouteAboveUptoSaid : Prop := routeAboveUptoRow.holds Tryz.pinned (OpenSpec.upto routeAboveSpec)

/-- 'broadsidelaw21.TreesGrow', WHERE WHAT IT READS IS OF BULK AT MOST 1048576: true; the input reads as it did. -/
def treesGrowUptoRow : OpenClaim := { program := "ytfkbogedodngeaagreat", sum := "a8c6c584ff16ffaa9749faa9b05ae6a7e642563b7c2a044cc5a53e4443d1f95e", func := "broadside/broadsidelaw21.TreesGrow", spec := "treesGrow", inPlace := ["slices.overlaps[broadside/api.Advert]", "slices.overlaps[broadside/api.ID]", "internal/bytealg.abigen_runtime_cmpstring", "slices.overlaps[broadside/api.Constraint]", "slices.overlaps[broadside/api.Entry]"], unfollowed := true, recurses := true, plainKeys := false, apart := false, narrowed := true }
def TreesGrowUptoSaid : Prop := treesGrowUptoRow.holds Tryz.pinned (OpenSpec.upto treesGrowSpec)

/-- 'broadsidelaw21.TreesPaths', WHERE WHAT IT READS IS OF BULK AT MOST 1048576: true; the input reads as it did. -/
def treesPathsUptoRow : OpenClaim := { program := "ytfkbogedodngeaagreat", sum := "a8c6c584ff16ffaa9749faa9b05ae6a7e642563b7c2a044cc5a53e4443d1f95e", func := "broadside/broadsidelaw21.TreesPaths", spec := "treesPaths", inPlace := ["slices.overlaps[broadside/api.Advert]", "slices.overlaps[broadside/api.ID]", "internal/bytealg.abigen_runtime_cmpstring", "slices.overlaps[broadside/api.Constraint]", "slices.overlaps[broadside/api.Entry]"], unfollowed := true, recurses := true, plainKeys := false, apart := false, narrowed := true }
def TreesPathsUptoSaid : Prop := treesPathsUptoRow.holds Tryz.pinned (OpenSpec.upto treesPathsSpec)

end Rows
end Go.Proofs.YtfkbogedodngeaaGreat
