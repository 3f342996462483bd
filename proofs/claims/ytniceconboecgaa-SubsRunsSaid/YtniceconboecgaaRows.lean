/-
  No cell of these rows narrows 'for every input' (looked for: loops, veiled, ifaces, maps, wideKeys, modest, calm, conditions, laid).
  DERIVED. THE GIVEN ROWS OF THIS SEAT. 9 by the template 'for every input the law returns true; each argument reads behind the call as it read before'; 0 by the template 'total and deterministic' (their statements: YtniceconboecgaaTotals.lean).
  GIVEN WITH THE SEED: the statements are not yours to turn. If you find one false, say at which input.
  Laid BY PROGRAM, IN A SANDBOX (cutbox-rows.mjs): the forced cells as the released guide's own fill.sh prints them over the translation 54f22cc5e657f81d… (all of the seat's roots in one cut). By AI agents, Wed Nov 11 2026. No macro, syntax, notation, axiom, sorry.
-/
import Derived.Test.YtniceconboecgaaChecked
import GoSem.Claim
import GoSem.ClaimJoined
import GoSem.ClaimMapViews
import Derived.JoinedTies
import Derived.KernelRfl
namespace Go.Proofs.Ytniceconboecgaa
/- THE CELL 'sum', in the pinned program and in every row, IS THE sha256 OF THE DUMP (.gsa) THAT YtniceconboecgaaProg.lean LOADS. Nothing in Lean hashes anything: it is a label: what it is worth is what the hold of that sum in a sandbox is worth. -/
noncomputable def Try.pinned : Pinned := { name := "ytniceconboecgaa", sum := "54f22cc5e657f81d0ac1c8e426eb803ff98261a09612dfd73a4c95ad0a157d2f", checked := Try.checked }
namespace Rows
def none {H : Type} : Left H := { results := [], args := [] }

/-- 'broadsidelaw21.TreesRuns': WHATEVER THE INPUT: true; the input reads as it did. -/
def treesRunsSpec : ChangeSpec := { name := "treesRuns", fn := fun _ => fun
  | [] => { results := [.lit (.bool true)], args := [] }
  | _ => none }
def treesRunsRow : OpenClaim := { program := "ytniceconboecgaa", sum := "54f22cc5e657f81d0ac1c8e426eb803ff98261a09612dfd73a4c95ad0a157d2f", func := "broadside/broadsidelaw21.TreesRuns", spec := "treesRuns", recurses := true, plainKeys := false, apart := false }
def TreesRunsSaid : Prop := treesRunsRow.holds Try.pinned (OpenSpec.ofChange treesRunsSpec)

/-- ITS FALSE NEIGHBOUR: 'it returns false'. Refute it at one input. -/
def treesRunsWrong : ChangeSpec := { name := "treesRuns", fn := fun _ => fun
  | [] => { results := [.lit (.bool false)], args := [] }
  | _ => none }
def TreesRunsWrongFalsely : Prop := treesRunsRow.holds Try.pinned (OpenSpec.ofChange treesRunsWrong)

/-- 'broadsidelaw21.TreesTells': WHATEVER THE INPUT: true; the input reads as it did. -/
def treesTellsSpec : ChangeSpec := { name := "treesTells", fn := fun _ => fun
  | [d1, d2, d3] => { results := [.lit (.bool true)], args := [d1, d2, d3] }
  | _ => none }
def treesTellsRow : OpenClaim := { program := "ytniceconboecgaa", sum := "54f22cc5e657f81d0ac1c8e426eb803ff98261a09612dfd73a4c95ad0a157d2f", func := "broadside/broadsidelaw21.TreesTells", spec := "treesTells", unfollowed := true, recurses := true, plainKeys := false, apart := false }
def TreesTellsSaid : Prop := treesTellsRow.holds Try.pinned (OpenSpec.ofChange treesTellsSpec)

/-- ITS FALSE NEIGHBOUR: 'it returns false'. Refute it at one input. -/
def treesTellsWrong : ChangeSpec := { name := "treesTells", fn := fun _ => fun
  | [d1, d2, d3] => { results := [.lit (.bool false)], args := [d1, d2, d3] }
  | _ => none }
def TreesTellsWrongFalsely : Prop := treesTellsRow.holds Try.pinned (OpenSpec.ofChange treesTellsWrong)

/-- 'broadsidelaw21.TreesOdd': WHATEVER THE INPUT: true; the input reads as it did. -/
def treesOddSpec : ChangeSpec := { name := "treesOdd", fn := fun _ => fun
  | [d1, d2, d3] => { results := [.lit (.bool true)], args := [d1, d2, d3] }
  | _ => none }
def treesOddRow : OpenClaim := { program := "ytniceconboecgaa", sum := "54f22cc5e657f81d0ac1c8e426eb803ff98261a09612dfd73a4c95ad0a157d2f", func := "broadside/broadsidelaw21.TreesOdd", spec := "treesOdd", unfollowed := true, recurses := true, plainKeys := false, apart := false }
def TreesOddSaid : Prop := treesOddRow.holds Try.pinned (OpenSpec.ofChange treesOddSpec)

/-- ITS FALSE NEIGHBOUR: 'it returns false'. Refute it at one input. -/
def treesOddWrong : ChangeSpec := { name := "treesOdd", fn := fun _ => fun
  | [d1, d2, d3] => { results := [.lit (.bool false)], args := [d1, d2, d3] }
  | _ => none }
def TreesOddWrongFalsely : Prop := treesOddRow.holds Try.pinned (OpenSpec.ofChange treesOddWrong)

/-- 'broadsidelaw9.AdvertsRuns': WHATEVER THE INPUT: true; the input reads as it did. -/
def advertsRunsSpec : ChangeSpec := { name := "advertsRuns", fn := fun _ => fun
  | [] => { results := [.lit (.bool true)], args := [] }
  | _ => none }
def advertsRunsRow : OpenClaim := { program := "ytniceconboecgaa", sum := "54f22cc5e657f81d0ac1c8e426eb803ff98261a09612dfd73a4c95ad0a157d2f", func := "broadside/broadsidelaw9.AdvertsRuns", spec := "advertsRuns", inPlace := ["slices.overlaps[broadside/api.Advert]", "slices.overlaps[broadside/api.ID]"], unfollowed := true, recurses := true, plainKeys := false, apart := false }
def AdvertsRunsSaid : Prop := advertsRunsRow.holds Try.pinned (OpenSpec.ofChange advertsRunsSpec)

/-- ITS FALSE NEIGHBOUR: 'it returns false'. Refute it at one input. -/
def advertsRunsWrong : ChangeSpec := { name := "advertsRuns", fn := fun _ => fun
  | [] => { results := [.lit (.bool false)], args := [] }
  | _ => none }
def AdvertsRunsWrongFalsely : Prop := advertsRunsRow.holds Try.pinned (OpenSpec.ofChange advertsRunsWrong)

/-- 'broadsidelaw9.AdvertsOnce': WHATEVER THE INPUT: true; the input reads as it did. -/
def advertsOnceSpec : ChangeSpec := { name := "advertsOnce", fn := fun _ => fun
  | [d1, d2, d3] => { results := [.lit (.bool true)], args := [d1, d2, d3] }
  | _ => none }
def advertsOnceRow : OpenClaim := { program := "ytniceconboecgaa", sum := "54f22cc5e657f81d0ac1c8e426eb803ff98261a09612dfd73a4c95ad0a157d2f", func := "broadside/broadsidelaw9.AdvertsOnce", spec := "advertsOnce", inPlace := ["slices.overlaps[broadside/api.Advert]", "slices.overlaps[broadside/api.ID]"], unfollowed := true, recurses := true, plainKeys := false, apart := false }
def AdvertsOnceSaid : Prop := advertsOnceRow.holds Try.pinned (OpenSpec.ofChange advertsOnceSpec)

/-- ITS FALSE NEIGHBOUR: 'it returns false'. Refute it at one input. -/
def advertsOnceWrong : ChangeSpec := { name := "advertsOnce", fn := fun _ => fun
  | [d1, d2, d3] => { results := [.lit (.bool false)], args := [d1, d2, d3] }
  | _ => none }
def AdvertsOnceWrongFalsely : Prop := advertsOnceRow.holds Try.pinned (OpenSpec.ofChange advertsOnceWrong)

/-- 'broadsidelaw10.SubsRuns': WHATEVER THE INPUT: true; the input reads as it did. -/
def subsRunsSpec : ChangeSpec := { name := "subsRuns", fn := fun _ => fun
  | [] => { results := [.lit (.bool true)], args := [] }
  | _ => none }
def subsRunsRow : OpenClaim := { program := "ytniceconboecgaa", sum := "54f22cc5e657f81d0ac1c8e426eb803ff98261a09612dfd73a4c95ad0a157d2f", func := "broadside/broadsidelaw10.SubsRuns", spec := "subsRuns", inPlace := ["slices.overlaps[broadside/api.Advert]", "slices.overlaps[broadside/api.ID]", "slices.overlaps[broadside/api.Entry]"], unfollowed := true, recurses := true, plainKeys := false, apart := false }
def SubsRunsSaid : Prop := subsRunsRow.holds Try.pinned (OpenSpec.ofChange subsRunsSpec)

/-- ITS FALSE NEIGHBOUR: 'it returns false'. Refute it at one input. -/
def subsRunsWrong : ChangeSpec := { name := "subsRuns", fn := fun _ => fun
  | [] => { results := [.lit (.bool false)], args := [] }
  | _ => none }
def SubsRunsWrongFalsely : Prop := subsRunsRow.holds Try.pinned (OpenSpec.ofChange subsRunsWrong)

/-- 'broadsidelaw10.SubsCovers': WHATEVER THE INPUT: true; the input reads as it did. -/
def subsCoversSpec : ChangeSpec := { name := "subsCovers", fn := fun _ => fun
  | [d1, d2] => { results := [.lit (.bool true)], args := [d1, d2] }
  | _ => none }
def subsCoversRow : OpenClaim := { program := "ytniceconboecgaa", sum := "54f22cc5e657f81d0ac1c8e426eb803ff98261a09612dfd73a4c95ad0a157d2f", func := "broadside/broadsidelaw10.SubsCovers", spec := "subsCovers", inPlace := ["slices.overlaps[broadside/api.Advert]", "slices.overlaps[broadside/api.ID]", "slices.overlaps[broadside/api.Entry]"], unfollowed := true, recurses := true, plainKeys := false, apart := false }
def SubsCoversSaid : Prop := subsCoversRow.holds Try.pinned (OpenSpec.ofChange subsCoversSpec)

/-- ITS FALSE NEIGHBOUR: 'it returns false'. Refute it at one input. -/
def subsCoversWrong : ChangeSpec := { name := "subsCovers", fn := fun _ => fun
  | [d1, d2] => { results := [.lit (.bool false)], args := [d1, d2] }
  | _ => none }
def SubsCoversWrongFalsely : Prop := subsCoversRow.holds Try.pinned (OpenSpec.ofChange subsCoversWrong)

/-- 'broadsidelaw10.SubsOrder': WHATEVER THE INPUT: true; the input reads as it did. -/
def subsOrderSpec : ChangeSpec := { name := "subsOrder", fn := fun _ => fun
  | [d1, d2] => { results := [.lit (.bool true)], args := [d1, d2] }
  | _ => none }
def subsOrderRow : OpenClaim := { program := "ytniceconboecgaa", sum := "54f22cc5e657f81d0ac1c8e426eb803ff98261a09612dfd73a4c95ad0a157d2f", func := "broadside/broadsidelaw10.SubsOrder", spec := "subsOrder", inPlace := ["slices.overlaps[broadside/api.Advert]", "slices.overlaps[broadside/api.ID]", "slices.overlaps[broadside/api.Entry]"], unfollowed := true, recurses := true, plainKeys := false, apart := false }
def SubsOrderSaid : Prop := subsOrderRow.holds Try.pinned (OpenSpec.ofChange subsOrderSpec)

/-- ITS FALSE NEIGHBOUR: 'it returns false'. Refute it at one input. -/
def subsOrderWrong : ChangeSpec := { name := "subsOrder", fn := fun _ => fun
  | [d1, d2] => { results := [.lit (.bool false)], args := [d1, d2] }
  | _ => none }
def SubsOrderWrongFalsely : Prop := subsOrderRow.holds Try.pinned (OpenSpec.ofChange subsOrderWrong)

/-- 'broadsidelaw9.AdvertsOrder': WHATEVER THE INPUT: true; the input reads as it did. -/
def advertsOrderSpec : ChangeSpec := { name := "advertsOrder", fn := fun _ => fun
  | [d1, d2, d3, d4] => { results := [.lit (.bool true)], args := [d1, d2, d3, d4] }
  | _ => none }
def advertsOrderRow : OpenClaim := { program := "ytniceconboecgaa", sum := "54f22cc5e657f81d0ac1c8e426eb803ff98261a09612dfd73a4c95ad0a157d2f", func := "broadside/broadsidelaw9.AdvertsOrder", spec := "advertsOrder", inPlace := ["slices.overlaps[broadside/api.Advert]", "slices.overlaps[broadside/api.ID]"], unfollowed := true, recurses := true, plainKeys := false, apart := false }
def AdvertsOrderSaid : Prop := advertsOrderRow.holds Try.pinned (OpenSpec.ofChange advertsOrderSpec)

/-- ITS FALSE NEIGHBOUR: 'it returns false'. Refute it at one input. -/
def advertsOrderWrong : ChangeSpec := { name := "advertsOrder", fn := fun _ => fun
  | [d1, d2, d3, d4] => { results := [.lit (.bool false)], args := [d1, d2, d3, d4] }
  | _ => none }
def AdvertsOrderWrongFalsely : Prop := advertsOrderRow.holds Try.pinned (OpenSpec.ofChange advertsOrderWrong)

/- THE SECOND FORM. 'bulk': how many values and letters a reading holds, each counted each time it is reached (what is shared counts as often as it is met; a slice's spare places count too). A statement '..UptoSaid' is the law's where the arguments, and the package variables that the reading takes, are together of bulk at most 1048576: NARROWER than '..Said'. Prove '..Said' where nothing that the law and all that it calls make is longer than what came in: it says more and counts as full. Else prove '..UptoSaid'. A law counts once. -/
mutual
def uptoBulk {H : Type} : DataW H → Nat
  | .lit (.string bytes) => bytes.length + 1
  | .lit _ => 1
  | .nil => 1
  | .ptr d => uptoBulk d + 1
  | .slice elems spare => uptoBulkAll elems + uptoBulkAll spare + 1
  | .agg parts => uptoBulkAll parts + 1
  | .iface _ d => uptoBulk d + 1
  | .map entries => uptoBulkEntries entries + 1
  | .held _ => 1
def uptoBulkAll {H : Type} : List (DataW H) → Nat
  | [] => 0
  | d :: r => uptoBulk d + uptoBulkAll r
def uptoBulkEntries {H : Type} : List (Lit × DataW H) → Nat
  | [] => 0
  | x :: r => uptoBulkEntry x + uptoBulkEntries r
def uptoBulkEntry {H : Type} : Lit × DataW H → Nat
  | (.string bytes, d) => bytes.length + uptoBulk d + 1
  | (_, d) => uptoBulk d + 1
 end
def uptoSmall : (H : Type) → List (DataW H) → Bool := fun _ ds => decide (uptoBulkAll ds ≤ 1048576)
def OpenSpec.upto (s : _root_.Go.ChangeSpec) : _root_.Go.OpenSpec := { _root_.Go.OpenSpec.ofChange s with cond := some uptoSmall }

/-- 'broadsidelaw21.TreesRuns', WHERE WHAT IT READS IS OF BULK AT MOST 1048576: true; the input reads as it did. -/
def treesRunsUptoRow : OpenClaim := { program := "ytniceconboecgaa", sum := "54f22cc5e657f81d0ac1c8e426eb803ff98261a09612dfd73a4c95ad0a157d2f", func := "broadside/broadsidelaw21.TreesRuns", spec := "treesRuns", recurses := true, plainKeys := false, apart := false, narrowed := true }
def TreesRunsUptoSaid : Prop := treesRunsUptoRow.holds Try.pinned (OpenSpec.upto treesRunsSpec)

/-- 'broadsidelaw21.TreesTells', WHERE WHAT IT READS IS OF BULK AT MOST 1048576: true; the input reads as it did. -/
def treesTellsUptoRow : OpenClaim := { program := "ytniceconboecgaa", sum := "54f22cc5e657f81d0ac1c8e426eb803ff98261a09612dfd73a4c95ad0a157d2f", func := "broadside/broadsidelaw21.TreesTells", spec := "treesTells", unfollowed := true, recurses := true, plainKeys := false, apart := false, narrowed := true }
def TreesTellsUptoSaid : Prop := treesTellsUptoRow.holds Try.pinned (OpenSpec.upto treesTellsSpec)

/-- 'broadsidelaw21.TreesOdd', WHERE WHAT IT READS IS OF BULK AT MOST 1048576: true; the input reads as it did. -/
def treesOddUptoRow : OpenClaim := { program := "ytniceconboecgaa", sum := "54f22cc5e657f81d0ac1c8e426eb803ff98261a09612dfd73a4c95ad0a157d2f", func := "broadside/broadsidelaw21.TreesOdd", spec := "treesOdd", unfollowed := true, recurses := true, plainKeys := false, apart := false, narrowed := true }
def TreesOddUptoSaid : Prop := treesOddUptoRow.holds Try.pinned (OpenSpec.upto treesOddSpec)

/-- 'broadsidelaw9.AdvertsRuns', WHERE WHAT IT READS IS OF BULK AT MOST 1048576: true; the input reads as it did. -/
def advertsRunsUptoRow : OpenClaim := { program := "ytniceconboecgaa", sum := "54f22cc5e657f81d0ac1c8e426eb803ff98261a09612dfd73a4c95ad0a157d2f", func := "broadside/broadsidelaw9.AdvertsRuns", spec := "advertsRuns", inPlace := ["slices.overlaps[broadside/api.Advert]", "slices.overlaps[broadside/api.ID]"], unfollowed := true, recurses := true, plainKeys := false, apart := false, narrowed := true }
def AdvertsRunsUptoSaid : Prop := advertsRunsUptoRow.holds Try.pinned (OpenSpec.upto advertsRunsSpec)

/-- 'broadsidelaw9.AdvertsOnce', WHERE WHAT IT READS IS OF BULK AT MOST 1048576: true; the input reads as it did. -/
def advertsOnceUptoRow : OpenClaim := { program := "ytniceconboecgaa", sum := "54f22cc5e657f81d0ac1c8e426eb803ff98261a09612dfd73a4c95ad0a157d2f", func := "broadside/broadsidelaw9.AdvertsOnce", spec := "advertsOnce", inPlace := ["slices.overlaps[broadside/api.Advert]", "slices.overlaps[broadside/api.ID]"], unfollowed := true, recurses := true, plainKeys := false, apart := false, narrowed := true }
def AdvertsOnceUptoSaid : Prop := advertsOnceUptoRow.holds Try.pinned (OpenSpec.upto advertsOnceSpec)

/-- 'broadsidelaw10.SubsRuns', WHERE WHAT IT READS IS OF BULK AT MOST 1048576: true; the input reads as it did. -/
def subsRunsUptoRow : OpenClaim := { program := "ytniceconboecgaa", sum := "54f22cc5e657f81d0ac1c8e426eb803ff98261a09612dfd73a4c95ad0a157d2f", func := "broadside/broadsidelaw10.SubsRuns", spec := "subsRuns", inPlace := ["slices.overlaps[broadside/api.Advert]", "slices.overlaps[broadside/api.ID]", "slices.overlaps[broadside/api.Entry]"], unfollowed := true, recurses := true, plainKeys := false, apart := false, narrowed := true }
def SubsRunsUptoSaid : Prop := subsRunsUptoRow.holds Try.pinned (OpenSpec.upto subsRunsSpec)

/-- 'broadsidelaw10.SubsCovers', WHERE WHAT IT READS IS OF BULK AT MOST 1048576: true; the input reads as it did. -/
def subsCoversUptoRow : OpenClaim := { program := "ytniceconboecgaa", sum := "54f22cc5e657f81d0ac1c8e426eb803ff98261a09612dfd73a4c95ad0a157d2f", func := "broadside/broadsidelaw10.SubsCovers", spec := "subsCovers", inPlace := ["slices.overlaps[broadside/api.Advert]", "slices.overlaps[broadside/api.ID]", "slices.overlaps[broadside/api.Entry]"], unfollowed := true, recurses := true, plainKeys := false, apart := false, narrowed := true }
def SubsCoversUptoSaid : Prop := subsCoversUptoRow.holds Try.pinned (OpenSpec.upto subsCoversSpec)

/-- 'broadsidelaw10.SubsOrder', WHERE WHAT IT READS IS OF BULK AT MOST 1048576: true; the input reads as it did. -/
def subsOrderUptoRow : OpenClaim := { program := "ytniceconboecgaa", sum := "54f22cc5e657f81d0ac1c8e426eb803ff98261a09612dfd73a4c95ad0a157d2f", func := "broadside/broadsidelaw10.SubsOrder", spec := "subsOrder", inPlace := ["slices.overlaps[broadside/api.Advert]", "slices.overlaps[broadside/api.ID]", "slices.overlaps[broadside/api.Entry]"], unfollowed := true, recurses := true, plainKeys := false, apart := false, narrowed := true }
def SubsOrderUptoSaid : Prop := subsOrderUptoRow.holds Try.pinned (OpenSpec.upto subsOrderSpec)

/-- 'broadsidelaw9.AdvertsOrder', WHERE WHAT IT READS IS OF BULK AT MOST 1048576: true; the input reads as it did. -/
def advertsOrderUptoRow : OpenClaim := { program := "ytniceconboecgaa", sum := "54f22cc5e657f81d0ac1c8e426eb803ff98261a09612dfd73a4c95ad0a157d2f", func := "broadside/broadsidelaw9.AdvertsOrder", spec := "advertsOrder", inPlace := ["slices.overlaps[broadside/api.Advert]", "slices.overlaps[broadside/api.ID]"], unfollowed := true, recurses := true, plainKeys := false, apart := false, narrowed := true }
def AdvertsOrderUptoSaid : Prop := advertsOrderUptoRow.holds Try.pinned (OpenSpec.upto advertsOrderSpec)

end Rows
end Go.Proofs.Ytniceconboecgaa
