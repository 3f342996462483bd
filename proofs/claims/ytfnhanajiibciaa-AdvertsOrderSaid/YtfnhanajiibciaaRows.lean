/-
  No cell of these rows narrows 'for every input' (looked for: loops, veiled, ifaces, maps, wideKeys, modest, calm, conditions, laid).
  DERIVED. THE GIVEN ROWS OF THIS SEAT. 4 by the template 'for every input the law returns true; each argument reads behind the call as it read before'; 0 by the template 'total and deterministic' (their statements: YtfnhanajiibciaaTotals.lean).
  GIVEN WITH THE SEED: the statements are not yours to turn. If you find one false, say at which input.
  Laid BY PROGRAM, IN A SANDBOX (cutbox-rows.mjs): the forced cells as the released guide's own fill.sh prints them over the translation 7b553ca558c8bd97… (all of the seat's roots in one cut). By AI agents, Wed Nov 11 2026. No macro, syntax, notation, axiom, sorry.
-/
import Derived.Test.YtfnhanajiibciaaChecked
import GoSem.Claim
import GoSem.ClaimJoined
import GoSem.ClaimMapViews
import Derived.JoinedTies
import Derived.KernelRfl
namespace Go.Proofs.Ytfnhanajiibciaa
/- THE CELL 'sum', in the pinned program and in every row, IS THE sha256 OF THE DUMP (.gsa) THAT YtfnhanajiibciaaProg.lean LOADS. Nothing in Lean hashes anything: it is a label: what it is worth is what the hold of that sum in a sandbox is worth. -/
noncomputable def Try.pinned : Pinned := { name := "ytfnhanajiibciaa", sum := "7b553ca558c8bd97999274a5b7479c5269a624e19137a2d19c676da888362c30", checked := Try.checked }
namespace Rows
def none {H : Type} : Left H := { results := [], args := [] }

/-- 'broadsidelaw9.AdvertsOnce': WHATEVER THE INPUT: true; the input reads as it did. -/
def advertsOnceSpec : ChangeSpec := { name := "advertsOnce", fn := fun _ => fun
  | [d1, d2, d3] => { results := [.lit (.bool true)], args := [d1, d2, d3] }
  | _ => none }
def advertsOnceRow : OpenClaim := { program := "ytfnhanajiibciaa", sum := "7b553ca558c8bd97999274a5b7479c5269a624e19137a2d19c676da888362c30", func := "broadside/broadsidelaw9.AdvertsOnce", spec := "advertsOnce", inPlace := ["slices.overlaps[broadside/api.Advert]", "slices.overlaps[broadside/api.ID]"], unfollowed := true, recurses := true, plainKeys := false, apart := false }
def AdvertsOnceSaid : Prop := advertsOnceRow.holds Try.pinned (OpenSpec.ofChange advertsOnceSpec)

/-- ITS FALSE NEIGHBOUR: 'it returns false'. Refute it at one input. -/
def advertsOnceWrong : ChangeSpec := { name := "advertsOnce", fn := fun _ => fun
  | [d1, d2, d3] => { results := [.lit (.bool false)], args := [d1, d2, d3] }
  | _ => none }
def AdvertsOnceWrongFalsely : Prop := advertsOnceRow.holds Try.pinned (OpenSpec.ofChange advertsOnceWrong)

/-- 'broadsidelaw10.SubsCovers': WHATEVER THE INPUT: true; the input reads as it did. -/
def subsCoversSpec : ChangeSpec := { name := "subsCovers", fn := fun _ => fun
  | [d1, d2] => { results := [.lit (.bool true)], args := [d1, d2] }
  | _ => none }
def subsCoversRow : OpenClaim := { program := "ytfnhanajiibciaa", sum := "7b553ca558c8bd97999274a5b7479c5269a624e19137a2d19c676da888362c30", func := "broadside/broadsidelaw10.SubsCovers", spec := "subsCovers", inPlace := ["slices.overlaps[broadside/api.Advert]", "slices.overlaps[broadside/api.ID]", "slices.overlaps[broadside/api.Entry]"], unfollowed := true, recurses := true, plainKeys := false, apart := false }
def SubsCoversSaid : Prop := subsCoversRow.holds Try.pinned (OpenSpec.ofChange subsCoversSpec)

/-- ITS FALSE NEIGHBOUR: 'it returns false'. Refute it at one input. -/
def subsCoversWrong : ChangeSpec := { name := "subsCovers", fn := fun _ => fun
  | [d1, d2] => { results := [.lit (.bool false)], args := [d1, d2] }
  | _ => none }
def SubsCoversWrongFalsely : Prop := subsCoversRow.holds Try.pinned (OpenSpec.ofChange subsCoversWrong)

/-- 'broadsidelaw10.SubsOrder': WHATEVER THE INPUT: true; the input reads as it did. -/
def subsOrderSpec : ChangeSpec := { name := "subsOrder", fn := fun _ => fun
  | [d1, d2] => { results := [.lit (.bool true)], args := [d1, d2] }
  | _ => none }
def subsOrderRow : OpenClaim := { program := "ytfnhanajiibciaa", sum := "7b553ca558c8bd97999274a5b7479c5269a624e19137a2d19c676da888362c30", func := "broadside/broadsidelaw10.SubsOrder", spec := "subsOrder", inPlace := ["slices.overlaps[broadside/api.Advert]", "slices.overlaps[broadside/api.ID]", "slices.overlaps[broadside/api.Entry]"], unfollowed := true, recurses := true, plainKeys := false, apart := false }
def SubsOrderSaid : Prop := subsOrderRow.holds Try.pinned (OpenSpec.ofChange subsOrderSpec)

/-- ITS FALSE NEIGHBOUR: 'it returns false'. Refute it at one input. -/
def subsOrderWrong : ChangeSpec := { name := "subsOrder", fn := fun _ => fun
  | [d1, d2] => { results := [.lit (.bool false)], args := [d1, d2] }
  | _ => none }
def SubsOrderWrongFalsely : Prop := subsOrderRow.holds Try.pinned (OpenSpec.ofChange subsOrderWrong)

/-- 'broadsidelaw9.AdvertsOrder': WHATEVER THE INPUT: true; the input reads as it did. -/
def advertsOrderSpec : ChangeSpec := { name := "advertsOrder", fn := fun _ => fun
  | [d1, d2, d3, d4] => { results := [.lit (.bool true)], args := [d1, d2, d3, d4] }
  | _ => none }
def advertsOrderRow : OpenClaim := { program := "ytfnhanajiibciaa", sum := "7b553ca558c8bd97999274a5b7479c5269a624e19137a2d19c676da888362c30", func := "broadside/broadsidelaw9.AdvertsOrder", spec := "advertsOrder", inPlace := ["slices.overlaps[broadside/api.Advert]", "slices.overlaps[broadside/api.ID]"], unfollowed := true, recurses := true, plainKeys := false, apart := false }
def AdvertsOrderSaid : Prop := advertsOrderRow.holds Try.pinned (OpenSpec.ofChange advertsOrderSpec)

/-- ITS FALSE NEIGHBOUR: 'it returns false'. Refute it at one input. -/
def advertsOrderWrong : ChangeSpec := { name := "advertsOrder", fn := fun _ => fun
  | [d1, d2, d3, d4] => { results := [.lit (.bool false)], args := [d1, d2, d3, d4] }
  | _ => none }
def AdvertsOrderWrongFalsely : Prop := advertsOrderRow.holds Try.pinned (OpenSpec.ofChange advertsOrderWrong)

/- THE SECOND FORM. 'bulk': how many values and letters a reading holds, each counted each time it is reached (what is shared counts as often as it is met; a slice's spare places count too). A statement '..UptoSaid' is the law's where the arguments, and the package variables that the reading takes, are together of bulk at most 1048576: NARROWER than '..Said'. Prove '..Said' where nothing that the law and all that it calls make is longer than what came in: it says more and counts as full. Else prove '..UptoSaid'. A law counts once. -/
mutual
def uptoBulk {H : Type} : DataW H → Nat
  | .lit (.string bytes) => bytes.length + 1
  | .lit _ => 1
  | .nil => 1
  | .ptr d => uptoBulk d + 1
  | .slice elems spare => uptoBulkAll elems + uptoBulkAll spare + 1
  | .agg parts => uptoBulkAll parts + 1
  | .iface _ d => uptoBulk d + 1
  | .map entries => uptoBulkEntries entries + 1
  | .held _ => 1
def uptoBulkAll {H : Type} : List (DataW H) → Nat
  | [] => 0
  | d :: r => uptoBulk d + uptoBulkAll r
def uptoBulkEntries {H : Type} : List (Lit × DataW H) → Nat
  | [] => 0
  | x :: r => uptoBulkEntry x + uptoBulkEntries r
def uptoBulkEntry {H : Type} : Lit × DataW H → Nat
  | (.string bytes, d) => bytes.length + uptoBulk d + 1
  | (_, d) => uptoBulk d + 1
 end
def uptoSmall : (H : Type) → List (DataW H) → Bool := fun _ ds => decide (uptoBulkAll ds ≤ 1048576)
def OpenSpec.upto (s : _root_.Go.ChangeSpec) : _root_.Go.OpenSpec := { _root_.Go.OpenSpec.ofChange s with cond := some uptoSmall }

/-- 'broadsidelaw9.AdvertsOnce', WHERE WHAT IT READS IS OF BULK AT MOST 1048576: true; the input reads as it did. -/
def advertsOnceUptoRow : OpenClaim := { program := "ytfnhanajiibciaa", sum := "7b553ca558c8bd97999274a5b7479c5269a624e19137a2d19c676da888362c30", func := "broadside/broadsidelaw9.AdvertsOnce", spec := "advertsOnce", inPlace := ["slices.overlaps[broadside/api.Advert]", "slices.overlaps[broadside/api.ID]"], unfollowed := true, recurses := true, plainKeys := false, apart := false, narrowed := true }
def AdvertsOnceUptoSaid : Prop := advertsOnceUptoRow.holds Try.pinned (OpenSpec.upto advertsOnceSpec)

/-- 'broadsidelaw10.SubsCovers', WHERE WHAT IT READS IS OF BULK AT MOST 1048576: true; the input reads as it did. -/
def subsCoversUptoRow : OpenClaim := { program := "ytfnhanajiibciaa", sum := "7b553ca558c8bd97999274a5b7479c5269a624e19137a2d19c676da888362c30", func := "broadside/broadsidelaw10.SubsCovers", spec := "subsCovers", inPlace := ["slices.overlaps[broadside/api.Advert]", "slices.overlaps[broadside/api.ID]", "slices.overlaps[broadside/api.Entry]"], unfollowed := true, recurses := true, plainKeys := false, apart := false, narrowed := true }
def SubsCoversUptoSaid : Prop := subsCoversUptoRow.holds Try.pinned (OpenSpec.upto subsCoversSpec)

/-- 'broadsidelaw10.SubsOrder', WHERE WHAT IT READS IS OF BULK AT MOST 1048576: true; the input reads as it did. -/
def subsOrderUptoRow : OpenClaim := { program := "ytfnhanajiibciaa", sum := "7b553ca558c8bd97999274a5b7479c5269a624e19137a2d19c676da888362c30", func := "broadside/broadsidelaw10.SubsOrder", spec := "subsOrder", inPlace := ["slices.overlaps[broadside/api.Advert]", "slices.overlaps[broadside/api.ID]", "slices.overlaps[broadside/api.Entry]"], unfollowed := true, recurses := true, plainKeys := false, apart := false, narrowed := true }
def SubsOrderUptoSaid : Prop := subsOrderUptoRow.holds Try.pinned (OpenSpec.upto subsOrderSpec)

/-- 'broadsidelaw9.AdvertsOrder', WHERE WHAT IT READS IS OF BULK AT MOST 1048576: true; the input reads as it did. -/
def advertsOrderUptoRow : OpenClaim := { program := "ytfnhanajiibciaa", sum := "7b553ca558c8bd97999274a5b7479c5269a624e19137a2d19c676da888362c30", func := "broadside/broadsidelaw9.AdvertsOrder", spec := "advertsOrder", inPlace := ["slices.overlaps[broadside/api.Advert]", "slices.overlaps[broadside/api.ID]"], unfollowed := true, recurses := true, plainKeys := false, apart := false, narrowed := true }
def AdvertsOrderUptoSaid : Prop := advertsOrderUptoRow.holds Try.pinned (OpenSpec.upto advertsOrderSpec)

end Rows
end Go.Proofs.Ytfnhanajiibciaa
