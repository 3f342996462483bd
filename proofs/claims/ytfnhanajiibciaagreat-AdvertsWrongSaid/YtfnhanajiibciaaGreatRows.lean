/-
  No cell of these rows narrows 'for every input' (looked for: loops, veiled, ifaces, maps, wideKeys, modest, calm, conditions, laid).
  DERIVED. THE GIVEN ROWS OF THIS SEAT. 12 by the template 'for every input the law returns true; each argument reads behind the call as it read before'; 0 by the template 'total and deterministic' (their statements: YtfnhanajiibciaaGreatTotals.lean).
  GIVEN WITH THE SEED: the statements are not yours to turn. If you find one false, say at which input.
  Laid BY PROGRAM, IN A SANDBOX (cutbox-rows.mjs): the forced cells as the released guide's own fill.sh prints them over the translation 93a90f0b51ef1e91… (all of the seat's roots in one cut). By AI agents, Wed Nov 11 2026. No macro, syntax, notation, axiom, sorry.
-/
import Derived.Test.YtfnhanajiibciaaGreatChecked
import GoSem.Claim
import GoSem.ClaimJoined
import GoSem.ClaimMapViews
import Derived.JoinedTies
import Derived.KernelRfl
namespace Go.Proofs.YtfnhanajiibciaaGreat
/- THE CELL 'sum', in the pinned program and in every row, IS THE sha256 OF THE DUMP (.gsa) THAT YtfnhanajiibciaaGreatProg.lean LOADS. Nothing in Lean hashes anything: it is a label: what it is worth is what the hold of that sum in a sandbox is worth. -/
noncomputable def Tryz.pinned : Pinned := { name := "ytfnhanajiibciaagreat", sum := "93a90f0b51ef1e915c6c6fe42b10233a904d40a9b8fb53fa406b65306deb28ff", checked := Tryz.checked }
namespace Rows
def none {H : Type} : Left H := { results := [], args := [] }

/-- 'broadsidelaw9.AdvertsPlays': WHATEVER THE INPUT: true; the input reads as it did. -/
def advertsPlaysSpec : ChangeSpec := { name := "advertsPlays", fn := fun _ => fun
  | [d] => { results := [.lit (.bool true)], args := [d] }
  | _ => none }
def advertsPlaysRow : OpenClaim := { program := "ytfnhanajiibciaagreat", sum := "93a90f0b51ef1e915c6c6fe42b10233a904d40a9b8fb53fa406b65306deb28ff", func := "broadside/broadsidelaw9.AdvertsPlays", spec := "advertsPlays", inPlace := ["slices.overlaps[broadside/api.Advert]", "slices.overlaps[broadside/api.ID]"], unfollowed := true, recurses := true, plainKeys := false, apart := false }
def AdvertsPlaysSaid : Prop := advertsPlaysRow.holds Tryz.pinned (OpenSpec.ofChange advertsPlaysSpec)

/-- ITS FALSE NEIGHBOUR: 'it returns false'. Refute it at one input. -/
def advertsPlaysWrong : ChangeSpec := { name := "advertsPlays", fn := fun _ => fun
  | [d] => { results := [.lit (.bool false)], args := [d] }
  | _ => none }
def AdvertsPlaysWrongFalsely : Prop := advertsPlaysRow.holds Tryz.pinned (OpenSpec.ofChange advertsPlaysWrong)

/-- 'broadsidelaw9.AdvertsWrong': WHATEVER THE INPUT: true; the input reads as it did. -/
def advertsWrongSpec : ChangeSpec := { name := "advertsWrong", fn := fun _ => fun
  | [d1, d2] => { results := [.lit (.bool true)], args := [d1, d2] }
  | _ => none }
def advertsWrongRow : OpenClaim := { program := "ytfnhanajiibciaagreat", sum := "93a90f0b51ef1e915c6c6fe42b10233a904d40a9b8fb53fa406b65306deb28ff", func := "broadside/broadsidelaw9.AdvertsWrong", spec := "advertsWrong", inPlace := ["slices.overlaps[broadside/api.Advert]", "slices.overlaps[broadside/api.ID]"], unfollowed := true, recurses := true, plainKeys := false, apart := false }
def AdvertsWrongSaid : Prop := advertsWrongRow.holds Tryz.pinned (OpenSpec.ofChange advertsWrongSpec)

/-- ITS FALSE NEIGHBOUR: 'it returns false'. Refute it at one input. -/
def advertsWrongWrong : ChangeSpec := { name := "advertsWrong", fn := fun _ => fun
  | [d1, d2] => { results := [.lit (.bool false)], args := [d1, d2] }
  | _ => none }
def AdvertsWrongWrongFalsely : Prop := advertsWrongRow.holds Tryz.pinned (OpenSpec.ofChange advertsWrongWrong)

/-- 'broadsidelaw10.SubsFrom': WHATEVER THE INPUT: true; the input reads as it did. -/
def subsFromSpec : ChangeSpec := { name := "subsFrom", fn := fun _ => fun
  | [d1, d2, d3, d4, d5] => { results := [.lit (.bool true)], args := [d1, d2, d3, d4, d5] }
  | _ => none }
def subsFromRow : OpenClaim := { program := "ytfnhanajiibciaagreat", sum := "93a90f0b51ef1e915c6c6fe42b10233a904d40a9b8fb53fa406b65306deb28ff", func := "broadside/broadsidelaw10.SubsFrom", spec := "subsFrom", inPlace := ["slices.overlaps[broadside/api.Entry]", "slices.overlaps[broadside/api.Advert]", "slices.overlaps[broadside/api.ID]"], unfollowed := true, recurses := true, plainKeys := false, apart := false }
def SubsFromSaid : Prop := subsFromRow.holds Tryz.pinned (OpenSpec.ofChange subsFromSpec)

/-- ITS FALSE NEIGHBOUR: 'it returns false'. Refute it at one input. -/
def subsFromWrong : ChangeSpec := { name := "subsFrom", fn := fun _ => fun
  | [d1, d2, d3, d4, d5] => { results := [.lit (.bool false)], args := [d1, d2, d3, d4, d5] }
  | _ => none }
def SubsFromWrongFalsely : Prop := subsFromRow.holds Tryz.pinned (OpenSpec.ofChange subsFromWrong)

/-- 'broadsidelaw10.SubsPlays': WHATEVER THE INPUT: true; the input reads as it did. -/
def subsPlaysSpec : ChangeSpec := { name := "subsPlays", fn := fun _ => fun
  | [d] => { results := [.lit (.bool true)], args := [d] }
  | _ => none }
def subsPlaysRow : OpenClaim := { program := "ytfnhanajiibciaagreat", sum := "93a90f0b51ef1e915c6c6fe42b10233a904d40a9b8fb53fa406b65306deb28ff", func := "broadside/broadsidelaw10.SubsPlays", spec := "subsPlays", inPlace := ["slices.overlaps[broadside/api.Entry]", "slices.overlaps[broadside/api.Advert]", "slices.overlaps[broadside/api.ID]"], unfollowed := true, recurses := true, plainKeys := false, apart := false }
def SubsPlaysSaid : Prop := subsPlaysRow.holds Tryz.pinned (OpenSpec.ofChange subsPlaysSpec)

/-- ITS FALSE NEIGHBOUR: 'it returns false'. Refute it at one input. -/
def subsPlaysWrong : ChangeSpec := { name := "subsPlays", fn := fun _ => fun
  | [d] => { results := [.lit (.bool false)], args := [d] }
  | _ => none }
def SubsPlaysWrongFalsely : Prop := subsPlaysRow.holds Tryz.pinned (OpenSpec.ofChange subsPlaysWrong)

/-- 'broadsidelaw11.FloodBack': WHATEVER THE INPUT: true; the input reads as it did. -/
def floodBackSpec : ChangeSpec := { name := "floodBack", fn := fun _ => fun
  | [d1, d2, d3] => { results := [.lit (.bool true)], args := [d1, d2, d3] }
  | _ => none }
def floodBackRow : OpenClaim := { program := "ytfnhanajiibciaagreat", sum := "93a90f0b51ef1e915c6c6fe42b10233a904d40a9b8fb53fa406b65306deb28ff", func := "broadside/broadsidelaw11.FloodBack", spec := "floodBack", inPlace := ["slices.overlaps[broadside/api.Advert]", "slices.overlaps[broadside/api.ID]", "internal/bytealg.abigen_runtime_cmpstring", "slices.overlaps[broadside/api.Constraint]", "slices.overlaps[broadside/api.Entry]"], unfollowed := true, recurses := true, plainKeys := false, apart := false }
def FloodBackSaid : Prop := floodBackRow.holds Tryz.pinned (OpenSpec.ofChange floodBackSpec)

/-- ITS FALSE NEIGHBOUR: 'it returns false'. Refute it at one input. -/
def floodBackWrong : ChangeSpec := { name := "floodBack", fn := fun _ => fun
  | [d1, d2, d3] => { results := [.lit (.bool false)], args := [d1, d2, d3] }
  | _ => none }
def FloodBackWrongFalsely : Prop := floodBackRow.holds Tryz.pinned (OpenSpec.ofChange floodBackWrong)

/-- 'broadsidelaw11.FloodLate': WHATEVER THE INPUT: true; the input reads as it did. -/
def floodLateSpec : ChangeSpec := { name := "floodLate", fn := fun _ => fun
  | [d1, d2, d3] => { results := [.lit (.bool true)], args := [d1, d2, d3] }
  | _ => none }
def floodLateRow : OpenClaim := { program := "ytfnhanajiibciaagreat", sum := "93a90f0b51ef1e915c6c6fe42b10233a904d40a9b8fb53fa406b65306deb28ff", func := "broadside/broadsidelaw11.FloodLate", spec := "floodLate", inPlace := ["slices.overlaps[broadside/api.Advert]", "slices.overlaps[broadside/api.ID]", "internal/bytealg.abigen_runtime_cmpstring", "slices.overlaps[broadside/api.Constraint]", "slices.overlaps[broadside/api.Entry]"], unfollowed := true, recurses := true, plainKeys := false, apart := false }
def FloodLateSaid : Prop := floodLateRow.holds Tryz.pinned (OpenSpec.ofChange floodLateSpec)

/-- ITS FALSE NEIGHBOUR: 'it returns false'. Refute it at one input. -/
def floodLateWrong : ChangeSpec := { name := "floodLate", fn := fun _ => fun
  | [d1, d2, d3] => { results := [.lit (.bool false)], args := [d1, d2, d3] }
  | _ => none }
def FloodLateWrongFalsely : Prop := floodLateRow.holds Tryz.pinned (OpenSpec.ofChange floodLateWrong)

/-- 'broadsidelaw12.RouteAbove': WHATEVER THE INPUT: true; the input reads as it did. -/
def routeAboveSpec : ChangeSpec := { name := "routeAbove", fn := fun _ => fun
  | [d] => { results := [.lit (.bool true)], args := [d] }
  | _ => none }
def routeAboveRow : OpenClaim := { program := "ytfnhanajiibciaagreat", sum := "93a90f0b51ef1e915c6c6fe42b10233a904d40a9b8fb53fa406b65306deb28ff", func := "broadside/broadsidelaw12.RouteAbove", spec := "routeAbove", inPlace := ["slices.overlaps[broadside/api.Advert]", "slices.overlaps[broadside/api.ID]", "slices.overlaps[broadside/api.Own]", "internal/bytealg.abigen_runtime_cmpstring", "slices.overlaps[broadside/api.Constraint]", "slices.overlaps[broadside/api.Entry]"], unfollowed := true, recurses := true, plainKeys := false, apart := false }
def RouteAboveSaid : Prop := routeAboveRow.holds Tryz.pinned (OpenSpec.ofChange routeAboveSpec)

/-- ITS FALSE NEIGHBOUR: 'it returns false'. Refute it at one input. -/
def routeAboveWrong : ChangeSpec := { name := "routeAbove", fn := fun _ => fun
  | [d] => { results := [.lit (.bool false)], args := [d] }
  | _ => none }
def RouteAboveWrongFalsely : Prop := routeAboveRow.holds Tryz.pinned (OpenSpec.ofChange routeAboveWrong)

/-- 'broadsidelaw12.RouteWide': WHATEVER THE INPUT: true; the input reads as it did. -/
def routeWideSpec : ChangeSpec := { name := "routeWide", fn := fun _ => fun
  | [d1, d2] => { results := [.lit (.bool true)], args := [d1, d2] }
  | _ => none }
def routeWideRow : OpenClaim := { program := "ytfnhanajiibciaagreat", sum := "93a90f0b51ef1e915c6c6fe42b10233a904d40a9b8fb53fa406b65306deb28ff", func := "broadside/broadsidelaw12.RouteWide", spec := "routeWide", inPlace := ["slices.overlaps[broadside/api.Advert]", "slices.overlaps[broadside/api.ID]", "slices.overlaps[broadside/api.Own]", "internal/bytealg.abigen_runtime_cmpstring", "slices.overlaps[broadside/api.Constraint]", "slices.overlaps[broadside/api.Entry]"], unfollowed := true, recurses := true, plainKeys := false, apart := false }
def RouteWideSaid : Prop := routeWideRow.holds Tryz.pinned (OpenSpec.ofChange routeWideSpec)

/-- ITS FALSE NEIGHBOUR: 'it returns false'. Refute it at one input. -/
def routeWideWrong : ChangeSpec := { name := "routeWide", fn := fun _ => fun
  | [d1, d2] => { results := [.lit (.bool false)], args := [d1, d2] }
  | _ => none }
def RouteWideWrongFalsely : Prop := routeWideRow.holds Tryz.pinned (OpenSpec.ofChange routeWideWrong)

/-- 'broadsidelaw11.FloodEnd': WHATEVER THE INPUT: true; the input reads as it did. -/
def floodEndSpec : ChangeSpec := { name := "floodEnd", fn := fun _ => fun
  | [d1, d2, d3] => { results := [.lit (.bool true)], args := [d1, d2, d3] }
  | _ => none }
def floodEndRow : OpenClaim := { program := "ytfnhanajiibciaagreat", sum := "93a90f0b51ef1e915c6c6fe42b10233a904d40a9b8fb53fa406b65306deb28ff", func := "broadside/broadsidelaw11.FloodEnd", spec := "floodEnd", inPlace := ["slices.overlaps[broadside/api.Advert]", "slices.overlaps[broadside/api.ID]", "internal/bytealg.abigen_runtime_cmpstring", "slices.overlaps[broadside/api.Constraint]", "slices.overlaps[broadside/api.Entry]"], unfollowed := true, recurses := true, plainKeys := false, apart := false }
def FloodEndSaid : Prop := floodEndRow.holds Tryz.pinned (OpenSpec.ofChange floodEndSpec)

/-- ITS FALSE NEIGHBOUR: 'it returns false'. Refute it at one input. -/
def floodEndWrong : ChangeSpec := { name := "floodEnd", fn := fun _ => fun
  | [d1, d2, d3] => { results := [.lit (.bool false)], args := [d1, d2, d3] }
  | _ => none }
def FloodEndWrongFalsely : Prop := floodEndRow.holds Tryz.pinned (OpenSpec.ofChange floodEndWrong)

/-- 'broadsidelaw11.FloodTells': WHATEVER THE INPUT: true; the input reads as it did. -/
def floodTellsSpec : ChangeSpec := { name := "floodTells", fn := fun _ => fun
  | [d1, d2, d3, d4, d5, d6] => { results := [.lit (.bool true)], args := [d1, d2, d3, d4, d5, d6] }
  | _ => none }
def floodTellsRow : OpenClaim := { program := "ytfnhanajiibciaagreat", sum := "93a90f0b51ef1e915c6c6fe42b10233a904d40a9b8fb53fa406b65306deb28ff", func := "broadside/broadsidelaw11.FloodTells", spec := "floodTells", inPlace := ["slices.overlaps[broadside/api.Advert]", "slices.overlaps[broadside/api.ID]", "internal/bytealg.abigen_runtime_cmpstring", "slices.overlaps[broadside/api.Constraint]", "slices.overlaps[broadside/api.Entry]"], unfollowed := true, recurses := true, plainKeys := false, apart := false }
def FloodTellsSaid : Prop := floodTellsRow.holds Tryz.pinned (OpenSpec.ofChange floodTellsSpec)

/-- ITS FALSE NEIGHBOUR: 'it returns false'. Refute it at one input. -/
def floodTellsWrong : ChangeSpec := { name := "floodTells", fn := fun _ => fun
  | [d1, d2, d3, d4, d5, d6] => { results := [.lit (.bool false)], args := [d1, d2, d3, d4, d5, d6] }
  | _ => none }
def FloodTellsWrongFalsely : Prop := floodTellsRow.holds Tryz.pinned (OpenSpec.ofChange floodTellsWrong)

/-- 'broadsidelaw12.RouteBack': WHATEVER THE INPUT: true; the input reads as it did. -/
def routeBackSpec : ChangeSpec := { name := "routeBack", fn := fun _ => fun
  | [d1, d2] => { results := [.lit (.bool true)], args := [d1, d2] }
  | _ => none }
def routeBackRow : OpenClaim := { program := "ytfnhanajiibciaagreat", sum := "93a90f0b51ef1e915c6c6fe42b10233a904d40a9b8fb53fa406b65306deb28ff", func := "broadside/broadsidelaw12.RouteBack", spec := "routeBack", inPlace := ["slices.overlaps[broadside/api.Own]", "internal/bytealg.abigen_runtime_cmpstring", "slices.overlaps[broadside/api.Constraint]", "slices.overlaps[broadside/api.Entry]", "slices.overlaps[broadside/api.Advert]", "slices.overlaps[broadside/api.ID]"], unfollowed := true, recurses := true, plainKeys := false, apart := false }
def RouteBackSaid : Prop := routeBackRow.holds Tryz.pinned (OpenSpec.ofChange routeBackSpec)

/-- ITS FALSE NEIGHBOUR: 'it returns false'. Refute it at one input. -/
def routeBackWrong : ChangeSpec := { name := "routeBack", fn := fun _ => fun
  | [d1, d2] => { results := [.lit (.bool false)], args := [d1, d2] }
  | _ => none }
def RouteBackWrongFalsely : Prop := routeBackRow.holds Tryz.pinned (OpenSpec.ofChange routeBackWrong)

/-- 'broadsidelaw12.RouteTells': WHATEVER THE INPUT: true; the input reads as it did. -/
def routeTellsSpec : ChangeSpec := { name := "routeTells", fn := fun _ => fun
  | [d1, d2, d3, d4, d5, d6, d7] => { results := [.lit (.bool true)], args := [d1, d2, d3, d4, d5, d6, d7] }
  | _ => none }
def routeTellsRow : OpenClaim := { program := "ytfnhanajiibciaagreat", sum := "93a90f0b51ef1e915c6c6fe42b10233a904d40a9b8fb53fa406b65306deb28ff", func := "broadside/broadsidelaw12.RouteTells", spec := "routeTells", inPlace := ["slices.overlaps[broadside/api.Own]", "internal/bytealg.abigen_runtime_cmpstring", "slices.overlaps[broadside/api.Constraint]", "slices.overlaps[broadside/api.Entry]", "slices.overlaps[broadside/api.Advert]", "slices.overlaps[broadside/api.ID]"], unfollowed := true, recurses := true, plainKeys := false, apart := false }
def RouteTellsSaid : Prop := routeTellsRow.holds Tryz.pinned (OpenSpec.ofChange routeTellsSpec)

/-- ITS FALSE NEIGHBOUR: 'it returns false'. Refute it at one input. -/
def routeTellsWrong : ChangeSpec := { name := "routeTells", fn := fun _ => fun
  | [d1, d2, d3, d4, d5, d6, d7] => { results := [.lit (.bool false)], args := [d1, d2, d3, d4, d5, d6, d7] }
  | _ => none }
def RouteTellsWrongFalsely : Prop := routeTellsRow.holds Tryz.pinned (OpenSpec.ofChange routeTellsWrong)

/- THE SECOND FORM. 'bulk': how many values and letters a reading holds, each counted each time it is reached (what is shared counts as often as it is met; a slice's spare places count too). A statement '..UptoSaid' is the law's where the arguments, and the package variables that the reading takes, are together of bulk at most 1048576: NARROWER than '..Said'. Prove '..Said' where nothing that the law and all that it calls make is longer than what came in: it says more and counts as full. Else prove '..UptoSaid'. A law counts once. -/
mutual
def uptoBulk {H : Type} : DataW H → Nat
  | .lit (.string bytes) => bytes.length + 1
  | .lit _ => 1
  | .nil => 1
  | .ptr d => uptoBulk d + 1
  | .slice elems spare => uptoBulkAll elems + uptoBulkAll spare + 1
  | .agg parts => uptoBulkAll parts + 1
  | .iface _ d => uptoBulk d + 1
  | .map entries => uptoBulkEntries entries + 1
  | .held _ => 1
def uptoBulkAll {H : Type} : List (DataW H) → Nat
  | [] => 0
  | d :: r => uptoBulk d + uptoBulkAll r
def uptoBulkEntries {H : Type} : List (Lit × DataW H) → Nat
  | [] => 0
  | x :: r => uptoBulkEntry x + uptoBulkEntries r
def uptoBulkEntry {H : Type} : Lit × DataW H → Nat
  | (.string bytes, d) => bytes.length + uptoBulk d + 1
  | (_, d) => uptoBulk d + 1
 end
def uptoSmall : (H : Type) → List (DataW H) → Bool := fun _ ds => decide (uptoBulkAll ds ≤ 1048576)
def OpenSpec.upto (s : _root_.Go.ChangeSpec) : _root_.Go.OpenSpec := { _root_.Go.OpenSpec.ofChange s with cond := some uptoSmall }

/-- 'broadsidelaw9.AdvertsPlays', WHERE WHAT IT READS IS OF BULK AT MOST 1048576: true; the input reads as it did. -/
def advertsPlaysUptoRow : OpenClaim := { program := "ytfnhanajiibciaagreat", sum := "93a90f0b51ef1e915c6c6fe42b10233a904d40a9b8fb53fa406b65306deb28ff", func := "broadside/broadsidelaw9.AdvertsPlays", spec := "advertsPlays", inPlace := ["slices.overlaps[broadside/api.Advert]", "slices.overlaps[broadside/api.ID]"], unfollowed := true, recurses := true, plainKeys := false, apart := false, narrowed := true }
def AdvertsPlaysUptoSaid : Prop := advertsPlaysUptoRow.holds Tryz.pinned (OpenSpec.upto advertsPlaysSpec)

/-- 'broadsidelaw9.AdvertsWrong', WHERE WHAT IT READS IS OF BULK AT MOST 1048576: true; the input reads as it did. -/
def advertsWrongUptoRow : OpenClaim := { program := "ytfnhanajiibciaagreat", sum := "93a90f0b51ef1e915c6c6fe42b10233a904d40a9b8fb53fa406b65306deb28ff", func := "broadside/broadsidelaw9.AdvertsWrong", spec := "advertsWrong", inPlace := ["slices.overlaps[broadside/api.Advert]", "slices.overlaps[broadside/api.ID]"], unfollowed := true, recurses := true, plainKeys := false, apart := false, narrowed := true }
def AdvertsWrongUptoSaid : Prop := advertsWrongUptoRow.holds Tryz.pinned (OpenSpec.upto advertsWrongSpec)

/-- 'broadsidelaw10.SubsFrom', WHERE WHAT IT READS IS OF BULK AT MOST 1048576: true; the input reads as it did. -/
def subsFromUptoRow : OpenClaim := { program := "ytfnhanajiibciaagreat", sum := "93a90f0b51ef1e915c6c6fe42b10233a904d40a9b8fb53fa406b65306deb28ff", func := "broadside/broadsidelaw10.SubsFrom", spec := "subsFrom", inPlace := ["slices.overlaps[broadside/api.Entry]", "slices.overlaps[broadside/api.Advert]", "slices.overlaps[broadside/api.ID]"], unfollowed := true, recurses := true, plainKeys := false, apart := false, narrowed := true }
def SubsFromUptoSaid : Prop := subsFromUptoRow.holds Tryz.pinned (OpenSpec.upto subsFromSpec)

/-- 'broadsidelaw10.SubsPlays', WHERE WHAT IT READS IS OF BULK AT MOST 1048576: true; the input reads as it did. -/
def subsPlaysUptoRow : OpenClaim := { program := "ytfnhanajiibciaagreat", sum := "93a90f0b51ef1e915c6c6fe42b10233a904d40a9b8fb53fa406b65306deb28ff", func := "broadside/broadsidelaw10.SubsPlays", spec := "subsPlays", inPlace := ["slices.overlaps[broadside/api.Entry]", "slices.overlaps[broadside/api.Advert]", "slices.overlaps[broadside/api.ID]"], unfollowed := true, recurses := true, plainKeys := false, apart := false, narrowed := true }
def SubsPlaysUptoSaid : Prop := subsPlaysUptoRow.holds Tryz.pinned (OpenSpec.upto subsPlaysSpec)

/-- 'broadsidelaw11.FloodBack', WHERE WHAT IT READS IS OF BULK AT MOST 1048576: true; the input reads as it did. -/
def floodBackUptoRow : OpenClaim := { program := "ytfnhanajiibciaagreat", sum := "93a90f0b51ef1e915c6c6fe42b10233a904d40a9b8fb53fa406b65306deb28ff", func := "broadside/broadsidelaw11.FloodBack", spec := "floodBack", inPlace := ["slices.overlaps[broadside/api.Advert]", "slices.overlaps[broadside/api.ID]", "internal/bytealg.abigen_runtime_cmpstring", "slices.overlaps[broadside/api.Constraint]", "slices.overlaps[broadside/api.Entry]"], unfollowed := true, recurses := true, plainKeys := false, apart := false, narrowed := true }
def FloodBackUptoSaid : Prop := floodBackUptoRow.holds Tryz.pinned (OpenSpec.upto floodBackSpec)

/-- 'broadsidelaw11.FloodLate', WHERE WHAT IT READS IS OF BULK AT MOST 1048576: true; the input reads as it did. -/
def floodLateUptoRow : OpenClaim := { program := "ytfnhanajiibciaagreat", sum := "93a90f0b51ef1e915c6c6fe42b10233a904d40a9b8fb53fa406b65306deb28ff", func := "broadside/broadsidelaw11.FloodLate", spec := "floodLate", inPlace := ["slices.overlaps[broadside/api.Advert]", "slices.overlaps[broadside/api.ID]", "internal/bytealg.abigen_runtime_cmpstring", "slices.overlaps[broadside/api.Constraint]", "slices.overlaps[broadside/api.Entry]"], unfollowed := true, recurses := true, plainKeys := false, apart := false, narrowed := true }
def FloodLateUptoSaid : Prop := floodLateUptoRow.holds Tryz.pinned (OpenSpec.upto floodLateSpec)

/-- 'broadsidelaw12.RouteAbove', WHERE WHAT IT READS IS OF BULK AT MOST 1048576: true; the input reads as it did. -/
def routeAboveUptoRow : OpenClaim := { program := "ytfnhanajiibciaagreat", sum := "93a90f0b51ef1e915c6c6fe42b10233a904d40a9b8fb53fa406b65306deb28ff", func := "broadside/broadsidelaw12.RouteAbove", spec := "routeAbove", inPlace := ["slices.overlaps[broadside/api.Advert]", "slices.overlaps[broadside/api.ID]", "slices.overlaps[broadside/api.Own]", "internal/bytealg.abigen_runtime_cmpstring", "slices.overlaps[broadside/api.Constraint]", "slices.overlaps[broadside/api.Entry]"], unfollowed := true, recurses := true, plainKeys := false, apart := false, narrowed := true }
def RouteAboveUptoSaid : Prop := routeAboveUptoRow.holds Tryz.pinned (OpenSpec.upto routeAboveSpec)

/-- 'broadsidelaw12.RouteWide', WHERE WHAT IT READS IS OF BULK AT MOST 1048576: true; the input reads as it did. -/
def routeWideUptoRow : OpenClaim := { program := "ytfnhanajiibciaagreat", sum := "93a90f0b51ef1e915c6c6fe42b10233a904d40a9b8fb53fa406b65306deb28ff", func := "broadside/broadsidelaw12.RouteWide", spec := "routeWide", inPlace := ["slices.overlaps[broadside/api.Advert]", "slices.overlaps[broadside/api.ID]", "slices.overlaps[broadside/api.Own]", "internal/bytealg.abigen_runtime_cmpstring", "slices.overlaps[broadside/api.Constraint]", "slices.overlaps[broadside/api.Entry]"], unfollowed := true, recurses := true, plainKeys := false, apart := false, narrowed := true }
def RouteWideUptoSaid : Prop := routeWideUptoRow.holds Tryz.pinned (OpenSpec.upto routeWideSpec)

/-- 'broadsidelaw11.FloodEnd', WHERE WHAT IT READS IS OF BULK AT MOST 1048576: true; the input reads as it did. -/
def floodEndUptoRow : OpenClaim := { program := "ytfnhanajiibciaagreat", sum := "93a90f0b51ef1e915c6c6fe42b10233a904d40a9b8fb53fa406b65306deb28ff", func := "broadside/broadsidelaw11.FloodEnd", spec := "floodEnd", inPlace := ["slices.overlaps[broadside/api.Advert]", "slices.overlaps[broadside/api.ID]", "internal/bytealg.abigen_runtime_cmpstring", "slices.overlaps[broadside/api.Constraint]", "slices.overlaps[broadside/api.Entry]"], unfollowed := true, recurses := true, plainKeys := false, apart := false, narrowed := true }
def FloodEndUptoSaid : Prop := floodEndUptoRow.holds Tryz.pinned (OpenSpec.upto floodEndSpec)

/-- 'broadsidelaw11.FloodTells', WHERE WHAT IT READS IS OF BULK AT MOST 1048576: true; the input reads as it did. -/
def floodTellsUptoRow : OpenClaim := { program := "ytfnhanajiibciaagreat", sum := "93a90f0b51ef1e915c6c6fe42b10233a904d40a9b8fb53fa406b65306deb28ff", func := "broadside/broadsidelaw11.FloodTells", spec := "floodTells", inPlace := ["slices.overlaps[broadside/api.Advert]", "slices.overlaps[broadside/api.ID]", "internal/bytealg.abigen_runtime_cmpstring", "slices.overlaps[broadside/api.Constraint]", "slices.overlaps[broadside/api.Entry]"], unfollowed := true, recurses := true, plainKeys := false, apart := false, narrowed := true }
def FloodTellsUptoSaid : Prop := floodTellsUptoRow.holds Tryz.pinned (OpenSpec.upto floodTellsSpec)

/-- 'broadsidelaw12.RouteBack', WHERE WHAT IT READS IS OF BULK AT MOST 1048576: true; the input reads as it did. -/
def routeBackUptoRow : OpenClaim := { program := "ytfnhanajiibciaagreat", sum := "93a90f0b51ef1e915c6c6fe42b10233a904d40a9b8fb53fa406b65306deb28ff", func := "broadside/broadsidelaw12.RouteBack", spec := "routeBack", inPlace := ["slices.overlaps[broadside/api.Own]", "internal/bytealg.abigen_runtime_cmpstring", "slices.overlaps[broadside/api.Constraint]", "slices.overlaps[broadside/api.Entry]", "slices.overlaps[broadside/api.Advert]", "slices.overlaps[broadside/api.ID]"], unfollowed := true, recurses := true, plainKeys := false, apart := false, narrowed := true }
def RouteBackUptoSaid : Prop := routeBackUptoRow.holds Tryz.pinned (OpenSpec.upto routeBackSpec)

/-- 'broadsidelaw12.RouteTells', WHERE WHAT IT READS IS OF BULK AT MOST 1048576: true; the input reads as it did. -/
def routeTellsUptoRow : OpenClaim := { program := "ytfnhanajiibciaagreat", sum := "93a90f0b51ef1e915c6c6fe42b10233a904d40a9b8fb53fa406b65306deb28ff", func := "broadside/broadsidelaw12.RouteTells", spec := "routeTells", inPlace := ["slices.overlaps[broadside/api.Own]", "internal/bytealg.abigen_runtime_cmpstring", "slices.overlaps[broadside/api.Constraint]", "slices.overlaps[broadside/api.Entry]", "slices.overlaps[broadside/api.Advert]", "slices.overlaps[broadside/api.ID]"], unfollowed := true, recurses := true, plainKeys := false, apart := false, narrowed := true }
def RouteTellsUptoSaid : Prop := routeTellsUptoRow.holds Tryz.pinned (OpenSpec.upto routeTellsSpec)

end Rows
end Go.Proofs.YtfnhanajiibciaaGreat
