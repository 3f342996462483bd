/-
What the statements on cards say of the listed package variable, and a world in which it reads so. After the kit's worked example ToyasProofs.
-/
import Derived.Test.YtfkbogedodngeaaGreatDoorRows
import Derived.Test.YtfkbogedodngeaaGreatDoorMm4
import Derived.ChangeSame
import Derived.ChangeVars
import Derived.JoinedOf
import Derived.RowKit
import Derived.RowKitTokens
import Derived.LaidLaws
import Derived.LaidHandle
import Derived.Stop.Joined
namespace Go.Proofs.YtfkbogedodngeaaGreatDoor.Card
open Go.ChangeShapes Go.WideShapes Go.RowKit
theorem own:ownKnob Tryz.prog.godebug=none:=by kernel_rfl
theorem et : Tryz.prog.globalNamed "errors.errorType" = some 0 := by kernel_rfl
theorem rt : (Tryz.prog.cutTypes.find? (·.1 == "internal/reflectlite.rtype")).map (·.2) = some 308 := by kernel_rfl
theorem size:Tryz.prog.types.size=457:=by kernel_rfl
theorem oneRow:((List.range 457).filter fun t=>Tryz.prog.rowNamed t [101,114,114,111,114])=[41]:=by kernel_rfl
theorem laidOut:laidOutB Tryz.pinned.checked.prog=true:=by kernel_rfl
theorem mapsRowed:Go.mapsRowed Tryz.pinned.checked.prog=true:=by kernel_rfl
theorem Hp {W : World} (h : laidMetH Tryz.prog [("errors.errorType", Rows.laid_errors_errorType)] W) : W.cell? ⟨0, 0, none⟩ = some (.iface 308 (.agg #[.pointer (some ⟨2, 41, none⟩)])) := by
 have h' : laidMet Tryz.prog [] W ∧ handlesMet Tryz.prog [("errors.errorType", Rows.laid_errors_errorType)] W := h
 obtain⟨name,u,ty,e1,e2,e3,e4,e5⟩:=h'.2 _ (List.mem_singleton.2 rfl)
 have en:name=[101,114,114,111,114]:=(Option.some.inj e1).symm
 subst en
 obtain rfl:=Option.some.inj (rt.symm.trans e2)
 have hm:ty∈(List.range 457).filter fun t=>Tryz.prog.rowNamed t [101,114,114,111,114]:=List.mem_filter.2 ⟨List.mem_range.2 (by rw[←size];exact e3),e4⟩
 rw[oneRow]at hm
 obtain rfl:=List.mem_singleton.1 hm
 have hh:typeHandle Tryz.prog 41=.pointer (some ⟨2,41,none⟩):=by kernel_rfl
 rw[hh]at e5
 simpa using World.var?_cell et e5 0
theorem laid_of {W : World} (h : laidMetH Tryz.prog [("errors.errorType", Rows.laid_errors_errorType)] W) : Go.Dm.Ky W := by
 intro b v hv
 have hc:=Hp h
 obtain⟨rfl,rfl⟩:b=0∧v=.iface 308 (.agg #[.pointer (some ⟨2,41,none⟩)]):=by
  have:some (0,Value.iface 308 (.agg #[.pointer (some ⟨2,41,none⟩)]))=some (b,v):=hv
  cases this
  exact⟨rfl,rfl⟩
 refine⟨?_,hc⟩
 rcases Nat.lt_or_ge 0 W.heap.size with h1|h1
 ·exact h1
 ·simp[World.cell?,Array.getElem?_eq_none h1]at hc
noncomputable def laidWorld(os:Os):World :=
 let w0:=World.holding Tryz.prog os ⟨#[],#[],[]⟩
 {w0 with heap:=w0.heap.modify 0 fun
   | .cells _ t frozen=>.cells #[.iface 308 (.agg #[.pointer (some ⟨2,41,none⟩)])] t frozen
   | o=>o}
theorem laidWorld_met (os : Os) (args : Array Value) : laidMetH Tryz.prog [("errors.errorType", Rows.laid_errors_errorType)] ((laidWorld os).forCall (fun _ _ => 0) ⟨#[], args, []⟩).memory :=
 laidMetH_of_parts (laidMet_nil _ _) (by kernel_rfl)
end Go.Proofs.YtfkbogedodngeaaGreatDoor.Card
