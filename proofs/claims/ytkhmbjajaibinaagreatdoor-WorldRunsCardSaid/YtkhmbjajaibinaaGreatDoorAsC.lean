/-
errors.As at the two targets of this program.
-/
import Derived.Test.YtkhmbjajaibinaaGreatDoorAsB
namespace Go.Proofs.YtkhmbjajaibinaaGreatDoor.Err
open Go.RowKit Go.Extern.Stop Go.Stop Go.Extern

set_option maxHeartbeats 4000000 in
set_option maxRecDepth 100000 in
/-- errors.As down to its loop. -/
theorem asE {R : Ending → World → Prop} (t0 : TypeId) (x : Value) (p : Addr) (w : World) (hg : w.cell? ⟨0, 0, none⟩ = some (.iface 256 (.agg #[.pointer (some ⟨2, 24, none⟩)])))
    (hcall : ∀ W : World, W = ((w.alloc (.cells #[.pointer (some p)] 91)).alloc (.cells #[.pointer (some ⟨2, 91, none⟩), .pointer (some ⟨w.heap.size, 0, none⟩), .int .u64 150] 160)) →
      Calls Tryz.prog 82 #[.iface t0 x, .iface 91 (.pointer (some p)), .agg #[.pointer (some ⟨2, 91, none⟩), .pointer (some ⟨w.heap.size, 0, none⟩), .int .u64 150], .iface 256 (.agg #[.pointer (some ⟨2, 30, none⟩)])] W fun e w' => ∃ b : Bool, e = .returned (.bool b) ∧ R e w') :
    Calls Tryz.prog 37 #[.iface t0 x, .iface 91 (.pointer (some p))] w R := by
  have h6 := @run_callFunc_extern Tryz.prog 79 _ (fun args => ReflectliteValue.unpack (args.getD 0 (.tuple #[]))) Tryz.func79 (by kernel_rfl) (by kernel_rfl) (by kernel_rfl) (by kernel_rfl)
  have h7 := @run_callFunc_extern Tryz.prog 80 _ (ReflectliteValue.methodAny (ReflectliteValue.valueError "reflectlite.Value.Type" 0) (fun t _ _ _ => ReflectliteType.toType t)) Tryz.func80 (by kernel_rfl) (by kernel_rfl) (by kernel_rfl) (by kernel_rfl)
  have h8 := @run_callFunc_extern Tryz.prog 81 _ (ReflectliteValue.method (ReflectliteValue.valueError "reflectlite.Value.IsNil" 0) ReflectliteValue.isNil) Tryz.func81 (by kernel_rfl) (by kernel_rfl) (by kernel_rfl) (by kernel_rfl)
  have h27 := @run_callFunc_extern Tryz.prog 326 _ (ReflectliteType.abiMethod fun t => do pure (.int .u8 (← Rtype.kind t))) Tryz.func326 (by kernel_rfl) (by kernel_rfl) (by kernel_rfl) (by kernel_rfl)
  have h37 := @run_callFunc_extern Tryz.prog 342 _ (ReflectliteType.method ReflectliteType.elem) Tryz.func342 (by kernel_rfl) (by kernel_rfl) (by kernel_rfl) (by kernel_rfl)
  have h38 := @run_callFunc_extern Tryz.prog 343 _ (ReflectliteType.relation "Implements" ReflectliteType.implements_) Tryz.func343 (by kernel_rfl) (by kernel_rfl) (by kernel_rfl) (by kernel_rfl)
  have f6 := targetE
  have f7 := typeE
  have mK := methodKind
  have mE := methodElem
  have mI := methodImplements
  have kP := kindPE
  have kT := kindE
  have eP := elemE
  have iP := implementsE
  have n8 := isNilE ⟨w.heap.size, 0, none⟩ p ((w.alloc (.cells #[.pointer (some p)] 91)).alloc (.cells #[.pointer (some ⟨2, 91, none⟩), .pointer (some ⟨w.heap.size, 0, none⟩), .int .u64 150] 160)) (by simp)
  have hlt : 0 < w.heap.size := cell_lt hg
  have hg2 : ((w.alloc (.cells #[.pointer (some p)] 91)).alloc (.cells #[.pointer (some ⟨2, 91, none⟩), .pointer (some ⟨w.heap.size, 0, none⟩), .int .u64 150] 160)).cell? ⟨0, 0, none⟩ = some (.iface 256 (.agg #[.pointer (some ⟨2, 24, none⟩)])) := by
    rw [World.cell?_alloc_lt _ _ ⟨0, 0, none⟩ (by simp), World.cell?_alloc_lt _ _ ⟨0, 0, none⟩ hlt]; exact hg
  go_enter Tryz.func37, Tryz.ntmps37
  go_wp2_with (go_at_call 82; refine (hcall _ (by rfl)).mono ?_; rintro e w' ⟨bb, rfl, hr⟩)
  exact hr
set_option maxHeartbeats 4000000 in
set_option maxRecDepth 100000 in
/-- errors.As down to its loop. -/
theorem asF {R : Ending → World → Prop} (t0 : TypeId) (x : Value) (p : Addr) (w : World) (hg : w.cell? ⟨0, 0, none⟩ = some (.iface 256 (.agg #[.pointer (some ⟨2, 24, none⟩)])))
    (hcall : ∀ W : World, W = ((w.alloc (.cells #[.pointer (some p)] 147)).alloc (.cells #[.pointer (some ⟨2, 147, none⟩), .pointer (some ⟨w.heap.size, 0, none⟩), .int .u64 150] 160)) →
      Calls Tryz.prog 82 #[.iface t0 x, .iface 147 (.pointer (some p)), .agg #[.pointer (some ⟨2, 147, none⟩), .pointer (some ⟨w.heap.size, 0, none⟩), .int .u64 150], .iface 256 (.agg #[.pointer (some ⟨2, 146, none⟩)])] W fun e w' => ∃ b : Bool, e = .returned (.bool b) ∧ R e w') :
    Calls Tryz.prog 37 #[.iface t0 x, .iface 147 (.pointer (some p))] w R := by
  have h6 := @run_callFunc_extern Tryz.prog 79 _ (fun args => ReflectliteValue.unpack (args.getD 0 (.tuple #[]))) Tryz.func79 (by kernel_rfl) (by kernel_rfl) (by kernel_rfl) (by kernel_rfl)
  have h7 := @run_callFunc_extern Tryz.prog 80 _ (ReflectliteValue.methodAny (ReflectliteValue.valueError "reflectlite.Value.Type" 0) (fun t _ _ _ => ReflectliteType.toType t)) Tryz.func80 (by kernel_rfl) (by kernel_rfl) (by kernel_rfl) (by kernel_rfl)
  have h8 := @run_callFunc_extern Tryz.prog 81 _ (ReflectliteValue.method (ReflectliteValue.valueError "reflectlite.Value.IsNil" 0) ReflectliteValue.isNil) Tryz.func81 (by kernel_rfl) (by kernel_rfl) (by kernel_rfl) (by kernel_rfl)
  have h27 := @run_callFunc_extern Tryz.prog 326 _ (ReflectliteType.abiMethod fun t => do pure (.int .u8 (← Rtype.kind t))) Tryz.func326 (by kernel_rfl) (by kernel_rfl) (by kernel_rfl) (by kernel_rfl)
  have h37 := @run_callFunc_extern Tryz.prog 342 _ (ReflectliteType.method ReflectliteType.elem) Tryz.func342 (by kernel_rfl) (by kernel_rfl) (by kernel_rfl) (by kernel_rfl)
  have h38 := @run_callFunc_extern Tryz.prog 343 _ (ReflectliteType.relation "Implements" ReflectliteType.implements_) Tryz.func343 (by kernel_rfl) (by kernel_rfl) (by kernel_rfl) (by kernel_rfl)
  have f6 := targetF
  have f7 := typeF
  have mK := methodKind
  have mE := methodElem
  have mI := methodImplements
  have kP := kindPF
  have kT := kindF
  have eP := elemF
  have iP := implementsF
  have n8 := isNilF ⟨w.heap.size, 0, none⟩ p ((w.alloc (.cells #[.pointer (some p)] 147)).alloc (.cells #[.pointer (some ⟨2, 147, none⟩), .pointer (some ⟨w.heap.size, 0, none⟩), .int .u64 150] 160)) (by simp)
  have hlt : 0 < w.heap.size := cell_lt hg
  have hg2 : ((w.alloc (.cells #[.pointer (some p)] 147)).alloc (.cells #[.pointer (some ⟨2, 147, none⟩), .pointer (some ⟨w.heap.size, 0, none⟩), .int .u64 150] 160)).cell? ⟨0, 0, none⟩ = some (.iface 256 (.agg #[.pointer (some ⟨2, 24, none⟩)])) := by
    rw [World.cell?_alloc_lt _ _ ⟨0, 0, none⟩ (by simp), World.cell?_alloc_lt _ _ ⟨0, 0, none⟩ hlt]; exact hg
  go_enter Tryz.func37, Tryz.ntmps37
  go_wp2_with (go_at_call 82; refine (hcall _ (by rfl)).mono ?_; rintro e w' ⟨bb, rfl, hr⟩)
  exact hr

theorem asE_any (v : Value) (r : Option Int) (n : Nat) (p : Addr) (old : Value) (w : World) (hg : w.cell? ⟨0, 0, none⟩ = some (.iface 256 (.agg #[.pointer (some ⟨2, 24, none⟩)]))) (hch : Chain w v r n) (hp : w.cell? p = some old) (hf : w.frozen? p = false) :
    Calls Tryz.prog 37 #[v, .iface 91 (.pointer (some p))] w (AsPost w p r) := by
  obtain ⟨t0, x, rfl⟩ := chain_iface hch
  have hpp := cell_lt hp
  refine asE t0 x p w hg fun W hW => ?_
  have hnw : New w W := by rw [hW]; exact ((New.refl _).alloc _ _).alloc _ _
  have hb := hnw.1
  have hsz : W.heap.size = w.heap.size + 2 := by rw [hW]; simp
  refine (as2E _ r n p ⟨w.heap.size, 0, none⟩ old W (chain_mono (fun b o h => hb.cell (p := ⟨b, o, none⟩) h) hch) (by rw [hW]; simp) ((hb.cell (p := p) hpp).trans hp) ((hb.frozen (p := p) hpp).trans hf) (by simp only [hsz]; omega) (by omega)).mono fun e w' hpost => ?_
  obtain ⟨e1, w1, k1, k2⟩ := hpost
  exact ⟨_, e1, e1, w1, hnw.trans k1, k2⟩

theorem asF_hit (q p : Addr) (old : Value) (w : World) (hg : w.cell? ⟨0, 0, none⟩ = some (.iface 256 (.agg #[.pointer (some ⟨2, 24, none⟩)]))) (hp : w.cell? p = some old) (hf : w.frozen? p = false) :
    Calls Tryz.prog 37 #[.iface 146 (.pointer (some q)), .iface 147 (.pointer (some p))] w (AsPostF w p (some q)) := by
  have hpp := cell_lt hp
  refine asF 146 _ p w hg fun W hW => ?_
  have hnw : New w W := by rw [hW]; exact ((New.refl _).alloc _ _).alloc _ _
  have hb := hnw.1
  have hsz : W.heap.size = w.heap.size + 2 := by rw [hW]; simp
  refine (as2F_hit q p ⟨w.heap.size, 0, none⟩ old W (by rw [hW]; simp) ((hb.cell (p := p) hpp).trans hp) ((hb.frozen (p := p) hpp).trans hf) (by simp only [hsz]; omega) (by omega)).mono fun e w' hpost => ?_
  obtain ⟨e1, w1, k1, k2⟩ := hpost
  exact ⟨_, e1, e1, w1, hnw.trans k1, k2⟩

theorem asF_miss (n : Int) (p : Addr) (w : World) (hg : w.cell? ⟨0, 0, none⟩ = some (.iface 256 (.agg #[.pointer (some ⟨2, 24, none⟩)]))) :
    Calls Tryz.prog 37 #[.iface 30 (.int .i64 n), .iface 147 (.pointer (some p))] w (AsPostF w p none) := by
  refine asF 30 _ p w hg fun W hW => ?_
  have hnw : New w W := by rw [hW]; exact ((New.refl _).alloc _ _).alloc _ _
  have hb := hnw.1
  have hsz : W.heap.size = w.heap.size + 2 := by rw [hW]; simp
  refine (as2F_miss n p ⟨w.heap.size, 0, none⟩ W).mono fun e w' hpost => ?_
  obtain ⟨e1, w1, k1, k2⟩ := hpost
  exact ⟨_, e1, e1, w1, hnw.trans k1, k2⟩

end Go.Proofs.YtkhmbjajaibinaaGreatDoor.Err
