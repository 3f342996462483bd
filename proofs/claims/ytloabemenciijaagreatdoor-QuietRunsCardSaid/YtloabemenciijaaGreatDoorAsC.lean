/-
errors.As at the two targets of this program.
-/
import Derived.Test.YtloabemenciijaaGreatDoorAsB
namespace Go.Proofs.YtloabemenciijaaGreatDoor.Err
open Go.RowKit Go.Extern.Stop Go.Stop Go.Extern

set_option maxHeartbeats 4000000 in
set_option maxRecDepth 100000 in
/-- errors.As down to its loop. -/
theorem asE {R : Ending → World → Prop} (t0 : TypeId) (x : Value) (p : Addr) (w : World) (hg : w.cell? ⟨0, 0, none⟩ = some (.iface 333 (.agg #[.pointer (some ⟨2, 41, none⟩)])))
    (hcall : ∀ W : World, W = ((w.alloc (.cells #[.pointer (some p)] 154)).alloc (.cells #[.pointer (some ⟨2, 154, none⟩), .pointer (some ⟨w.heap.size, 0, none⟩), .int .u64 150] 267)) →
      Calls Tryz.prog 177 #[.iface t0 x, .iface 154 (.pointer (some p)), .agg #[.pointer (some ⟨2, 154, none⟩), .pointer (some ⟨w.heap.size, 0, none⟩), .int .u64 150], .iface 333 (.agg #[.pointer (some ⟨2, 57, none⟩)])] W fun e w' => ∃ b : Bool, e = .returned (.bool b) ∧ R e w') :
    Calls Tryz.prog 75 #[.iface t0 x, .iface 154 (.pointer (some p))] w R := by
  have h6 := @run_callFunc_extern Tryz.prog 174 _ (fun args => ReflectliteValue.unpack (args.getD 0 (.tuple #[]))) Tryz.func174 (by kernel_rfl) (by kernel_rfl) (by kernel_rfl) (by kernel_rfl)
  have h7 := @run_callFunc_extern Tryz.prog 175 _ (ReflectliteValue.methodAny (ReflectliteValue.valueError "reflectlite.Value.Type" 0) (fun t _ _ _ => ReflectliteType.toType t)) Tryz.func175 (by kernel_rfl) (by kernel_rfl) (by kernel_rfl) (by kernel_rfl)
  have h8 := @run_callFunc_extern Tryz.prog 176 _ (ReflectliteValue.method (ReflectliteValue.valueError "reflectlite.Value.IsNil" 0) ReflectliteValue.isNil) Tryz.func176 (by kernel_rfl) (by kernel_rfl) (by kernel_rfl) (by kernel_rfl)
  have h27 := @run_callFunc_extern Tryz.prog 391 _ (ReflectliteType.abiMethod fun t => do pure (.int .u8 (← Rtype.kind t))) Tryz.func391 (by kernel_rfl) (by kernel_rfl) (by kernel_rfl) (by kernel_rfl)
  have h37 := @run_callFunc_extern Tryz.prog 407 _ (ReflectliteType.method ReflectliteType.elem) Tryz.func407 (by kernel_rfl) (by kernel_rfl) (by kernel_rfl) (by kernel_rfl)
  have h38 := @run_callFunc_extern Tryz.prog 408 _ (ReflectliteType.relation "Implements" ReflectliteType.implements_) Tryz.func408 (by kernel_rfl) (by kernel_rfl) (by kernel_rfl) (by kernel_rfl)
  have f6 := targetE
  have f7 := typeE
  have mK := methodKind
  have mE := methodElem
  have mI := methodImplements
  have kP := kindPE
  have kT := kindE
  have eP := elemE
  have iP := implementsE
  have n8 := isNilE ⟨w.heap.size, 0, none⟩ p ((w.alloc (.cells #[.pointer (some p)] 154)).alloc (.cells #[.pointer (some ⟨2, 154, none⟩), .pointer (some ⟨w.heap.size, 0, none⟩), .int .u64 150] 267)) (by simp)
  have hlt : 0 < w.heap.size := cell_lt hg
  have hg2 : ((w.alloc (.cells #[.pointer (some p)] 154)).alloc (.cells #[.pointer (some ⟨2, 154, none⟩), .pointer (some ⟨w.heap.size, 0, none⟩), .int .u64 150] 267)).cell? ⟨0, 0, none⟩ = some (.iface 333 (.agg #[.pointer (some ⟨2, 41, none⟩)])) := by
    rw [World.cell?_alloc_lt _ _ ⟨0, 0, none⟩ (by simp), World.cell?_alloc_lt _ _ ⟨0, 0, none⟩ hlt]; exact hg
  go_enter Tryz.func75, Tryz.ntmps75
  go_wp2_with (go_at_call 177; refine (hcall _ (by rfl)).mono ?_; rintro e w' ⟨bb, rfl, hr⟩)
  exact hr
set_option maxHeartbeats 4000000 in
set_option maxRecDepth 100000 in
/-- errors.As down to its loop. -/
theorem asF {R : Ending → World → Prop} (t0 : TypeId) (x : Value) (p : Addr) (w : World) (hg : w.cell? ⟨0, 0, none⟩ = some (.iface 333 (.agg #[.pointer (some ⟨2, 41, none⟩)])))
    (hcall : ∀ W : World, W = ((w.alloc (.cells #[.pointer (some p)] 160)).alloc (.cells #[.pointer (some ⟨2, 160, none⟩), .pointer (some ⟨w.heap.size, 0, none⟩), .int .u64 150] 267)) →
      Calls Tryz.prog 177 #[.iface t0 x, .iface 160 (.pointer (some p)), .agg #[.pointer (some ⟨2, 160, none⟩), .pointer (some ⟨w.heap.size, 0, none⟩), .int .u64 150], .iface 333 (.agg #[.pointer (some ⟨2, 157, none⟩)])] W fun e w' => ∃ b : Bool, e = .returned (.bool b) ∧ R e w') :
    Calls Tryz.prog 75 #[.iface t0 x, .iface 160 (.pointer (some p))] w R := by
  have h6 := @run_callFunc_extern Tryz.prog 174 _ (fun args => ReflectliteValue.unpack (args.getD 0 (.tuple #[]))) Tryz.func174 (by kernel_rfl) (by kernel_rfl) (by kernel_rfl) (by kernel_rfl)
  have h7 := @run_callFunc_extern Tryz.prog 175 _ (ReflectliteValue.methodAny (ReflectliteValue.valueError "reflectlite.Value.Type" 0) (fun t _ _ _ => ReflectliteType.toType t)) Tryz.func175 (by kernel_rfl) (by kernel_rfl) (by kernel_rfl) (by kernel_rfl)
  have h8 := @run_callFunc_extern Tryz.prog 176 _ (ReflectliteValue.method (ReflectliteValue.valueError "reflectlite.Value.IsNil" 0) ReflectliteValue.isNil) Tryz.func176 (by kernel_rfl) (by kernel_rfl) (by kernel_rfl) (by kernel_rfl)
  have h27 := @run_callFunc_extern Tryz.prog 391 _ (ReflectliteType.abiMethod fun t => do pure (.int .u8 (← Rtype.kind t))) Tryz.func391 (by kernel_rfl) (by kernel_rfl) (by kernel_rfl) (by kernel_rfl)
  have h37 := @run_callFunc_extern Tryz.prog 407 _ (ReflectliteType.method ReflectliteType.elem) Tryz.func407 (by kernel_rfl) (by kernel_rfl) (by kernel_rfl) (by kernel_rfl)
  have h38 := @run_callFunc_extern Tryz.prog 408 _ (ReflectliteType.relation "Implements" ReflectliteType.implements_) Tryz.func408 (by kernel_rfl) (by kernel_rfl) (by kernel_rfl) (by kernel_rfl)
  have f6 := targetF
  have f7 := typeF
  have mK := methodKind
  have mE := methodElem
  have mI := methodImplements
  have kP := kindPF
  have kT := kindF
  have eP := elemF
  have iP := implementsF
  have n8 := isNilF ⟨w.heap.size, 0, none⟩ p ((w.alloc (.cells #[.pointer (some p)] 160)).alloc (.cells #[.pointer (some ⟨2, 160, none⟩), .pointer (some ⟨w.heap.size, 0, none⟩), .int .u64 150] 267)) (by simp)
  have hlt : 0 < w.heap.size := cell_lt hg
  have hg2 : ((w.alloc (.cells #[.pointer (some p)] 160)).alloc (.cells #[.pointer (some ⟨2, 160, none⟩), .pointer (some ⟨w.heap.size, 0, none⟩), .int .u64 150] 267)).cell? ⟨0, 0, none⟩ = some (.iface 333 (.agg #[.pointer (some ⟨2, 41, none⟩)])) := by
    rw [World.cell?_alloc_lt _ _ ⟨0, 0, none⟩ (by simp), World.cell?_alloc_lt _ _ ⟨0, 0, none⟩ hlt]; exact hg
  go_enter Tryz.func75, Tryz.ntmps75
  go_wp2_with (go_at_call 177; refine (hcall _ (by rfl)).mono ?_; rintro e w' ⟨bb, rfl, hr⟩)
  exact hr

theorem asE_any (v : Value) (r : Option Int) (n : Nat) (p : Addr) (old : Value) (w : World) (hg : w.cell? ⟨0, 0, none⟩ = some (.iface 333 (.agg #[.pointer (some ⟨2, 41, none⟩)]))) (hch : Chain w v r n) (hp : w.cell? p = some old) (hf : w.frozen? p = false) :
    Calls Tryz.prog 75 #[v, .iface 154 (.pointer (some p))] w (AsPost w p r) := by
  obtain ⟨t0, x, rfl⟩ := chain_iface hch
  have hpp := cell_lt hp
  refine asE t0 x p w hg fun W hW => ?_
  have hnw : New w W := by rw [hW]; exact ((New.refl _).alloc _ _).alloc _ _
  have hb := hnw.1
  have hsz : W.heap.size = w.heap.size + 2 := by rw [hW]; simp
  refine (as2E _ r n p ⟨w.heap.size, 0, none⟩ old W (chain_mono (fun b o h => hb.cell (p := ⟨b, o, none⟩) h) hch) (by rw [hW]; simp) ((hb.cell (p := p) hpp).trans hp) ((hb.frozen (p := p) hpp).trans hf) (by simp only [hsz]; omega) (by omega)).mono fun e w' hpost => ?_
  obtain ⟨e1, w1, k1, k2⟩ := hpost
  exact ⟨_, e1, e1, w1, hnw.trans k1, k2⟩

theorem asF_hit (q p : Addr) (old : Value) (w : World) (hg : w.cell? ⟨0, 0, none⟩ = some (.iface 333 (.agg #[.pointer (some ⟨2, 41, none⟩)]))) (hp : w.cell? p = some old) (hf : w.frozen? p = false) :
    Calls Tryz.prog 75 #[.iface 157 (.pointer (some q)), .iface 160 (.pointer (some p))] w (AsPostF w p (some q)) := by
  have hpp := cell_lt hp
  refine asF 157 _ p w hg fun W hW => ?_
  have hnw : New w W := by rw [hW]; exact ((New.refl _).alloc _ _).alloc _ _
  have hb := hnw.1
  have hsz : W.heap.size = w.heap.size + 2 := by rw [hW]; simp
  refine (as2F_hit q p ⟨w.heap.size, 0, none⟩ old W (by rw [hW]; simp) ((hb.cell (p := p) hpp).trans hp) ((hb.frozen (p := p) hpp).trans hf) (by simp only [hsz]; omega) (by omega)).mono fun e w' hpost => ?_
  obtain ⟨e1, w1, k1, k2⟩ := hpost
  exact ⟨_, e1, e1, w1, hnw.trans k1, k2⟩

theorem asF_miss (n : Int) (p : Addr) (w : World) (hg : w.cell? ⟨0, 0, none⟩ = some (.iface 333 (.agg #[.pointer (some ⟨2, 41, none⟩)]))) :
    Calls Tryz.prog 75 #[.iface 57 (.int .i64 n), .iface 160 (.pointer (some p))] w (AsPostF w p none) := by
  refine asF 57 _ p w hg fun W hW => ?_
  have hnw : New w W := by rw [hW]; exact ((New.refl _).alloc _ _).alloc _ _
  have hb := hnw.1
  have hsz : W.heap.size = w.heap.size + 2 := by rw [hW]; simp
  refine (as2F_miss n p ⟨w.heap.size, 0, none⟩ W).mono fun e w' hpost => ?_
  obtain ⟨e1, w1, k1, k2⟩ := hpost
  exact ⟨_, e1, e1, w1, hnw.trans k1, k2⟩

end Go.Proofs.YtloabemenciijaaGreatDoor.Err
