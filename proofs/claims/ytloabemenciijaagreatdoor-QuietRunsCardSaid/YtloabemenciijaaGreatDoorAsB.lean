/-
errors.as along a chain of faults; errors.As at the two targets.
-/
import Derived.Test.YtloabemenciijaaGreatDoorAsA
import Derived.Test.YtloabemenciijaaGreatDoorMm4
namespace Go.Proofs.YtloabemenciijaaGreatDoor.Err
open Go.RowKit Go.Extern.Stop Go.Stop Go.Extern

/-- A chain of faults, down to an error number or to nil; what errors.As finds there for an error number, and how deep. -/
abbrev Chain (w : World) (v : Value) (r : Option Int) (n : Nat) : Prop := Go.Dm.ErrChain 57 157 w v r n

theorem chain_notNil {w : World} {r : Option Int} {n : Nat} (h : Chain w .nilIface r n) : False := by cases h

theorem chain_unique {w : World} {v : Value} {r r' : Option Int} {n n' : Nat} (h : Chain w v r n) (h' : Chain w v r' n') : n = n' ∧ r = r' := by
  induction h generalizing r' n' with
  | hit n => cases h'; exact ⟨rfl, rfl⟩
  | step b o v r n hc h ih =>
    cases h' with
    | step _ _ v' r' n' hc' h' =>
      rw [hc] at hc'; cases hc'
      obtain ⟨e1, e2⟩ := ih h'
      exact ⟨by rw [e1], e2⟩
    | stop _ _ hc' => rw [hc] at hc'; cases hc'; exact (chain_notNil h).elim
  | stop b o hc =>
    cases h' with
    | step _ _ v' r' n' hc' h' => rw [hc] at hc'; cases hc'; exact (chain_notNil h').elim
    | stop _ _ hc' => exact ⟨rfl, rfl⟩

open Classical in
/-- How deep a chain is. -/
noncomputable def deep (w : World) (v : Value) : Nat := if h : ∃ n r, Chain w v r n then h.choose else 0
theorem deep_eq {w : World} {v : Value} {r : Option Int} {n : Nat} (h : Chain w v r n) : deep w v = n := by
  have hx : ∃ n r, Chain w v r n := ⟨n, r, h⟩
  unfold deep
  rw [dif_pos hx]
  obtain ⟨r', hr'⟩ := hx.choose_spec
  exact (chain_unique hr' h).1

theorem chain_iface {w : World} {v : Value} {r : Option Int} {n : Nat} (h : Chain w v r n) : ∃ t x, v = .iface t x := by
  cases h <;> exact ⟨_, _, rfl⟩

theorem cell_lt {w : World} {a : Addr} {v : Value} (h : w.cell? a = some v) : a.block < w.heap.size := by
  rcases Nat.lt_or_ge a.block w.heap.size with h1 | h1
  · exact h1
  · simp [World.cell?, Array.getElem?_eq_none h1] at h

/-- What a call of errors.as leaves behind: new blocks; the target set, if a number was found. -/
def AsPost (w : World) (p : Addr) (r : Option Int) (e : Ending) (w' : World) : Prop :=
  e = .returned (.bool r.isSome) ∧ ∃ w1, New w w1 ∧ w' = match r with | some n => w1.setCell p (.int .i64 n) | none => w1

set_option maxHeartbeats 4000000 in
set_option maxRecDepth 100000 in
theorem as2E (v : Value) (r : Option Int) (n : Nat) (p a : Addr) (old : Value) (w : World) (hch : Chain w v r n) (ha : w.cell? a = some (.pointer (some p))) (hp : w.cell? p = some old) (hf : w.frozen? p = false) (hap : a.block < w.heap.size) (hpp : p.block < w.heap.size) :
    Calls Tryz.prog 177 #[v, .iface 154 (.pointer (some p)), .agg #[.pointer (some ⟨2, 154, none⟩), .pointer (some a), .int .u64 150], .iface 333 (.agg #[.pointer (some ⟨2, 57, none⟩)])] w (AsPost w p r) := by
  have h10 := @run_callFunc_extern Tryz.prog 241 _ ReflectliteType.typeOf Tryz.func241 (by kernel_rfl) (by kernel_rfl) (by kernel_rfl) (by kernel_rfl)
  have h35 := @run_callFunc_extern Tryz.prog 405 _ (ReflectliteType.relation "AssignableTo" ReflectliteType.assignableTo) Tryz.func405 (by kernel_rfl) (by kernel_rfl) (by kernel_rfl) (by kernel_rfl)
  have h11 := @run_callFunc_extern Tryz.prog 242 _ (ReflectliteValue.method (ReflectliteValue.valueError "reflectlite.Value.Elem" 0) ReflectliteValue.elem) Tryz.func242 (by kernel_rfl) (by kernel_rfl) (by kernel_rfl) (by kernel_rfl)
  have h12 := @run_callFunc_extern Tryz.prog 243 _ ReflectliteValue.set Tryz.func243 (by kernel_rfl) (by kernel_rfl) (by kernel_rfl) (by kernel_rfl)
  have h6 := @run_callFunc_extern Tryz.prog 174 _ (fun args => ReflectliteValue.unpack (args.getD 0 (.tuple #[]))) Tryz.func174 (by kernel_rfl) (by kernel_rfl) (by kernel_rfl) (by kernel_rfl)
  have tE := typeOfE
  have tF := typeOfF
  have mA := methodAssignableTo
  have aEE := assignEE
  have aFE := assignFE
  have nF := noAsF
  have uF := isUnF
  have mU := methodUnwrap
  have vE := valueOfE
  go_enter Tryz.func177, Tryz.ntmps177
  go_wp2
  go_loop [0] (fun e => ∃ n, Chain w e r n) (fun e => deep w e)
  case atStart => exact ⟨n, hch⟩
  case round =>
    obtain ⟨k, hk⟩ := hrel
    cases hk with
    | hit m =>
      have el := elemVE a p (w.alloc (.cells #[.pointer (some ⟨2, 154, none⟩), .pointer (some a), .int .u64 150] 267)) (by rw [World.cell?_alloc_lt _ _ a hap]; exact ha)
      have st := setE p ⟨w.heap.size + 1, 0, none⟩ m old ((w.alloc (.cells #[.pointer (some ⟨2, 154, none⟩), .pointer (some a), .int .u64 150] 267)).alloc (.cells #[.int .i64 m] 57)) (by rw [World.cell?_alloc_at _ _ _ _ (by simp)]; rfl)
        (by rw [World.cell?_alloc_lt _ _ p (by simp; omega), World.cell?_alloc_lt _ _ p hpp]; exact hp)
        (by rw [World.frozen?_alloc_old _ _ p (by simp; omega), World.frozen?_alloc_old _ _ p (by omega)]; exact hf)
      go_wp2
      go_ret
      exact ⟨rfl, _, ((New.refl _).alloc _ _).alloc _ _, rfl⟩
    | step b o v' r' k' hc hk' =>
      obtain ⟨t', x', rfl⟩ := chain_iface hk'
      have hd1 := deep_eq (.step b o _ r k' hc hk' : Chain w _ r (k' + 1))
      have hd2 := deep_eq hk'
      have hb : b < w.heap.size := cell_lt hc
      have hc1 : (w.alloc (.cells #[.pointer (some ⟨2, 154, none⟩), .pointer (some a), .int .u64 150] 267)).cell? ⟨b, o + 2, none⟩ = some (.iface t' x') := by rw [World.cell?_alloc_lt _ _ _ (by exact hb)]; exact hc
      go_wp2_with (go_at_call 398; refine (unwrap b o _ _ hc1).mono ?_; rintro e w' ⟨rfl, rfl⟩)
      go_round
      case rel => exact ⟨k', hk'⟩
      case measure => rw [hd1, hd2]; omega
    | stop b o hc =>
      have hb : b < w.heap.size := cell_lt hc
      have hc1 : (w.alloc (.cells #[.pointer (some ⟨2, 154, none⟩), .pointer (some a), .int .u64 150] 267)).cell? ⟨b, o + 2, none⟩ = some .nilIface := by rw [World.cell?_alloc_lt _ _ _ (by exact hb)]; exact hc
      go_wp2_with (go_at_call 398; refine (unwrap b o _ _ hc1).mono ?_; rintro e w' ⟨rfl, rfl⟩)
      go_ret
      exact ⟨rfl, _, (New.refl _).alloc _ _, rfl⟩

theorem chain_mono {w W : World} (hc : ∀ b o, b < w.heap.size → W.cell? ⟨b, o, none⟩ = w.cell? ⟨b, o, none⟩) {v : Value} {r : Option Int} {n : Nat} (h : Chain w v r n) : Chain W v r n := by
  induction h with
  | hit n => exact .hit n
  | step b o v r n hv _ ih => exact .step b o v r n (by rw [hc b (o + 2) (cell_lt hv)]; exact hv) ih
  | stop b o hv => exact .stop b o (by rw [hc b (o + 2) (cell_lt hv)]; exact hv)

/-- A fault asked of: the fault itself. -/
def AsPostF (w : World) (p : Addr) (r : Option Addr) (e : Ending) (w' : World) : Prop :=
  e = .returned (.bool r.isSome) ∧ ∃ w1, New w w1 ∧ w' = match r with | some q => w1.setCell p (.pointer (some q)) | none => w1

set_option maxHeartbeats 4000000 in
set_option maxRecDepth 100000 in
theorem as2F_hit (q p a : Addr) (old : Value) (w : World) (ha : w.cell? a = some (.pointer (some p))) (hp : w.cell? p = some old) (hf : w.frozen? p = false) (hap : a.block < w.heap.size) (hpp : p.block < w.heap.size) :
    Calls Tryz.prog 177 #[.iface 157 (.pointer (some q)), .iface 160 (.pointer (some p)), .agg #[.pointer (some ⟨2, 160, none⟩), .pointer (some a), .int .u64 150], .iface 333 (.agg #[.pointer (some ⟨2, 157, none⟩)])] w (AsPostF w p (some q)) := by
  have h10 := @run_callFunc_extern Tryz.prog 241 _ ReflectliteType.typeOf Tryz.func241 (by kernel_rfl) (by kernel_rfl) (by kernel_rfl) (by kernel_rfl)
  have h35 := @run_callFunc_extern Tryz.prog 405 _ (ReflectliteType.relation "AssignableTo" ReflectliteType.assignableTo) Tryz.func405 (by kernel_rfl) (by kernel_rfl) (by kernel_rfl) (by kernel_rfl)
  have h11 := @run_callFunc_extern Tryz.prog 242 _ (ReflectliteValue.method (ReflectliteValue.valueError "reflectlite.Value.Elem" 0) ReflectliteValue.elem) Tryz.func242 (by kernel_rfl) (by kernel_rfl) (by kernel_rfl) (by kernel_rfl)
  have h12 := @run_callFunc_extern Tryz.prog 243 _ ReflectliteValue.set Tryz.func243 (by kernel_rfl) (by kernel_rfl) (by kernel_rfl) (by kernel_rfl)
  have h6 := @run_callFunc_extern Tryz.prog 174 _ (fun args => ReflectliteValue.unpack (args.getD 0 (.tuple #[]))) Tryz.func174 (by kernel_rfl) (by kernel_rfl) (by kernel_rfl) (by kernel_rfl)
  have tF := typeOfF
  have mA := methodAssignableTo
  have aFF := assignFF
  have vF := valueOfF
  have el := elemVF a p (w.alloc (.cells #[.pointer (some ⟨2, 160, none⟩), .pointer (some a), .int .u64 150] 267)) (by rw [World.cell?_alloc_lt _ _ a hap]; exact ha)
  have st := setF p ⟨w.heap.size + 1, 0, none⟩ q old ((w.alloc (.cells #[.pointer (some ⟨2, 160, none⟩), .pointer (some a), .int .u64 150] 267)).alloc (.cells #[.pointer (some q)] 157)) (by rw [World.cell?_alloc_at _ _ _ _ (by simp)]; rfl)
    (by rw [World.cell?_alloc_lt _ _ p (by simp; omega), World.cell?_alloc_lt _ _ p hpp]; exact hp)
    (by rw [World.frozen?_alloc_old _ _ p (by simp; omega), World.frozen?_alloc_old _ _ p (by omega)]; exact hf)
  go_enter Tryz.func177, Tryz.ntmps177
  go_wp2
  refine wp_loop_rounds 1 ?_
  rw [rounds_succ]
  go_wp2
  go_ret
  exact ⟨rfl, _, ((New.refl _).alloc _ _).alloc _ _, rfl⟩

set_option maxHeartbeats 4000000 in
set_option maxRecDepth 100000 in
theorem as2F_miss (n : Int) (p a : Addr) (w : World) :
    Calls Tryz.prog 177 #[.iface 57 (.int .i64 n), .iface 160 (.pointer (some p)), .agg #[.pointer (some ⟨2, 160, none⟩), .pointer (some a), .int .u64 150], .iface 333 (.agg #[.pointer (some ⟨2, 157, none⟩)])] w (AsPostF w p none) := by
  have h10 := @run_callFunc_extern Tryz.prog 241 _ ReflectliteType.typeOf Tryz.func241 (by kernel_rfl) (by kernel_rfl) (by kernel_rfl) (by kernel_rfl)
  have h35 := @run_callFunc_extern Tryz.prog 405 _ (ReflectliteType.relation "AssignableTo" ReflectliteType.assignableTo) Tryz.func405 (by kernel_rfl) (by kernel_rfl) (by kernel_rfl) (by kernel_rfl)
  have tE := typeOfE
  have mA := methodAssignableTo
  have aEF := assignEF
  have nE := noAsE
  have uE := noUnE
  have usE := noUnsE
  go_enter Tryz.func177, Tryz.ntmps177
  go_wp2
  refine wp_loop_rounds 1 ?_
  rw [rounds_succ]
  go_wp2
  go_ret
  exact ⟨rfl, _, (New.refl _).alloc _ _, rfl⟩

theorem as_nil (t : Value) (w : World) : Calls Tryz.prog 75 #[.nilIface, t] w fun e w' => e = .returned (.bool false) ∧ w' = w := by
  go_enter Tryz.func75, Tryz.ntmps75
  go_wp2
  go_ret
  exact ⟨rfl, rfl⟩

end Go.Proofs.YtloabemenciijaaGreatDoor.Err
