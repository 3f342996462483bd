/-
Part 2 of "Dm": how its data stand for Go's values in a world, and that this is kept while the world grows.
-/
import Derived.Test.YtkhmbjajaibinaaGreatDoorDm1
namespace Go.Dm

/-- A world; where the objects lie (block, first cell); the blocks that may be written; the blocks that a caller may write behind this call; the blocks that were made and are no object yet (they may be written later); what the tokens stand for. -/
structure Ctx where
  w : World
  ρ : Nat → Option (Nat × Nat)
  O : Nat → Prop
  X : Nat → Prop
  E : Nat → Prop
  τ : Nat → Value

def Ctx.still (c : Ctx) : Ctx := { c with ρ := fun _ => none }

inductive VR : Ctx → DV → Value → Prop where
  | unk {c : Ctx} (v : Value) : VR c .unk v
  | bool {c : Ctx} (b : Bool) : VR c (.bool b) (.bool b)
  | int {c : Ctx} (k : IntKind) (n : Int) : VR c (.int k n) (.int k n)
  | atl {c : Ctx} {n : Nat} {m : Int} (h : (n : Int) ≤ m) : VR c (.atl n) (.int .i64 m)
  | tok {c : Ctx} {i : Nat} {v : Value} (h : c.τ i = v) : VR c (.tok i) v
  | str {c : Ctx} (s : List UInt8) : VR c (.str s) (.string ⟨s.toArray⟩)
  | nilp {c : Ctx} : VR c .nilp (.pointer none)
  | ptr {c : Ctx} {id sz idx off b base : Nat} (h : c.ρ id = some (b, base)) : VR c (.ptr id sz idx off) (.pointer (some ⟨b, base + idx * sz + off, none⟩))
  | iptr {c : Ctx} {lent : Bool} {cs : List DV} {off b o : Nat} (vals : Nat → Value) (hb : b < c.w.heap.size) (hO : ¬ c.O b) (hX : lent = false → ¬ c.X b)
      (hc : ∀ j, j < cs.length → c.w.cell? ⟨b, o + j, none⟩ = some (vals j) ∧ (vals j).oneCell' = true)
      (hv : ∀ j (hj : j < cs.length), VR c.still cs[j] (vals j)) : VR c (.iptr lent cs off) (.pointer (some ⟨b, o + off, none⟩))
  | nsl {c : Ctx} (a : Option Addr) : VR c .nsl (.slice a 0 0)
  | sl {c : Ctx} {id sz off len b base cap coff n : Nat} {ety : TypeId} (h : c.ρ id = some (b, base)) (hs : c.w.shape? b = some (ety, n)) (hn : base + off * sz + cap * sz = n)
      (hl : len ≤ cap) (ho : coff = base + off * sz ∨ cap = 0) : VR c (.sl id sz off len) (.slice (some ⟨b, coff, none⟩) len cap)
  | isl0 {c : Ctx} {lent : Bool} {sz : Nat} (a : Option Addr) (cap : Nat) : VR c (.isl lent sz []) (.slice a 0 cap)
  | isl {c : Ctx} {lent : Bool} {sz : Nat} {xs : List DV} {b o cap len : Nat} (vals : Nat → Nat → Value) (hlen : len = xs.length) (hcap : len ≤ cap) (hb : b < c.w.heap.size) (hO : ¬ c.O b) (hX : lent = false → ¬ c.X b)
      (hsz : ∀ i (hi : i < xs.length), (ecells sz xs[i]).length = sz)
      (hc : ∀ i j, i < xs.length → j < sz → c.w.cell? ⟨b, o + i * sz + j, none⟩ = some (vals i j) ∧ (vals i j).oneCell' = true)
      (hv : ∀ i (hi : i < xs.length) j (hj : j < (ecells sz xs[i]).length), VR c.still (ecells sz xs[i])[j] (vals i j)) : VR c (.isl lent sz xs) (.slice (some ⟨b, o, none⟩) len cap)
  | nmap {c : Ctx} : VR c .nmap (.map none)
  | map {c : Ctx} {id b : Nat} (h : c.ρ id = some (b, 0)) : VR c (.map id) (.map (some b))
  | func {c : Ctx} {f : FuncId} {ds : List DV} {vs : List Value} (hl : ds.length = vs.length) (hv : ∀ i (h1 : i < ds.length) (h2 : i < vs.length), VR c ds[i] vs[i]) :
      VR c (.func f ds) (.func (.func f) #[] vs.toArray)
  | nilf {c : Ctx} : VR c .nilf .nilFunc
  | iface {c : Ctx} {t : TypeId} {d : DV} {v : Value} (h : VR c d v) : VR c (.iface t d) (.iface t v)
  | nili {c : Ctx} : VR c .nili .nilIface
  | agg {c : Ctx} {ds : List DV} {vs : List Value} (hl : ds.length = vs.length) (h1 : ∀ i (h2 : i < vs.length), (vs[i]).oneCell' = true)
      (hv : ∀ i (h1 : i < ds.length) (h2 : i < vs.length), VR c ds[i] vs[i]) : VR c (.agg ds) (.agg vs.toArray)
  | tup {c : Ctx} {ds : List DV} {vs : List Value} (hl : ds.length = vs.length)
      (hv : ∀ i (h1 : i < ds.length) (h2 : i < vs.length), VR c ds[i] vs[i]) : VR c (.tup ds) (.tuple vs.toArray)

/-! What a value is, by its datum. -/
theorem VR.bool_inv {c : Ctx} {b : Bool} {v : Value} (h : VR c (.bool b) v) : v = .bool b := by cases h; rfl
theorem VR.int_inv {c : Ctx} {k : IntKind} {n : Int} {v : Value} (h : VR c (.int k n) v) : v = .int k n := by cases h; rfl
theorem VR.str_inv {c : Ctx} {s : List UInt8} {v : Value} (h : VR c (.str s) v) : v = .string ⟨s.toArray⟩ := by cases h; rfl
theorem VR.nsl_inv {c : Ctx} {v : Value} (h : VR c .nsl v) : ∃ a, v = .slice a 0 0 := by cases h; exact ⟨_, rfl⟩
theorem VR.nmap_inv {c : Ctx} {v : Value} (h : VR c .nmap v) : v = .map none := by cases h; rfl
theorem VR.map_inv {c : Ctx} {id : Nat} {v : Value} (h : VR c (.map id) v) : ∃ b, v = .map (some b) ∧ c.ρ id = some (b, 0) := by cases h; exact ⟨_, rfl, by assumption⟩
theorem VR.ptr_inv {c : Ctx} {id sz idx off : Nat} {v : Value} (h : VR c (.ptr id sz idx off) v) : ∃ b base, v = .pointer (some ⟨b, base + idx * sz + off, none⟩) ∧ c.ρ id = some (b, base) := by cases h; exact ⟨_, _, rfl, by assumption⟩
theorem VR.sl_inv {c : Ctx} {id sz off len : Nat} {v : Value} (h : VR c (.sl id sz off len) v) : ∃ b base cap coff n ety, v = .slice (some ⟨b, coff, none⟩) len cap ∧ c.ρ id = some (b, base) ∧ c.w.shape? b = some (ety, n) ∧
    base + off * sz + cap * sz = n ∧ len ≤ cap ∧ (coff = base + off * sz ∨ cap = 0) := by cases h; exact ⟨_, _, _, _, _, _, rfl, by assumption, by assumption, by assumption, by assumption, by assumption⟩
theorem VR.agg_inv {c : Ctx} {ds : List DV} {v : Value} (h : VR c (.agg ds) v) : ∃ vs : List Value, v = .agg vs.toArray ∧ ds.length = vs.length ∧ (∀ i (h2 : i < vs.length), (vs[i]).oneCell' = true) ∧ (∀ i (h1 : i < ds.length) (h2 : i < vs.length), VR c ds[i] vs[i]) := by
  cases h; exact ⟨_, rfl, by assumption, by assumption, by assumption⟩
theorem VR.tup_inv {c : Ctx} {ds : List DV} {v : Value} (h : VR c (.tup ds) v) : ∃ vs : List Value, v = .tuple vs.toArray ∧ ds.length = vs.length ∧ (∀ i (h1 : i < ds.length) (h2 : i < vs.length), VR c ds[i] vs[i]) := by
  cases h; exact ⟨_, rfl, by assumption, by assumption⟩
theorem VR.func_inv {c : Ctx} {f : FuncId} {ds : List DV} {v : Value} (h : VR c (.func f ds) v) : ∃ vs : List Value, v = .func (.func f) #[] vs.toArray ∧ ds.length = vs.length ∧ (∀ i (h1 : i < ds.length) (h2 : i < vs.length), VR c ds[i] vs[i]) := by
  cases h; exact ⟨_, rfl, by assumption, by assumption⟩
theorem VR.iptr_inv {c : Ctx} {lent : Bool} {cs : List DV} {off : Nat} {v : Value} (h : VR c (.iptr lent cs off) v) : ∃ (b o : Nat) (vals : Nat → Value), v = .pointer (some ⟨b, o + off, none⟩) ∧ b < c.w.heap.size ∧ ¬ c.O b ∧ (lent = false → ¬ c.X b) ∧
    (∀ j, j < cs.length → c.w.cell? ⟨b, o + j, none⟩ = some (vals j) ∧ (vals j).oneCell' = true) ∧ (∀ j (hj : j < cs.length), VR c.still cs[j] (vals j)) := by
  cases h; exact ⟨_, _, _, rfl, by assumption, by assumption, by assumption, by assumption, by assumption⟩
theorem VR.isl_inv {c : Ctx} {lent : Bool} {sz : Nat} {xs : List DV} {v : Value} (h : VR c (.isl lent sz xs) v) : (xs = [] ∧ ∃ a cap, v = .slice a 0 cap) ∨ ∃ (b o cap : Nat) (vals : Nat → Nat → Value), v = .slice (some ⟨b, o, none⟩) xs.length cap ∧
    xs.length ≤ cap ∧ b < c.w.heap.size ∧ ¬ c.O b ∧ (lent = false → ¬ c.X b) ∧ (∀ i (hi : i < xs.length), (ecells sz xs[i]).length = sz) ∧
    (∀ i j, i < xs.length → j < sz → c.w.cell? ⟨b, o + i * sz + j, none⟩ = some (vals i j) ∧ (vals i j).oneCell' = true) ∧
    (∀ i (hi : i < xs.length) j (hj : j < (ecells sz xs[i]).length), VR c.still (ecells sz xs[i])[j] (vals i j)) := by
  cases h
  · exact .inl ⟨rfl, _, _, rfl⟩
  · rename_i b o cap len vals hcap hb hO hX hlen hsz hc hv
    subst hlen
    exact .inr ⟨b, o, cap, vals, rfl, hcap, hb, hO, hX, hsz, hc, hv⟩

/-- Many at once. -/
def VRs (c : Ctx) (ds : List DV) (vs : List Value) : Prop := ds.length = vs.length ∧ ∀ i (h1 : i < ds.length) (h2 : i < vs.length), VR c ds[i] vs[i]

/-- Nothing is said to the outside, nothing is frozen or thawed. -/
structure Quiet (w w' : World) : Prop where
  os : w'.os = w.os
  out : w'.output = w.output
  froz : ∀ a, w'.frozen? a = w.frozen? a

theorem Quiet.refl (w : World) : Quiet w w := ⟨rfl, rfl, fun _ => rfl⟩
theorem Quiet.trans {a b c : World} (h : Quiet a b) (g : Quiet b c) : Quiet a c := ⟨g.os.trans h.os, g.out.trans h.out, fun x => (g.froz x).trans (h.froz x)⟩

def calm : Obj → Prop
  | .cells _ _ fr => fr = (0, 0)
  | _ => True

theorem calm_frozen {w : World} {ob : Obj} {a : Addr} (h : w.heap[a.block]? = some ob) (hc : calm ob) : w.frozen? a = false := by
  cases ob with
  | cells cur e fr =>
    have hc : fr = (0, 0) := hc
    subst hc
    simp [World.frozen?, h]
  | _ => simp [World.frozen?, h]

theorem Quiet.push {w w' : World} {ob : Obj} (hw : w'.heap = w.heap.push ob) (hc : calm ob) (ho : w'.os = w.os) (hu : w'.output = w.output) : Quiet w w' := by
  refine ⟨ho, hu, fun a => ?_⟩
  by_cases e : a.block = w.heap.size
  · have h1 : w'.heap[a.block]? = some ob := by rw [hw, e]; simp
    have h2 : w.heap[a.block]? = none := by rw [e]; simp
    rw [calm_frozen h1 hc]
    simp [World.frozen?, h2]
  · have : w'.heap[a.block]? = w.heap[a.block]? := by rw [hw, Array.getElem?_push]; simp [e]
    simp only [World.frozen?, this]

theorem Quiet.at {w w' : World} {b : Nat} {ob ob' : Obj} (h1 : w.heap[b]? = some ob) (h2 : w'.heap[b]? = some ob') (hk : ∀ k, k ≠ b → w'.heap[k]? = w.heap[k]?) (c1 : calm ob) (c2 : calm ob') (ho : w'.os = w.os) (hu : w'.output = w.output) : Quiet w w' := by
  refine ⟨ho, hu, fun a => ?_⟩
  by_cases e : a.block = b
  · rw [calm_frozen (w := w') (by rw [e]; exact h2) c2, calm_frozen (w := w) (by rw [e]; exact h1) c1]
  · simp only [World.frozen?, hk _ e]

/-- What a later state still owes to an elder one. -/
structure CtxLe (c c' : Ctx) : Prop where
  rho : ∀ id p, c.ρ id = some p → c'.ρ id = some p
  size : c.w.heap.size ≤ c'.w.heap.size
  frame : ∀ b, b < c.w.heap.size → ¬ c.O b → c'.w.heap[b]? = c.w.heap[b]?
  own : ∀ b, c'.O b → c.O b ∨ c.w.heap.size ≤ b
  shape : ∀ b e n, c.w.shape? b = some (e, n) → c'.w.shape? b = some (e, n)
  X : ∀ b, c'.X b → c.X b
  pend : ∀ b, b < c.w.heap.size → c'.E b → c.E b ∧ c'.w.heap[b]? = c.w.heap[b]?
  quiet : Quiet c.w c'.w
  tok : c'.τ = c.τ

theorem CtxLe.refl (c : Ctx) : CtxLe c c := ⟨fun _ _ h => h, Nat.le_refl _, fun _ _ _ => rfl, fun _ h => .inl h, fun _ _ _ h => h, fun _ h => h, fun _ _ h => ⟨h, rfl⟩, .refl _, rfl⟩

theorem CtxLe.trans {a b c : Ctx} (h : CtxLe a b) (g : CtxLe b c) : CtxLe a c where
  rho := fun id p hp => g.rho id p (h.rho id p hp)
  size := Nat.le_trans h.size g.size
  frame := fun k hk hO => by
    have hb : ¬ b.O k := fun hb => (h.own k hb).elim hO (fun hle => by omega)
    rw [g.frame k (Nat.lt_of_lt_of_le hk h.size) hb, h.frame k hk hO]
  own := fun k hk => (g.own k hk).elim (fun hb => h.own k hb) (fun hle => .inr (Nat.le_trans h.size hle))
  shape := fun k e n hs => g.shape k e n (h.shape k e n hs)
  X := fun k hk => h.X k (g.X k hk)
  pend := fun k hk hE => by
    obtain ⟨g1, g2⟩ := g.pend k (Nat.lt_of_lt_of_le hk h.size) hE
    obtain ⟨h1, h2⟩ := h.pend k hk g1
    exact ⟨h1, g2.trans h2⟩
  quiet := h.quiet.trans g.quiet
  tok := g.tok.trans h.tok

theorem CtxLe.toStill {c c' : Ctx} (h : CtxLe c c') : CtxLe c.still c'.still :=
  ⟨fun _ _ hp => by simp [Ctx.still] at hp, h.size, h.frame, h.own, h.shape, h.X, h.pend, h.quiet, h.tok⟩

theorem CtxLe.cell {c c' : Ctx} (h : CtxLe c c') {b o : Nat} {v : Value} (hb : b < c.w.heap.size) (hO : ¬ c.O b) (hc : c.w.cell? ⟨b, o, none⟩ = some v) : c'.w.cell? ⟨b, o, none⟩ = some v := by
  rw [← hc]; exact World.cell?_of_block (h.frame b hb hO)

theorem CtxLe.notO {c c' : Ctx} (h : CtxLe c c') {b : Nat} (hb : b < c.w.heap.size) (hO : ¬ c.O b) : ¬ c'.O b := fun hb' => (h.own b hb').elim hO (fun hle => by omega)

theorem VR.mono {c : Ctx} {d : DV} {v : Value} (h : VR c d v) : ∀ {c' : Ctx}, CtxLe c c' → VR c' d v := by
  induction h with
  | unk v => intro c' _; exact .unk v
  | bool b => intro c' _; exact .bool b
  | int k n => intro c' _; exact .int k n
  | atl h => intro c' _; exact .atl h
  | tok h => intro c' hle; exact .tok (by rw [hle.tok]; exact h)
  | str s => intro c' _; exact .str s
  | nilp => intro c' _; exact .nilp
  | ptr h => intro c' hle; exact .ptr (hle.rho _ _ h)
  | iptr vals hb hO hX hc hv ih =>
    intro c' hle
    exact .iptr vals (Nat.lt_of_lt_of_le hb hle.size) (hle.notO hb hO) (fun hl hx => hX hl (hle.X _ hx)) (fun j hj => ⟨hle.cell hb hO (hc j hj).1, (hc j hj).2⟩) (fun j hj => ih j hj hle.toStill)
  | nsl a => intro c' _; exact .nsl a
  | sl h hs hn hl ho => intro c' hle; exact .sl (hle.rho _ _ h) (hle.shape _ _ _ hs) hn hl ho
  | isl0 a cap => intro c' _; exact .isl0 a cap
  | isl vals hlen hcap hb hO hX hsz hc hv ih =>
    intro c' hle
    exact .isl vals hlen hcap (Nat.lt_of_lt_of_le hb hle.size) (hle.notO hb hO) (fun hl hx => hX hl (hle.X _ hx)) hsz (fun i j hi hj => ⟨hle.cell hb hO (hc i j hi hj).1, (hc i j hi hj).2⟩) (fun i hi j hj => ih i hi j hj hle.toStill)
  | nmap => intro c' _; exact .nmap
  | map h => intro c' hle; exact .map (hle.rho _ _ h)
  | func hl _ ih => intro c' hle; exact .func hl (fun i h1 h2 => ih i h1 h2 hle)
  | nilf => intro c' _; exact .nilf
  | iface _ ih => intro c' hle; exact .iface (ih hle)
  | nili => intro c' _; exact .nili
  | agg hl h1 _ ih => intro c' hle; exact .agg hl h1 (fun i h1 h2 => ih i h1 h2 hle)
  | tup hl _ ih => intro c' hle; exact .tup hl (fun i h1 h2 => ih i h1 h2 hle)

/-- What refers to no object. -/
theorem VR.of_still {c : Ctx} {d : DV} {v : Value} (h : VR c.still d v) : VR c d v :=
  h.mono (c' := c) ⟨fun _ _ hp => by simp [Ctx.still] at hp, Nat.le_refl _, fun _ _ _ => rfl, fun _ h => .inl h, fun _ _ _ h => h, fun _ h => h, fun _ _ h => ⟨h, rfl⟩, .refl _, rfl⟩

theorem VRs.mono {c c' : Ctx} {ds : List DV} {vs : List Value} (h : VRs c ds vs) (hle : CtxLe c c') : VRs c' ds vs := ⟨h.1, fun i h1 h2 => (h.2 i h1 h2).mono hle⟩

theorem VR.one {c : Ctx} {d : DV} {v : Value} (h : VR c d v) (hu : d ≠ .unk) (h1 : d.one = true) : v.oneCell' = true := by
  cases h <;> first | rfl | exact absurd rfl hu | exact absurd h1 (by simp [DV.one])

def alive : DO → Bool
  | .dead => false
  | _ => true

def ownB (h : Heap) (ρ : Nat → Option (Nat × Nat)) (b : Nat) : Prop := ∃ id o base, h.get id = some o ∧ alive o = true ∧ ρ id = some (b, base)

/-- Elements over the cells of a row. -/
def ElemsR (c : Ctx) (xs : List DV) (sz : Nat) (cur : Array Value) (base : Nat) : Prop :=
  ∀ i (hi : i < xs.length), (ecells sz xs[i]).length = sz ∧ ∀ j (hj : j < (ecells sz xs[i]).length), ∃ v, cur[base + i * sz + j]? = some v ∧ v.oneCell' = true ∧ VR c (ecells sz xs[i])[j] v

/-- Each holds what one cell can hold. -/
def OneRow (cur : Array Value) : Prop := ∀ (j : Nat) (v : Value), cur[j]? = some v → v.oneCell' = true

def ObjR (c : Ctx) (id : Nat) : DO → Prop
  | .dead => True
  | .arr ety sz xs cap => ∃ b base cur m, c.ρ id = some (b, base) ∧ c.w.heap[b]? = some (.cells cur ety (0, 0)) ∧ 0 < sz ∧ cur.size = base + m * sz ∧ xs.length ≤ m ∧
      (∀ k, cap = some k → k = m ∧ xs.length = m) ∧ OneRow cur ∧ ElemsR c xs sz cur base
  | .mp es => ∃ es' : List (DV × DV), es.Perm es' ∧ ∃ b entries clock, c.ρ id = some (b, 0) ∧ c.w.heap[b]? = some (.map entries clock) ∧ es'.length = entries.size ∧
      ∀ i (h1 : i < es'.length) (h2 : i < entries.size), VR c es'[i].1 entries[i].key ∧ VR c es'[i].2 entries[i].val

/-- The variable of a package that this program's statements list: where it lies, and what it holds. -/
def globVal : Option (Nat × Value) := some (0, .iface 256 (.agg #[.pointer (some ⟨2, 24, none⟩)]))

/-- The variable of a package is as it was. -/
def GlobOk (c : Ctx) : Prop := ∀ b v, globVal = some (b, v) → b < c.w.heap.size ∧ ¬ c.O b ∧ c.w.cell? ⟨b, 0, none⟩ = some v

theorem GlobOk.mono {c c' : Ctx} (h : GlobOk c) (hle : CtxLe c c') : GlobOk c' := fun b v hv => by
  obtain ⟨h1, h2, h3⟩ := h b v hv
  exact ⟨Nat.lt_of_lt_of_le h1 hle.size, hle.notO h1 h2, hle.cell h1 h2 h3⟩

structure Rel (h : Heap) (c : Ctx) : Prop where
  len : h.objs.length = h.n
  lim : h.lim ≤ h.n
  dom : ∀ id, c.ρ id ≠ none → id < h.n
  obj : ∀ id o, h.get id = some o → ObjR c id o
  inj : ∀ i j oi oj b x y, h.get i = some oi → h.get j = some oj → alive oi = true → alive oj = true → c.ρ i = some (b, x) → c.ρ j = some (b, y) → i = j
  own : ∀ b, c.O b ↔ ownB h c.ρ b ∨ c.E b
  notX : ∀ b, c.O b → ¬ c.X b
  old : ∀ b, c.X b → b < c.w.heap.size
  pend : ∀ b, c.E b → b < c.w.heap.size ∧ ¬ ownB h c.ρ b
  glob : GlobOk c

/-! ## the heap -/

theorem get_push_new {h : Heap} {o : DO} : (h.push o).get h.n = some o := by
  simp [Heap.get, Heap.push]

theorem get_push_old {h : Heap} {o : DO} {id : Nat} (hid : id < h.n) : (h.push o).get id = h.get id := by
  have h1 : id < h.n + 1 := by omega
  have h2 : h.n - id = (h.n - 1 - id) + 1 := by omega
  simp [Heap.get, Heap.push, hid, h1, h2]

theorem get_lt {h : Heap} {id : Nat} {o : DO} (hg : h.get id = some o) : id < h.n := by
  unfold Heap.get at hg
  split at hg
  · assumption
  · cases hg

theorem get_push {h : Heap} {o : DO} {id : Nat} : (h.push o).get id = if id = h.n then some o else h.get id := by
  split
  · rename_i e; subst e; exact get_push_new
  · rename_i e
    by_cases hlt : id < h.n
    · exact get_push_old hlt
    · have : ¬ id < h.n + 1 := by omega
      simp [Heap.get, Heap.push, hlt, this]

theorem get_set_same {h : Heap} {id : Nat} {o o' : DO} (hl : h.objs.length = h.n) (hg : h.get id = some o) : (h.set id o').get id = some o' := by
  have := get_lt hg
  simp [Heap.get, Heap.set, this, List.getElem?_set, hl]
  omega

theorem get_set_other {h : Heap} {id k : Nat} {o' : DO} (hid : id < h.n) (hne : k ≠ id) : (h.set id o').get k = h.get k := by
  unfold Heap.get Heap.set
  simp only
  by_cases hk : k < h.n
  · rw [if_pos hk, if_pos hk, List.getElem?_set]
    rw [if_neg (by omega)]
  · rw [if_neg hk, if_neg hk]

theorem n_push {h : Heap} {o : DO} : (h.push o).n = h.n + 1 := rfl
theorem n_set {h : Heap} {id : Nat} {o : DO} : (h.set id o).n = h.n := rfl
theorem lim_push {h : Heap} {o : DO} : (h.push o).lim = h.lim := rfl
theorem lim_set {h : Heap} {id : Nat} {o : DO} : (h.set id o).lim = h.lim := rfl
theorem len_push {h : Heap} {o : DO} (hl : h.objs.length = h.n) : (h.push o).objs.length = (h.push o).n := by simp [Heap.push, hl]
theorem len_set {h : Heap} {id : Nat} {o : DO} (hl : h.objs.length = h.n) : (h.set id o).objs.length = (h.set id o).n := by simp [Heap.set, hl]

theorem get_lim {h : Heap} {l id : Nat} : ({ h with lim := l } : Heap).get id = h.get id := rfl

/-- The state behind a step. -/
def Ctx.next (c : Ctx) (w' : World) (ρ' : Nat → Option (Nat × Nat)) (h' : Heap) : Ctx := ⟨w', ρ', fun b => ownB h' ρ' b ∨ c.E b, c.X, c.E, c.τ⟩

theorem ObjR.mono {c c' : Ctx} {id : Nat} {o : DO} (h : ObjR c id o) (hle : CtxLe c c') (hb : alive o = true → ∀ b x, c.ρ id = some (b, x) → c'.w.heap[b]? = c.w.heap[b]?) : ObjR c' id o := by
  cases o with
  | dead => trivial
  | arr ety sz xs cap =>
    obtain ⟨b, base, cur, m, h1, h2, h3, h4, h5, h6, h8, h7⟩ := h
    refine ⟨b, base, cur, m, hle.rho _ _ h1, (hb rfl b base h1).trans h2, h3, h4, h5, h6, h8, fun i hi => ⟨(h7 i hi).1, fun j hj => ?_⟩⟩
    obtain ⟨v, a1, a2, a3⟩ := (h7 i hi).2 j hj
    exact ⟨v, a1, a2, a3.mono hle⟩
  | mp es =>
    obtain ⟨es', hp, b, entries, clock, h1, h2, h3, h4⟩ := h
    exact ⟨es', hp, b, entries, clock, hle.rho _ _ h1, (hb rfl b 0 h1).trans h2, h3, fun i a1 a2 => ⟨(h4 i a1 a2).1.mono hle, (h4 i a1 a2).2.mono hle⟩⟩

theorem Rel.block_lt {h : Heap} {c : Ctx} (hR : Rel h c) {id : Nat} {o : DO} {b x : Nat} (hg : h.get id = some o) (ha : alive o = true) (hr : c.ρ id = some (b, x)) : b < c.w.heap.size := by
  have := hR.obj id o hg
  cases o with
  | dead => simp [alive] at ha
  | arr ety sz xs cap =>
    obtain ⟨b', base', cur, m, h1, h2, _⟩ := this
    rw [hr] at h1; cases h1
    exact (Array.getElem?_eq_some_iff.1 h2).1
  | mp es =>
    obtain ⟨_, _, b', entries, clock, h1, h2, _⟩ := this
    rw [hr] at h1; cases h1
    exact (Array.getElem?_eq_some_iff.1 h2).1

theorem Rel.O_lt {h : Heap} {c : Ctx} (hR : Rel h c) {b : Nat} (hO : c.O b) : b < c.w.heap.size := by
  rcases (hR.own b).1 hO with ⟨id, o, x, hg, ha, hr⟩ | hE
  · exact hR.block_lt hg ha hr
  · exact (hR.pend b hE).1

theorem shape_lt {w : World} {b n : Nat} {e : TypeId} (hs : w.shape? b = some (e, n)) : b < w.heap.size := by
  unfold World.shape? at hs
  split at hs
  · rename_i hh; exact (Array.getElem?_eq_some_iff.1 hh).1
  · cases hs

/-- A new object. -/
theorem Rel.push {h : Heap} {c : Ctx} (hR : Rel h c) (o : DO) (w' : World) (b base : Nat) (hb : c.w.heap.size ≤ b)
    (hsize : c.w.heap.size ≤ w'.heap.size) (hframe : ∀ k, k < c.w.heap.size → w'.heap[k]? = c.w.heap[k]?) (hq : Quiet c.w w')
    (hobj : CtxLe c (c.next w' (fun i => if i = h.n then some (b, base) else c.ρ i) (h.push o)) → ObjR (c.next w' (fun i => if i = h.n then some (b, base) else c.ρ i) (h.push o)) h.n o) :
    Rel (h.push o) (c.next w' (fun i => if i = h.n then some (b, base) else c.ρ i) (h.push o)) ∧
    CtxLe c (c.next w' (fun i => if i = h.n then some (b, base) else c.ρ i) (h.push o)) := by
  have hown : ∀ k, ownB (h.push o) (fun i => if i = h.n then some (b, base) else c.ρ i) k → ownB h c.ρ k ∨ k = b := by
    rintro k ⟨id, o', x, hg, ha', hr⟩
    by_cases e : id = h.n
    · simp only [e, if_true] at hr; cases hr; exact .inr rfl
    · simp only [if_neg e] at hr
      rw [get_push, if_neg e] at hg
      exact .inl ⟨id, o', x, hg, ha', hr⟩
  have hownO : ∀ k, (ownB (h.push o) (fun i => if i = h.n then some (b, base) else c.ρ i) k ∨ c.E k) → c.O k ∨ k = b := by
    rintro k (h1 | h1)
    · exact (hown k h1).imp (fun h2 => (hR.own k).2 (.inl h2)) id
    · exact .inl ((hR.own k).2 (.inr h1))
  have hle : CtxLe c (c.next w' (fun i => if i = h.n then some (b, base) else c.ρ i) (h.push o)) := by
    refine ⟨fun id p hp => ?_, hsize, fun k hk _ => hframe k hk, fun k hk => ?_, fun k e n hs => ?_, fun _ hx => hx, fun k hk hE => ⟨hE, hframe k hk⟩, hq, rfl⟩
    · have : id < h.n := hR.dom id (by rw [hp]; simp)
      simp only [Ctx.next]
      rw [if_neg (by omega)]; exact hp
    · rcases hownO k hk with h1 | h1
      · exact .inl h1
      · exact .inr (by omega)
    · have hk := shape_lt hs
      simp only [World.shape?, Ctx.next] at hs ⊢
      rw [hframe k hk]; exact hs
  refine ⟨⟨len_push hR.len, Nat.le_succ_of_le hR.lim, ?_, ?_, ?_, fun _ => Iff.rfl, ?_, fun k hk => Nat.lt_of_lt_of_le (hR.old k hk) hsize, fun k hk => ⟨Nat.lt_of_lt_of_le (hR.pend k hk).1 hsize, fun ho => (hown k ho).elim (hR.pend k hk).2 fun e => by have := (hR.pend k hk).1; omega⟩, hR.glob.mono hle⟩, hle⟩
  · intro id hid
    rw [n_push]
    by_cases e : id = h.n
    · omega
    · simp only [Ctx.next, if_neg e] at hid; have := hR.dom id hid; omega
  · intro id o' hg
    rw [get_push] at hg
    split at hg
    · rename_i e; subst e; cases hg; exact hobj hle
    · exact (hR.obj id o' hg).mono hle fun ha k x hr => hframe k (hR.block_lt hg ha hr)
  · intro i j oi oj k x y hi hj hai haj hri hrj
    simp only [Ctx.next] at hri hrj
    rw [get_push] at hi hj
    by_cases ei : i = h.n <;> by_cases ej : j = h.n
    · omega
    · simp only [if_pos ei] at hri; simp only [if_neg ej] at hrj hj
      cases hri
      have := hR.block_lt hj haj hrj
      omega
    · simp only [if_neg ei] at hri hi; simp only [if_pos ej] at hrj
      cases hrj
      have := hR.block_lt hi hai hri
      omega
    · simp only [if_neg ei] at hri hi; simp only [if_neg ej] at hrj hj
      exact hR.inj i j oi oj k x y hi hj hai haj hri hrj
  · intro k hk hx
    rcases hownO k hk with h1 | h1
    · exact hR.notX k h1 hx
    · have := hR.old k hx; omega

/-- An object turned in its own block. -/
theorem Rel.set {h : Heap} {c : Ctx} (hR : Rel h c) {id : Nat} {o : DO} (o' : DO) (hg : h.get id = some o) (ha : alive o = true) (ha' : alive o' = true) {b base : Nat} (hr : c.ρ id = some (b, base)) (w' : World)
    (hsize : c.w.heap.size = w'.heap.size) (hframe : ∀ k, k ≠ b → w'.heap[k]? = c.w.heap[k]?) (hshape : ∀ e n, c.w.shape? b = some (e, n) → w'.shape? b = some (e, n)) (hq : Quiet c.w w')
    (hobj : CtxLe c (c.next w' c.ρ (h.set id o')) → ObjR (c.next w' c.ρ (h.set id o')) id o') :
    Rel (h.set id o') (c.next w' c.ρ (h.set id o')) ∧ CtxLe c (c.next w' c.ρ (h.set id o')) := by
  have hid := get_lt hg
  have hO : c.O b := (hR.own b).2 (.inl ⟨id, o, base, hg, ha, hr⟩)
  have hown : ∀ k, ownB (h.set id o') c.ρ k ↔ ownB h c.ρ k := by
    intro k
    constructor
    · rintro ⟨i, oi, x, hgi, hai, hri⟩
      by_cases e : i = id
      · subst e; exact ⟨i, o, x, hg, ha, hri⟩
      · rw [get_set_other hid e] at hgi; exact ⟨i, oi, x, hgi, hai, hri⟩
    · rintro ⟨i, oi, x, hgi, hai, hri⟩
      by_cases e : i = id
      · subst e; exact ⟨i, o', x, get_set_same hR.len hg, ha', hri⟩
      · exact ⟨i, oi, x, by rw [get_set_other hid e]; exact hgi, hai, hri⟩
  have hle : CtxLe c (c.next w' c.ρ (h.set id o')) := by
    refine ⟨fun _ _ hp => hp, Nat.le_of_eq hsize, fun k hk hnO => hframe k (fun e => hnO (e ▸ hO)), fun k hk => .inl ((hR.own k).2 (hk.imp (hown k).1 (fun x => x))), fun k e n hs => ?_, fun _ hx => hx,
      fun k hk hE => ⟨hE, hframe k fun e => (hR.pend k hE).2 (e ▸ ⟨id, o, base, hg, ha, hr⟩)⟩, hq, rfl⟩
    by_cases ek : k = b
    · subst ek; exact hshape e n hs
    · simp only [World.shape?, Ctx.next] at hs ⊢
      rw [hframe k ek]; exact hs
  refine ⟨⟨len_set hR.len, hR.lim, hR.dom, ?_, ?_, fun _ => Iff.rfl, fun k hk => hR.notX k ((hR.own k).2 (hk.imp (hown k).1 (fun x => x))), fun k hk => by simpa [Ctx.next, ← hsize] using hR.old k hk,
      fun k hk => ⟨by simpa [Ctx.next, ← hsize] using (hR.pend k hk).1, fun ho => (hR.pend k hk).2 ((hown k).1 ho)⟩, hR.glob.mono hle⟩, hle⟩
  · intro i oi hgi
    by_cases e : i = id
    · subst e
      rw [get_set_same hR.len hg] at hgi
      cases hgi
      exact hobj hle
    · rw [get_set_other hid e] at hgi
      refine (hR.obj i oi hgi).mono hle fun hai k x hri => hframe k fun ek => e ?_
      subst ek
      exact hR.inj i id oi o k x base hgi hg hai ha hri hr
  · intro i j oi oj k x y hi hj hai haj hri hrj
    have key : ∀ i oi, (h.set id o').get i = some oi → alive oi = true → ∃ oi', h.get i = some oi' ∧ alive oi' = true := by
      intro i oi hi hai
      by_cases e : i = id
      · subst e; exact ⟨o, hg, ha⟩
      · rw [get_set_other hid e] at hi; exact ⟨oi, hi, hai⟩
    obtain ⟨oi', g1, g2⟩ := key i oi hi hai
    obtain ⟨oj', g3, g4⟩ := key j oj hj haj
    exact hR.inj i j oi' oj' k x y g1 g3 g2 g4 hri hrj

/-- An object let go: its block is written no more by its name. -/
theorem Rel.kill {h : Heap} {c : Ctx} (hR : Rel h c) {id : Nat} {o : DO} (hg : h.get id = some o) :
    Rel (h.set id .dead) (c.next c.w c.ρ (h.set id .dead)) ∧ CtxLe c (c.next c.w c.ρ (h.set id .dead)) := by
  have hid := get_lt hg
  have hown : ∀ k, ownB (h.set id .dead) c.ρ k → ownB h c.ρ k := by
    rintro k ⟨i, oi, x, hgi, hai, hri⟩
    by_cases e : i = id
    · subst e
      rw [get_set_same hR.len hg] at hgi
      cases hgi; simp [alive] at hai
    · rw [get_set_other hid e] at hgi; exact ⟨i, oi, x, hgi, hai, hri⟩
  have hle : CtxLe c (c.next c.w c.ρ (h.set id .dead)) :=
    ⟨fun _ _ hp => hp, Nat.le_refl _, fun _ _ _ => rfl, fun k hk => .inl ((hR.own k).2 (hk.imp (hown k) (fun x => x))), fun _ _ _ hs => hs, fun _ hx => hx, fun _ _ hE => ⟨hE, rfl⟩, .refl _, rfl⟩
  refine ⟨⟨len_set hR.len, hR.lim, hR.dom, ?_, ?_, fun _ => Iff.rfl, fun k hk => hR.notX k ((hR.own k).2 (hk.imp (hown k) (fun x => x))), hR.old, fun k hk => ⟨(hR.pend k hk).1, fun ho => (hR.pend k hk).2 (hown k ho)⟩, hR.glob.mono hle⟩, hle⟩
  · intro i oi hgi
    by_cases e : i = id
    · subst e
      rw [get_set_same hR.len hg] at hgi
      cases hgi
      trivial
    · rw [get_set_other hid e] at hgi
      exact (hR.obj i oi hgi).mono hle fun _ _ _ _ => rfl
  · intro i j oi oj k x y hi hj hai haj hri hrj
    have key : ∀ i oi, (h.set id .dead).get i = some oi → alive oi = true → h.get i = some oi := by
      intro i oi hi hai
      by_cases e : i = id
      · subst e; rw [get_set_same hR.len hg] at hi; cases hi; simp [alive] at hai
      · rwa [get_set_other hid e] at hi
    exact hR.inj i j oi oj k x y (key i oi hi hai) (key j oj hj haj) hai haj hri hrj

end Go.Dm
