/-
Part 3 of "Dm": operations of the program's code brought into the machine's form, and what each does is what the machine says: those that write nothing.
-/
import Derived.Test.YtkhmbjajaibinaaGreatDoorDm2
namespace Go.Dm

/-! ## bringing operations into form -/

def const1 : Value → Option DV
  | .bool b => some (.bool b)
  | .int k n => some (.int k n)
  | .string s => some (.str s.data.toList)
  | .pointer none => some .nilp
  | .slice none 0 0 => some .nsl
  | .map none => some .nmap
  | .nilFunc => some .nilf
  | .nilIface => some .nili
  | _ => none

def constD : Value → Option DV
  | .agg cs => (cs.toList.mapM const1).map .agg
  | v => const1 v

def opd : Operand → Option Opd
  | .tmp t => some (.t t)
  | .const v => (constD v).map .c
  | .func f => some (.c (.func f []))
  | .global _ => none

/-- An element type: cells, bytes, zero. -/
def elemOf' (P : Program) (e : TypeId) : Option (Nat × Nat × DV) :=
  match P.info? e with
  | some i => match i.zero.bind constD with
    | some z => if 0 < i.size ∧ storable i.size z = true then some (i.size, i.bytes, z) else none
    | none => none
  | none => none

/-- How a variable of a type is read: one cell, or so many. -/
def nOf (P : Program) (t : TypeId) : Option (Option Nat) :=
  match P.underlying t, P.info? t with
  | some (.struct _), some i => some (some i.size)
  | some (.array _ _), some i => some (some i.size)
  | some _, some _ => some none
  | _, _ => none

/-- The kinds of the cells of fields that lie one behind the other. -/
def flatGo (f : TypeId → Option (List Nat)) : List Field → Nat → Option (List Nat)
  | [], _ => some []
  | x :: fs, o =>
    if x.name ≠ "_" ∧ x.offset = o then
      match f x.type with
      | some ks => match flatGo f fs (o + ks.length) with
        | some r => some (ks ++ r)
        | none => none
      | none => none
    else none

/-- The kinds of the cells of a type whose values are the same if their cells are. -/
def flatK (P : Program) : Nat → TypeId → Option (List Nat)
  | 0, _ => none
  | d + 1, t =>
    match P.underlying t, P.info? t with
    | some .bool, some i => if i.size = 1 then some [0] else none
    | some (.int _), some i => if i.size = 1 then some [1] else none
    | some .string, some i => if i.size = 1 then some [2] else none
    | some (.struct fs), some i =>
      if P.stoodInHeld t = false ∧ P.eqGuardType P.depth t = false then
        match flatGo (flatK P d) fs.toList 0 with
        | some ks => if i.size = ks.length ∧ 0 < ks.length then some ks else none
        | none => none
      else none
    | some (.array n e), some i =>
      if P.eqGuardType P.depth t = false then
        match flatK P d e with
        | some ks => if i.size = n * ks.length ∧ 0 < n then some (List.replicate n ks).flatten else none
        | none => none
      else none
    | _, _ => none

def eqT (P : Program) (t : TypeId) : Option EqT :=
  match P.underlying t with
  | some .bool => some (.prim 0)
  | some (.int _) => some (.prim 1)
  | some .string => some (.prim 2)
  | some (.struct _) | some (.array _ _) => (flatK P 20 t).map .agg
  | _ => none

def optOpd : Option Operand → Option (Option Opd)
  | none => some none
  | some x => (opd x).map some

def nilKind : TypeDesc → Option Nat
  | .pointer _ => some 0
  | .slice _ => some 1
  | .map _ _ => some 2
  | .func _ _ _ => some 3
  | .interface _ => some 4
  | _ => none

def isNilConst : Operand → Bool
  | .const .nilIface | .const .nilFunc | .const (.pointer none) | .const (.slice none 0 0) | .const (.map none) => true
  | _ => false

/-- What is not covered: it never has an answer. -/
def failOp : DOp := .extract (.c .nilp) 0

theorem fail_never {h : Heap} {env : Env} {r : DV × Heap} (hs : stepOp h env failOp = some r) : False := by
  simp [failOp, stepOp, Opd.eval] at hs

def compOp (P : Program) (o : Oper) : Option DOp :=
  match o.op with
  | .move x | .assign x => (opd x).map .move
  | .pick c a b => match opd c, opd a, opd b with | some c, some a, some b => some (.pick c a b) | _, _, _ => none
  | .alloc e => match elemOf' P e with | some (sz, _, z) => some (.alloc e sz z) | none => none
  | .box e x => match elemOf' P e, opd x with | some (sz, _, _), some x => some (.box e sz x) | _, _ => none
  | .build t parts => match P.underlying t, elemOf' P t with
    | some (.struct fs), some (_, _, .agg z) =>
      match parts.toList.mapM fun (i, x) => (match fs[i]?, opd x with
        | some f, some x => (match P.info? f.type with | some fi => some (f.offset, fi.size, x) | none => none)
        | _, _ => none) with
      | some ps => if fs.toList.all (fun f => (P.info? f.type).isSome) then some (.build z ps) else none
      | none => none
    | some (.array _ e), some (_, _, .agg z) => match elemOf' P e with
      | some (sz, _, _) => match parts.toList.mapM fun (i, x) => (opd x).map fun x => (i * sz, sz, x) with
        | some ps => some (.build z ps)
        | none => none
      | none => none
    | _, _ => none
  | .buildSlice t len parts => match P.underlying t with
    | some (.slice e) => match elemOf' P e with
      | some (sz, _, z) => match parts.toList.mapM fun (i, x) => (opd x).map fun x => (i, x) with
        | some ps => if len * sz ≤ 16777216 then some (.buildSlice e sz z len ps) else none
        | none => none
      | none => none
    | _ => none
  | .load t a => match nOf P t, opd a with | some n, some a => some (.load n a) | _, _ => none
  | .store t a x => match P.info? t, opd a, opd x with | some i, some a, some x => if 0 < i.size then some (.store i.size a x) else none | _, _, _ => none
  | .nilCheck x => (opd x).map .nilCheck
  | .binOp op t x y _ => match opd x, opd y with
    | some x', some y' => match P.underlying t with
      | some (.int _) | some .string => some (.arith op x' y')
      | some .bool => match op with | .eql => some (.eqb false x' y') | .neq => some (.eqb true x' y') | _ => none
      | some (.struct _) | some (.array _ _) => match flatK P 20 t, op with
        | some ks, .eql => some (.eqa false ks x' y')
        | some ks, .neq => some (.eqa true ks x' y')
        | _, _ => none
      | some d => match nilKind d with
        | some k => if isNilConst x || isNilConst y then (match op with | .eql => some (.eqn k false x' y') | .neq => some (.eqn k true x' y') | _ => none) else none
        | none => none
      | _ => none
    | _, _ => none
  | .unOp op _ x => (opd x).map (.un op)
  | .convert src dst x => match P.underlying src, P.underlying dst, opd x with
    | some (.int _), some (.int k), some x => some (.conv k x)
    | some .string, some .string, some x => some (.asStr x)
    | _, _, _ => some failOp
  | .makeFunc (.func f) first cap => if first.isEmpty then (match cap.toList.mapM opd with | some c => some (.makeFunc f c) | none => none) else none
  | .fieldAddr s x f => match P.underlying s, opd x with
    | some (.struct fs), some x => match fs[f]? with
      | some fl => match P.info? fl.type with | some i => if i.size ≠ 0 then some (.fieldAddr fl.offset x) else none | none => none
      | none => none
    | _, _ => none
  | .field s x f => match P.underlying s, opd x with
    | some (.struct fs), some x => match fs[f]? with
      | some fl => match nOf P fl.type with | some n => some (.field fl.offset n x) | none => none
      | none => none
    | _, _ => none
  | .indexAddr t x i => match P.underlying t, opd x, opd i with
    | some (.slice e), some x, some i => match P.info? e with | some fi => if 0 < fi.size then some (.indexAddr fi.size x i) else none | none => none
    | some (.array len e), some x, some i => match P.info? e with | some fi => if 0 < fi.size then some (.indexArr len fi.size x i) else none | none => none
    | _, _, _ => none
  | .index t x i => match P.underlying t, opd x, opd i with
    | some (.array len e), some x, some i => match P.info? e, nOf P e with | some fi, some n => some (.index len fi.size n x i) | _, _ => none
    | some .string, some x, some i => some (.indexStr x i)
    | _, _, _ => none
  | .slice t x lo hi none => match P.underlying t, opd x, optOpd lo, optOpd hi with
    | some .string, some x, some lo, some hi => some (.sliceStr x lo hi)
    | some (.slice e), some x, some lo, some hi => match P.info? e with | some fi => if 0 < fi.size then some (.sliceSl fi.size x lo hi) else none | none => none
    | _, _, _, _ => none
  | .slice t x (some lo) (some hi) (some mx) => match P.underlying t, opd x, opd lo, opd hi, opd mx with
    | some (.slice e), some x, some lo, some hi, some mx => match P.info? e with | some _ => some (.slice3 x lo hi mx) | none => none
    | _, _, _, _, _ => none
  | .makeSlice t l c => match P.underlying t with
    | some (.slice e) => match elemOf' P e, opd l, opd c with | some (sz, b, z), some l, some c => some (.makeSlice e sz b z l c) | _, _, _ => none
    | _ => none
  | .makeMap _ none => some .makeMap
  | .lookup t m k ok => match P.underlying t with
    | some (.map key e) => match elemOf' P e, opd m, opd k, eqT P key with | some (_, _, z), some m, some k, some q => some (.lookup q z ok m k) | _, _, _, _ => none
    | _ => none
  | .mapUpdate t m k x | .insert t m k x => match P.underlying t with
    | some (.map key _) => match opd m, opd k, opd x, eqT P key with | some m, some k, some x, some q => some (.mapUpdate q m k x) | _, _, _, _ => none
    | _ => none
  | .extract x i => (opd x).map fun x => .extract x i
  | .makeInterface t x => match P.underlying t, opd x with
    | some (.interface _), _ => none
    | some _, some x => some (.makeIface t x)
    | _, _ => none
  | .call { callee := .builtin b, args, argTypes } =>
    match b, args.toList, argTypes.toList with
    | .len, [x], [t] => match P.underlying t, opd x with
      | some .string, some x => some (.len 0 x)
      | some (.slice _), some x => some (.len 1 x)
      | some (.map _ _), some x => some (.len 2 x)
      | some (.array n _), some _ => some (.move (.c (.int .i64 n)))
      | _, _ => none
    | .cap, [x], [t] => match P.underlying t, opd x with | some (.slice _), some x => some (.cap x) | _, _ => none
    | .append, [s, x], [t, u] => match P.underlying t with
      | some (.slice e) => match elemOf' P e, opd s, opd x, P.underlying u with
        | some (sz, b, _), some s, some x, some (.slice e') => if e = e' then some (.append e sz b s x) else none
        | some (sz, b, z), some s, some x, some (.int _) => some (.appendZ e sz b z s x)
        | _, _, _, _ => none
      | _ => none
    | .copy, [d, s], [t, u] => match P.underlying t, P.underlying u with
      | some (.slice e), some (.slice e') => match P.info? e, opd d, opd s with | some fi, some d, some s => if 0 < fi.size ∧ e = e' then some (.copy fi.size d s) else none | _, _, _ => none
      | _, _ => none
    | .clear, [x], [t] => match P.underlying t with
      | some (.slice e) => match elemOf' P e, opd x with | some (sz, _, z), some x => some (.clear sz z x) | _, _ => none
      | _ => none
    | .max, [x, y], _ => match opd x, opd y with | some x, some y => some (.minmax true x y) | _, _ => none
    | .min, [x, y], _ => match opd x, opd y with | some x, some y => some (.minmax false x y) | _, _ => none
    | _, _, _ => some failOp
  | .call { callee := .value f, args, .. } => match opd f, args.toList.mapM opd with | some f, some as => some (.call f as) | _, _ => none
  | _ => some failOp

/-! ## operands -/

structure EnvR (c : Ctx) (env : Env) (a : Act) : Prop where
  size : a.tmps.size = env.length
  defers : a.defers = []
  val : ∀ i (h : i < env.length), VR c env[i] (a.tmps.getD i undef)

theorem mapM_length {α β : Type} (f : α → Option β) : ∀ (l : List α) (r : List β), l.mapM f = some r → r.length = l.length := by
  intro l
  induction l with
  | nil => intro r h; simp at h; subst h; rfl
  | cons x l ih =>
    intro r h
    simp only [List.mapM_cons, Option.pure_def, Option.bind_eq_bind, Option.bind_eq_some_iff] at h
    obtain ⟨y, hy, ys, hys, h⟩ := h
    cases h
    simp [ih ys hys]

theorem mapM_get {α β : Type} (f : α → Option β) : ∀ (l : List α) (r : List β), l.mapM f = some r → ∀ i (h1 : i < l.length) (h2 : i < r.length), f l[i] = some r[i] := by
  intro l
  induction l with
  | nil => intro r h i h1; simp at h1
  | cons x l ih =>
    intro r h i h1 h2
    simp only [List.mapM_cons, Option.pure_def, Option.bind_eq_bind, Option.bind_eq_some_iff] at h
    obtain ⟨y, hy, ys, hys, h⟩ := h
    cases h
    cases i with
    | zero => simpa using hy
    | succ i => simpa using ih ys hys i (by simpa using h1) (by simpa using h2)

theorem const1_VR {v : Value} {d : DV} (h : const1 v = some d) (c : Ctx) : VR c d v ∧ v.oneCell' = true := by
  unfold const1 at h
  split at h <;> first | cases h | skip
  · exact ⟨.bool _, rfl⟩
  · exact ⟨.int _ _, rfl⟩
  · rename_i s
    refine ⟨?_, rfl⟩
    have : VR c (.str s.data.toList) (.string ⟨s.data.toList.toArray⟩) := .str _
    simpa using this
  · exact ⟨.nilp, rfl⟩
  · exact ⟨.nsl none, rfl⟩
  · exact ⟨.nmap, rfl⟩
  · exact ⟨.nilf, rfl⟩
  · exact ⟨.nili, rfl⟩

theorem constD_VR {v : Value} {d : DV} (h : constD v = some d) (c : Ctx) : VR c d v := by
  unfold constD at h
  split at h
  · rename_i cs
    simp only [Option.map_eq_some_iff] at h
    obtain ⟨ds, hds, rfl⟩ := h
    have hl := mapM_length _ _ _ hds
    have := VR.agg (c := c) (ds := ds) (vs := cs.toList) hl (fun i h2 => (const1_VR (mapM_get _ _ _ hds i h2 (by omega)) c).2)
      (fun i h1 h2 => (const1_VR (mapM_get _ _ _ hds i h2 h1) c).1)
    simpa using this
  · exact (const1_VR h c).1

theorem opd_VR {x : Operand} {x' : Opd} (hx : opd x = some x') {c : Ctx} {env : Env} {a : Act} (hE : EnvR c env a) : VR c (x'.eval env) (a.eval x) := by
  unfold opd at hx
  split at hx
  · rename_i t
    cases hx
    simp only [Opd.eval, Act.eval]
    by_cases ht : t < env.length
    · rw [List.getElem?_eq_getElem ht]; exact hE.val t ht
    · rw [List.getElem?_eq_none (Nat.le_of_not_lt ht)]; exact .unk _
  · rename_i v
    simp only [Option.map_eq_some_iff] at hx
    obtain ⟨d, hd, rfl⟩ := hx
    exact constD_VR hd c
  · cases hx
    exact .func (ds := []) (vs := []) rfl (fun i h1 _ => absurd h1 (by simp))
  · cases hx

/-! ## what a step is -/

/-- A world in which what was said of the state is still so. -/
def Post (_h : Heap) (c : Ctx) (h' : Heap) (w' : World) (d : DV) (v : Value) : Prop :=
  ∃ ρ', Rel h' (c.next w' ρ' h') ∧ CtxLe c (c.next w' ρ' h') ∧ VR (c.next w' ρ' h') d v

theorem Rel.same {h : Heap} {c : Ctx} (hR : Rel h c) : c.next c.w c.ρ h = c := by
  have : (fun b => ownB h c.ρ b ∨ c.E b) = c.O := by funext b; exact propext (hR.own b).symm
  cases c
  simp only [Ctx.next] at *
  rw [this]

/-- Nothing is written. -/
theorem Post.pure {h : Heap} {c : Ctx} (hR : Rel h c) {d : DV} {v : Value} (hv : VR c d v) : Post h c h c.w d v :=
  ⟨c.ρ, by rw [hR.same]; exact ⟨hR, CtxLe.refl c, hv⟩⟩

/-- Only a count of draws moves, or what else is no memory. -/
theorem Rel.heapEq {h : Heap} {c : Ctx} (hR : Rel h c) (w' : World) (hw : w'.heap = c.w.heap) (hq : w'.os = c.w.os ∧ w'.output = c.w.output := by exact ⟨rfl, rfl⟩) : Rel h (c.next w' c.ρ h) ∧ CtxLe c (c.next w' c.ρ h) := by
  have hO : ∀ b, (ownB h c.ρ b ∨ c.E b) → c.O b := fun b hb => (hR.own b).2 hb
  have hle : CtxLe c (c.next w' c.ρ h) :=
    ⟨fun _ _ hp => hp, by simp [Ctx.next, hw], fun _ _ _ => by simp [Ctx.next, hw], fun b hb => .inl (hO b hb), fun b e n hs => by simpa [Ctx.next, World.shape?, hw] using hs, fun _ hx => hx, fun _ _ hE => ⟨hE, by simp [Ctx.next, hw]⟩, ⟨hq.1, hq.2, fun a => by simp only [World.frozen?, Ctx.next, hw]⟩, rfl⟩
  exact ⟨⟨hR.len, hR.lim, hR.dom, fun id o hg => (hR.obj id o hg).mono hle (fun _ _ _ _ => by simp [Ctx.next, hw]), hR.inj, fun _ => Iff.rfl, fun b hb => hR.notX b (hO b hb), fun b hb => by simpa [Ctx.next, hw] using hR.old b hb, fun b hb => ⟨by simpa [Ctx.next, hw] using (hR.pend b hb).1, (hR.pend b hb).2⟩, hR.glob.mono hle⟩, hle⟩

def Steps1 (P : Program) (h : Heap) (c : Ctx) (o : Oper) (a : Act) (h' : Heap) (d : DV) : Prop :=
  ∃ nx v w', (execOp a.eval o).run P c.w = .ok nx w' ∧ (nx = .value v ∨ (nx = .skip ∧ v = undef)) ∧ Post h c h' w' d v

/-- A step that turns nothing. -/
def Steps0 (P : Program) (h : Heap) (c : Ctx) (o : Oper) (a : Act) (h' : Heap) (d : DV) : Prop :=
  h' = h ∧ ∃ nx v, (execOp a.eval o).run P c.w = .ok nx c.w ∧ (nx = .value v ∨ (nx = .skip ∧ v = undef)) ∧ VR c d v

theorem Steps0.value {P : Program} {h : Heap} {c : Ctx} {o : Oper} {a : Act} {d : DV} (v : Value) (hr : (execOp a.eval o).run P c.w = .ok (.value v) c.w) (hv : VR c d v) : Steps0 P h c o a h d :=
  ⟨rfl, _, v, hr, .inl rfl, hv⟩

theorem Steps0.toSteps1 {P : Program} {h : Heap} {c : Ctx} {o : Oper} {a : Act} {h' : Heap} {d : DV} (hR : Rel h c) (hs : Steps0 P h c o a h' d) : Steps1 P h c o a h' d := by
  obtain ⟨rfl, nx, v, h1, h2, h3⟩ := hs
  exact ⟨nx, v, c.w, h1, h2, Post.pure hR h3⟩

theorem Steps1.value {P : Program} {h : Heap} {c : Ctx} {o : Oper} {a : Act} {d : DV} (hR : Rel h c) (v : Value) (hr : (execOp a.eval o).run P c.w = .ok (.value v) c.w) (hv : VR c d v) : Steps1 P h c o a h d :=
  ⟨_, v, c.w, hr, .inl rfl, Post.pure hR hv⟩

/-! ## reading -/

/-- Cells over memory. -/
def CellsAt (c : Ctx) (cs : List DV) (b o : Nat) : Prop :=
  ∀ j (hj : j < cs.length), ∃ u, c.w.cell? ⟨b, o + j, none⟩ = some u ∧ u.oneCell' = true ∧ VR c cs[j] u

theorem cell_of_heap {w : World} {b i : Nat} {cur : Array Value} {e : TypeId} {fr : Nat × Nat} (h : w.heap[b]? = some (.cells cur e fr)) : w.cell? ⟨b, i, none⟩ = cur[i]? := by
  simp [World.cell?, h]

theorem loadP_view {h : Heap} {c : Ctx} (hR : Rel h c) {n : Option Nat} {d r : DV} {v : Value} (hv : VR c d v) (hl : loadP h n d = some r) :
    ∃ b o off cs, v = .pointer (some ⟨b, o + off, none⟩) ∧ pickCells n cs off = some r ∧ CellsAt c cs b o := by
  cases hv <;> simp only [loadP] at hl <;> try (cases hl)
  case ptr id sz idx off b base hρ =>
    split at hl
    · rename_i ety sz' xs cap hg
      split at hl
      · rename_i hs
        subst hs
        split at hl
        · rename_i e he
          obtain ⟨b', base', cur, m, h1, h2, h3, h4, h5, h6, _, h7⟩ := hR.obj id _ hg
          rw [hρ] at h1; cases h1
          refine ⟨b, base + idx * sz, off, ecells sz e, rfl, hl, fun j hj => ?_⟩
          have hidx : idx < xs.length := (List.getElem?_eq_some_iff.1 he).1
          have hee : xs[idx] = e := (List.getElem?_eq_some_iff.1 he).2
          obtain ⟨u, a1, a2, a3⟩ := (h7 idx hidx).2 j (by rw [hee]; exact hj)
          refine ⟨u, by rw [cell_of_heap h2]; exact a1, a2, ?_⟩
          simpa only [hee] using a3
        · cases hl
      · cases hl
    · cases hl
  case iptr lent cs off b o vals hb hO hX hc hv =>
    exact ⟨b, o, off, cs, rfl, hl, fun j hj => ⟨vals j, (hc j hj).1, (hc j hj).2, (hv j hj).of_still⟩⟩

theorem pick_sound {P : Program} {c : Ctx} {n : Option Nat} {cs : List DV} {off b o : Nat} {r : DV} (hp : pickCells n cs off = some r) (hc : CellsAt c cs b o)
    {t : TypeId} (hn : nOf P t = some n) : ∃ u, (loadVar t ⟨b, o + off, none⟩).run P c.w = .ok u c.w ∧ VR c r u := by
  unfold nOf at hn
  unfold pickCells at hp
  have agg : ∀ (i : TypeInfo), P.info? t = some i → n = some i.size → (isAgg t).run P c.w = .ok true c.w → ∃ u, (loadVar t ⟨b, o + off, none⟩).run P c.w = .ok u c.w ∧ VR c r u := by
    intro i hi hn' hagg
    subst hn'
    simp only at hp
    split at hp
    · rename_i hle
      cases hp
      have hf : ∀ j, j < i.size → ∃ u, c.w.cell? ⟨b, o + off + j, none⟩ = some u ∧ u.oneCell' = true ∧ ∀ (hj : off + j < cs.length), VR c cs[off + j] u := by
        intro j hj
        obtain ⟨u, a1, a2, a3⟩ := hc (off + j) (by omega)
        exact ⟨u, by rw [Nat.add_assoc]; exact a1, a2, fun _ => a3⟩
      let f : Nat → Value := fun j => if hj : j < i.size then Classical.choose (hf j hj) else undef
      have hfs : ∀ j (hj : j < i.size), c.w.cell? ⟨b, o + off + j, none⟩ = some (f j) ∧ (f j).oneCell' = true ∧ ∀ (hj : off + j < cs.length), VR c cs[off + j] (f j) := by
        intro j hj
        have := Classical.choose_spec (hf j hj)
        simp only [f, dif_pos hj]
        exact this
      refine ⟨.agg ((List.range i.size).map f).toArray, ?_, ?_⟩
      · have hlc := run_loadCells (P := P) c.w ⟨b, o + off, none⟩ i.size f (fun j hj => by rw [Addr.add_lit]; exact (hfs j hj).1)
        simp only [loadVar, Sem.run_bind, hagg, Result.andThen_ok, if_true]
        simp [sizeOf, typeInfo, hi, hlc]
      · refine .agg (by simp; omega) (fun j hj => ?_) (fun j hj1 hj2 => ?_)
        · simp only [List.length_map, List.length_range] at hj
          simp only [List.getElem_map, List.getElem_range]
          exact (hfs j hj).2.1
        · simp only [List.length_map, List.length_range] at hj2
          simp only [List.getElem_map, List.getElem_range, List.getElem_take, List.getElem_drop]
          exact (hfs j hj2).2.2 (by omega)
    · cases hp
  split at hn
  · rename_i fs i hu hi
    cases hn
    exact agg i hi rfl (by simp [isAgg, run_underlying hu])
  · rename_i k e i hu hi
    cases hn
    exact agg i hi rfl (by simp [isAgg, run_underlying hu])
  · rename_i d i hns hna hu hi
    cases hn
    simp only at hp
    obtain ⟨hlt, hr⟩ := List.getElem?_eq_some_iff.1 hp
    obtain ⟨u, a1, a2, a3⟩ := hc off hlt
    refine ⟨u, ?_, hr ▸ a3⟩
    have hagg : (isAgg t).run P c.w = .ok false c.w := by
      simp only [isAgg, Sem.run_bind, run_underlying hu, Result.andThen_ok]
      cases d <;> first | rfl | (exact absurd rfl (hns _)) | (exact absurd rfl (hna _ _))
    simp [loadVar, hagg, a1]
  · cases hn

end Go.Dm
