/-
A small deterministic machine over data ("Dm"), part 1: its data, its heap, its operations, its runs. Slices that are known to be no longer written are plain lists; what is still written lies in a heap of objects, named by numbers; capacities, the tape and the order of evaluation do not occur.
-/
import Derived.Orders
import Derived.LoopN
import Derived.Laws.AppendOwn
import Derived.Laws.StructEq
namespace Go.Dm

inductive DV where
  | unk
  | bool (b : Bool)
  | int (k : IntKind) (n : Int)
  | atl (n : Nat)
  | tok (i : Nat)
  | str (s : List UInt8)
  | nilp
  | ptr (id sz idx off : Nat)
  | iptr (lent : Bool) (cells : List DV) (off : Nat)
  | nsl
  | sl (id sz off len : Nat)
  | isl (lent : Bool) (sz : Nat) (xs : List DV)
  | nmap
  | map (id : Nat)
  | func (f : FuncId) (cap : List DV)
  | nilf
  | iface (t : TypeId) (v : DV)
  | nili
  | agg (cs : List DV)
  | tup (vs : List DV)
  deriving Inhabited

/-- May it lie in one cell? -/
def DV.one : DV → Bool
  | .agg _ | .tup _ | .tok _ => false
  | _ => true

/-- The cells of an element of so many cells. -/
def ecells (sz : Nat) : DV → List DV
  | .agg cs => cs
  | .unk => List.replicate sz .unk
  | .tup _ => []
  | x => [x]

inductive DO where
  | arr (ety sz : Nat) (xs : List DV) (cap : Option Nat)
  | mp (es : List (DV × DV))
  | dead
  deriving Inhabited

/-- The objects, the newest one first; how many there are; those below lim may not be written. -/
structure Heap where
  objs : List DO
  n : Nat
  lim : Nat
  deriving Inhabited

def Heap.get (h : Heap) (id : Nat) : Option DO := if id < h.n then h.objs[h.n - 1 - id]? else none
def Heap.push (h : Heap) (o : DO) : Heap := { h with objs := o :: h.objs, n := h.n + 1 }
def Heap.set (h : Heap) (id : Nat) (o : DO) : Heap := { h with objs := h.objs.set (h.n - 1 - id) o }

inductive Opd where
  | t (n : Nat)
  | c (v : DV)
  deriving Inhabited

abbrev Env := List DV

def Opd.eval (env : Env) : Opd → DV
  | .t n => (env[n]?).getD .unk
  | .c v => v

/-- How values of a type are compared. -/
inductive EqT where
  | prim (k : Nat)
  | agg (ks : List Nat)
  deriving Inhabited

inductive DOp where
  | move (x : Opd)
  | pick (c a b : Opd)
  | alloc (ety sz : Nat) (z : DV)
  | box (ety sz : Nat) (x : Opd)
  | build (zero : List DV) (parts : List (Nat × Nat × Opd))
  | buildSlice (ety sz : Nat) (z : DV) (len : Nat) (parts : List (Nat × Opd))
  | load (n : Option Nat) (a : Opd)
  | store (n : Nat) (a x : Opd)
  | nilCheck (x : Opd)
  | arith (op : BinOp) (x y : Opd)
  | eqb (neq : Bool) (x y : Opd)
  | eqa (neq : Bool) (ks : List Nat) (x y : Opd)
  | eqn (k : Nat) (neq : Bool) (x y : Opd)
  | un (op : UnOp) (x : Opd)
  | conv (k : IntKind) (x : Opd)
  | asStr (x : Opd)
  | fieldAddr (off : Nat) (x : Opd)
  | field (off : Nat) (n : Option Nat) (x : Opd)
  | indexAddr (sz : Nat) (x i : Opd)
  | indexArr (len esz : Nat) (x i : Opd)
  | index (len esz : Nat) (n : Option Nat) (x i : Opd)
  | indexStr (x i : Opd)
  | sliceStr (x : Opd) (lo hi : Option Opd)
  | sliceSl (sz : Nat) (x : Opd) (lo hi : Option Opd)
  | slice3 (x lo hi mx : Opd)
  | len (k : Nat) (x : Opd)
  | cap (x : Opd)
  | append (ety sz bytes : Nat) (s x : Opd)
  | appendZ (ety sz bytes : Nat) (z : DV) (s x : Opd)
  | copy (sz : Nat) (d s : Opd)
  | clear (sz : Nat) (z : DV) (x : Opd)
  | makeSlice (ety sz bytes : Nat) (z : DV) (l c : Opd)
  | minmax (mx : Bool) (x y : Opd)
  | makeFunc (f : FuncId) (cap : List Opd)
  | makeMap
  | lookup (q : EqT) (z : DV) (ok : Bool) (m k : Opd)
  | mapUpdate (q : EqT) (m k x : Opd)
  | delete (q : EqT) (m k : Opd)
  | extract (x : Opd) (i : Nat)
  | makeIface (t : TypeId) (x : Opd)
  | call (f : Opd) (args : List Opd)
  deriving Inhabited

/-- What an operation of a region with an open order does to the heap: nothing; it adds to it alone; it may turn it (then its order against all that reads is settled). -/
inductive OKind where
  | read | create | write
  deriving DecidableEq, Inhabited

structure DOper where
  dst : Option Nat
  op : DOp
  guard : Option (Nat × Bool)
  kind : OKind
  snap : Nat
  deriving Inhabited

inductive DCode where
  | skip
  | seq (a b : DCode)
  | cond (c : Opd) (a b : DCode)
  | block (id : Nat) (b : DCode)
  | loop (b : DCode)
  | exit (id : Nat)
  | ret
  | region (ops : List DOper)
  | draw (ops : List DOper)
  deriving Inhabited

inductive DRes where
  | t (n : Nat)
  | cell (a : Nat) (n : Option Nat)
  deriving Inhabited

inductive CMode where
  | full | fresh | pure | split
  deriving DecidableEq, Inhabited

structure DFunc where
  ntmps : Nat
  results : List DRes
  body : DCode
  mode : CMode
  deriving Inhabited

/-- What is put in the place of a body. -/
abbrev Hook := Heap → List DV → Option (DV × Heap)

structure DProg where
  fn : Nat → Option DFunc
  hook : Nat → Option Hook

/-! ## operations -/

/-- A part of some cells: one, or so many. -/
def pickCells (n : Option Nat) (cs : List DV) (off : Nat) : Option DV :=
  match n with
  | none => cs[off]?
  | some n => if off + n ≤ cs.length then some (.agg ((cs.drop off).take n)) else none

def loadP (h : Heap) (n : Option Nat) : DV → Option DV
  | .ptr id sz idx off =>
    match h.get id with
    | some (.arr _ sz' xs _) =>
      if sz = sz' then
        match xs[idx]? with
        | some e => pickCells n (ecells sz e) off
        | none => none
      else none
    | _ => none
  | .iptr _ cs off => pickCells n cs off
  | _ => none

/-- What may be stored: so many cells, all known to be one cell each. -/
def storable (n : Nat) (x : DV) : Bool :=
  match x with
  | .unk | .tup _ | .tok _ => false
  | .agg cs => cs.length == n
  | _ => n == 1

/-- An element turned at some of its cells. -/
def turn (sz off n : Nat) (e x : DV) : DV :=
  if off = 0 ∧ n = sz then x
  else .agg ((ecells sz e).take off ++ ecells n x ++ (ecells sz e).drop (off + n))

def storeP (h : Heap) (n : Nat) (a x : DV) : Option Heap :=
  match a with
  | .ptr id sz idx off =>
    match h.get id with
    | some (.arr ety sz' xs cap) =>
      if sz = sz' ∧ h.lim ≤ id ∧ storable n x = true ∧ off + n ≤ sz then
        match xs[idx]? with
        | some e => if (ecells sz e).length = sz then some (h.set id (.arr ety sz (xs.set idx (turn sz off n e x)) cap)) else none
        | none => none
      else none
    | _ => none
  | _ => none

/-- Two plain values of one kind: 0 bools, 1 integers, 2 texts. -/
def primEq (k : Nat) : DV → DV → Option Bool
  | .bool a, .bool b => if k = 0 then some (a == b) else none
  | .int q a, .int q' b => if k = 1 ∧ q = q' then some (a == b) else none
  | .str a, .str b => if k = 2 then some (a == b) else none
  | _, _ => none

def cellsEq : List Nat → List DV → List DV → Option Bool
  | [], [], [] => some true
  | k :: ks, x :: xs, y :: ys =>
    match primEq k x y with
    | some b => match cellsEq ks xs ys with | some b' => some (b && b') | none => none
    | none => none
  | _, _, _ => none

def eqBy : EqT → DV → DV → Option Bool
  | .prim k, x, y => primEq k x y
  | .agg ks, .agg xs, .agg ys => cellsEq ks xs ys
  | .agg _, _, _ => none

/-- A value against nil, by its kind: 0 pointers, 2 maps, 3 functions, 4 interfaces. -/
def nilEq (k : Nat) : DV → DV → Option Bool
  | .nilp, .nilp => if k = 0 then some true else none
  | .nilp, .ptr .. | .nilp, .iptr .. | .ptr .., .nilp | .iptr .., .nilp => if k = 0 then some false else none
  | .nmap, .nmap => if k = 2 then some true else none
  | .nmap, .map _ | .map _, .nmap => if k = 2 then some false else none
  | .nilf, .nilf => if k = 3 then some true else none
  | .nilf, .func .. | .func .., .nilf => if k = 3 then some false else none
  | .nili, .nili => if k = 4 then some true else none
  | .nili, .iface .. | .iface .., .nili => if k = 4 then some false else none
  | _, _ => none

def arithD (op : BinOp) : DV → DV → Option DV
  | .int k a, .int k' b =>
    match op with
    | .shl => if b < 0 then none else some (.int k (k.wrap (a * 2 ^ (min b.toNat k.bits))))
    | .shr => if b < 0 then none else some (.int k (a.fdiv (2 ^ (min b.toNat k.bits))))
    | _ =>
      if k = k' then
        match op with
        | .add => some (.int k (k.wrap (a + b)))
        | .sub => some (.int k (k.wrap (a - b)))
        | .mul => some (.int k (k.wrap (a * b)))
        | .quo => if b = 0 then none else some (.int k (k.wrap (a.tdiv b)))
        | .rem => if b = 0 then none else some (.int k (a.tmod b))
        | .and => some (.int k (k.wrap (BitVec.ofInt k.bits a &&& BitVec.ofInt k.bits b).toNat))
        | .or => some (.int k (k.wrap (BitVec.ofInt k.bits a ||| BitVec.ofInt k.bits b).toNat))
        | .xor => some (.int k (k.wrap (BitVec.ofInt k.bits a ^^^ BitVec.ofInt k.bits b).toNat))
        | .andNot => some (.int k (k.wrap (BitVec.ofInt k.bits a &&& ~~~ BitVec.ofInt k.bits b).toNat))
        | .eql => some (.bool (a == b))
        | .neq => some (.bool (a != b))
        | .lss => some (.bool (decide (a < b)))
        | .leq => some (.bool (decide (a ≤ b)))
        | .gtr => some (.bool (decide (b < a)))
        | .geq => some (.bool (decide (b ≤ a)))
        | _ => none
      else none
  | .int k a, .atl n =>
    match op with
    | .gtr => if k = .i64 ∧ a ≤ (n : Int) then some (.bool false) else none
    | _ => none
  | .str a, .str b =>
    match op with
    | .add => if a.length + b.length ≤ 9223372036854775807 then some (.str (a ++ b)) else none
    | .eql => some (.bool (a == b))
    | .neq => some (.bool (!(a == b)))
    | .lss => some (.bool (Go.Op.bytesLess a b))
    | .leq => some (.bool (Go.Op.bytesLess a b || a == b))
    | .gtr => some (.bool (!(Go.Op.bytesLess a b || a == b)))
    | .geq => some (.bool (!Go.Op.bytesLess a b))
    | _ => none
  | _, _ => none

def unD (op : UnOp) : DV → Option DV
  | .bool b => match op with | .not => some (.bool (!b)) | _ => none
  | .int k n => match op with | .neg => some (.int k (k.wrap (0 - n))) | _ => none
  | _ => none

def fillCells (cs : List DV) : List (Nat × Nat × DV) → Option (List DV)
  | [] => some cs
  | (off, n, v) :: r => if storable n v = true ∧ off + n ≤ cs.length then fillCells (cs.take off ++ ecells n v ++ cs.drop (off + n)) r else none

def fillElems (sz : Nat) (xs : List DV) : List (Nat × DV) → Option (List DV)
  | [] => some xs
  | (i, v) :: r => if storable sz v = true ∧ i < xs.length then fillElems sz (xs.set i v) r else none

def asI : DV → Option Int
  | .int _ n => some n
  | _ => none

/-- A bound of a slice expression: not given; or a number up to the limit. -/
def bound (env : Env) (o : Option Opd) (dflt lim : Nat) : Option Nat :=
  match o with
  | none => some dflt
  | some x => match asI (x.eval env) with
    | some n => if 0 ≤ n ∧ n ≤ (lim : Int) then some n.toNat else none
    | none => none

/-- The elements that a slice shows, of so many cells each. -/
def elems (h : Heap) (sz : Nat) : DV → Option (List DV)
  | .nsl => some []
  | .isl _ sz' xs => if sz = sz' ∨ xs = [] then some xs else none
  | .sl id sz' off len =>
    match h.get id with
    | some (.arr _ sz'' xs _) => if sz = sz' ∧ sz = sz'' ∧ off + len ≤ xs.length then some ((xs.drop off).take len) else none
    | _ => none
  | _ => none

def splice (xs ys : List DV) (at_ : Nat) : List DV := xs.take at_ ++ ys ++ xs.drop (at_ + ys.length)

/-- append, of elements. -/
def appendD (h : Heap) (ety sz bytes : Nat) (s : DV) (ys : List DV) : Option (DV × Heap) :=
  match s with
  | .nsl =>
    if ys.isEmpty then some (.nsl, h)
    else if ys.length * bytes ≤ 140737488355328 ∧ ys.length ≤ 9223372036854775807 then some (.sl h.n sz 0 ys.length, h.push (.arr ety sz ys none)) else none
  | .sl id sz' off len =>
    if ys.isEmpty then some (.sl id sz' off len, h) else
    match h.get id with
    | some (.arr ety' sz'' xs cap) =>
      if sz = sz' ∧ sz = sz'' ∧ ety = ety' ∧ off + len ≤ xs.length ∧ (len + ys.length) * bytes ≤ 140737488355328 ∧ len + ys.length ≤ 9223372036854775807 then
        if off + (len + ys.length) ≤ xs.length then
          if h.lim ≤ id then some (.sl id sz off (len + ys.length), h.set id (.arr ety sz (splice xs ys (off + len)) cap)) else none
        else match cap with
          | some _ => some (.sl h.n sz 0 (len + ys.length), h.push (.arr ety sz ((xs.drop off).take len ++ ys) none))
          | none => if h.lim ≤ id then some (.sl h.n sz 0 (len + ys.length), (h.set id .dead).push (.arr ety sz ((xs.drop off).take len ++ ys) none)) else none
      else none
    | _ => none
  | _ => none

def copyD (h : Heap) (sz : Nat) (d : DV) (ys : List DV) : Option (DV × Heap) :=
  match d with
  | .nsl => some (.int .i64 0, h)
  | .sl id sz' off len =>
    match h.get id with
    | some (.arr ety sz'' xs cap) =>
      if sz = sz' ∧ sz = sz'' ∧ off + len ≤ xs.length ∧ h.lim ≤ id then
        let zs := ys.take len
        some (.int .i64 zs.length, h.set id (.arr ety sz (splice xs zs off) cap))
      else none
    | _ => none
  | _ => none

/-- Where a key is among entries. -/
def findE (q : EqT) (k : DV) : List (DV × DV) → Nat → Option (Option (Nat × DV))
  | [], _ => some none
  | (k', v) :: r, i =>
    match eqBy q k k' with
    | some true => some (some (i, v))
    | some false => findE q k r (i + 1)
    | none => none

/-- How many entries bear a key; it must be known of each. -/
def hitsE (q : EqT) (k : DV) : List (DV × DV) → Option Nat
  | [] => some 0
  | (k', _) :: r =>
    match eqBy q k k', hitsE q k r with
    | some true, some n => some (n + 1)
    | some false, some n => some n
    | _, _ => none

/-- Where a key is among entries: at one place at most, whatever their order. -/
def findU (q : EqT) (k : DV) (es : List (DV × DV)) : Option (Option (Nat × DV)) :=
  match hitsE q k es with
  | some n => if n ≤ 1 then findE q k es 0 else none
  | none => none

def stepOp (h : Heap) (env : Env) : DOp → Option (DV × Heap)
  | .move x => some (x.eval env, h)
  | .pick c a b => match c.eval env with | .bool t => some (if t then a.eval env else b.eval env, h) | _ => none
  | .alloc ety sz z => some (.ptr h.n sz 0 0, h.push (.arr ety sz [z] (some 1)))
  | .box ety sz x => if storable sz (x.eval env) then some (.ptr h.n sz 0 0, h.push (.arr ety sz [x.eval env] (some 1))) else none
  | .build zero parts => match fillCells zero (parts.map fun p => (p.1, p.2.1, p.2.2.eval env)) with
    | some cs => some (.agg cs, h)
    | none => none
  | .buildSlice ety sz z len parts => match fillElems sz (List.replicate len z) (parts.map fun p => (p.1, p.2.eval env)) with
    | some xs => some (.sl h.n sz 0 len, h.push (.arr ety sz xs (some len)))
    | none => none
  | .load n a => match loadP h n (a.eval env) with | some v => some (v, h) | none => none
  | .store n a x => match storeP h n (a.eval env) (x.eval env) with | some h' => some (.tup [], h') | none => none
  | .nilCheck x => match x.eval env with
    | .ptr id sz idx off => some (.ptr id sz idx off, h)
    | .iptr l cs off => some (.iptr l cs off, h)
    | _ => none
  | .arith op x y => match arithD op (x.eval env) (y.eval env) with | some v => some (v, h) | none => none
  | .eqb neq x y => match x.eval env, y.eval env with | .bool a, .bool b => some (.bool (if neq then !(a == b) else a == b), h) | _, _ => none
  | .eqa neq ks x y => match eqBy (.agg ks) (x.eval env) (y.eval env) with | some r => some (.bool (if neq then !r else r), h) | none => none
  | .eqn k neq x y => match nilEq k (x.eval env) (y.eval env) with | some r => some (.bool (if neq then !r else r), h) | none => none
  | .un op x => match unD op (x.eval env) with | some v => some (v, h) | none => none
  | .conv k x => match x.eval env with | .int _ n => some (.int k (k.wrap n), h) | _ => none
  | .asStr x => match x.eval env with | .str s => some (.str s, h) | _ => none
  | .fieldAddr off x => match x.eval env with
    | .ptr id sz idx o => some (.ptr id sz idx (o + off), h)
    | .iptr l cs o => some (.iptr l cs (o + off), h)
    | _ => none
  | .field off n x => match x.eval env with | .agg cs => (match pickCells n cs off with | some v => some (v, h) | none => none) | _ => none
  | .indexAddr sz x i => match asI (i.eval env) with
    | some i =>
      match x.eval env with
      | .sl id sz' off len => if sz = sz' ∧ 0 ≤ i ∧ i < (len : Int) then some (.ptr id sz (off + i.toNat) 0, h) else none
      | .isl l sz' xs => if sz = sz' ∧ 0 ≤ i then (match xs[i.toNat]? with | some e => some (.iptr l (ecells sz e) 0, h) | none => none) else none
      | _ => none
    | none => none
  | .indexArr len esz x i => match asI (i.eval env) with
    | some i =>
      if 0 ≤ i ∧ i < (len : Int) then
        match x.eval env with
        | .ptr id sz idx o => some (.ptr id sz idx (o + i.toNat * esz), h)
        | .iptr l cs o => some (.iptr l cs (o + i.toNat * esz), h)
        | _ => none
      else none
    | none => none
  | .index len esz n x i => match asI (i.eval env), x.eval env with
    | some i, .agg cs => if 0 ≤ i ∧ i < (len : Int) then (match pickCells n cs (i.toNat * esz) with | some v => some (v, h) | none => none) else none
    | _, _ => none
  | .indexStr x i => match asI (i.eval env), x.eval env with
    | some i, .str s => if 0 ≤ i then (match s[i.toNat]? with | some b => some (.int .u8 b.toNat, h) | none => none) else none
    | _, _ => none
  | .sliceStr x lo hi => match x.eval env with
    | .str s => match bound env hi s.length s.length with
      | some b => match bound env lo 0 b with
        | some a => some (.str ((s.drop a).take (b - a)), h)
        | none => none
      | none => none
    | _ => none
  | .sliceSl sz x lo hi => match x.eval env with
    | .nsl => match bound env hi 0 0 with
      | some b => match bound env lo 0 b with
        | some _ => some (.nsl, h)
        | none => none
      | none => none
    | .isl l sz' xs => if sz = sz' ∨ xs = [] then match bound env hi xs.length xs.length with
        | some b => match bound env lo 0 b with
          | some a => some (.isl l sz ((xs.drop a).take (b - a)), h)
          | none => none
        | none => none
      else none
    | .sl id sz' off len => match h.get id with
      | some (.arr _ sz'' xs _) => if sz = sz' ∧ sz = sz'' ∧ off + len ≤ xs.length then match bound env hi len (xs.length - off) with
          | some b => match bound env lo 0 b with
            | some a => some (.sl id sz (off + a) (b - a), h)
            | none => none
          | none => none
        else none
      | _ => none
    | _ => none
  | .slice3 x lo hi mx => match (match x.eval env with | .nsl => some 0 | .sl _ _ _ len => some len | .isl _ _ xs => some xs.length | _ => none) with
    | some len => match bound env (some mx) 0 len with
      | some m => match bound env (some hi) 0 m with
        | some b => match bound env (some lo) 0 b with
          | some _ => some (.unk, h)
          | none => none
        | none => none
      | none => none
    | none => none
  | .len k x => match x.eval env with
    | .str s => if k = 0 then some (.int .i64 s.length, h) else none
    | .nsl => if k = 1 then some (.int .i64 0, h) else none
    | .sl _ _ _ len => if k = 1 then some (.int .i64 len, h) else none
    | .isl _ _ xs => if k = 1 then some (.int .i64 xs.length, h) else none
    | .nmap => if k = 2 then some (.int .i64 0, h) else none
    | .map id => match h.get id with | some (.mp es) => if k = 2 then some (.int .i64 es.length, h) else none | _ => none
    | _ => none
  | .cap x => match x.eval env with
    | .nsl => some (.int .i64 0, h)
    | .sl id sz off _ => match h.get id with
      | some (.arr _ sz' _ (some c)) => if sz = sz' then some (.int .i64 (c - off : Nat), h) else none
      | some (.arr _ sz' xs none) => if sz = sz' then some (.atl (xs.length - off), h) else none
      | _ => none
    | _ => none
  | .append ety sz bytes s x => match elems h sz (x.eval env) with
    | some ys => appendD h ety sz bytes (s.eval env) ys
    | none => none
  | .appendZ ety sz bytes z s x => match asI (x.eval env) with
    | some n => if 0 ≤ n ∧ n ≤ 140737488355328 then appendD h ety sz bytes (s.eval env) (List.replicate n.toNat z) else none
    | none => none
  | .copy sz d s => match elems h sz (s.eval env) with
    | some ys => copyD h sz (d.eval env) ys
    | none => none
  | .clear sz z x => match x.eval env with
    | .nsl => some (.tup [], h)
    | .isl _ _ [] => some (.tup [], h)
    | .sl id sz' off len => if len = 0 then some (.tup [], h) else match copyD h sz (.sl id sz' off len) (List.replicate len z) with | some (_, h') => some (.tup [], h') | none => none
    | _ => none
  | .makeSlice ety sz bytes z l c => match asI (l.eval env), asI (c.eval env) with
    | some l, some c => if 0 ≤ l ∧ l ≤ c ∧ c * (bytes : Int) ≤ 140737488355328 ∧ c ≤ 140737488355328 then some (.sl h.n sz 0 l.toNat, h.push (.arr ety sz (List.replicate c.toNat z) (some c.toNat))) else none
    | _, _ => none
  | .minmax mx x y => match x.eval env, y.eval env with
    | .int k a, .int _ b => some (.int k (if mx then (if a < b then b else a) else (if b < a then b else a)), h)
    | _, _ => none
  | .makeFunc f cap => some (.func f (cap.map (Opd.eval env)), h)
  | .makeMap => some (.map h.n, h.push (.mp []))
  | .lookup q z ok m k =>
    match (match m.eval env with | .nmap => some [] | .map id => (match h.get id with | some (.mp es) => some es | _ => none) | _ => none) with
    | some es => if (eqBy q (k.eval env) (k.eval env)).isSome then
        match findU q (k.eval env) es with
        | some (some (_, v)) => some (if ok then .tup [v, .bool true] else v, h)
        | some none => some (if ok then .tup [z, .bool false] else z, h)
        | none => none
      else none
    | none => none
  | .mapUpdate q m k x =>
    match m.eval env with
    | .map id => match h.get id with
      | some (.mp es) =>
        if h.lim ≤ id ∧ (eqBy q (k.eval env) (k.eval env)).isSome = true then
          match findU q (k.eval env) es with
          | some (some (i, _)) => some (.tup [], h.set id (.mp (es.set i (k.eval env, x.eval env))))
          | some none => some (.tup [], h.set id (.mp (es ++ [(k.eval env, x.eval env)])))
          | none => none
        else none
      | _ => none
    | _ => none
  | .delete q m k =>
    match m.eval env with
    | .map id => match h.get id with
      | some (.mp es) =>
        if h.lim ≤ id ∧ (eqBy q (k.eval env) (k.eval env)).isSome = true then
          match findU q (k.eval env) es with
          | some (some (i, _)) => some (.tup [], h.set id (.mp (es.eraseIdx i)))
          | some none => some (.tup [], h)
          | none => none
        else none
      | _ => none
    | _ => none
  | .extract x i => match x.eval env with | .tup vs => (match vs[i]? with | some v => some (v, h) | none => none) | _ => none
  | .makeIface t x => some (.iface t (x.eval env), h)
  | .call .. => none

/-! ## calls -/

/-- A row that was read off; one form of what is empty. -/
def mkIsl (tag : Bool) (sz : Nat) : List DV → DV
  | [] => .isl false 0 []
  | x :: xs => .isl tag sz (x :: xs)

/-- A value in which all that is still written is read off: 'tag' marks what was lent. -/
def resolve (tag : Bool) (h : Heap) : Nat → DV → Option DV
  | 0, _ => none
  | n + 1, v =>
    match v with
    | .ptr id sz idx off => match h.get id with
      | some (.arr _ sz' xs _) => if sz = sz' then match xs[idx]? with
          | some e => match (ecells sz e).mapM (resolve tag h n) with | some cs => some (.iptr tag cs off) | none => none
          | none => none
        else none
      | _ => none
    | .sl id sz off len => match h.get id with
      | some (.arr _ sz' xs _) => if sz = sz' ∧ off + len ≤ xs.length then match ((xs.drop off).take len).mapM (resolve tag h n) with
          | some ys => some (mkIsl tag sz ys)
          | none => none
        else none
      | _ => none
    | .map _ => none
    | .nsl => some (.isl false 0 [])
    | .isl l sz xs => some (mkIsl l sz xs)
    | .func f cap => match cap.mapM (resolve tag h n) with | some c => some (.func f c) | none => none
    | .iface t v => match resolve tag h n v with | some v => some (.iface t v) | none => none
    | .agg cs => match cs.mapM (resolve tag h n) with | some c => some (.agg c) | none => none
    | .tup cs => match cs.mapM (resolve tag h n) with | some c => some (.tup c) | none => none
    | v => some v

/-- No part of it is lent. -/
def unlent : Nat → DV → Bool
  | 0, _ => false
  | n + 1, v =>
    match v with
    | .iptr l cs _ => !l && cs.all (unlent n)
    | .isl l _ xs => !l && xs.all (unlent n)
    | .func _ cs | .agg cs | .tup cs => cs.all (unlent n)
    | .iface _ v => unlent n v
    | _ => true

/-- Are two data the same? -/
def same : Nat → DV → DV → Bool
  | 0, _, _ => false
  | n + 1, a, b =>
    match a, b with
    | .unk, .unk | .nilp, .nilp | .nsl, .nsl | .nmap, .nmap | .nilf, .nilf | .nili, .nili => true
    | .bool x, .bool y => x == y
    | .int k x, .int k' y => decide (k = k') && decide (x = y)
    | .str x, .str y => x == y
    | .ptr a1 b1 c1 d1, .ptr a2 b2 c2 d2 => Nat.beq a1 a2 && Nat.beq b1 b2 && Nat.beq c1 c2 && Nat.beq d1 d2
    | .iptr l1 x1 o1, .iptr l2 x2 o2 => l1 == l2 && Nat.beq o1 o2 && Nat.beq x1.length x2.length && (x1.zip x2).all fun p => same n p.1 p.2
    | .sl a1 b1 c1 d1, .sl a2 b2 c2 d2 => Nat.beq a1 a2 && Nat.beq b1 b2 && Nat.beq c1 c2 && Nat.beq d1 d2
    | .isl l1 s1 x1, .isl l2 s2 x2 => l1 == l2 && Nat.beq s1 s2 && Nat.beq x1.length x2.length && (x1.zip x2).all fun p => same n p.1 p.2
    | .map a1, .map a2 => Nat.beq a1 a2
    | .tok a1, .tok a2 => Nat.beq a1 a2
    | .atl a1, .atl a2 => Nat.beq a1 a2
    | .func f1 x1, .func f2 x2 => Nat.beq f1 f2 && Nat.beq x1.length x2.length && (x1.zip x2).all fun p => same n p.1 p.2
    | .iface t1 v1, .iface t2 v2 => Nat.beq t1 t2 && same n v1 v2
    | .agg x1, .agg x2 => Nat.beq x1.length x2.length && (x1.zip x2).all fun p => same n p.1 p.2
    | .tup x1, .tup x2 => Nat.beq x1.length x2.length && (x1.zip x2).all fun p => same n p.1 p.2
    | _, _ => false

def sameL (l r : List DV) : Bool := Nat.beq l.length r.length && (l.zip r).all fun p => same 200 p.1 p.2

/-- It names no object from a number on. -/
def below : Nat → Nat → DV → Bool
  | 0, _, _ => false
  | n + 1, N, v =>
    match v with
    | .ptr id .. | .sl id .. | .map id => decide (id < N)
    | .func _ cs | .agg cs | .tup cs => cs.all (below n N)
    | .iface _ v => below n N v
    | _ => true

/-- How many elements an argument shows. -/
def visLen : DV → Nat
  | .sl _ _ _ len => len
  | .isl _ _ xs => xs.length
  | _ => 0

/-- The row that a call has left, by its elements: it is younger than all that was there. -/
def settle (h : Heap) (ety sz : Nat) (r : Option (DV × Heap)) : Option (List DV) :=
  match r with
  | some (.sl id sz' off len, h') =>
    match h'.get id with
    | some (.arr ety' sz'' xs _) => if sz = sz' ∧ sz = sz'' ∧ ety = ety' ∧ h.n ≤ id ∧ off + len ≤ xs.length ∧ ((xs.drop off).take len).all (below 200 h.n) = true then some ((xs.drop off).take len) else none
    | _ => none
  | _ => none

inductive Ex where
  | normal
  | exit (id : Nat)
  | ret
  deriving DecidableEq, Inhabited

inductive Res where
  | fail
  | ok (e : Ex) (env : Env) (h : Heap)

def put (env : Env) (dst : Option Nat) (v : DV) : Env :=
  match dst with
  | some d => env.set d v
  | none => env

def wantedD (env : Env) : Option (Nat × Bool) → Option Bool
  | none => some true
  | some (t, want) => match env[t]? with | some (.bool b) => some (b == want) | some (.tup _) => some false | _ => none

/-- One operation, calls too. -/
def oneOp (call : Nat → List DV → Heap → Option (DV × Heap)) (o : DOp) (env : Env) (h : Heap) : Option (DV × Heap) :=
  match o with
  | .call f args => match f.eval env with
    | .func f cap => call f (args.map (Opd.eval env) ++ cap) h
    | _ => none
  | o => stepOp h env o

/-- What stands in the place of a value that was not made. -/
def undefD : DV := .tup []

def runOps (call : Nat → List DV → Heap → Option (DV × Heap)) : List DOper → Env → Heap → Option (Env × Heap)
  | [], env, h => some (env, h)
  | o :: r, env, h =>
    match wantedD env o.guard with
    | some true => match oneOp call o.op env h with
      | some (v, h') => runOps call r (put env o.dst v) h'
      | none => none
    | some false => runOps call r (put env o.dst undefD) h
    | none => none

/-- One operation that turns the heap, the objects below a limit shut off. -/
def heapOp (call : Nat → List DV → Heap → Option (DV × Heap)) (l : Nat) (o : DOp) (env : Env) (h : Heap) : Option (DV × Heap) :=
  match oneOp call o env { h with lim := max l h.lim } with
  | some (v, h') => some (v, { h' with lim := h.lim })
  | none => none

/-- The heap behind so many operations that turn it; hs: the heaps, the newest one first. -/
def snapAt (hs : List Heap) (k : Nat) : Option Heap := if k < hs.length then hs[hs.length - 1 - k]? else none

/-- What was read in a region with an open order (by the objects' names), and what old objects were written (how many turned the heap ahead of that; which). -/
structure DLog where
  rds : List Nat
  pks : List (Nat × Nat)
  deriving Inhabited

def DLog.start : DLog := ⟨[], []⟩

/-- The object that an operation reads. -/
def target (env : Env) : DOp → Option Nat
  | .load _ a => match a.eval env with | .ptr id .. => some id | _ => none
  | .sliceSl _ x _ _ | .cap x => match x.eval env with | .sl id .. => some id | _ => none
  | .len _ x => match x.eval env with | .map id => some id | _ => none
  | .lookup _ _ _ m _ => match m.eval env with | .map id => some id | _ => none
  | _ => none

def DLog.read (L : DLog) (t : Option Nat) : DLog := match t with | some id => { L with rds := id :: L.rds } | _none => L

/-- May it read what it read, whatever old object was written? -/
def DLog.free (L : DLog) (s : Nat) (t : Option Nat) : Bool :=
  match t with
  | some id => L.pks.all fun p => Nat.blt p.1 s || !(Nat.beq p.2 id)
  | _none => true

/-- A store to an old object, or an append to one, that nothing has read so far. -/
def pokeId (L : DLog) (env : Env) : DOp → Option Nat
  | .store _ a _ => match a.eval env with | .ptr id .. => if L.rds.all (fun x => !(Nat.beq x id)) then some id else none | _ => none
  | .append _ _ _ a _ | .appendZ _ _ _ _ a _ => match a.eval env with | .sl id .. => if L.rds.all (fun x => !(Nat.beq x id)) then some id else none | _ => none
  | _ => none

/-- Are two objects the same? -/
def sameO : DO → DO → Bool
  | .dead, .dead => true
  | .arr e1 s1 x1 c1, .arr e2 s2 x2 c2 => Nat.beq e1 e2 && Nat.beq s1 s2 && (match c1, c2 with | none, none => true | some a, some b => Nat.beq a b | _, _ => false) && sameL x1 x2
  | .mp x1, .mp x2 => Nat.beq x1.length x2.length && (x1.zip x2).all fun p => same 200 p.1.1 p.2.1 && same 200 p.1.2 p.2.2
  | _, _ => false

/-- The numbers of the objects that two rows, the newest first, hold unlike. -/
def diffO : Nat → List DO → List DO → List Nat
  | 0, _, _ => []
  | n + 1, a :: r, b :: s => if sameO a b then diffO n r s else n :: diffO n r s
  | _ + 1, [], [] => []
  | n + 1, _, _ => List.range (n + 1)

/-- The objects of a heap that another one, grown out of it, holds otherwise. -/
def changed (h h' : Heap) : List Nat := if h.n ≤ h'.n then diffO h.n h.objs (h'.objs.drop (h'.n - h.n)) else List.range h.n

/-- Are calls let by that write old objects? (Where they are not, more steps lead to the same: Dw1.) -/
def pokeOn : Bool := true

/-- A call that writes old objects that nothing has read so far. -/
def pokeCall (call : Nat → List DV → Heap → Option (DV × Heap)) (r : Nat) (L : DLog) (o : DOp) (env : Env) (h : Heap) : Option (DV × Heap × DLog) :=
  match o with
  | .call .. => match oneOp call o env h with
    | some (v, h') =>
      if pokeOn = true ∧ (changed h h').all (fun id => L.rds.all fun x => !(Nat.beq x id)) = true then some (v, h', { L with pks := (changed h h').map (fun id => (r, id)) ++ L.pks }) else none
    | none => none
  | _ => none

/-- An operation that turns the heap and has no settled order against what reads. -/
def createOp (call : Nat → List DV → Heap → Option (DV × Heap)) (l r : Nat) (L : DLog) (o : DOp) (env : Env) (h : Heap) : Option (DV × Heap × DLog) :=
  match pokeId L env o with
  | some id => match stepOp h env o with
    | some (v, h') => some (v, h', { L with pks := (r, id) :: L.pks })
    | none => none
  | none => match heapOp call l o env h with
    | some (v, h') => some (v, h', L)
    | none => pokeCall call r L o env h

/-- A region whose order is open: what only reads reads the heap as it was behind the operations that surely came ahead; what turns the heap leaves alone what those may see that read at large. hs: the heaps behind each operation that turns it, the newest one first. -/
def runDraw (call : Nat → List DV → Heap → Option (DV × Heap)) : List DOper → Env → List Heap → DLog → Option (Env × Heap)
  | [], env, hs, _ => match hs with | h :: _ => some (env, h) | [] => none
  | o :: r, env, hs, L =>
    match hs with
    | [] => none
    | h :: gs =>
      match wantedD env o.guard with
      | none => none
      | some true =>
        match o.kind with
        | .read =>
          if L.free o.snap (target env o.op) = true then
            match snapAt hs o.snap with
            | some h0 => match stepOp h0 env o.op with
              | some (v, _) => runDraw call r (put env o.dst v) hs (L.read (target env o.op))
              | none => none
            | none => none
          else none
        | .write =>
          match oneOp call o.op env h with
          | some (v, h') => runDraw call r (put env o.dst v) (h' :: hs) L
          | none => none
        | .create =>
          match snapAt hs o.snap with
          | some h0 => match createOp call h0.n gs.length L o.op env h with
            | some (v, h', L') => runDraw call r (put env o.dst v) (h' :: hs) L'
            | none => none
          | none => none
      | some false => runDraw call r (put env o.dst undefD) (if o.kind = .read then hs else h :: hs) L

def resultOf (h : Heap) (env : Env) : DRes → Option DV
  | .t n => some ((env[n]?).getD .unk)
  | .cell a n => loadP h n ((env[a]?).getD .unk)

def resultsOf (h : Heap) (env : Env) (rs : List DRes) : Option DV :=
  match rs with
  | [r] => resultOf h env r
  | rs => match rs.mapM (resultOf h env) with | some vs => some (.tup vs) | none => none

def deepFuel : Nat := 200

/-- A call, its body's run given. -/
def enter (run : DCode → Env → Heap → Res) (D : DProg) (f : Nat) (args : List DV) (h : Heap) : Option (DV × Heap) :=
  match D.hook f with
  | some hk => hk h args
  | none =>
    match D.fn f with
    | none => none
    | some df =>
      let go (args : List DV) (h : Heap) : Option (DV × Heap) :=
        match run df.body (args ++ List.replicate (df.ntmps - args.length) undefD) h with
        | .ok (.exit _) _ _ => none
        | .ok _ env h' => match resultsOf h' env df.results with
          | some v => some (v, h')
          | none => none
        | .fail => none
      match df.mode with
      | .full => go args h
      | .fresh => match go args { h with lim := h.n } with
        | some (v, h') => some (v, { h' with lim := h.lim })
        | none => none
      | .pure => match args.mapM (resolve true h deepFuel) with
        | some ds => match go ds { objs := [], n := 0, lim := 0 } with
          | some (v, h') => match resolve false h' deepFuel v with
            | some d => if unlent deepFuel d then some (d, h) else none
            | none => none
          | none => none
        | none => none
      | .split => match args with
        | .sl id sz off len :: rest => match h.get id with
          | some (.arr ety sz' xs none) =>
            if sz = sz' ∧ h.lim ≤ id then
              let k := (rest.map visLen).foldl (· + ·) 0
              let scn (e : Nat) (cap : Option Nat) : Option (List DV) :=
                settle h ety sz (go (.sl h.n sz off len :: rest) { (h.set id .dead).push (.arr ety sz (xs ++ List.replicate e .unk) cap) with lim := h.n })
              match scn k none with
              | some l => if (List.range k).all (fun e => match scn e (some (xs.length + e)) with | some l' => sameL l l' | none => false) = true then
                  some (.sl h.n sz 0 l.length, (h.set id .dead).push (.arr ety sz l none)) else none
              | none => none
            else none
          | _ => go args h
        | _ => go args h

def exec (D : DProg) : Nat → DCode → Env → Heap → Res
  | 0, _, _, _ => .fail
  | n + 1, c, env, h =>
    match c with
    | .skip => .ok .normal env h
    | .seq a b => match exec D n a env h with
      | .ok .normal env h => exec D n b env h
      | r => r
    | .cond c a b => match c.eval env with
      | .bool true => exec D n a env h
      | .bool false => exec D n b env h
      | _ => .fail
    | .block id b => match exec D n b env h with
      | .ok (.exit id') env h => if id' = id then .ok .normal env h else .ok (.exit id') env h
      | r => r
    | .loop b => match exec D n b env h with
      | .ok .normal env h => exec D n (.loop b) env h
      | r => r
    | .exit id => .ok (.exit id) env h
    | .ret => .ok .ret env h
    | .region ops => match runOps (enter (exec D n) D) ops env h with
      | some (env, h) => .ok .normal env h
      | none => .fail
    | .draw ops => match runDraw (enter (exec D n) D) ops env [h] .start with
      | some (env, h) => .ok .normal env h
      | none => .fail

/-- A call from outside. -/
def callD (D : DProg) (n : Nat) (f : Nat) (args : List DV) (h : Heap) : Option (DV × Heap) := enter (exec D n) D f args h

end Go.Dm
