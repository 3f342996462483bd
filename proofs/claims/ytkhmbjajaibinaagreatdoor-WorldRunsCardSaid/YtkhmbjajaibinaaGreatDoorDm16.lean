/-
Part 16 of "Dm": code brought into the machine's form.
-/
import Derived.Test.YtkhmbjajaibinaaGreatDoorDm15
namespace Go.Dm

/-- The temporary that a guard asks. -/
def guardT (ops : List Oper) : Option (Nat × Bool) → Option (Option (Nat × Bool))
  | none => some none
  | some (j, want) => match ops[j]? with
    | some g => match g.dst with
      | some t => some (some (t, want))
      | none => none
    | none => none

def compOper (P : Program) (ops : List Oper) (kind : OKind) (snap : Nat) (o : Oper) : Option DOper :=
  match compOp P o, guardT ops o.guard with
  | some d, some g => some { dst := o.dst, op := d, guard := g, kind, snap }
  | _, _ => none

/-- What surely comes ahead of each operation, as sets of bits. -/
def bits (ops : List Oper) : List Nat :=
  ops.foldl (fun acc o => acc ++ [o.after.toList.foldl (fun s e => if Region.binds .any e then s ||| 2 ^ e.on ||| acc.getD e.on 0 else s) 0]) []

inductive Cls where
  | env | read | alloc | heap
  deriving DecidableEq, Inhabited

def DOp.cls : DOp → Cls
  | .len 2 _ | .load .. | .sliceSl .. | .cap .. | .lookup .. => .read
  | .alloc .. | .buildSlice .. => .alloc
  | d => if touches d then .heap else .env

/-- What is put off is put where the first one needs it: what needs no order (and the making of a variable) is put off. -/
def lazyOrder (cs : List Cls) (bs : List Nat) : List Nat :=
  let r := (List.range cs.length).foldl (fun (st : List Nat × List Nat) j =>
    match cs.getD j .env with
    | .env | .alloc => (st.1, st.2 ++ [j])
    | _ => (st.1 ++ st.2.filter (fun i => (bs.getD j 0).testBit i) ++ [j], st.2.filter fun i => !(bs.getD j 0).testBit i)) ([], [])
  r.1 ++ r.2

def Opd.tmps : Opd → List Nat
  | .t n => [n]
  | .c _ => []

def optTmps : Option Opd → List Nat
  | none => []
  | some x => x.tmps

/-- The temporaries that an operation reads. -/
def DOp.tmps : DOp → List Nat
  | .alloc .. | .makeMap => []
  | .move x | .box _ _ x | .load _ x | .nilCheck x | .un _ x | .conv _ x | .asStr x | .fieldAddr _ x | .field _ _ x | .len _ x | .cap x | .clear _ _ x | .extract x _ | .makeIface _ x => x.tmps
  | .pick c a b => c.tmps ++ a.tmps ++ b.tmps
  | .build _ parts => parts.flatMap fun p => p.2.2.tmps
  | .buildSlice _ _ _ _ parts => parts.flatMap fun p => p.2.tmps
  | .store _ x y | .arith _ x y | .eqb _ x y | .eqa _ _ x y | .eqn _ _ x y | .indexAddr _ x y | .indexArr _ _ x y | .index _ _ _ x y | .indexStr x y
  | .append _ _ _ x y | .appendZ _ _ _ _ x y | .copy _ x y | .makeSlice _ _ _ _ x y | .minmax _ x y | .lookup _ _ _ x y | .delete _ x y => x.tmps ++ y.tmps
  | .mapUpdate _ x y z => x.tmps ++ y.tmps ++ z.tmps
  | .sliceStr x lo hi | .sliceSl _ x lo hi => x.tmps ++ optTmps lo ++ optTmps hi
  | .slice3 x lo hi mx => x.tmps ++ lo.tmps ++ hi.tmps ++ mx.tmps
  | .makeFunc _ l => l.flatMap Opd.tmps
  | .call f as => f.tmps ++ as.flatMap Opd.tmps

def DOper.reads (o : DOper) : List Nat := o.op.tmps ++ (match o.guard with | some (t, _) => [t] | none => [])

/-- Is the order of two operations open, where it matters? -/
def clash (x y : DOper) : Bool :=
  (match x.dst with | some d => y.reads.contains d || y.dst == some d | none => false) ||
  (match y.dst with | some d => x.reads.contains d | none => false)

/-- May the second, put behind the first, come ahead of it? -/
def freeP (x y : DOper) : Bool :=
  !clash x y &&
  match x.op.cls, y.op.cls with
  | .env, _ | _, .env => true
  | _, .alloc => true
  | .alloc, .read => true
  | .alloc, .heap => false
  | .heap, .heap => false
  | .read, .read => true
  | .heap, .read => true
  | .read, .heap => true

def kindFits (d : DOper) : Bool :=
  match d.op.cls, d.kind with
  | .env, .read | .read, .read | .alloc, .create | .heap, .create | .heap, .write => true
  | _, _ => false

/-- Two of a region, x ahead of y in the order of our own; b: is x surely ahead; rp: how many that turn the heap stand ahead of x. -/
def pairOk (b : Bool) (rp : Nat) (x y : DOper) : Bool :=
  (b || freeP x y) && (x.dst.isNone || x.dst != y.dst) &&
  (!(y.op.cls == .read && x.kind != .read) || (if rp < y.snap then b else x.op.cls == .alloc || (!b && x.kind == .create && decide (y.snap ≤ x.snap)))) &&
  (!(x.op.cls == .read && y.op.cls == .heap) || b || (y.kind == .create && decide (x.snap ≤ y.snap)))

def bitAt (bs : List Nat) (j i : Nat) : Bool := (bs.getD j 0).testBit i

def rankAt (ds : List (Nat × DOper)) (p : Nat) : Nat := ((ds.take p).filter fun x => x.2.kind != .read).length

/-- A region whose order is open, in an order of its own: may it be run so? -/
def drawOk (ops : List Oper) (ds : List (Nat × DOper)) (bs : List Nat) : Bool :=
  ops.zipIdx.all (fun x => x.1.after.toList.all fun e => !Region.binds .any e || (bitAt bs x.2 e.on && decide (e.on < x.2))) &&
  ops.zipIdx.all (fun x => (List.range ops.length).all fun i => !bitAt bs x.2 i || x.1.after.toList.any fun e => Region.binds .any e && (e.on == i || bitAt bs e.on i)) &&
  (List.range ops.length).all (fun i => ds.any fun x => x.1 == i) &&
  ds.all (fun x => kindFits x.2) &&
  ds.zipIdx.all (fun y => (ds.take y.2).zipIdx.all fun x => x.1.1 != y.1.1 && !bitAt bs x.1.1 y.1.1 && pairOk (bitAt bs y.1.1 x.1.1) (rankAt ds x.2) x.1.2 y.1.2)

/-- The kind of an operation and its snapshot: how many of those that turn memory, in this order, surely come ahead of it without a gap. -/
def snapOf (cs : List Cls) (ord : List Nat) (b : Nat) : Nat :=
  ((ord.filter fun i => cs.getD i .env == .heap || cs.getD i .env == .alloc).takeWhile fun i => b.testBit i).length

def kindOf (cs : List Cls) (bs : List Nat) (j : Nat) : OKind :=
  match cs.getD j .env with
  | .env | .read => .read
  | .alloc => .create
  | .heap => if (List.range cs.length).all fun i => cs.getD i .env != .read || (bs.getD j 0).testBit i || (bs.getD i 0).testBit j then .write else .create

/-- The snapshot: of one that reads, what surely came ahead of it; of one that makes, the least snapshot of those that read at large: what is younger may be written. -/
def limOf (cs : List Cls) (ord : List Nat) (bs : List Nat) (j : Nat) : Nat :=
  (List.range cs.length).foldl (fun s i => if cs.getD i .env == .read && !(bs.getD j 0).testBit i && !(bs.getD i 0).testBit j then max s (snapOf cs ord (bs.getD i 0)) else s) 0

def compRegion (P : Program) (ops : List Oper) (draw : Bool) : Option DCode :=
  if draw then
    match ops.mapM (compOp P) with
    | none => none
    | some dops =>
      let bs := bits ops
      let cs := dops.map DOp.cls
      let ord := lazyOrder cs bs
      match ord.mapM (fun i => match ops[i]? with
        | some o => (compOper P ops (kindOf cs bs i) (if kindOf cs bs i = OKind.create then limOf cs ord bs i else snapOf cs ord (bs.getD i 0)) o).map fun d => (i, d)
        | none => none) with
      | some ds => if drawOk ops ds bs then some (.draw (ds.map (·.2))) else none
      | none => none
  else match ops.mapM (compOper P ops .write 0) with
    | some ds => some (.region ds)
    | none => none

def compCode (P : Program) : Code → Option DCode
  | .skip => some .skip
  | .seq a b => match compCode P a, compCode P b with | some a, some b => some (.seq a b) | _, _ => none
  | .cond c a b => match opd c, compCode P a, compCode P b with | some c, some a, some b => some (.cond c a b) | _, _, _ => none
  | .block id b => match compCode P b with | some b => some (.block id b) | none => none
  | .loop b => match compCode P b with | some b => some (.loop b) | none => none
  | .exit id => some (.exit id)
  | .ret => some .ret
  | .region _ ops draw => compRegion P ops.toList draw
  | _ => none

def compRes (P : Program) : ResultVar → Option DRes
  | .tmp t => some (.t t)
  | .cell a t => match nOf P t with | some n => some (.cell a n) | none => none

def compFunc (P : Program) (fn : Func) (mode : CMode) : Option DFunc :=
  match fn.body with
  | some body => match compCode P body, fn.results.toList.mapM (compRes P) with
    | some b, some rs => if fn.name ≠ "runtime.NumGoroutine" then some { ntmps := fn.ntmps, results := rs, body := b, mode } else none
    | _, _ => none
  | none => none

end Go.Dm
