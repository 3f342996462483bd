/- A part of the proof. -/
import Derived.Orders
import Derived.LoopN
import Derived.Laws.AppendOwn
import Derived.Laws.StructEq
set_option linter.all false
namespace Go.Dm
inductive DV where
 | unk
 | bool (b:Bool)
 | int (k:IntKind) (n:Int)
 | atl (n:Nat)
 | tok (i:Nat)
 | str (s:List UInt8)
 | nilp
 | ptr (id sz idx off:Nat)
 | iptr (lent:Bool) (cells:List DV) (off:Nat)
 | nsl
 | sl (id sz off len:Nat)
 | isl (lent:Bool) (sz:Nat) (xs:List DV)
 | nmap
 | map (id:Nat)
 | func (f:FuncId) (cap:List DV)
 | nilf
 | iface (t:TypeId) (v:DV)
 | nili
 | agg (cs:List DV)
 | tup (vs:List DV)
 deriving Inhabited
def DV.one:DV→Bool
 | .agg _|.tup _|.tok _=>false
 | _=>true
def aF(sz:Nat):DV→List DV
 | .agg cs=>cs
 | .unk=>List.replicate sz .unk
 | .tup _=>[]
 | x=>[x]
inductive DO where
 | arr (ety sz:Nat) (xs:List DV) (cap:Option Nat)
 | mp (es:List (DV×DV))
 | dead
 deriving Inhabited
structure aA where
 objs:List DO
 n:Nat
 lim:Nat
 deriving Inhabited
def aA.get(h:aA)(id:Nat):Option DO:=if id<h.n then h.objs[h.n-1-id]? else none
def aA.push(h:aA)(o:DO):aA:={h with objs:=o::h.objs,n:=h.n+1}
def aA.set(h:aA)(id:Nat)(o:DO):aA:={h with objs:=h.objs.set (h.n-1-id) o}
inductive Opd where
 | t (n:Nat)
 | c (v:DV)
 deriving Inhabited
abbrev Env:=List DV
def Opd.eval(env:Env):Opd→DV
 | .t n=>(env[n]?).getD .unk
 | .c v=>v
inductive EqT where
 | prim (k:Nat)
 | agg (ks:List Nat)
 deriving Inhabited
inductive DOp where
 | move (x:Opd)
 | pick (c a b:Opd)
 | alloc (ety sz:Nat) (z:DV)
 | box (ety sz:Nat) (x:Opd)
 | build (zero:List DV) (parts:List (Nat×Nat×Opd))
 | buildSlice (ety sz:Nat) (z:DV) (len:Nat) (parts:List (Nat×Opd))
 | load (n:Option Nat) (a:Opd)
 | store (n:Nat) (a x:Opd)
 | nilCheck (x:Opd)
 | arith (op:BinOp) (x y:Opd)
 | eqb (neq:Bool) (x y:Opd)
 | eqa (neq:Bool) (ks:List Nat) (x y:Opd)
 | eqn (k:Nat) (neq:Bool) (x y:Opd)
 | un (op:UnOp) (x:Opd)
 | conv (k:IntKind) (x:Opd)
 | asStr (x:Opd)
 | fieldAddr (off:Nat) (x:Opd)
 | field (off:Nat) (n:Option Nat) (x:Opd)
 | indexAddr (sz:Nat) (x i:Opd)
 | indexArr (len esz:Nat) (x i:Opd)
 | index (len esz:Nat) (n:Option Nat) (x i:Opd)
 | indexStr (x i:Opd)
 | sliceStr (x:Opd) (lo hi:Option Opd)
 | sliceSl (sz:Nat) (x:Opd) (lo hi:Option Opd)
 | slice3 (x lo hi mx:Opd)
 | len (k:Nat) (x:Opd)
 | cap (x:Opd)
 | append (ety sz bytes:Nat) (s x:Opd)
 | appendZ (ety sz bytes:Nat) (z:DV) (s x:Opd)
 | copy (sz:Nat) (d s:Opd)
 | clear (sz:Nat) (z:DV) (x:Opd)
 | makeSlice (ety sz bytes:Nat) (z:DV) (l c:Opd)
 | minmax (mx:Bool) (x y:Opd)
 | makeFunc (f:FuncId) (cap:List Opd)
 | makeMap
 | lookup (q:EqT) (z:DV) (ok:Bool) (m k:Opd)
 | mapUpdate (q:EqT) (m k x:Opd)
 | delete (q:EqT) (m k:Opd)
 | extract (x:Opd) (i:Nat)
 | makeIface (t:TypeId) (x:Opd)
 | range (x:Opd)
 | next (x:Opd)
 | entry (x:Opd)
 | bytesStr (x:Opd)
 | appendS (ety sz bytes:Nat) (s x:Opd)
 | call (f:Opd) (args:List Opd)
 deriving Inhabited
inductive sR where
 | read|create|write
 deriving DecidableEq,Inhabited
structure aH where
 dst:Option Nat
 op:DOp
 guard:Option (Nat×Bool)
 kind:sR
 snap:Nat
 calm:Bool
 deriving Inhabited
abbrev oW(d:Nat)(op:DOp):aH:=⟨some d,op,none,.write,0,false⟩
abbrev oZ(op:DOp):aH:=⟨none,op,none,.write,0,false⟩
abbrev oR(d:Nat)(op:DOp):aH:=⟨some d,op,none,.read,0,false⟩
abbrev oM(d x:Nat):aH:=⟨some d,.move (.t x),none,.write,0,false⟩
abbrev oL(d n x:Nat):aH:=⟨some d,.load (some n) (.t x),none,.write,0,false⟩
abbrev oD(d x:Nat):aH:=⟨some d,.load none (.t x),none,.write,0,false⟩
abbrev oA(d o x:Nat):aH:=⟨some d,.fieldAddr o (.t x),none,.write,0,false⟩
abbrev oX(d x i:Nat):aH:=⟨some d,.extract (.t x) i,none,.write,0,false⟩
abbrev oS(n x y:Nat):aH:=⟨none,.store n (.t x) (.t y),none,.write,0,false⟩
abbrev oRL(d n x:Nat):aH:=⟨some d,.load (some n) (.t x),none,.read,0,false⟩
abbrev oRD(d x:Nat):aH:=⟨some d,.load none (.t x),none,.read,0,false⟩
abbrev oRA(d o x:Nat):aH:=⟨some d,.fieldAddr o (.t x),none,.read,0,false⟩
abbrev oRM(d x:Nat):aH:=⟨some d,.move (.t x),none,.read,0,false⟩
abbrev oI(n:Int):Opd:=.c (.int .i64 n)
abbrev oF(f:Nat):Opd:=.c (.func f [])
abbrev oB(b:Bool):Opd:=.c (.bool b)
inductive aI where
 | skip
 | seq (a b:aI)
 | cond (c:Opd) (a b:aI)
 | block (id:Nat) (b:aI)
 | loop (b:aI)
 | exit (id:Nat)
 | ret
 | region (ops:List aH)
 | draw (ops:List aH)
 | walk (x:Opd) (it nx ok en X Y:Nat) (kl:List Nat) (ops:List aH) (b:aI)
 deriving Inhabited
inductive Lb where
 | t (n:Nat)
 | cell (a:Nat) (n:Option Nat)
 deriving Inhabited
inductive SC where
 | full|fresh|pure|split|frz
 deriving DecidableEq,Inhabited
structure aL where
 ntmps:Nat
 results:List Lb
 body:aI
 mode:SC
 deriving Inhabited
abbrev qJ:=aA→List DV→Option (DV×aA)
structure bU where
 fn:Nat→Option aL
 hook:Nat→Option qJ
def cO(n:Option Nat)(cs:List DV)(off:Nat):Option DV :=
 match n with
 | none=>cs[off]?
 | some n=>if off+n≤cs.length then some (.agg ((cs.drop off).take n))else none
def iW(h:aA)(n:Option Nat):DV→Option DV
 | .ptr id sz idx off =>
  match h.get id with
  | some (.arr _ dK xs _) =>
   if sz=dK then
    match xs[idx]? with
    | some e=>cO n (aF sz e) off
    | none=>none
   else none
  | _=>none
 | .iptr _ cs off=>cO n cs off
 | _=>none
def aQ(n:Nat)(x:DV):Bool :=
 match x with
 | .unk|.tup _|.tok _=>false
 | .agg cs=>cs.length == n
 | _=>n == 1
def turn(sz off n:Nat)(e x:DV):DV :=
 if off=0∧n=sz then x
 else .agg ((aF sz e).take off++aF n x++(aF sz e).drop (off+n))
def hU(h:aA)(n:Nat)(a x:DV):Option aA :=
 match a with
 | .ptr id sz idx off =>
  match h.get id with
  | some (.arr ety dK xs cap) =>
   if sz=dK∧h.lim≤id∧aQ n x=true∧off+n≤sz then
    match xs[idx]? with
    | some e=>if(aF sz e).length=sz then some (h.set id (.arr ety sz (xs.set idx (turn sz off n e x)) cap))else none
    | none=>none
   else none
  | _=>none
 | _=>none
def fH(k:Nat):DV→DV→Option Bool
 | .bool a,.bool b=>if k=0 then some (a == b)else none
 | .int q a,.int q' b=>if k=1∧q=q' then some (a == b)else none
 | .str a,.str b=>if k=2 then some (a == b)else none
 | _,_=>none
def bT:List Nat→List DV→List DV→Option Bool
 | [],[],[]=>some true
 | k::ks,x::xs,y::ys =>
  match fH k x y with
  | some b=>match bT ks xs ys with|some b'=>some (b && b')|none=>none
  | none=>none
 | _,_,_=>none
def eY:EqT→DV→DV→Option Bool
 | .prim k,x,y=>fH k x y
 | .agg ks,.agg xs,.agg ys=>bT ks xs ys
 | .agg _,_,_=>none
def nN(k:Nat):DV→DV→Option Bool
 | .nilp,.nilp=>if k=0 then some true else none
 | .nilp,.ptr ..|.nilp,.iptr ..|.ptr ..,.nilp|.iptr ..,.nilp=>if k=0 then some false else none
 | .nmap,.nmap=>if k=2 then some true else none
 | .nmap,.map _|.map _,.nmap=>if k=2 then some false else none
 | .nilf,.nilf=>if k=3 then some true else none
 | .nilf,.func ..|.func ..,.nilf=>if k=3 then some false else none
 | .nili,.nili=>if k=4 then some true else none
 | .nili,.iface ..|.iface ..,.nili=>if k=4 then some false else none
 | _,_=>none
def bX(op:BinOp):DV→DV→Option DV
 | .int k a,.int k' b =>
  match op with
  | .shl=>if b<0 then none else some (.int k (k.wrap (a*2 ^ (min b.toNat k.bits))))
  | .shr=>if b<0 then none else some (.int k (a.fdiv (2 ^ (min b.toNat k.bits))))
  | _ =>
   if k=k' then
    match op with
    | .add=>some (.int k (k.wrap (a+b)))
    | .sub=>some (.int k (k.wrap (a-b)))
    | .mul=>some (.int k (k.wrap (a*b)))
    | .quo=>if b=0 then none else some (.int k (k.wrap (a.tdiv b)))
    | .rem=>if b=0 then none else some (.int k (a.tmod b))
    | .and=>some (.int k (k.wrap (BitVec.ofInt k.bits a &&& BitVec.ofInt k.bits b).toNat))
    | .or=>some (.int k (k.wrap (BitVec.ofInt k.bits a ||| BitVec.ofInt k.bits b).toNat))
    | .xor=>some (.int k (k.wrap (BitVec.ofInt k.bits a ^^^ BitVec.ofInt k.bits b).toNat))
    | .andNot=>some (.int k (k.wrap (BitVec.ofInt k.bits a &&& ~~~ BitVec.ofInt k.bits b).toNat))
    | .eql=>some (.bool (a == b))
    | .neq=>some (.bool (a != b))
    | .lss=>some (.bool (decide (a<b)))
    | .leq=>some (.bool (decide (a≤b)))
    | .gtr=>some (.bool (decide (b<a)))
    | .geq=>some (.bool (decide (b≤a)))
    | _=>none
   else none
 | .int k a,.atl n =>
  match op with
  | .gtr=>if k=.i64∧a≤(n:Int)then some (.bool false)else none
  | _=>none
 | .str a,.str b =>
  match op with
  | .add=>if a.length+b.length≤9223372036854775807 then some (.str (a++b))else none
  | .eql=>some (.bool (a == b))
  | .neq=>some (.bool (!(a == b)))
  | .lss=>some (.bool (Go.Op.bytesLess a b))
  | .leq=>some (.bool (Go.Op.bytesLess a b || a == b))
  | .gtr=>some (.bool (!(Go.Op.bytesLess a b || a == b)))
  | .geq=>some (.bool (!Go.Op.bytesLess a b))
  | _=>none
 | _,_=>none
def unD(op:UnOp):DV→Option DV
 | .bool b=>match op with|.not=>some (.bool (!b))|_=>none
 | .int k n=>match op with|.neg=>some (.int k (k.wrap (0-n)))|_=>none
 | _=>none
def fN(cs:List DV):List (Nat×Nat×DV)→Option (List DV)
 | []=>some cs
 | (off,n,v)::r=>if aQ n v=true∧off+n≤cs.length then fN (cs.take off++aF n v++cs.drop (off+n)) r else none
def cW(sz:Nat)(xs:List DV):List (Nat×DV)→Option (List DV)
 | []=>some xs
 | (i,v)::r=>if aQ sz v=true∧i<xs.length then cW sz (xs.set i v) r else none
def asI:DV→Option Int
 | .int _ n=>some n
 | _=>none
def bound(env:Env)(o:Option Opd)(dflt lim:Nat):Option Nat :=
 match o with
 | none=>some dflt
 | some x=>match asI (x.eval env)with
  | some n=>if 0≤n∧n≤(lim:Int)then some n.toNat else none
  | none=>none
def elems(h:aA)(sz:Nat):DV→Option (List DV)
 | .nsl=>some []
 | .isl _ dK xs=>if sz=dK∨xs=[]then some xs else none
 | .sl id dK off len =>
  match h.get id with
  | some (.arr _ jQ xs _)=>if sz=dK∧sz=jQ∧off+len≤xs.length then some ((xs.drop off).take len)else none
  | _=>none
 | _=>none
def cB(xs ys:List DV)(at_:Nat):List DV:=xs.take at_++ys++xs.drop (at_+ys.length)
def bF(h:aA)(ety sz bytes:Nat)(s:DV)(ys:List DV):Option (DV×aA) :=
 match s with
 | .nsl =>
  if ys.isEmpty then some (.nsl,h)
  else if ys.length*bytes≤140737488355328∧ys.length≤9223372036854775807 then some (.sl h.n sz 0 ys.length,h.push (.arr ety sz ys none))else none
 | .sl id dK off len =>
  if ys.isEmpty then some (.sl id dK off len,h)else
  match h.get id with
  | some (.arr lP jQ xs cap) =>
   if sz=dK∧sz=jQ∧ety=lP∧off+len≤xs.length∧(len+ys.length)*bytes≤140737488355328∧len+ys.length≤9223372036854775807 then
    if off+(len+ys.length)≤xs.length then
     if h.lim≤id then some (.sl id sz off (len+ys.length),h.set id (.arr ety sz (cB xs ys (off+len)) cap))else none
    else match cap with
     | some _=>some (.sl h.n sz 0 (len+ys.length),h.push (.arr ety sz ((xs.drop off).take len++ys) none))
     | none=>if h.lim≤id then some (.sl h.n sz 0 (len+ys.length),(h.set id .dead).push (.arr ety sz ((xs.drop off).take len++ys) none))else none
   else none
  | _=>none
 | _=>none
def wA(h:aA)(sz:Nat)(d:DV)(ys:List DV):Option (DV×aA) :=
 match d with
 | .nsl=>some (.int .i64 0,h)
 | .sl id dK off len =>
  match h.get id with
  | some (.arr ety jQ xs cap) =>
   if sz=dK∧sz=jQ∧off+len≤xs.length∧h.lim≤id then
    let zs:=ys.take len
    some (.int .i64 zs.length,h.set id (.arr ety sz (cB xs zs off) cap))
   else none
  | _=>none
 | _=>none
def eV(q:EqT)(k:DV):List (DV×DV)→Nat→Option (Option (Nat×DV))
 | [],_=>some none
 | (k',v)::r,i =>
  match eY q k k' with
  | some true=>some (some (i,v))
  | some false=>eV q k r (i+1)
  | none=>none
def pS(q:EqT)(k:DV):List (DV×DV)→Option Nat
 | []=>some 0
 | (k',_)::r =>
  match eY q k k',pS q k r with
  | some true,some n=>some (n+1)
  | some false,some n=>some n
  | _,_=>none
def lO(q:EqT)(k:DV)(es:List (DV×DV)):Option (Option (Nat×DV)) :=
 match pS q k es with
 | some n=>if n≤1 then eV q k es 0 else none
 | none=>none
def Qy:DV→Option UInt8
 | .int .u8 n=>some (UInt8.ofNat n.toNat)
 | _=>none
def aC(h:aA)(env:Env):DOp→Option (DV×aA)
 | .move x=>some (x.eval env,h)
 | .pick c a b=>match c.eval env with|.bool t=>some (if t then a.eval env else b.eval env,h)|_=>none
 | .alloc ety sz z=>some (.ptr h.n sz 0 0,h.push (.arr ety sz [z] (some 1)))
 | .box ety sz x=>if aQ sz (x.eval env)then some (.ptr h.n sz 0 0,h.push (.arr ety sz [x.eval env] (some 1)))else none
 | .build zero parts=>match fN zero (parts.map fun p=>(p.1,p.2.1,p.2.2.eval env))with
  | some cs=>some (.agg cs,h)
  | none=>none
 | .buildSlice ety sz z len parts=>match cW sz (List.replicate len z) (parts.map fun p=>(p.1,p.2.eval env))with
  | some xs=>some (.sl h.n sz 0 len,h.push (.arr ety sz xs (some len)))
  | none=>none
 | .load n a=>match iW h n (a.eval env)with|some v=>some (v,h)|none=>none
 | .store n a x=>match hU h n (a.eval env) (x.eval env)with|some h'=>some (.tup [],h')|none=>none
 | .nilCheck x=>match x.eval env with
  | .ptr id sz idx off=>some (.ptr id sz idx off,h)
  | .iptr l cs off=>some (.iptr l cs off,h)
  | _=>none
 | .arith op x y=>match bX op (x.eval env) (y.eval env)with|some v=>some (v,h)|none=>none
 | .eqb neq x y=>match x.eval env,y.eval env with|.bool a,.bool b=>some (.bool (if neq then !(a == b)else a == b),h)|_,_=>none
 | .eqa neq ks x y=>match eY (.agg ks) (x.eval env) (y.eval env)with|some r=>some (.bool (if neq then !r else r),h)|none=>none
 | .eqn k neq x y=>match nN k (x.eval env) (y.eval env)with|some r=>some (.bool (if neq then !r else r),h)|none=>none
 | .un op x=>match unD op (x.eval env)with|some v=>some (v,h)|none=>none
 | .conv k x=>match x.eval env with|.int _ n=>some (.int k (k.wrap n),h)|_=>none
 | .asStr x=>match x.eval env with|.str s=>some (.str s,h)|_=>none
 | .fieldAddr off x=>match x.eval env with
  | .ptr id sz idx o=>some (.ptr id sz idx (o+off),h)
  | .iptr l cs o=>some (.iptr l cs (o+off),h)
  | _=>none
 | .field off n x=>match x.eval env with|.agg cs=>(match cO n cs off with|some v=>some (v,h)|none=>none)|_=>none
 | .indexAddr sz x i=>match asI (i.eval env)with
  | some i =>
   match x.eval env with
   | .sl id dK off len=>if sz=dK∧0≤i∧i<(len:Int)then some (.ptr id sz (off+i.toNat) 0,h)else none
   | .isl l dK xs=>if sz=dK∧0≤i then(match xs[i.toNat]? with|some e=>some (.iptr l (aF sz e) 0,h)|none=>none)else none
   | _=>none
  | none=>none
 | .indexArr len esz x i=>match asI (i.eval env)with
  | some i =>
   if 0≤i∧i<(len:Int)then
    match x.eval env with
    | .ptr id sz idx o=>some (.ptr id sz idx (o+i.toNat*esz),h)
    | .iptr l cs o=>some (.iptr l cs (o+i.toNat*esz),h)
    | _=>none
   else none
  | none=>none
 | .index len esz n x i=>match asI (i.eval env),x.eval env with
  | some i,.agg cs=>if 0≤i∧i<(len:Int)then(match cO n cs (i.toNat*esz)with|some v=>some (v,h)|none=>none)else none
  | _,_=>none
 | .indexStr x i=>match asI (i.eval env),x.eval env with
  | some i,.str s=>if 0≤i then(match s[i.toNat]? with|some b=>some (.int .u8 b.toNat,h)|none=>none)else none
  | _,_=>none
 | .sliceStr x lo hi=>match x.eval env with
  | .str s=>match bound env hi s.length s.length with
   | some b=>match bound env lo 0 b with
    | some a=>some (.str ((s.drop a).take (b-a)),h)
    | none=>none
   | none=>none
  | _=>none
 | .sliceSl sz x lo hi=>match x.eval env with
  | .nsl=>match bound env hi 0 0 with
   | some b=>match bound env lo 0 b with
    | some _=>some (.nsl,h)
    | none=>none
   | none=>none
  | .isl l dK xs=>if sz=dK∨xs=[]then match bound env hi xs.length xs.length with
    | some b=>match bound env lo 0 b with
     | some a=>some (.isl l sz ((xs.drop a).take (b-a)),h)
     | none=>none
    | none=>none
   else none
  | .sl id dK off len=>match h.get id with
   | some (.arr _ jQ xs _)=>if sz=dK∧sz=jQ∧off+len≤xs.length then match bound env hi len (xs.length-off)with
     | some b=>match bound env lo 0 b with
      | some a=>some (.sl id sz (off+a) (b-a),h)
      | none=>none
     | none=>none
    else none
   | _=>none
  | _=>none
 | .slice3 x lo hi mx=>match(match x.eval env with|.nsl=>some 0|.sl _ _ _ len=>some len|.isl _ _ xs=>some xs.length|_=>none)with
  | some len=>match bound env (some mx) 0 len with
   | some m=>match bound env (some hi) 0 m with
    | some b=>match bound env (some lo) 0 b with
     | some _=>some (.unk,h)
     | none=>none
    | none=>none
   | none=>none
  | none=>none
 | .len k x=>match x.eval env with
  | .str s=>if k=0 then some (.int .i64 s.length,h)else none
  | .nsl=>if k=1 then some (.int .i64 0,h)else none
  | .sl _ _ _ len=>if k=1 then some (.int .i64 len,h)else none
  | .isl _ _ xs=>if k=1 then some (.int .i64 xs.length,h)else none
  | .nmap=>if k=2 then some (.int .i64 0,h)else none
  | .map id=>match h.get id with|some (.mp es)=>if k=2 then some (.int .i64 es.length,h)else none|_=>none
  | _=>none
 | .cap x=>match x.eval env with
  | .nsl=>some (.int .i64 0,h)
  | .sl id sz off _=>match h.get id with
   | some (.arr _ dK _ (some c))=>if sz=dK then some (.int .i64 (c-off:Nat),h)else none
   | some (.arr _ dK xs none)=>if sz=dK then some (.atl (xs.length-off),h)else none
   | _=>none
  | _=>none
 | .append ety sz bytes s x=>match elems h sz (x.eval env)with
  | some ys=>bF h ety sz bytes (s.eval env) ys
  | none=>none
 | .appendZ ety sz bytes z s x=>match asI (x.eval env)with
  | some n=>if 0≤n∧n≤140737488355328 then bF h ety sz bytes (s.eval env) (List.replicate n.toNat z)else none
  | none=>none
 | .copy sz d s=>match elems h sz (s.eval env)with
  | some ys=>wA h sz (d.eval env) ys
  | none=>none
 | .clear sz z x=>match x.eval env with
  | .nsl=>some (.tup [],h)
  | .isl _ _ []=>some (.tup [],h)
  | .sl id dK off len=>if len=0 then some (.tup [],h)else match wA h sz (.sl id dK off len) (List.replicate len z)with|some (_,h')=>some (.tup [],h')|none=>none
  | _=>none
 | .makeSlice ety sz bytes z l c=>match asI (l.eval env),asI (c.eval env)with
  | some l,some c=>if 0≤l∧l≤c∧c*(bytes:Int)≤140737488355328∧c≤140737488355328 then some (.sl h.n sz 0 l.toNat,h.push (.arr ety sz (List.replicate c.toNat z) (some c.toNat)))else none
  | _,_=>none
 | .minmax mx x y=>match x.eval env,y.eval env with
  | .int k a,.int _ b=>some (.int k (if mx then(if a<b then b else a)else(if b<a then b else a)),h)
  | _,_=>none
 | .makeFunc f cap=>some (.func f (cap.map (Opd.eval env)),h)
 | .makeMap=>some (.map h.n,h.push (.mp []))
 | .lookup q z ok m k =>
  match(match m.eval env with|.nmap=>some []|.map id=>(match h.get id with|some (.mp es)=>some es|_=>none)|_=>none)with
  | some es=>if(eY q (k.eval env) (k.eval env)).isSome then
    match lO q (k.eval env) es with
    | some (some (_,v))=>some (if ok then .tup [v,.bool true]else v,h)
    | some none=>some (if ok then .tup [z,.bool false]else z,h)
    | none=>none
   else none
  | none=>none
 | .mapUpdate q m k x =>
  match m.eval env with
  | .map id=>match h.get id with
   | some (.mp es) =>
    if h.lim≤id∧(eY q (k.eval env) (k.eval env)).isSome=true then
     match lO q (k.eval env) es with
     | some (some (i,_))=>some (.tup [],h.set id (.mp (es.set i (k.eval env,x.eval env))))
     | some none=>some (.tup [],h.set id (.mp (es++[(k.eval env,x.eval env)])))
     | none=>none
    else none
   | _=>none
  | _=>none
 | .delete q m k =>
  match m.eval env with
  | .map id=>match h.get id with
   | some (.mp es) =>
    if h.lim≤id∧(eY q (k.eval env) (k.eval env)).isSome=true then
     match lO q (k.eval env) es with
     | some (some (i,_))=>some (.tup [],h.set id (.mp (es.eraseIdx i)))
     | some none=>some (.tup [],h.set id (.mp es))
     | none=>none
    else none
   | _=>none
  | _=>none
 | .extract x i=>match x.eval env with|.tup vs=>(match vs[i]? with|some v=>some (v,h)|none=>none)|_=>none
 | .makeIface t x=>some (.iface t (x.eval env),h)
 | .range _|.next _|.entry _=>none
 | .bytesStr x=>match elems h 1 (x.eval env)with
  | some ys=>match ys.mapM Qy with|some s=>some (.str s,h)|none=>none
  | none=>none
 | .appendS ety sz bytes s x=>match x.eval env with
  | .str t=>bF h ety sz bytes (s.eval env) (t.map fun b=>.int .u8 b.toNat)
  | _=>none
 | .call ..=>none
def mkIsl(tag:Bool)(sz:Nat):List DV→DV
 | []=>.isl false 0 []
 | x::xs=>.isl tag sz (x::xs)
def resolve(tag:Bool)(h:aA):Nat→DV→Option DV
 | 0,_=>none
 | n+1,v =>
  match v with
  | .ptr id sz idx off=>match h.get id with
   | some (.arr _ dK xs _)=>if sz=dK then match xs[idx]? with
     | some e=>match(aF sz e).mapM (resolve tag h n)with|some cs=>some (.iptr tag cs off)|none=>none
     | none=>none
    else none
   | _=>none
  | .sl id sz off len=>match h.get id with
   | some (.arr _ dK xs _)=>if sz=dK∧off+len≤xs.length then match((xs.drop off).take len).mapM (resolve tag h n)with
     | some ys=>some (mkIsl tag sz ys)
     | none=>none
    else none
   | _=>none
  | .map _=>none
  | .nsl=>some (.isl false 0 [])
  | .isl l sz xs=>some (mkIsl l sz xs)
  | .func f cap=>match cap.mapM (resolve tag h n)with|some c=>some (.func f c)|none=>none
  | .iface t v=>match resolve tag h n v with|some v=>some (.iface t v)|none=>none
  | .agg cs=>match cs.mapM (resolve tag h n)with|some c=>some (.agg c)|none=>none
  | .tup cs=>match cs.mapM (resolve tag h n)with|some c=>some (.tup c)|none=>none
  | v=>some v
def aZ:Nat→DV→Bool
 | 0,_=>false
 | n+1,v =>
  match v with
  | .iptr l cs _=>!l && cs.all (aZ n)
  | .isl l _ xs=>!l && xs.all (aZ n)
  | .func _ cs|.agg cs|.tup cs=>cs.all (aZ n)
  | .iface _ v=>aZ n v
  | _=>true
mutual
def DV.beq:DV→DV→Bool
 | .unk,.unk|.nilp,.nilp|.nsl,.nsl|.nmap,.nmap|.nilf,.nilf|.nili,.nili=>true
 | .bool x,.bool y=>x == y
 | .int k x,.int k' y=>decide (k=k') && decide (x=y)
 | .str x,.str y=>x == y
 | .ptr a1 b1 c1 d1,.ptr a2 b2 c2 d2=>Nat.beq a1 a2 && Nat.beq b1 b2 && Nat.beq c1 c2 && Nat.beq d1 d2
 | .iptr l1 x1 o1,.iptr l2 x2 o2=>l1 == l2 && Nat.beq o1 o2 && uC x1 x2
 | .sl a1 b1 c1 d1,.sl a2 b2 c2 d2=>Nat.beq a1 a2 && Nat.beq b1 b2 && Nat.beq c1 c2 && Nat.beq d1 d2
 | .isl l1 s1 x1,.isl l2 s2 x2=>l1 == l2 && Nat.beq s1 s2 && uC x1 x2
 | .map a1,.map a2=>Nat.beq a1 a2
 | .tok a1,.tok a2=>Nat.beq a1 a2
 | .atl a1,.atl a2=>Nat.beq a1 a2
 | .func f1 x1,.func f2 x2=>Nat.beq f1 f2 && uC x1 x2
 | .iface t1 v1,.iface t2 v2=>Nat.beq t1 t2 && DV.beq v1 v2
 | .agg x1,.agg x2=>uC x1 x2
 | .tup x1,.tup x2=>uC x1 x2
 | _,_=>false
def uC:List DV→List DV→Bool
 | [],[]=>true
 | x::xs,y::ys=>DV.beq x y && uC xs ys
 | _,_=>false
end
def dR:Nat→Nat→DV→Bool
 | 0,_,_=>false
 | n+1,N,v =>
  match v with
  | .ptr id ..|.sl id ..|.map id=>decide (id<N)
  | .func _ cs|.agg cs|.tup cs=>cs.all (dR n N)
  | .iface _ v=>dR n N v
  | _=>true
def Bv:DV→Nat
 | .sl _ _ _ len=>len
 | .isl _ _ xs=>xs.length
 | _=>0
def pM(h:aA)(ety sz:Nat)(r:Option (DV×aA)):Option (List DV) :=
 match r with
 | some (.sl id dK off len,h') =>
  match h'.get id with
  | some (.arr lP jQ xs _)=>if sz=dK∧sz=jQ∧ety=lP∧h.n≤id∧off+len≤xs.length∧((xs.drop off).take len).all (dR 200 h.n)=true then some ((xs.drop off).take len)else none
  | _=>none
 | _=>none
inductive Ex where
 | normal
 | exit (id:Nat)
 | ret
 deriving DecidableEq,Inhabited
inductive Res where
 | fail
 | ok (e:Ex) (env:Env) (h:aA)
def put(env:Env)(dst:Option Nat)(v:DV):Env :=
 match dst with
 | some d=>env.set d v
 | none=>env
def fU(env:Env):Option (Nat×Bool)→Option Bool
 | none=>some true
 | some (t,want)=>match env[t]? with|some (.bool b)=>some (b == want)|some (.tup _)=>some false|_=>none
def bC(call:Nat→List DV→aA→Option (DV×aA))(o:DOp)(env:Env)(h:aA):Option (DV×aA) :=
 match o with
 | .call f args=>match f.eval env with
  | .func f cap=>call f (args.map (Opd.eval env)++cap) h
  | _=>none
 | o=>aC h env o
def bH:DV:=.tup []
def eM(call:Nat→List DV→aA→Option (DV×aA)):List aH→Env→aA→Option (Env×aA)
 | [],env,h=>some (env,h)
 | o::r,env,h =>
  match fU env o.guard with
  | some true=>match bC call o.op env h with
   | some (v,h')=>eM call r (put env o.dst v) h'
   | none=>none
  | some false=>eM call r (put env o.dst bH) h
  | none=>none
def lL(call:Nat→List DV→aA→Option (DV×aA))(l:Nat)(o:DOp)(env:Env)(h:aA):Option (DV×aA) :=
 match bC call o env {h with lim:=max l h.lim} with
 | some (v,h')=>some (v,{h' with lim:=h.lim})
 | none=>none
def hZ(hs:List aA)(k:Nat):Option aA:=if k<hs.length then hs[hs.length-1-k]? else none
abbrev jP:=Option (Option Nat×Nat×Nat×Nat)
structure cA where
 rds:List (Nat×jP)
 pks:List (Nat×Nat)
 deriving Inhabited
def cA.start:cA:=⟨[],[]⟩
def bM(env:Env):DOp→Option Nat
 | .load _ a=>match a.eval env with|.ptr id ..=>some id|_=>none
 | .sliceSl _ x _ _|.cap x=>match x.eval env with|.sl id ..=>some id|_=>none
 | .len _ x=>match x.eval env with|.map id=>some id|_=>none
 | .lookup _ _ _ m _=>match m.eval env with|.map id=>some id|_=>none
 | _=>none
def mark(env:Env):DOp→Option (Nat×jP)
 | .load n a=>match a.eval env with|.ptr id sz i o=>some (id,some (n,sz,i,o))|_=>none
 | d=>(bM env d).map fun id=>(id,none)
def cA.read(L:cA)(t:Option (Nat×jP)):cA:=match t with|some r=>{L with rds:=r::L.rds}|_none=>L
def cA.see(L:cA)(calm:Bool)(t:Option (Nat×jP)):cA:=match calm with|true=>L|false=>L.read t
def Fo:Option Nat→Nat
 | none=>1
 | some n=>n
def oP(p:jP)(n idx off:Nat):Bool :=
 match p with
 | none=>false
 | some (m,_,i,o)=>!(Nat.beq i idx) || Nat.ble (o+Fo m) off || Nat.ble (off+n) o
def cA.free(L:cA)(s:Nat)(t:Option Nat):Bool :=
 match t with
 | some id=>L.pks.all fun p=>Nat.blt p.1 s || !(Nat.beq p.2 id)
 | _none=>true
def kD(L:cA)(env:Env):DOp→Option Nat
 | .store n a _=>match a.eval env with|.ptr id _ idx off=>if L.rds.all (fun x=>!(Nat.beq x.1 id) || oP x.2 n idx off)then some id else none|_=>none
 | .append _ _ _ a _|.appendZ _ _ _ _ a _=>match a.eval env with|.sl id ..=>if L.rds.all (fun x=>!(Nat.beq x.1 id))then some id else none|_=>none
 | _=>none
def QN(p q:DV×DV):Bool:=DV.beq p.1 q.1 && DV.beq p.2 q.2
def Wt:List (DV×DV)→List (DV×DV)→Bool
 | [],[]=>true
 | x::xs,y::ys=>QN x y && Wt xs ys
 | _,_=>false
def beqC:Option Nat→Option Nat→Bool
 | none,none=>true
 | some a,some b=>Nat.beq a b
 | _,_=>false
def Ln:DO→DO→Bool
 | .dead,.dead=>true
 | .arr e1 s1 x1 c1,.arr e2 s2 x2 c2=>Nat.beq e1 e2 && Nat.beq s1 s2 && beqC c1 c2 && uC x1 x2
 | .mp x1,.mp x2=>Wt x1 x2
 | _,_=>false
def Wh:Nat→List DO→List DO→List Nat
 | 0,_,_=>[]
 | n+1,a::r,b::s=>if Ln a b then Wh n r s else n::Wh n r s
 | _+1,[],[]=>[]
 | n+1,_,_=>List.range (n+1)
def xH(h h':aA):List Nat:=if h.n≤h'.n then Wh h.n h.objs (h'.objs.drop (h'.n-h.n))else List.range h.n
def Q4(f:Nat):Bool:=([]:List Nat).contains f
def Ah(env:Env):DOp→Bool
 | .call f _=>match f.eval env with|.func g _=>Q4 g|_=>false
 | _=>false
def lF(call:Nat→List DV→aA→Option (DV×aA))(r:Nat)(L:cA)(o:DOp)(env:Env)(h:aA):Option (DV×aA×cA) :=
 match o with
 | .call ..=>match bC call o env h with
  | some (v,h') =>
   if(xH h h').all (fun id=>L.rds.all fun x=>!(Nat.beq x.1 id))=true then some (v,h',{L with pks:=(xH h h').map (fun id=>(r,id))++L.pks})else none
  | none=>none
 | _=>none
def cI(call:Nat→List DV→aA→Option (DV×aA))(l r:Nat)(L:cA)(o:DOp)(env:Env)(h:aA):Option (DV×aA×cA) :=
 match kD L env o with
 | some id=>match aC h env o with
  | some (v,h')=>some (v,h',{L with pks:=(r,id)::L.pks})
  | none=>none
 | none=>match Ah env o with
  | true=>lF call r L o env h
  | false=>match lL call l o env h with
   | some (v,h')=>some (v,h',L)
   | none=>none
def dL(call:Nat→List DV→aA→Option (DV×aA)):List aH→Env→List aA→cA→Option (Env×aA)
 | [],env,hs,_=>match hs with|h::_=>some (env,h)|[]=>none
 | o::r,env,hs,L =>
  match hs with
  | []=>none
  | h::gs =>
   match fU env o.guard with
   | none=>none
   | some true =>
    match o.kind with
    | .read =>
     if L.free o.snap (bM env o.op)=true then
      match hZ hs o.snap with
      | some h0=>match aC h0 env o.op with
       | some (v,_)=>dL call r (put env o.dst v) hs (L.see o.calm (mark env o.op))
       | none=>none
      | none=>none
     else none
    | .write =>
     match bC call o.op env h with
     | some (v,h')=>dL call r (put env o.dst v) (h'::hs) L
     | none=>none
    | .create =>
     match hZ hs o.snap with
     | some h0=>match cI call h0.n gs.length L o.op env h with
      | some (v,h',L')=>dL call r (put env o.dst v) (h'::hs) L'
      | none=>none
     | none=>none
   | some false=>dL call r (put env o.dst bH) (if o.kind=.read then hs else h::hs) L
def sO(h:aA):DV→Option (Nat×List (DV×DV))
 | .map id=>match h.get id with|some (.mp es)=>some (id,es)|_=>none
 | _=>none
def rY(h:aA)(m:Nat):aA:=(h.set m .dead).push .dead
def rounds(call:Nat→List DV→aA→Option (DV×aA))(run:aI→Env→aA→Res)(it nx ok en X Y p:Nat)(ops:List aH)(b:aI):List (DV×DV)→Env→aA→Res
 | [],env,h=>match env[it]? with
  | some (.ptr q 0 0 0)=>if q=p∧nx<env.length∧ok<env.length then .ok .normal ((env.set nx (.tup [.bool false])).set ok (.bool false)) h else .fail
  | _=>.fail
 | (k,v)::r,env,h=>match env[it]? with
  | some (.ptr q 0 0 0)=>if q=p∧nx<env.length∧ok<env.length then
    match eM call ops (((env.set nx (.tup [.bool true,k,v])).set ok (.bool true)).set en (.tup [k,v])) h with
    | some (env1,h1)=>match run b env1 h1 with
     | .ok .normal env2 h2=>rounds call run it nx ok en X Y p ops b r env2 h2
     | .ok (.exit i) env2 h2=>if i=Y then rounds call run it nx ok en X Y p ops b r env2 h2 else if i=X then .ok .normal env2 h2 else .ok (.exit i) env2 h2
     | r=>r
    | none=>.fail
   else .fail
  | _=>.fail
def Uu(kl:List Nat)(env:Env):Env:=kl.foldl (fun e t=>e.set t .unk) env
def M3(N:Nat):DO→Bool
 | .dead=>true
 | .arr _ _ xs _=>xs.all (dR 200 N)
 | .mp es=>es.all fun p=>dR 200 N p.1 && dR 200 N p.2
def Et{α:Type}(f:α→α→Bool):List α→List α→Bool
 | [],[]=>true
 | x::xs,y::ys=>f x y && Et f xs ys
 | _,_=>false
def tZ(kl:List Nat)(m:Nat)(es:List (DV×DV))(env:Env)(h:aA):Res→Res
 | .ok e env1 h1 =>
  if(Nat.ble h.n h1.n && (Et (fun a b=>DV.beq a b || dR 200 h.n b) env (Uu kl env1) && Et (fun a b=>Ln a b || M3 h.n b) h.objs (h1.objs.drop (h1.n-h.n))))=true then
   .ok e (Uu kl env1) (({objs:=h1.objs.drop (h1.n-h.n),n:=h.n,lim:=h.lim}:aA).set m (.mp es))
  else .fail
 | .fail=>.fail
def N8(x:DV×DV):List (DV×DV)→Option (List (DV×DV))
 | []=>none
 | y::r=>if QN x y=true then some r else(N8 x r).map (y::·)
def Tx:List (DV×DV)→List (DV×DV)→Bool
 | [],l=>l.isEmpty
 | x::r,l=>match N8 x l with|some l'=>Tx r l'|none=>false
def JS:DO→DO→Bool
 | .mp a,.mp b=>Tx a b
 | a,b=>Ln a b
def CL(e:Ex)(env:Env)(h:aA):Res→Bool
 | .ok e2 env2 h2=>decide (e=e2) && (uC env env2 && Et JS h.objs h2.objs)
 | .fail=>false
def Co{α:Type}(x:α):List α→List (List α)
 | []=>[[x]]
 | y::r=>(x::y::r)::(Co x r).map (y::·)
def Lt{α:Type}:List α→List (List α)
 | []=>[[]]
 | x::r=>(Lt r).flatMap (Co x)
def pK(call:Nat→List DV→aA→Option (DV×aA))(run:aI→Env→aA→Res)(it nx ok en X Y:Nat)(kl:List Nat)(ops:List aH)(b:aI)(m:Nat)(es:List (DV×DV))(env:Env)(h:aA)(p:List (DV×DV)):Res :=
 tZ kl m es env h (rounds call run it nx ok en X Y h.n ops b p (env.set it (.ptr h.n 0 0 0)) (rY h m))
def Fq(call:Nat→List DV→aA→Option (DV×aA))(run:aI→Env→aA→Res)(it nx ok en X Y:Nat)(kl:List Nat)(ops:List aH)(b:aI)(env:Env)(h:aA):Option (Nat×List (DV×DV))→Res
 | none=>.fail
 | some (m,es)=>match pK call run it nx ok en X Y kl ops b m es env h es with
  | .ok e aU h'=>if((Lt es).all fun p=>CL e aU h' (pK call run it nx ok en X Y kl ops b m es env h p))=true then .ok e aU h' else .fail
  | .fail=>.fail
def iT(h:aA)(env:Env):Lb→Option DV
 | .t n=>some ((env[n]?).getD .unk)
 | .cell a n=>iW h n ((env[a]?).getD .unk)
def aT(h:aA)(env:Env)(rs:List Lb):Option DV :=
 match rs with
 | [r]=>iT h env r
 | rs=>match rs.mapM (iT h env)with|some vs=>some (.tup vs)|none=>none
def bO:Nat:=200
def gS(h:aA):DV→Option (DV×aA)
 | .sl id sz off len=>match h.get id with
  | some (.arr _ dK xs _)=>if sz=dK∧h.lim≤id∧off+len≤xs.length∧((xs.drop off).take len).all (dR 200 0)=true then some (mkIsl false sz ((xs.drop off).take len),h.set id .dead)else none
  | _=>none
 | v=>some (v,h)
def oC(f:aA→DV→Option (DV×aA))(h:aA):List DV→Option (List DV×aA)
 | []=>some ([],h)
 | v::r=>match f h v with
  | some (v',h1)=>match oC f h1 r with
   | some (r',h2)=>some (v'::r',h2)
   | none=>none
  | none=>none
def fB(h:aA):DV→Option (DV×aA)
 | .agg cs=>match oC gS h cs with|some (cs',h1)=>some (.agg cs',h1)|none=>none
 | v=>gS h v
def enter(run:aI→Env→aA→Res)(D:bU)(f:Nat)(args:List DV)(h:aA):Option (DV×aA) :=
 match D.hook f with
 | some hk=>hk h args
 | none =>
  match D.fn f with
  | none=>none
  | some df =>
   let go (args:List DV) (h:aA):Option (DV×aA) :=
    match run df.body (args++List.replicate (df.ntmps-args.length) bH) h with
    | .ok (.exit _) _ _=>none
    | .ok _ env h'=>match aT h' env df.results with
     | some v=>some (v,h')
     | none=>none
    | .fail=>none
   match df.mode with
   | .full=>go args h
   | .fresh=>match go args {h with lim:=h.n} with
    | some (v,h')=>some (v,{h' with lim:=h.lim})
    | none=>none
   | .pure=>match args.mapM (resolve true h bO)with
    | some ds=>match go ds {objs:=[],n:=0,lim:=0} with
     | some (v,h')=>match resolve false h' bO v with
      | some d=>if aZ bO d then some (d,h)else none
      | none=>none
     | none=>none
    | none=>none
   | .split=>match args with
    | .sl id sz off len::rest=>match h.get id with
     | some (.arr ety dK xs none) =>
      if sz=dK∧h.lim≤id then
       let k:=(rest.map Bv).foldl (·+·) 0
       let scn (e:Nat) (cap:Option Nat):Option (List DV) :=
        pM h ety sz (go (.sl h.n sz off len::rest) {(h.set id .dead).push (.arr ety sz (xs++List.replicate e .unk) cap)with lim:=h.n})
       match scn k none with
       | some l=>if(List.range k).all (fun e=>match scn e (some (xs.length+e))with|some l'=>uC l l'|none=>false)=true then
         some (.sl h.n sz 0 l.length,(h.set id .dead).push (.arr ety sz l none))else none
       | none=>none
      else none
     | _=>go args h
    | _=>go args h
   | .frz=>match oC fB h args with
    | some (as,h1)=>match as.mapM (resolve true h1 bO)with
     | some ds=>match go ds {objs:=[],n:=0,lim:=0} with
      | some (v,h')=>match resolve false h' bO v with
       | some d=>if aZ bO d then some (d,h1)else none
       | none=>none
      | none=>none
     | none=>none
    | none=>none
def dB(D:bU):Nat→aI→Env→aA→Res
 | 0,_,_,_=>.fail
 | n+1,c,env,h =>
  match c with
  | .skip=>.ok .normal env h
  | .seq a b=>match dB D n a env h with
   | .ok .normal env h=>dB D n b env h
   | r=>r
  | .cond c a b=>match c.eval env with
   | .bool true=>dB D n a env h
   | .bool false=>dB D n b env h
   | _=>.fail
  | .block id b=>match dB D n b env h with
   | .ok (.exit id') env h=>if id'=id then .ok .normal env h else .ok (.exit id') env h
   | r=>r
  | .loop b=>match dB D n b env h with
   | .ok .normal env h=>dB D n (.loop b) env h
   | r=>r
  | .exit id=>.ok (.exit id) env h
  | .ret=>.ok .ret env h
  | .region ops=>match eM (enter (dB D n) D) ops env h with
   | some (env,h)=>.ok .normal env h
   | none=>.fail
  | .draw ops=>match dL (enter (dB D n) D) ops env [h] .start with
   | some (env,h)=>.ok .normal env h
   | none=>.fail
  | .walk x it nx ok en X Y kl ops b=>Fq (enter (dB D n) D) (dB D n) it nx ok en X Y kl ops b env h (sO h (x.eval env))
def Ir(D:bU)(n:Nat)(f:Nat)(args:List DV)(h:aA):Option (DV×aA):=enter (dB D n) D f args h
end Go.Dm
/-
Part 2 of "Dm": how its data stand for Go's values in a world, and that this is kept while the world grows.
-/
namespace Go.Dm
structure Ctx where
 w:World
 ρ:Nat→Option (Nat×Nat)
 O:Nat→Prop
 X:Nat→Prop
 E:Nat→Prop
 τ:Nat→Value
def Ctx.still(c:Ctx):Ctx:={c with ρ:=fun _=>none}
inductive VR:Ctx→DV→Value→Prop where
 | unk {c:Ctx} (v:Value):VR c .unk v
 | bool {c:Ctx} (b:Bool):VR c (.bool b) (.bool b)
 | int {c:Ctx} (k:IntKind) (n:Int):VR c (.int k n) (.int k n)
 | atl {c:Ctx} {n:Nat} {m:Int} (h:(n:Int)≤m):VR c (.atl n) (.int .i64 m)
 | tok {c:Ctx} {i:Nat} {v:Value} (h:c.τ i=v):VR c (.tok i) v
 | str {c:Ctx} (s:List UInt8):VR c (.str s) (.string ⟨s.toArray⟩)
 | nilp {c:Ctx}:VR c .nilp (.pointer none)
 | ptr {c:Ctx} {id sz idx off b base:Nat} (h:c.ρ id=some (b,base)):VR c (.ptr id sz idx off) (.pointer (some ⟨b,base+idx*sz+off,none⟩))
 | iptr {c:Ctx} {lent:Bool} {cs:List DV} {off b o:Nat} (vals:Nat→Value) (hb:b<c.w.heap.size) (hO:¬c.O b) (hX:lent=false→¬c.X b)
   (hc:∀j,j<cs.length→c.w.cell? ⟨b,o+j,none⟩=some (vals j)∧(vals j).oneCell'=true)
   (hv:∀j (hj:j<cs.length),VR c.still cs[j] (vals j)):VR c (.iptr lent cs off) (.pointer (some ⟨b,o+off,none⟩))
 | nsl {c:Ctx} (a:Option Addr):VR c .nsl (.slice a 0 0)
 | sl {c:Ctx} {id sz off len b base cap gK n:Nat} {ety:TypeId} (h:c.ρ id=some (b,base)) (hs:c.w.shape? b=some (ety,n)) (hn:base+off*sz+cap*sz=n)
   (hl:len≤cap) (ho:gK=base+off*sz∨cap=0):VR c (.sl id sz off len) (.slice (some ⟨b,gK,none⟩) len cap)
 | isl0 {c:Ctx} {lent:Bool} {sz:Nat} (a:Option Addr) (cap:Nat):VR c (.isl lent sz []) (.slice a 0 cap)
 | isl {c:Ctx} {lent:Bool} {sz:Nat} {xs:List DV} {b o cap len:Nat} (vals:Nat→Nat→Value) (cC:len=xs.length) (gZ:len≤cap) (hb:b<c.w.heap.size) (hO:¬c.O b) (hX:lent=false→¬c.X b)
   (dX:∀i (hi:i<xs.length),(aF sz xs[i]).length=sz)
   (hc:∀i j,i<xs.length→j<sz→c.w.cell? ⟨b,o+i*sz+j,none⟩=some (vals i j)∧(vals i j).oneCell'=true)
   (hv:∀i (hi:i<xs.length) j (hj:j<(aF sz xs[i]).length),VR c.still (aF sz xs[i])[j] (vals i j)):VR c (.isl lent sz xs) (.slice (some ⟨b,o,none⟩) len cap)
 | nmap {c:Ctx}:VR c .nmap (.map none)
 | map {c:Ctx} {id b:Nat} (h:c.ρ id=some (b,0)):VR c (.map id) (.map (some b))
 | func {c:Ctx} {f:FuncId} {ds:List DV} {vs:List Value} (hl:ds.length=vs.length) (hv:∀i (h1:i<ds.length) (h2:i<vs.length),VR c ds[i] vs[i]) :
   VR c (.func f ds) (.func (.func f) #[] vs.toArray)
 | nilf {c:Ctx}:VR c .nilf .nilFunc
 | iface {c:Ctx} {t:TypeId} {d:DV} {v:Value} (h:VR c d v):VR c (.iface t d) (.iface t v)
 | nili {c:Ctx}:VR c .nili .nilIface
 | agg {c:Ctx} {ds:List DV} {vs:List Value} (hl:ds.length=vs.length) (h1:∀i (h2:i<vs.length),(vs[i]).oneCell'=true)
   (hv:∀i (h1:i<ds.length) (h2:i<vs.length),VR c ds[i] vs[i]):VR c (.agg ds) (.agg vs.toArray)
 | tup {c:Ctx} {ds:List DV} {vs:List Value} (hl:ds.length=vs.length)
   (hv:∀i (h1:i<ds.length) (h2:i<vs.length),VR c ds[i] vs[i]):VR c (.tup ds) (.tuple vs.toArray)
theorem VR.bool_inv{c:Ctx}{b:Bool}{v:Value}(h:VR c (.bool b) v):v=.bool b:=by cases h;rfl
theorem VR.int_inv{c:Ctx}{k:IntKind}{n:Int}{v:Value}(h:VR c (.int k n) v):v=.int k n:=by cases h;rfl
theorem VR.str_inv{c:Ctx}{s:List UInt8}{v:Value}(h:VR c (.str s) v):v=.string ⟨s.toArray⟩:=by cases h;rfl
theorem VR.nsl_inv{c:Ctx}{v:Value}(h:VR c .nsl v):∃ a,v=.slice a 0 0:=by cases h;exact⟨_,rfl⟩
theorem VR.nmap_inv{c:Ctx}{v:Value}(h:VR c .nmap v):v=.map none:=by cases h;rfl
theorem VR.map_inv{c:Ctx}{id:Nat}{v:Value}(h:VR c (.map id) v):∃ b,v=.map (some b)∧c.ρ id=some (b,0):=by cases h;exact⟨_,rfl,by assumption⟩
theorem VR.ptr_inv{c:Ctx}{id sz idx off:Nat}{v:Value}(h:VR c (.ptr id sz idx off) v):∃ b base,v=.pointer (some ⟨b,base+idx*sz+off,none⟩)∧c.ρ id=some (b,base):=by cases h;exact⟨_,_,rfl,by assumption⟩
theorem VR.sl_inv{c:Ctx}{id sz off len:Nat}{v:Value}(h:VR c (.sl id sz off len) v):∃ b base cap gK n ety,v=.slice (some ⟨b,gK,none⟩) len cap∧c.ρ id=some (b,base)∧c.w.shape? b=some (ety,n) ∧
  base+off*sz+cap*sz=n∧len≤cap∧(gK=base+off*sz∨cap=0):=by cases h;exact⟨_,_,_,_,_,_,rfl,by assumption,by assumption,by assumption,by assumption,by assumption⟩
theorem VR.agg_inv{c:Ctx}{ds:List DV}{v:Value}(h:VR c (.agg ds) v):∃ vs:List Value,v=.agg vs.toArray∧ds.length=vs.length∧(∀i (h2:i<vs.length),(vs[i]).oneCell'=true)∧(∀i (h1:i<ds.length) (h2:i<vs.length),VR c ds[i] vs[i]):=by
 cases h;exact⟨_,rfl,by assumption,by assumption,by assumption⟩
theorem VR.tup_inv{c:Ctx}{ds:List DV}{v:Value}(h:VR c (.tup ds) v):∃ vs:List Value,v=.tuple vs.toArray∧ds.length=vs.length∧(∀i (h1:i<ds.length) (h2:i<vs.length),VR c ds[i] vs[i]):=by
 cases h;exact⟨_,rfl,by assumption,by assumption⟩
theorem VR.func_inv{c:Ctx}{f:FuncId}{ds:List DV}{v:Value}(h:VR c (.func f ds) v):∃ vs:List Value,v=.func (.func f) #[] vs.toArray∧ds.length=vs.length∧(∀i (h1:i<ds.length) (h2:i<vs.length),VR c ds[i] vs[i]):=by
 cases h;exact⟨_,rfl,by assumption,by assumption⟩
theorem VR.iptr_inv{c:Ctx}{lent:Bool}{cs:List DV}{off:Nat}{v:Value}(h:VR c (.iptr lent cs off) v):∃ (b o:Nat) (vals:Nat→Value),v=.pointer (some ⟨b,o+off,none⟩)∧b<c.w.heap.size∧¬c.O b∧(lent=false→¬c.X b) ∧
  (∀j,j<cs.length→c.w.cell? ⟨b,o+j,none⟩=some (vals j)∧(vals j).oneCell'=true)∧(∀j (hj:j<cs.length),VR c.still cs[j] (vals j)):=by
 cases h;exact⟨_,_,_,rfl,by assumption,by assumption,by assumption,by assumption,by assumption⟩
theorem VR.isl_inv{c:Ctx}{lent:Bool}{sz:Nat}{xs:List DV}{v:Value}(h:VR c (.isl lent sz xs) v):(xs=[]∧∃ a cap,v=.slice a 0 cap)∨∃ (b o cap:Nat) (vals:Nat→Nat→Value),v=.slice (some ⟨b,o,none⟩) xs.length cap ∧
  xs.length≤cap∧b<c.w.heap.size∧¬c.O b∧(lent=false→¬c.X b)∧(∀i (hi:i<xs.length),(aF sz xs[i]).length=sz) ∧
  (∀i j,i<xs.length→j<sz→c.w.cell? ⟨b,o+i*sz+j,none⟩=some (vals i j)∧(vals i j).oneCell'=true) ∧
  (∀i (hi:i<xs.length) j (hj:j<(aF sz xs[i]).length),VR c.still (aF sz xs[i])[j] (vals i j)):=by
 cases h
 ·exact .inl ⟨rfl,_,_,rfl⟩
 ·rename_i b o cap len vals gZ hb hO hX cC dX hc hv
  subst cC
  exact .inr ⟨b,o,cap,vals,rfl,gZ,hb,hO,hX,dX,hc,hv⟩
def VRs(c:Ctx)(ds:List DV)(vs:List Value):Prop:=ds.length=vs.length∧∀i (h1:i<ds.length) (h2:i<vs.length),VR c ds[i] vs[i]
structure lV(w w':World):Prop where
 os:w'.os=w.os
 out:w'.output=w.output
 tape:w'.tape=w.tape
 drawn:w.drawn≤w'.drawn
 size:w.heap.size≤w'.heap.size
 froz:∀a,a.block<w.heap.size→w'.frozen? a=w.frozen? a
def U9(w w':World):Prop:=w'.os=w.os∧w'.output=w.output∧w'.tape=w.tape∧w.drawn≤w'.drawn
theorem lV.refl(w:World):lV w w:=⟨rfl,rfl,rfl,Nat.le_refl _,Nat.le_refl _,fun _ _=>rfl⟩
theorem lV.trans{a b c:World}(h:lV a b)(g:lV b c):lV a c:=⟨g.os.trans h.os,g.out.trans h.out,g.tape.trans h.tape,Nat.le_trans h.drawn g.drawn,Nat.le_trans h.size g.size,fun x hx=>(g.froz x (Nat.lt_of_lt_of_le hx h.size)).trans (h.froz x hx)⟩
def calm:Obj→Prop
 | .cells _ _ fr=>fr=(0,0)
 | _=>True
theorem nU{w:World}{ob:Obj}{a:Addr}(h:w.heap[a.block]?=some ob)(hc:calm ob):w.frozen? a=false:=by
 cases ob with
 | cells cur e fr =>
  have hc:fr=(0,0):=hc
  subst hc
  simp[World.frozen?,h]
 | _=>simp[World.frozen?,h]
theorem lV.push{w w':World}{ob:Obj}(hw:w'.heap=w.heap.push ob)(_:calm ob)(ho:w'.os=w.os)(hu:w'.output=w.output)(ht:w'.tape=w.tape:=by rfl)(hd:w.drawn≤w'.drawn:=by first|exact Nat.le_refl _|exact Nat.le_succ _):lV w w':=by
 refine⟨ho,hu,ht,hd,by rw[hw];simp,fun a ha=>?_⟩
 have:w'.heap[a.block]?=w.heap[a.block]?:=by
  have he:¬a.block=w.heap.size:=by omega
  rw[hw,Array.getElem?_push];simp[he]
 simp only[World.frozen?,this]
theorem lV.at{w w':World}{b:Nat}{ob ob':Obj}(h1:w.heap[b]?=some ob)(h2:w'.heap[b]?=some ob')(hk:∀k,k≠b→w'.heap[k]?=w.heap[k]?)(c1:calm ob)(c2:calm ob')(ho:w'.os=w.os)(hu:w'.output=w.output)(ht:w'.tape=w.tape:=by rfl)(hd:w.drawn≤w'.drawn:=by first|exact Nat.le_refl _|exact Nat.le_succ _):lV w w':=by
 refine⟨ho,hu,ht,hd,?_,fun a _=>?_⟩
 ·refine Nat.le_of_not_lt fun aY=>?_
  have e1:w.heap[w'.heap.size]?=some w.heap[w'.heap.size]:=Array.getElem?_eq_getElem aY
  by_cases e:w'.heap.size=b
  ·rw[←e]at h2
   simp at h2
  ·have:=hk _ e
   rw[e1]at this
   simp at this
 ·by_cases e:a.block=b
  ·rw[nU (w:=w') (by rw[e];exact h2) c2,nU (w:=w) (by rw[e];exact h1) c1]
  ·simp only[World.frozen?,hk _ e]
structure bI(c c':Ctx):Prop where
 rho:∀id p,c.ρ id=some p→c'.ρ id=some p
 size:c.w.heap.size≤c'.w.heap.size
 frame:∀b,b<c.w.heap.size→¬c.O b→c'.w.heap[b]?=c.w.heap[b]?
 own:∀b,c'.O b→c.O b∨c.w.heap.size≤b
 shape:∀b e n,c.w.shape? b=some (e,n)→c'.w.shape? b=some (e,n)
 X:∀b,c'.X b→c.X b
 pend:∀b,b<c.w.heap.size→c'.E b→c.E b∧c'.w.heap[b]?=c.w.heap[b]?
 quiet:lV c.w c'.w
 tok:c'.τ=c.τ
theorem bI.refl(c:Ctx):bI c c:=⟨fun _ _ h=>h,Nat.le_refl _,fun _ _ _=>rfl,fun _ h=>.inl h,fun _ _ _ h=>h,fun _ h=>h,fun _ _ h=>⟨h,rfl⟩,.refl _,rfl⟩
theorem bI.trans{a b c:Ctx}(h:bI a b)(g:bI b c):bI a c where
 rho:=fun id p hp=>g.rho id p (h.rho id p hp)
 size:=Nat.le_trans h.size g.size
 frame:=fun k hk hO=>by
  have hb:¬b.O k:=fun hb=>(h.own k hb).elim hO (fun cD=>by omega)
  rw[g.frame k (Nat.lt_of_lt_of_le hk h.size) hb,h.frame k hk hO]
 own:=fun k hk=>(g.own k hk).elim (fun hb=>h.own k hb) (fun cD=>.inr (Nat.le_trans h.size cD))
 shape:=fun k e n hs=>g.shape k e n (h.shape k e n hs)
 X:=fun k hk=>h.X k (g.X k hk)
 pend:=fun k hk hE=>by
  obtain⟨g1,g2⟩:=g.pend k (Nat.lt_of_lt_of_le hk h.size) hE
  obtain⟨h1,h2⟩:=h.pend k hk g1
  exact⟨h1,g2.trans h2⟩
 quiet:=h.quiet.trans g.quiet
 tok:=g.tok.trans h.tok
theorem bI.toStill{c c':Ctx}(h:bI c c'):bI c.still c'.still :=
 ⟨fun _ _ hp=>by simp[Ctx.still]at hp,h.size,h.frame,h.own,h.shape,h.X,h.pend,h.quiet,h.tok⟩
theorem bI.cell{c c':Ctx}(h:bI c c'){b o:Nat}{v:Value}(hb:b<c.w.heap.size)(hO:¬c.O b)(hc:c.w.cell? ⟨b,o,none⟩=some v):c'.w.cell? ⟨b,o,none⟩=some v:=by
 rw[←hc];exact World.cell?_of_block (h.frame b hb hO)
theorem bI.notO{c c':Ctx}(h:bI c c'){b:Nat}(hb:b<c.w.heap.size)(hO:¬c.O b):¬c'.O b:=fun Kh=>(h.own b Kh).elim hO (fun cD=>by omega)
theorem VR.mono{c:Ctx}{d:DV}{v:Value}(h:VR c d v):∀{c':Ctx},bI c c'→VR c' d v:=by
 induction h with
 | unk v=>intro c' _;exact .unk v
 | bool b=>intro c' _;exact .bool b
 | int k n=>intro c' _;exact .int k n
 | atl h=>intro c' _;exact .atl h
 | tok h=>intro c' cD;exact .tok (by rw[cD.tok];exact h)
 | str s=>intro c' _;exact .str s
 | nilp=>intro c' _;exact .nilp
 | ptr h=>intro c' cD;exact .ptr (cD.rho _ _ h)
 | iptr vals hb hO hX hc hv ih =>
  intro c' cD
  exact .iptr vals (Nat.lt_of_lt_of_le hb cD.size) (cD.notO hb hO) (fun hl hx=>hX hl (cD.X _ hx)) (fun j hj=>⟨cD.cell hb hO (hc j hj).1,(hc j hj).2⟩) (fun j hj=>ih j hj cD.toStill)
 | nsl a=>intro c' _;exact .nsl a
 | sl h hs hn hl ho=>intro c' cD;exact .sl (cD.rho _ _ h) (cD.shape _ _ _ hs) hn hl ho
 | isl0 a cap=>intro c' _;exact .isl0 a cap
 | isl vals cC gZ hb hO hX dX hc hv ih =>
  intro c' cD
  exact .isl vals cC gZ (Nat.lt_of_lt_of_le hb cD.size) (cD.notO hb hO) (fun hl hx=>hX hl (cD.X _ hx)) dX (fun i j hi hj=>⟨cD.cell hb hO (hc i j hi hj).1,(hc i j hi hj).2⟩) (fun i hi j hj=>ih i hi j hj cD.toStill)
 | nmap=>intro c' _;exact .nmap
 | map h=>intro c' cD;exact .map (cD.rho _ _ h)
 | func hl _ ih=>intro c' cD;exact .func hl (fun i h1 h2=>ih i h1 h2 cD)
 | nilf=>intro c' _;exact .nilf
 | iface _ ih=>intro c' cD;exact .iface (ih cD)
 | nili=>intro c' _;exact .nili
 | agg hl h1 _ ih=>intro c' cD;exact .agg hl h1 (fun i h1 h2=>ih i h1 h2 cD)
 | tup hl _ ih=>intro c' cD;exact .tup hl (fun i h1 h2=>ih i h1 h2 cD)
theorem VR.of_still{c:Ctx}{d:DV}{v:Value}(h:VR c.still d v):VR c d v :=
 h.mono (c':=c) ⟨fun _ _ hp=>by simp[Ctx.still]at hp,Nat.le_refl _,fun _ _ _=>rfl,fun _ h=>.inl h,fun _ _ _ h=>h,fun _ h=>h,fun _ _ h=>⟨h,rfl⟩,.refl _,rfl⟩
theorem VRs.mono{c c':Ctx}{ds:List DV}{vs:List Value}(h:VRs c ds vs)(cD:bI c c'):VRs c' ds vs:=⟨h.1,fun i h1 h2=>(h.2 i h1 h2).mono cD⟩
theorem VR.one{c:Ctx}{d:DV}{v:Value}(h:VR c d v)(hu:d≠.unk)(h1:d.one=true):v.oneCell'=true:=by
 cases h<;>first|rfl|exact absurd rfl hu|exact absurd h1 (by simp[DV.one])
def fQ:DO→Bool
 | .dead=>false
 | _=>true
def iI(h:aA)(ρ:Nat→Option (Nat×Nat))(b:Nat):Prop:=∃ id o base,h.get id=some o∧fQ o=true∧ρ id=some (b,base)
def gJ(c:Ctx)(xs:List DV)(sz:Nat)(cur:Array Value)(base:Nat):Prop :=
 ∀i (hi:i<xs.length),(aF sz xs[i]).length=sz∧∀j (hj:j<(aF sz xs[i]).length),∃ v,cur[base+i*sz+j]?=some v∧v.oneCell'=true∧VR c (aF sz xs[i])[j] v
def lW(cur:Array Value):Prop:=∀(j:Nat) (v:Value),cur[j]?=some v→v.oneCell'=true
structure Bq(es:Array MapEntry)(clk:Nat):Prop where
 lt:∀e∈es.toList,e.born<clk
 inc:(es.toList.map (·.born)).Pairwise (·<·)
def Kx(c:Ctx)(id:Nat):DO→Prop
 | .dead=>True
 | .arr ety sz xs cap=>∃ b base cur m,c.ρ id=some (b,base)∧c.w.heap[b]?=some (.cells cur ety (0,0))∧0<sz∧cur.size=base+m*sz∧xs.length≤m ∧
   (∀k,cap=some k→k=m∧xs.length=m)∧lW cur∧gJ c xs sz cur base
 | .mp es=>∃ es':List (DV×DV),es.Perm es'∧∃ b entries clock,c.ρ id=some (b,0)∧c.w.heap[b]?=some (.map entries clock)∧es'.length=entries.size ∧
   (∀i (h1:i<es'.length) (h2:i<entries.size),VR c es'[i].1 entries[i].key∧VR c es'[i].2 entries[i].val)∧Bq entries clock
def Qk:Option (Nat×Value):=some (0,.iface 308 (.agg #[.pointer (some ⟨2,41,none⟩)]))
def Rf(c:Ctx):Prop:=∀b v,Qk=some (b,v)→b<c.w.heap.size∧¬c.O b∧c.w.cell? ⟨b,0,none⟩=some v
theorem Rf.mono{c c':Ctx}(h:Rf c)(cD:bI c c'):Rf c':=fun b v hv=>by
 obtain⟨h1,h2,h3⟩:=h b v hv
 exact⟨Nat.lt_of_lt_of_le h1 cD.size,cD.notO h1 h2,cD.cell h1 h2 h3⟩
structure Rel(h:aA)(c:Ctx):Prop where
 len:h.objs.length=h.n
 lim:h.lim≤h.n
 dom:∀id,c.ρ id≠none→id<h.n
 obj:∀id o,h.get id=some o→Kx c id o
 inj:∀i j oi oj b x y,h.get i=some oi→h.get j=some oj→fQ oi=true→fQ oj=true→c.ρ i=some (b,x)→c.ρ j=some (b,y)→i=j
 own:∀b,c.O b↔iI h c.ρ b∨c.E b
 notX:∀b,c.O b→¬c.X b
 old:∀b,c.X b→b<c.w.heap.size
 pend:∀b,c.E b→b<c.w.heap.size∧¬iI h c.ρ b
 glob:Rf c
theorem cT{h:aA}{o:DO}:(h.push o).get h.n=some o:=by
 simp[aA.get,aA.push]
theorem aG{h:aA}{o:DO}{id:Nat}(eF:id<h.n):(h.push o).get id=h.get id:=by
 have h1:id<h.n+1:=by omega
 have h2:h.n-id=(h.n-1-id)+1:=by omega
 simp[aA.get,aA.push,eF,h1,h2]
theorem cY{h:aA}{id:Nat}{o:DO}(hg:h.get id=some o):id<h.n:=by
 unfold aA.get at hg
 split at hg
 ·assumption
 ·cases hg
theorem cH{h:aA}{o:DO}{id:Nat}:(h.push o).get id=if id=h.n then some o else h.get id:=by
 split
 ·rename_i e;subst e;exact cT
 ·rename_i e
  by_cases aY:id<h.n
  ·exact aG aY
  ·have:¬id<h.n+1:=by omega
   simp[aA.get,aA.push,aY,this]
theorem bV{h:aA}{id:Nat}{o o':DO}(hl:h.objs.length=h.n)(hg:h.get id=some o):(h.set id o').get id=some o':=by
 have:=cY hg
 simp[aA.get,aA.set,this,List.getElem?_set,hl]
 omega
theorem aN{h:aA}{id k:Nat}{o':DO}(eF:id<h.n)(cK:k≠id):(h.set id o').get k=h.get k:=by
 unfold aA.get aA.set
 simp only
 by_cases hk:k<h.n
 ·rw[if_pos hk,if_pos hk,List.getElem?_set]
  rw[if_neg (by omega)]
 ·rw[if_neg hk,if_neg hk]
theorem Cj{h:aA}{o:DO}:(h.push o).n=h.n+1:=rfl
theorem sJ{h:aA}{o:DO}(hl:h.objs.length=h.n):(h.push o).objs.length=(h.push o).n:=by simp[aA.push,hl]
theorem Ao{h:aA}{id:Nat}{o:DO}(hl:h.objs.length=h.n):(h.set id o).objs.length=(h.set id o).n:=by simp[aA.set,hl]
theorem Fg{h:aA}{l id:Nat}:({h with lim:=l}:aA).get id=h.get id:=rfl
def Ctx.next(c:Ctx)(w':World)(ρ':Nat→Option (Nat×Nat))(h':aA):Ctx:=⟨w',ρ',fun b=>iI h' ρ' b∨c.E b,c.X,c.E,c.τ⟩
theorem Kx.mono{c c':Ctx}{id:Nat}{o:DO}(h:Kx c id o)(cD:bI c c')(hb:fQ o=true→∀b x,c.ρ id=some (b,x)→c'.w.heap[b]?=c.w.heap[b]?):Kx c' id o:=by
 cases o with
 | dead=>trivial
 | arr ety sz xs cap =>
  obtain⟨b,base,cur,m,h1,h2,h3,h4,h5,h6,h8,h7⟩:=h
  refine⟨b,base,cur,m,cD.rho _ _ h1,(hb rfl b base h1).trans h2,h3,h4,h5,h6,h8,fun i hi=>⟨(h7 i hi).1,fun j hj=>?_⟩⟩
  obtain⟨v,a1,a2,a3⟩:=(h7 i hi).2 j hj
  exact⟨v,a1,a2,a3.mono cD⟩
 | mp es =>
  obtain⟨es',hp,b,entries,clock,h1,h2,h3,h4,h5⟩:=h
  exact⟨es',hp,b,entries,clock,cD.rho _ _ h1,(hb rfl b 0 h1).trans h2,h3,fun i a1 a2=>⟨(h4 i a1 a2).1.mono cD,(h4 i a1 a2).2.mono cD⟩,h5⟩
theorem Rel.block_lt{h:aA}{c:Ctx}(hR:Rel h c){id:Nat}{o:DO}{b x:Nat}(hg:h.get id=some o)(ha:fQ o=true)(hr:c.ρ id=some (b,x)):b<c.w.heap.size:=by
 have:=hR.obj id o hg
 cases o with
 | dead=>simp[fQ]at ha
 | arr ety sz xs cap =>
  obtain⟨b',base',cur,m,h1,h2,_⟩:=this
  rw[hr]at h1;cases h1
  exact(Array.getElem?_eq_some_iff.1 h2).1
 | mp es =>
  obtain⟨_,_,b',entries,clock,h1,h2,_⟩:=this
  rw[hr]at h1;cases h1
  exact(Array.getElem?_eq_some_iff.1 h2).1
theorem Rel.O_lt{h:aA}{c:Ctx}(hR:Rel h c){b:Nat}(hO:c.O b):b<c.w.heap.size:=by
 rcases(hR.own b).1 hO with⟨id,o,x,hg,ha,hr⟩|hE
 ·exact hR.block_lt hg ha hr
 ·exact(hR.pend b hE).1
theorem Gg{w:World}{b n:Nat}{e:TypeId}(hs:w.shape? b=some (e,n)):b<w.heap.size:=by
 unfold World.shape? at hs
 split at hs
 ·rename_i hh;exact(Array.getElem?_eq_some_iff.1 hh).1
 ·cases hs
theorem Rel.push{h:aA}{c:Ctx}(hR:Rel h c)(o:DO)(w':World)(b base:Nat)(hb:c.w.heap.size≤b)
  (jW:c.w.heap.size≤w'.heap.size) (fR:∀k,k<c.w.heap.size→w'.heap[k]?=c.w.heap[k]?) (hq:lV c.w w')
  (Py:bI c (c.next w' (fun i=>if i=h.n then some (b,base)else c.ρ i) (h.push o))→Kx (c.next w' (fun i=>if i=h.n then some (b,base)else c.ρ i) (h.push o)) h.n o) :
  Rel (h.push o) (c.next w' (fun i=>if i=h.n then some (b,base)else c.ρ i) (h.push o)) ∧
  bI c (c.next w' (fun i=>if i=h.n then some (b,base)else c.ρ i) (h.push o)):=by
 have iX:∀k,iI (h.push o) (fun i=>if i=h.n then some (b,base)else c.ρ i) k→iI h c.ρ k∨k=b:=by
  rintro k ⟨id,o',x,hg,ha',hr⟩
  by_cases e:id=h.n
  ·simp only[e,if_true]at hr;cases hr;exact .inr rfl
  ·simp only[if_neg e]at hr
   rw[cH,if_neg e]at hg
   exact .inl ⟨id,o',x,hg,ha',hr⟩
 have hownO:∀k,(iI (h.push o) (fun i=>if i=h.n then some (b,base)else c.ρ i) k∨c.E k)→c.O k∨k=b:=by
  rintro k (h1|h1)
  ·exact(iX k h1).imp (fun h2=>(hR.own k).2 (.inl h2)) id
  ·exact .inl ((hR.own k).2 (.inr h1))
 have cD:bI c (c.next w' (fun i=>if i=h.n then some (b,base)else c.ρ i) (h.push o)):=by
  refine⟨fun id p hp=>?_,jW,fun k hk _=>fR k hk,fun k hk=>?_,fun k e n hs=>?_,fun _ hx=>hx,fun k hk hE=>⟨hE,fR k hk⟩,hq,rfl⟩
  ·have:id<h.n:=hR.dom id (by rw[hp];simp)
   simp only[Ctx.next]
   rw[if_neg (by omega)];exact hp
  ·rcases hownO k hk with h1|h1
   ·exact .inl h1
   ·exact .inr (by omega)
  ·have hk:=Gg hs
   simp only[World.shape?,Ctx.next]at hs ⊢
   rw[fR k hk];exact hs
 refine⟨⟨sJ hR.len,Nat.le_succ_of_le hR.lim,?_,?_,?_,fun _=>Iff.rfl,?_,fun k hk=>Nat.lt_of_lt_of_le (hR.old k hk) jW,fun k hk=>⟨Nat.lt_of_lt_of_le (hR.pend k hk).1 jW,fun ho=>(iX k ho).elim (hR.pend k hk).2 fun e=>by have:=(hR.pend k hk).1;omega⟩,hR.glob.mono cD⟩,cD⟩
 ·intro id eF
  rw[Cj]
  by_cases e:id=h.n
  ·omega
  ·simp only[Ctx.next,if_neg e]at eF;have:=hR.dom id eF;omega
 ·intro id o' hg
  rw[cH]at hg
  split at hg
  ·rename_i e;subst e;cases hg;exact Py cD
  ·exact(hR.obj id o' hg).mono cD fun ha k x hr=>fR k (hR.block_lt hg ha hr)
 ·intro i j oi oj k x y hi hj pU Mk nX xN
  simp only[Ctx.next]at nX xN
  rw[cH]at hi hj
  by_cases ei:i=h.n<;>by_cases ej:j=h.n
  ·omega
  ·simp only[if_pos ei]at nX;simp only[if_neg ej]at xN hj
   cases nX
   have:=hR.block_lt hj Mk xN
   omega
  ·simp only[if_neg ei]at nX hi;simp only[if_pos ej]at xN
   cases xN
   have:=hR.block_lt hi pU nX
   omega
  ·simp only[if_neg ei]at nX hi;simp only[if_neg ej]at xN hj
   exact hR.inj i j oi oj k x y hi hj pU Mk nX xN
 ·intro k hk hx
  rcases hownO k hk with h1|h1
  ·exact hR.notX k h1 hx
  ·have:=hR.old k hx;omega
theorem Rel.set{h:aA}{c:Ctx}(hR:Rel h c){id:Nat}{o:DO}(o':DO)(hg:h.get id=some o)(ha:fQ o=true)(ha':fQ o'=true){b base:Nat}(hr:c.ρ id=some (b,base))(w':World)
  (jW:c.w.heap.size=w'.heap.size) (fR:∀k,k≠b→w'.heap[k]?=c.w.heap[k]?) (dV:∀e n,c.w.shape? b=some (e,n)→w'.shape? b=some (e,n)) (hq:lV c.w w')
  (Py:bI c (c.next w' c.ρ (h.set id o'))→Kx (c.next w' c.ρ (h.set id o')) id o') :
  Rel (h.set id o') (c.next w' c.ρ (h.set id o'))∧bI c (c.next w' c.ρ (h.set id o')):=by
 have eF:=cY hg
 have hO:c.O b:=(hR.own b).2 (.inl ⟨id,o,base,hg,ha,hr⟩)
 have iX:∀k,iI (h.set id o') c.ρ k↔iI h c.ρ k:=by
  intro k
  constructor
  ·rintro⟨i,oi,x,rR,pU,nX⟩
   by_cases e:i=id
   ·subst e;exact⟨i,o,x,hg,ha,nX⟩
   ·rw[aN eF e]at rR;exact⟨i,oi,x,rR,pU,nX⟩
  ·rintro⟨i,oi,x,rR,pU,nX⟩
   by_cases e:i=id
   ·subst e;exact⟨i,o',x,bV hR.len hg,ha',nX⟩
   ·exact⟨i,oi,x,by rw[aN eF e];exact rR,pU,nX⟩
 have cD:bI c (c.next w' c.ρ (h.set id o')):=by
  refine⟨fun _ _ hp=>hp,Nat.le_of_eq jW,fun k hk hnO=>fR k (fun e=>hnO (e ▸ hO)),fun k hk=>.inl ((hR.own k).2 (hk.imp (iX k).1 (fun x=>x))),fun k e n hs=>?_,fun _ hx=>hx,
   fun k hk hE=>⟨hE,fR k fun e=>(hR.pend k hE).2 (e ▸ ⟨id,o,base,hg,ha,hr⟩)⟩,hq,rfl⟩
  by_cases ek:k=b
  ·subst ek;exact dV e n hs
  ·simp only[World.shape?,Ctx.next]at hs ⊢
   rw[fR k ek];exact hs
 refine⟨⟨Ao hR.len,hR.lim,hR.dom,?_,?_,fun _=>Iff.rfl,fun k hk=>hR.notX k ((hR.own k).2 (hk.imp (iX k).1 (fun x=>x))),fun k hk=>by simpa[Ctx.next,←jW]using hR.old k hk,
   fun k hk=>⟨by simpa[Ctx.next,←jW]using(hR.pend k hk).1,fun ho=>(hR.pend k hk).2 ((iX k).1 ho)⟩,hR.glob.mono cD⟩,cD⟩
 ·intro i oi rR
  by_cases e:i=id
  ·subst e
   rw[bV hR.len hg]at rR
   cases rR
   exact Py cD
  ·rw[aN eF e]at rR
   refine(hR.obj i oi rR).mono cD fun pU k x nX=>fR k fun ek=>e ?_
   subst ek
   exact hR.inj i id oi o k x base rR hg pU ha nX hr
 ·intro i j oi oj k x y hi hj pU Mk nX xN
  have key:∀i oi,(h.set id o').get i=some oi→fQ oi=true→∃ oi',h.get i=some oi'∧fQ oi'=true:=by
   intro i oi hi pU
   by_cases e:i=id
   ·subst e;exact⟨o,hg,ha⟩
   ·rw[aN eF e]at hi;exact⟨oi,hi,pU⟩
  obtain⟨oi',g1,g2⟩:=key i oi hi pU
  obtain⟨oj',g3,g4⟩:=key j oj hj Mk
  exact hR.inj i j oi' oj' k x y g1 g3 g2 g4 nX xN
theorem Rel.kill{h:aA}{c:Ctx}(hR:Rel h c){id:Nat}{o:DO}(hg:h.get id=some o) :
  Rel (h.set id .dead) (c.next c.w c.ρ (h.set id .dead))∧bI c (c.next c.w c.ρ (h.set id .dead)):=by
 have eF:=cY hg
 have iX:∀k,iI (h.set id .dead) c.ρ k→iI h c.ρ k:=by
  rintro k ⟨i,oi,x,rR,pU,nX⟩
  by_cases e:i=id
  ·subst e
   rw[bV hR.len hg]at rR
   cases rR;simp[fQ]at pU
  ·rw[aN eF e]at rR;exact⟨i,oi,x,rR,pU,nX⟩
 have cD:bI c (c.next c.w c.ρ (h.set id .dead)) :=
  ⟨fun _ _ hp=>hp,Nat.le_refl _,fun _ _ _=>rfl,fun k hk=>.inl ((hR.own k).2 (hk.imp (iX k) (fun x=>x))),fun _ _ _ hs=>hs,fun _ hx=>hx,fun _ _ hE=>⟨hE,rfl⟩,.refl _,rfl⟩
 refine⟨⟨Ao hR.len,hR.lim,hR.dom,?_,?_,fun _=>Iff.rfl,fun k hk=>hR.notX k ((hR.own k).2 (hk.imp (iX k) (fun x=>x))),hR.old,fun k hk=>⟨(hR.pend k hk).1,fun ho=>(hR.pend k hk).2 (iX k ho)⟩,hR.glob.mono cD⟩,cD⟩
 ·intro i oi rR
  by_cases e:i=id
  ·subst e
   rw[bV hR.len hg]at rR
   cases rR
   trivial
  ·rw[aN eF e]at rR
   exact(hR.obj i oi rR).mono cD fun _ _ _ _=>rfl
 ·intro i j oi oj k x y hi hj pU Mk nX xN
  have key:∀i oi,(h.set id .dead).get i=some oi→fQ oi=true→h.get i=some oi:=by
   intro i oi hi pU
   by_cases e:i=id
   ·subst e;rw[bV hR.len hg]at hi;cases hi;simp[fQ]at pU
   ·rwa[aN eF e]at hi
  exact hR.inj i j oi oj k x y (key i oi hi pU) (key j oj hj Mk) pU Mk nX xN
end Go.Dm
/-
Part 3 of "Dm": operations of the program's code brought into the machine's form, and what each does is what the machine says: those that write nothing.
-/
namespace Go.Dm
def Qs:Value→Option DV
 | .bool b=>some (.bool b)
 | .int k n=>some (.int k n)
 | .string s=>some (.str s.data.toList)
 | .pointer none=>some .nilp
 | .slice none 0 0=>some .nsl
 | .map none=>some .nmap
 | .nilFunc=>some .nilf
 | .nilIface=>some .nili
 | _=>none
def Da:Value→Option DV
 | .agg cs=>(cs.toList.mapM Qs).map .agg
 | v=>Qs v
def opd:Operand→Option Opd
 | .tmp t=>some (.t t)
 | .const v=>(Da v).map .c
 | .func f=>some (.c (.func f []))
 | .global _=>none
def dT(P:Program)(e:TypeId):Option (Nat×Nat×DV) :=
 match P.info? e with
 | some i=>match i.zero.bind Da with
  | some z=>if 0<i.size∧aQ i.size z=true then some (i.size,i.bytes,z)else none
  | none=>none
 | none=>none
def nOf(P:Program)(t:TypeId):Option (Option Nat) :=
 match P.underlying t,P.info? t with
 | some (.struct _),some i=>some (some i.size)
 | some (.array _ _),some i=>some (some i.size)
 | some _,some _=>some none
 | _,_=>none
def yY(f:TypeId→Option (List Nat)):List Field→Nat→Option (List Nat)
 | [],_=>some []
 | x::fs,o =>
  if x.name ≠ "_" ∧ x.offset = o then
   match f x.type with
   | some ks=>match yY f fs (o+ks.length)with
    | some r=>some (ks++r)
    | none=>none
   | none=>none
  else none
def flatK(P:Program):Nat→TypeId→Option (List Nat)
 | 0,_=>none
 | d+1,t =>
  match P.underlying t,P.info? t with
  | some .bool,some i=>if i.size=1 then some [0]else none
  | some (.int _),some i=>if i.size=1 then some [1]else none
  | some .string,some i=>if i.size=1 then some [2]else none
  | some (.struct fs),some i =>
   if P.stoodInHeld t=false∧P.eqGuardType P.depth t=false then
    match yY (flatK P d) fs.toList 0 with
    | some ks=>if i.size=ks.length∧0<ks.length then some ks else none
    | none=>none
   else none
  | some (.array n e),some i =>
   if P.eqGuardType P.depth t=false then
    match flatK P d e with
    | some ks=>if i.size=n*ks.length∧0<n then some (List.replicate n ks).flatten else none
    | none=>none
   else none
  | _,_=>none
def eqT(P:Program)(t:TypeId):Option EqT :=
 match P.underlying t with
 | some .bool=>some (.prim 0)
 | some (.int _)=>some (.prim 1)
 | some .string=>some (.prim 2)
 | some (.struct _)|some (.array _ _)=>(flatK P 20 t).map .agg
 | _=>none
def mO:Option Operand→Option (Option Opd)
 | none=>some none
 | some x=>(opd x).map some
def Ey:TypeDesc→Option Nat
 | .pointer _=>some 0
 | .slice _=>some 1
 | .map _ _=>some 2
 | .func _ _ _=>some 3
 | .interface _=>some 4
 | _=>none
def mQ:Operand→Bool
 | .const .nilIface|.const .nilFunc|.const (.pointer none)|.const (.slice none 0 0)|.const (.map none)=>true
 | _=>false
def vU:DOp:=.extract (.c .nilp) 0
theorem mS{h:aA}{env:Env}{r:DV×aA}(hs:aC h env vU=some r):False:=by
 simp[vU,aC,Opd.eval]at hs
def OY:Option TypeDesc→Bool
 | some (.int .u8)=>true
 | _=>false
theorem OX{x:Option TypeDesc}(h:OY x=true):x=some (.int .u8):=by
 unfold OY at h
 split at h
 ·rfl
 ·cases h
def fS(P:Program)(o:Oper):Option DOp :=
 match o.op with
 | .move x|.assign x=>(opd x).map .move
 | .pick c a b=>match opd c,opd a,opd b with|some c,some a,some b=>some (.pick c a b)|_,_,_=>none
 | .alloc e=>match dT P e with|some (sz,_,z)=>some (.alloc e sz z)|none=>none
 | .box e x=>match dT P e,opd x with|some (sz,_,_),some x=>some (.box e sz x)|_,_=>none
 | .build t parts=>match P.underlying t,dT P t with
  | some (.struct fs),some (_,_,.agg z) =>
   match parts.toList.mapM fun(i,x)=>(match fs[i]?,opd x with
    | some f,some x=>(match P.info? f.type with|some fi=>some (f.offset,fi.size,x)|none=>none)
    | _,_=>none)with
   | some ps=>if fs.toList.all (fun f=>(P.info? f.type).isSome)then some (.build z ps)else none
   | none=>none
  | some (.array _ e),some (_,_,.agg z)=>match dT P e with
   | some (sz,_,_)=>match parts.toList.mapM fun(i,x)=>(opd x).map fun x=>(i*sz,sz,x)with
    | some ps=>some (.build z ps)
    | none=>none
   | none=>none
  | _,_=>none
 | .buildSlice t len parts=>match P.underlying t with
  | some (.slice e)=>match dT P e with
   | some (sz,_,z)=>match parts.toList.mapM fun(i,x)=>(opd x).map fun x=>(i,x)with
    | some ps=>if len*sz≤16777216 then some (.buildSlice e sz z len ps)else none
    | none=>none
   | none=>none
  | _=>none
 | .load t a=>match nOf P t,opd a with|some n,some a=>some (.load n a)|_,_=>none
 | .store t a x=>match P.info? t,opd a,opd x with|some i,some a,some x=>if 0<i.size then some (.store i.size a x)else none|_,_,_=>none
 | .nilCheck x=>(opd x).map .nilCheck
 | .binOp op t x y _=>match opd x,opd y with
  | some x',some y'=>match P.underlying t with
   | some (.int _)|some .string=>some (.arith op x' y')
   | some .bool=>match op with|.eql=>some (.eqb false x' y')|.neq=>some (.eqb true x' y')|_=>none
   | some (.struct _)|some (.array _ _)=>match flatK P 20 t,op with
    | some ks,.eql=>some (.eqa false ks x' y')
    | some ks,.neq=>some (.eqa true ks x' y')
    | _,_=>none
   | some d=>match Ey d with
    | some k=>if mQ x || mQ y then(match op with|.eql=>some (.eqn k false x' y')|.neq=>some (.eqn k true x' y')|_=>none)else none
    | none=>none
   | _=>none
  | _,_=>none
 | .unOp op _ x=>(opd x).map (.un op)
 | .convert src dst x=>match P.underlying src,P.underlying dst,opd x with
  | some (.int _),some (.int k),some x=>some (.conv k x)
  | some .string,some .string,some x=>some (.asStr x)
  | some (.slice e),some .string,some x=>if OY (P.underlying e)=true then some (.bytesStr x)else some vU
  | _,_,_=>some vU
 | .makeFunc (.func f) first cap=>if first.isEmpty then(match cap.toList.mapM opd with|some c=>some (.makeFunc f c)|none=>none)else none
 | .fieldAddr s x f=>match P.underlying s,opd x with
  | some (.struct fs),some x=>match fs[f]? with
   | some fl=>match P.info? fl.type with|some i=>if i.size≠0 then some (.fieldAddr fl.offset x)else none|none=>none
   | none=>none
  | _,_=>none
 | .field s x f=>match P.underlying s,opd x with
  | some (.struct fs),some x=>match fs[f]? with
   | some fl=>match nOf P fl.type with|some n=>some (.field fl.offset n x)|none=>none
   | none=>none
  | _,_=>none
 | .indexAddr t x i=>match P.underlying t,opd x,opd i with
  | some (.slice e),some x,some i=>match P.info? e with|some fi=>if 0<fi.size then some (.indexAddr fi.size x i)else none|none=>none
  | some (.array len e),some x,some i=>match P.info? e with|some fi=>if 0<fi.size then some (.indexArr len fi.size x i)else none|none=>none
  | _,_,_=>none
 | .index t x i=>match P.underlying t,opd x,opd i with
  | some (.array len e),some x,some i=>match P.info? e,nOf P e with|some fi,some n=>some (.index len fi.size n x i)|_,_=>none
  | some .string,some x,some i=>some (.indexStr x i)
  | _,_,_=>none
 | .slice t x lo hi none=>match P.underlying t,opd x,mO lo,mO hi with
  | some .string,some x,some lo,some hi=>some (.sliceStr x lo hi)
  | some (.slice e),some x,some lo,some hi=>match P.info? e with|some fi=>if 0<fi.size then some (.sliceSl fi.size x lo hi)else none|none=>none
  | _,_,_,_=>none
 | .slice t x (some lo) (some hi) (some mx)=>match P.underlying t,opd x,opd lo,opd hi,opd mx with
  | some (.slice e),some x,some lo,some hi,some mx=>match P.info? e with|some _=>some (.slice3 x lo hi mx)|none=>none
  | _,_,_,_,_=>none
 | .makeSlice t l c=>match P.underlying t with
  | some (.slice e)=>match dT P e,opd l,opd c with|some (sz,b,z),some l,some c=>some (.makeSlice e sz b z l c)|_,_,_=>none
  | _=>none
 | .makeMap _ none=>some .makeMap
 | .lookup t m k ok=>match P.underlying t with
  | some (.map key e)=>match dT P e,opd m,opd k,eqT P key with|some (_,_,z),some m,some k,some q=>some (.lookup q z ok m k)|_,_,_,_=>none
  | _=>none
 | .mapUpdate t m k x|.insert t m k x=>match P.underlying t with
  | some (.map key _)=>match opd m,opd k,opd x,eqT P key with|some m,some k,some x,some q=>some (.mapUpdate q m k x)|_,_,_,_=>none
  | _=>none
 | .extract x i=>(opd x).map fun x=>.extract x i
 | .range t x=>match P.underlying t,opd x with|some (.map _ _),some x=>some (.range x)|_,_=>some vU
 | .next x s=>if s=true then some vU else(opd x).map fun x=>.next x
 | .entry x=>(opd x).map fun x=>.entry x
 | .makeInterface t x=>match P.underlying t,opd x with
  | some (.interface _),_=>none
  | some _,some x=>some (.makeIface t x)
  | _,_=>none
 | .call {callee:=.builtin b,args,argTypes} =>
  match b,args.toList,argTypes.toList with
  | .len,[x],[t]=>match P.underlying t,opd x with
   | some .string,some x=>some (.len 0 x)
   | some (.slice _),some x=>some (.len 1 x)
   | some (.map _ _),some x=>some (.len 2 x)
   | some (.array n _),some _=>some (.move (.c (.int .i64 n)))
   | _,_=>none
  | .cap,[x],[t]=>match P.underlying t,opd x with|some (.slice _),some x=>some (.cap x)|_,_=>none
  | .append,[s,x],[t,u]=>match P.underlying t with
   | some (.slice e)=>match dT P e,opd s,opd x,P.underlying u with
    | some (sz,b,_),some s,some x,some (.slice e')=>if e=e' then some (.append e sz b s x)else none
    | some (sz,b,z),some s,some x,some (.int _)=>some (.appendZ e sz b z s x)
    | some (sz,b,_),some s,some x,some .string=>if sz=1∧OY (P.underlying e)=true then some (.appendS e sz b s x)else none
    | _,_,_,_=>none
   | _=>none
  | .copy,[d,s],[t,u]=>match P.underlying t,P.underlying u with
   | some (.slice e),some (.slice e')=>match P.info? e,opd d,opd s with|some fi,some d,some s=>if 0<fi.size∧e=e' then some (.copy fi.size d s)else none|_,_,_=>none
   | _,_=>none
  | .clear,[x],[t]=>match P.underlying t with
   | some (.slice e)=>match dT P e,opd x with|some (sz,_,z),some x=>some (.clear sz z x)|_,_=>none
   | _=>none
  | .delete,[m,k],[t,u]=>match P.underlying t with
   | some (.map key _)=>match opd m,opd k,eqT P key with|some m,some k,some q=>some (.delete q m k)|_,_,_=>none
   | _=>none
  | .max,[x,y],_=>match opd x,opd y with|some x,some y=>some (.minmax true x y)|_,_=>none
  | .min,[x,y],_=>match opd x,opd y with|some x,some y=>some (.minmax false x y)|_,_=>none
  | _,_,_=>some vU
 | .call {callee:=.value f,args,..}=>match opd f,args.toList.mapM opd with|some f,some as=>some (.call f as)|_,_=>none
 | _=>some vU
structure bY(c:Ctx)(env:Env)(a:Act):Prop where
 size:a.tmps.size=env.length
 defers:a.defers=[]
 val:∀i (h:i<env.length),VR c env[i] (a.tmps.getD i undef)
theorem bZ{α β:Type}(f:α→Option β):∀(l:List α) (r:List β),l.mapM f=some r→r.length=l.length:=by
 intro l
 induction l with
 | nil=>intro r h;simp at h;subst h;rfl
 | cons x l ih =>
  intro r h
  simp only[List.mapM_cons,Option.pure_def,Option.bind_eq_bind,Option.bind_eq_some_iff]at h
  obtain⟨y,hy,ys,xA,h⟩:=h
  cases h
  simp[ih ys xA]
theorem eG{α β:Type}(f:α→Option β):∀(l:List α) (r:List β),l.mapM f=some r→∀i (h1:i<l.length) (h2:i<r.length),f l[i]=some r[i]:=by
 intro l
 induction l with
 | nil=>intro r h i h1;simp at h1
 | cons x l ih =>
  intro r h i h1 h2
  simp only[List.mapM_cons,Option.pure_def,Option.bind_eq_bind,Option.bind_eq_some_iff]at h
  obtain⟨y,hy,ys,xA,h⟩:=h
  cases h
  cases i with
  | zero=>simpa using hy
  | succ i=>simpa using ih ys xA i (by simpa using h1) (by simpa using h2)
theorem Db{v:Value}{d:DV}(h:Qs v=some d)(c:Ctx):VR c d v∧v.oneCell'=true:=by
 unfold Qs at h
 split at h<;>first|cases h|skip
 ·exact⟨.bool _,rfl⟩
 ·exact⟨.int _ _,rfl⟩
 ·rename_i s
  refine⟨?_,rfl⟩
  have:VR c (.str s.data.toList) (.string ⟨s.data.toList.toArray⟩):=.str _
  simpa using this
 ·exact⟨.nilp,rfl⟩
 ·exact⟨.nsl none,rfl⟩
 ·exact⟨.nmap,rfl⟩
 ·exact⟨.nilf,rfl⟩
 ·exact⟨.nili,rfl⟩
theorem eD{v:Value}{d:DV}(h:Da v=some d)(c:Ctx):VR c d v:=by
 unfold Da at h
 split at h
 ·rename_i cs
  simp only[Option.map_eq_some_iff]at h
  obtain⟨ds,Dx,rfl⟩:=h
  have hl:=bZ _ _ _ Dx
  have:=VR.agg (c:=c) (ds:=ds) (vs:=cs.toList) hl (fun i h2=>(Db (eG _ _ _ Dx i h2 (by omega)) c).2)
   (fun i h1 h2=>(Db (eG _ _ _ Dx i h2 h1) c).1)
  simpa using this
 ·exact(Db h c).1
theorem bD{x:Operand}{x':Opd}(hx:opd x=some x'){c:Ctx}{env:Env}{a:Act}(hE:bY c env a):VR c (x'.eval env) (a.eval x):=by
 unfold opd at hx
 split at hx
 ·rename_i t
  cases hx
  simp only[Opd.eval,Act.eval]
  by_cases ht:t<env.length
  ·rw[List.getElem?_eq_getElem ht];exact hE.val t ht
  ·rw[List.getElem?_eq_none (Nat.le_of_not_lt ht)];exact .unk _
 ·rename_i v
  simp only[Option.map_eq_some_iff]at hx
  obtain⟨d,hd,rfl⟩:=hx
  exact eD hd c
 ·cases hx
  exact .func (ds:=[]) (vs:=[]) rfl (fun i h1 _=>absurd h1 (by simp))
 ·cases hx
def jS(_h:aA)(c:Ctx)(h':aA)(w':World)(d:DV)(v:Value):Prop :=
 ∃ ρ',Rel h' (c.next w' ρ' h')∧bI c (c.next w' ρ' h')∧VR (c.next w' ρ' h') d v
theorem Rel.same{h:aA}{c:Ctx}(hR:Rel h c):c.next c.w c.ρ h=c:=by
 have:(fun b=>iI h c.ρ b∨c.E b)=c.O:=by funext b;exact propext (hR.own b).symm
 cases c
 simp only[Ctx.next]at *
 rw[this]
theorem jS.pure{h:aA}{c:Ctx}(hR:Rel h c){d:DV}{v:Value}(hv:VR c d v):jS h c h c.w d v :=
 ⟨c.ρ,by rw[hR.same];exact⟨hR,bI.refl c,hv⟩⟩
theorem Rel.heapEq{h:aA}{c:Ctx}(hR:Rel h c)(w':World)(hw:w'.heap=c.w.heap)(hq:w'.os=c.w.os∧w'.output=c.w.output∧w'.tape=c.w.tape∧c.w.drawn≤w'.drawn:=by exact⟨rfl,rfl,rfl,Nat.le_succ _⟩):Rel h (c.next w' c.ρ h)∧bI c (c.next w' c.ρ h):=by
 have hO:∀b,(iI h c.ρ b∨c.E b)→c.O b:=fun b hb=>(hR.own b).2 hb
 have cD:bI c (c.next w' c.ρ h) :=
  ⟨fun _ _ hp=>hp,by simp[Ctx.next,hw],fun _ _ _=>by simp[Ctx.next,hw],fun b hb=>.inl (hO b hb),fun b e n hs=>by simpa[Ctx.next,World.shape?,hw]using hs,fun _ hx=>hx,fun _ _ hE=>⟨hE,by simp[Ctx.next,hw]⟩,⟨hq.1,hq.2.1,hq.2.2.1,hq.2.2.2,by simp[Ctx.next,hw],fun a _=>by simp only[World.frozen?,Ctx.next,hw]⟩,rfl⟩
 exact⟨⟨hR.len,hR.lim,hR.dom,fun id o hg=>(hR.obj id o hg).mono cD (fun _ _ _ _=>by simp[Ctx.next,hw]),hR.inj,fun _=>Iff.rfl,fun b hb=>hR.notX b (hO b hb),fun b hb=>by simpa[Ctx.next,hw]using hR.old b hb,fun b hb=>⟨by simpa[Ctx.next,hw]using(hR.pend b hb).1,(hR.pend b hb).2⟩,hR.glob.mono cD⟩,cD⟩
def fE(P:Program)(h:aA)(c:Ctx)(o:Oper)(a:Act)(h':aA)(d:DV):Prop :=
 ∃ nx v w',(execOp a.eval o).run P c.w=.ok nx w'∧(nx=.value v∨(nx=.skip∧v=undef))∧jS h c h' w' d v
def aX(P:Program)(h:aA)(c:Ctx)(o:Oper)(a:Act)(h':aA)(d:DV):Prop :=
 h'=h∧∃ nx v,(execOp a.eval o).run P c.w=.ok nx c.w∧(nx=.value v∨(nx=.skip∧v=undef))∧VR c d v
theorem aX.value{P:Program}{h:aA}{c:Ctx}{o:Oper}{a:Act}{d:DV}(v:Value)(hr:(execOp a.eval o).run P c.w=.ok (.value v) c.w)(hv:VR c d v):aX P h c o a h d :=
 ⟨rfl,_,v,hr,.inl rfl,hv⟩
theorem aX.toSteps1{P:Program}{h:aA}{c:Ctx}{o:Oper}{a:Act}{h':aA}{d:DV}(hR:Rel h c)(hs:aX P h c o a h' d):fE P h c o a h' d:=by
 obtain⟨rfl,nx,v,h1,h2,h3⟩:=hs
 exact⟨nx,v,c.w,h1,h2,jS.pure hR h3⟩
theorem fE.value{P:Program}{h:aA}{c:Ctx}{o:Oper}{a:Act}{d:DV}(hR:Rel h c)(v:Value)(hr:(execOp a.eval o).run P c.w=.ok (.value v) c.w)(hv:VR c d v):fE P h c o a h d :=
 ⟨_,v,c.w,hr,.inl rfl,jS.pure hR hv⟩
def V1(c:Ctx)(cs:List DV)(b o:Nat):Prop :=
 ∀j (hj:j<cs.length),∃ u,c.w.cell? ⟨b,o+j,none⟩=some u∧u.oneCell'=true∧VR c cs[j] u
theorem iG{w:World}{b i:Nat}{cur:Array Value}{e:TypeId}{fr:Nat×Nat}(h:w.heap[b]?=some (.cells cur e fr)):w.cell? ⟨b,i,none⟩=cur[i]?:=by
 simp[World.cell?,h]
theorem yR{h:aA}{c:Ctx}(hR:Rel h c){n:Option Nat}{d r:DV}{v:Value}(hv:VR c d v)(hl:iW h n d=some r) :
  ∃ b o off cs,v=.pointer (some ⟨b,o+off,none⟩)∧cO n cs off=some r∧V1 c cs b o:=by
 cases hv<;>simp only[iW]at hl<;>try (cases hl)
 case ptr id sz idx off b base hρ =>
  split at hl
  ·rename_i ety dK xs cap hg
   split at hl
   ·rename_i hs
    subst hs
    split at hl
    ·rename_i e he
     obtain⟨b',base',cur,m,h1,h2,h3,h4,h5,h6,_,h7⟩:=hR.obj id _ hg
     rw[hρ]at h1;cases h1
     refine⟨b,base+idx*sz,off,aF sz e,rfl,hl,fun j hj=>?_⟩
     have hidx:idx<xs.length:=(List.getElem?_eq_some_iff.1 he).1
     have Rk:xs[idx]=e:=(List.getElem?_eq_some_iff.1 he).2
     obtain⟨u,a1,a2,a3⟩:=(h7 idx hidx).2 j (by rw[Rk];exact hj)
     refine⟨u,by rw[iG h2];exact a1,a2,?_⟩
     simpa only[Rk]using a3
    ·cases hl
   ·cases hl
  ·cases hl
 case iptr lent cs off b o vals hb hO hX hc hv =>
  exact⟨b,o,off,cs,rfl,hl,fun j hj=>⟨vals j,(hc j hj).1,(hc j hj).2,(hv j hj).of_still⟩⟩
theorem Gs{P:Program}{c:Ctx}{n:Option Nat}{cs:List DV}{off b o:Nat}{r:DV}(hp:cO n cs off=some r)(hc:V1 c cs b o)
  {t:TypeId} (hn:nOf P t=some n):∃ u,(loadVar t ⟨b,o+off,none⟩).run P c.w=.ok u c.w∧VR c r u:=by
 unfold nOf at hn
 unfold cO at hp
 have agg:∀(i:TypeInfo),P.info? t=some i→n=some i.size→(isAgg t).run P c.w=.ok true c.w→∃ u,(loadVar t ⟨b,o+off,none⟩).run P c.w=.ok u c.w∧VR c r u:=by
  intro i hi PG G8
  subst PG
  simp only at hp
  split at hp
  ·rename_i cD
   cases hp
   have hf:∀j,j<i.size→∃ u,c.w.cell? ⟨b,o+off+j,none⟩=some u∧u.oneCell'=true∧∀(hj:off+j<cs.length),VR c cs[off+j] u:=by
    intro j hj
    obtain⟨u,a1,a2,a3⟩:=hc (off+j) (by omega)
    exact⟨u,by rw[Nat.add_assoc];exact a1,a2,fun _=>a3⟩
   let f:Nat→Value:=fun j=>if hj:j<i.size then Classical.choose (hf j hj)else undef
   have hfs:∀j (hj:j<i.size),c.w.cell? ⟨b,o+off+j,none⟩=some (f j)∧(f j).oneCell'=true∧∀(hj:off+j<cs.length),VR c cs[off+j] (f j):=by
    intro j hj
    have:=Classical.choose_spec (hf j hj)
    simp only[f,dif_pos hj]
    exact this
   refine⟨.agg ((List.range i.size).map f).toArray,?_,?_⟩
   ·have Ay:=run_loadCells (P:=P) c.w ⟨b,o+off,none⟩ i.size f (fun j hj=>by rw[Addr.add_lit];exact(hfs j hj).1)
    simp only[loadVar,Sem.run_bind,G8,Result.andThen_ok,if_true]
    simp[sizeOf,typeInfo,hi,Ay]
   ·refine .agg (by simp;omega) (fun j hj=>?_) (fun j PL EB=>?_)
    ·simp only[List.length_map,List.length_range]at hj
     simp only[List.getElem_map,List.getElem_range]
     exact(hfs j hj).2.1
    ·simp only[List.length_map,List.length_range]at EB
     simp only[List.getElem_map,List.getElem_range,List.getElem_take,List.getElem_drop]
     exact(hfs j EB).2.2 (by omega)
  ·cases hp
 split at hn
 ·rename_i fs i hu hi
  cases hn
  exact agg i hi rfl (by simp[isAgg,run_underlying hu])
 ·rename_i k e i hu hi
  cases hn
  exact agg i hi rfl (by simp[isAgg,run_underlying hu])
 ·rename_i d i BV WM hu hi
  cases hn
  simp only at hp
  obtain⟨aY,hr⟩:=List.getElem?_eq_some_iff.1 hp
  obtain⟨u,a1,a2,a3⟩:=hc off aY
  refine⟨u,?_,hr ▸ a3⟩
  have G8:(isAgg t).run P c.w=.ok false c.w:=by
   simp only[isAgg,Sem.run_bind,run_underlying hu,Result.andThen_ok]
   cases d<;>first|rfl|(exact absurd rfl (BV _))|(exact absurd rfl (WM _ _))
  simp[loadVar,G8,a1]
 ·cases hn
end Go.Dm
/-
Part 4 of "Dm": operations that write nothing do what the machine says.
-/
namespace Go.Dm
section
variable {P:Program} {h h':aA} {c:Ctx} {env:Env} {a:Act} {o:Oper} {r:DV}
theorem GD{x:Operand}{x':Opd}(ho:o.op=.move x∨o.op=.assign x)(hx:opd x=some x')(_hR:Rel h c)(hE:bY c env a)(hs:aC h env (.move x')=some (r,h')):aX P h c o a h' r:=by
 simp only[aC,Option.some.injEq,Prod.mk.injEq]at hs
 obtain⟨rfl,rfl⟩:=hs
 refine aX.value (a.eval x) ?_ (bD hx hE)
 rcases ho with ho|ho<;>simp[execOp,ho]
theorem UM{x y z:Operand}{x' y' z':Opd}(ho:o.op=.pick x y z)(hx:opd x=some x')(hy:opd y=some y')(hz:opd z=some z')(_hR:Rel h c)(hE:bY c env a)
  (hs:aC h env (.pick x' y' z')=some (r,h')):aX P h c o a h' r:=by
 have vx:=bD hx hE
 simp only[aC]at hs
 split at hs
 ·rename_i t ht
  rw[ht]at vx
  simp only[Option.some.injEq,Prod.mk.injEq]at hs
  obtain⟨rfl,rfl⟩:=hs
  generalize dD:a.eval x=vv at vx
  cases vx
  refine aX.value (if t then a.eval y else a.eval z) ?_ ?_
  ·cases t<;>simp[execOp,ho,dD,asBool]
  ·cases t
   ·exact bD hz hE
   ·exact bD hy hE
 ·cases hs
theorem Ms{op:BinOp}{k k':IntKind}{x y:Int}{t:TypeId}{w:World}(hs:bX op (.int k x) (.int k' y)=some r):∃ v,(binOp op t (.int k x) (.int k' y)).run P w=.ok v w∧∀c,VR c r v:=by
 cases op
 case shl =>
  simp only[bX]at hs
  split at hs
  ·cases hs
  ·rename_i hy;cases hs;exact⟨_,by simp[binOp,Op.shift,hy],fun c=>.int _ _⟩
 case shr =>
  simp only[bX]at hs
  split at hs
  ·cases hs
  ·rename_i hy;cases hs;exact⟨_,by simp[binOp,Op.shift,hy],fun c=>.int _ _⟩
 case quo =>
  simp only[bX]at hs
  split at hs
  ·rename_i hk;subst hk
   split at hs
   ·cases hs
   ·rename_i hy;cases hs;exact⟨_,by simp[binOp,Op.intDiv,hy],fun c=>.int _ _⟩
  ·cases hs
 case rem =>
  simp only[bX]at hs
  split at hs
  ·rename_i hk;subst hk
   split at hs
   ·cases hs
   ·rename_i hy;cases hs;exact⟨_,by simp[binOp,Op.intDiv,hy],fun c=>.int _ _⟩
  ·cases hs
 case andNot =>
  simp only[bX]at hs
  split at hs
  ·rename_i hk;subst hk
   cases hs
   refine⟨.int k (k.wrap (BitVec.ofInt k.bits x &&& ~~~ BitVec.ofInt k.bits y).toNat),?_,fun c=>.int _ _⟩
   unfold binOp
   simp only[ne_eq,not_true_eq_false,if_false,Op.intBits]
   rfl
  ·cases hs
 all_goals
  simp only[bX]at hs
  split at hs
  ·rename_i hk;subst hk
   cases hs
   refine⟨_,by simp[binOp,Op.intArith,Op.intBits,Op.intCmp];rfl,fun c=>?_⟩
   first|exact .int _ _|exact .bool _
  ·cases hs
theorem DR{op:BinOp}{k:IntKind}{x m:Int}{n:Nat}{t:TypeId}{w:World}(hm:(n:Int)≤m)(hs:bX op (.int k x) (.atl n)=some r):∃ v,(binOp op t (.int k x) (.int .i64 m)).run P w=.ok v w∧∀c,VR c r v:=by
 cases op<;>simp only[bX]at hs<;>try (cases hs;done)
 case gtr =>
  split at hs
  ·rename_i hk
   obtain⟨hk,cD⟩:=hk
   subst hk
   cases hs
   exact Ms (P:=P) (t:=t) (w:=w) (op:=.gtr) (k:=.i64) (k':=.i64) (x:=x) (y:=m) (r:=.bool false) (by
    simp only[bX,if_true]
    have:¬m<x:=by omega
    simp[this])
  ·cases hs
theorem Bw(s:List UInt8):(⟨s.toArray⟩:ByteArray).toList=s:=by rw[ByteArray.toList_eq]
theorem DD{op:BinOp}{x y:List UInt8}{t:TypeId}{w:World}(hs:bX op (.str x) (.str y)=some r):∃ v,(binOp op t (.string ⟨x.toArray⟩) (.string ⟨y.toArray⟩)).run P w=.ok v w∧∀c,VR c r v:=by
 cases op
 case add =>
  simp only[bX]at hs
  split at hs
  ·rename_i cD
   cases hs
   refine⟨.string ⟨(x++y).toArray⟩,?_,fun c=>.str _⟩
   have h1:¬(((x.length+y.length:Nat):Int) > IntKind.i64.max):=by
    have:IntKind.i64.max=9223372036854775807:=by decide
    omega
   have h2:(⟨x.toArray⟩:ByteArray)++(⟨y.toArray⟩:ByteArray)=⟨(x++y).toArray⟩:=by
    apply ByteArray.ext
    simp[ByteArray.data_append]
   have e1:(⟨x.toArray⟩:ByteArray).size=x.length:=by simp[ByteArray.size]
   have e2:(⟨y.toArray⟩:ByteArray).size=y.length:=by simp[ByteArray.size]
   simp only[binOp,Op.stringOp,e1,e2,if_neg h1,h2]
   rfl
  ·cases hs
 all_goals
  simp only[bX]at hs
  cases hs
  try (refine⟨_,by simp only[binOp,Op.stringOp,Bw];rfl,fun c=>.bool _⟩)
theorem Ea{op:BinOp}{t:TypeId}{x y:Operand}{k k':IntKind}{m n:Int}{w:World}:(eqGuard op t x y (.int k m) (.int k' n)).run P w=.ok () w:=by
 unfold eqGuard;cases op<;>simp
theorem Vx{op:BinOp}{t:TypeId}{x y:Operand}{m n:ByteArray}{w:World}:(eqGuard op t x y (.string m) (.string n)).run P w=.ok () w:=by
 unfold eqGuard;cases op<;>simp
theorem P3{op:BinOp}{t u:TypeId}{x y:Operand}{x' y':Opd}(ho:o.op=.binOp op t x y u)(hx:opd x=some x')(hy:opd y=some y')(_hR:Rel h c)(hE:bY c env a)
  (hs:aC h env (.arith op x' y')=some (r,h')):aX P h c o a h' r:=by
 have vx:=bD hx hE
 have vy:=bD hy hE
 simp only[aC]at hs
 split at hs
 ·rename_i v hv
  simp only[Option.some.injEq,Prod.mk.injEq]at hs
  obtain⟨rfl,rfl⟩:=hs
  generalize dD:a.eval x=wx at vx
  generalize DY:a.eval y=wy at vy
  generalize x'.eval env=dx at vx hv
  generalize y'.eval env=dy at vy hv
  cases vx<;>first|(simp[bX]at hv;done)|skip
  ·cases vy<;>first|(simp[bX]at hv;done)|skip
   ·obtain⟨v',h1,h2⟩:=Ms (P:=P) (t:=t) (w:=c.w) hv
    exact aX.value v' (by simp[execOp,ho,dD,DY,Ea,h1]) (h2 c)
   ·rename_i hm
    obtain⟨v',h1,h2⟩:=DR (P:=P) (t:=t) (w:=c.w) hm hv
    exact aX.value v' (by simp[execOp,ho,dD,DY,Ea,h1]) (h2 c)
  ·cases vy<;>first|(simp[bX]at hv;done)|skip
   obtain⟨v',h1,h2⟩:=DD (P:=P) (t:=t) (w:=c.w) hv
   exact aX.value v' (by simp[execOp,ho,dD,DY,Vx,h1]) (h2 c)
 ·cases hs
theorem RD{neq:Bool}{t u:TypeId}{x y:Operand}{x' y':Opd}(ho:o.op=.binOp (if neq then .neq else .eql) t x y u)(hu:P.underlying t=some .bool)(hx:opd x=some x')(hy:opd y=some y')(_hR:Rel h c)(hE:bY c env a)
  (hs:aC h env (.eqb neq x' y')=some (r,h')):aX P h c o a h' r:=by
 have vx:=bD hx hE
 have vy:=bD hy hE
 simp only[aC]at hs
 split at hs
 ·rename_i m n hm hn
  rw[hm]at vx;rw[hn]at vy
  simp only[Option.some.injEq,Prod.mk.injEq]at hs
  obtain⟨rfl,rfl⟩:=hs
  generalize dD:a.eval x=wx at vx
  generalize DY:a.eval y=wy at vy
  cases vx;cases vy
  refine aX.value (.bool (if neq then !(m == n)else m == n)) ?_ (.bool _)
  cases neq
  ·simp[execOp,ho,dD,DY,eqGuard,binOp,Op.equal,Op.maxDepth,run_equalIn_bool' _ _ _ _ _ hu]
  ·simp[execOp,ho,dD,DY,eqGuard,binOp,Op.equal,Op.maxDepth,run_equalIn_bool' _ _ _ _ _ hu]
 ·cases hs
theorem HX{k:Nat}{t:TypeId}{desc:TypeDesc}(hu:P.underlying t=some desc)(hk:Ey desc=some k){dx dy:DV}{b:Bool}(hn:nN k dx dy=some b){vx vy:Value}(hx:VR c dx vx)(hy:VR c dy vy)(d:Nat)(w:World) :
  (Op.equalIn (d+1) t vx vy).run P w=.ok b w:=by
 unfold nN at hn
 split at hn<;>(try (cases hn;done))<;>(split at hn)<;>(try (cases hn;done)) <;>
  (cases hn;rename_i oN;subst oN;cases hx;cases hy;cases desc<;>simp[Ey]at hk<;>simp[Op.equalIn,run_underlying hu])
theorem BC{k:Nat}{t:TypeId}{neq:Bool}{dx dy:DV}{b:Bool}(hn:nN k dx dy=some b){vx vy:Value}(hx:VR c dx vx)(hy:VR c dy vy)(w:World)(h1:(Op.equal t vx vy).run P w=.ok b w) :
  (binOp (if neq then .neq else .eql) t vx vy).run P w=.ok (.bool (if neq then !b else b)) w:=by
 unfold nN at hn
 split at hn<;>(try (cases hn;done))<;>(cases hx;cases hy;cases neq<;>simp[binOp,h1])
theorem Uh{k:Nat}{t:TypeId}{op:BinOp}{x y:Operand}{dx dy:DV}{b:Bool}(hc:(∃ v,x=.const v)∨(∃ v,y=.const v))(hn:nN k dx dy=some b){vx vy:Value}(hx:VR c dx vx)(hy:VR c dy vy)(w:World) :
  (eqGuard op t x y vx vy).run P w=.ok () w:=by
 unfold nN at hn
 split at hn<;>(try (cases hn;done))<;>(cases hx;cases hy;unfold eqGuard;cases op<;>simp)
 all_goals (rcases hc with⟨v,rfl⟩|⟨v,rfl⟩<;>simp)
theorem RC{k:Nat}{neq:Bool}{t u:TypeId}{desc:TypeDesc}{x y:Operand}{x' y':Opd}(ho:o.op=.binOp (if neq then .neq else .eql) t x y u)(hu:P.underlying t=some desc)(hk:Ey desc=some k)
  (hc:mQ x || mQ y) (hx:opd x=some x') (hy:opd y=some y') (_hR:Rel h c) (hE:bY c env a)
  (hs:aC h env (.eqn k neq x' y')=some (r,h')):aX P h c o a h' r:=by
 have vx:=bD hx hE
 have vy:=bD hy hE
 simp only[aC]at hs
 split at hs
 ·rename_i b hb
  simp only[Option.some.injEq,Prod.mk.injEq]at hs
  obtain⟨rfl,rfl⟩:=hs
  have h1:=HX (P:=P) hu hk hb vx vy 9999 c.w
  have Pv:∀z:Operand,mQ z=true→∃ v,z=.const v:=by
   intro z hz;cases z<;>first|exact⟨_,rfl⟩|simp[mQ]at hz
  have uM:(∃ v,x=.const v)∨(∃ v,y=.const v):=by
   simp only[Bool.or_eq_true]at hc
   exact hc.imp (Pv x) (Pv y)
  have hg:=Uh (P:=P) (t:=t) (op:=if neq then .neq else .eql) uM hb vx vy c.w
  have Kh:=BC (P:=P) (t:=t) (neq:=neq) hb vx vy c.w h1
  exact aX.value (.bool (if neq then !b else b)) (by simp[execOp,ho,hg,Kh]) (.bool _)
 ·cases hs
end
end Go.Dm
/-
Part 5 of "Dm": more operations that write nothing.
-/
namespace Go.Dm
section
variable {P:Program} {h h':aA} {c:Ctx} {env:Env} {a:Act} {o:Oper} {r:DV}
theorem s_un{op:UnOp}{t:TypeId}{x:Operand}{x':Opd}(ho:o.op=.unOp op t x)(hx:opd x=some x')(_hR:Rel h c)(hE:bY c env a)
  (hs:aC h env (.un op x')=some (r,h')):aX P h c o a h' r:=by
 have vx:=bD hx hE
 simp only[aC]at hs
 split at hs
 ·rename_i v hv
  simp only[Option.some.injEq,Prod.mk.injEq]at hs
  obtain⟨rfl,rfl⟩:=hs
  generalize dD:a.eval x=wx at vx
  generalize x'.eval env=dx at vx hv
  cases vx<;>first|(simp[unD]at hv;done)|skip
  ·cases op<;>simp[unD]at hv
   subst hv
   exact aX.value _ (by simp[execOp,ho,dD,Op.unary]) (.bool _)
  ·rename_i k n
   cases op<;>simp[unD]at hv
   subst hv
   refine aX.value (.int k (k.wrap (0-n))) (by simp[execOp,ho,dD,Op.unary,Op.intArith]) ?_
   simp only[Int.zero_sub]
   exact .int _ _
 ·cases hs
theorem UP{k k0:IntKind}{t u:TypeId}{x:Operand}{x':Opd}(ho:o.op=.convert t u x)(ht:P.underlying t=some (.int k0))(hu:P.underlying u=some (.int k))(hx:opd x=some x')(_hR:Rel h c)(hE:bY c env a)
  (hs:aC h env (.conv k x')=some (r,h')):aX P h c o a h' r:=by
 have vx:=bD hx hE
 simp only[aC]at hs
 split at hs
 ·rename_i k1 n hv
  simp only[Option.some.injEq,Prod.mk.injEq]at hs
  obtain⟨rfl,rfl⟩:=hs
  rw[hv]at vx
  generalize dD:a.eval x=wx at vx
  cases vx
  exact aX.value (.int k (k.wrap n)) (by simp[execOp,ho,dD,convert,run_underlying ht,run_underlying hu,Conv.intToInt]) (.int _ _)
 ·cases hs
theorem NK{t u:TypeId}{x:Operand}{x':Opd}(ho:o.op=.convert t u x)(ht:P.underlying t=some .string)(hu:P.underlying u=some .string)(hx:opd x=some x')(_hR:Rel h c)(hE:bY c env a)
  (hs:aC h env (.asStr x')=some (r,h')):aX P h c o a h' r:=by
 have vx:=bD hx hE
 simp only[aC]at hs
 split at hs
 ·rename_i s hv
  simp only[Option.some.injEq,Prod.mk.injEq]at hs
  obtain⟨rfl,rfl⟩:=hs
  rw[hv]at vx
  generalize dD:a.eval x=wx at vx
  cases vx
  exact aX.value _ (by simp[execOp,ho,dD,convert,run_underlying ht,run_underlying hu]) (.str _)
 ·cases hs
theorem Yv{x:Operand}{x':Opd}(ho:o.op=.nilCheck x)(hx:opd x=some x')(_hR:Rel h c)(hE:bY c env a)(hs:aC h env (.nilCheck x')=some (r,h')):aX P h c o a h' r:=by
 have vx:=bD hx hE
 simp only[aC]at hs
 split at hs
 ·rename_i hv
  simp only[Option.some.injEq,Prod.mk.injEq]at hs
  obtain⟨rfl,rfl⟩:=hs
  rw[hv]at vx
  generalize dD:a.eval x=wx at vx
  refine aX.value wx ?_ vx
  cases vx
  simp[execOp,ho,dD]
 ·rename_i hv
  simp only[Option.some.injEq,Prod.mk.injEq]at hs
  obtain⟨rfl,rfl⟩:=hs
  rw[hv]at vx
  generalize dD:a.eval x=wx at vx
  refine aX.value wx ?_ vx
  cases vx
  simp[execOp,ho,dD]
 ·cases hs
theorem UN{n:Option Nat}{t:TypeId}{x:Operand}{x':Opd}(ho:o.op=.load t x)(hn:nOf P t=some n)(hx:opd x=some x')(hR:Rel h c)(hE:bY c env a)(hs:aC h env (.load n x')=some (r,h')):aX P h c o a h' r:=by
 have vx:=bD hx hE
 simp only[aC]at hs
 split at hs
 ·rename_i v hv
  simp only[Option.some.injEq,Prod.mk.injEq]at hs
  obtain⟨rfl,rfl⟩:=hs
  obtain⟨b,o',off,cs,h1,h2,h3⟩:=yR hR vx hv
  obtain⟨u,h4,h5⟩:=Gs (P:=P) h2 h3 hn
  exact aX.value u (by simp[execOp,ho,h1,Instr.loadAt,Instr.sureAddr,h4]) h5
 ·cases hs
theorem Sz{s:TypeId}{x:Operand}{x':Opd}{f:Nat}{fs:Array Field}{fl:Field}{i:TypeInfo}(ho:o.op=.fieldAddr s x f)(hu:P.underlying s=some (.struct fs))(hf:fs[f]?=some fl)(hi:P.info? fl.type=some i)(dX:i.size≠0)
  (hx:opd x=some x') (_hR:Rel h c) (hE:bY c env a) (hs:aC h env (.fieldAddr fl.offset x')=some (r,h')):aX P h c o a h' r:=by
 have vx:=bD hx hE
 simp only[aC]at hs
 split at hs
 ·rename_i id sz idx off hv
  simp only[Option.some.injEq,Prod.mk.injEq]at hs
  obtain⟨rfl,rfl⟩:=hs
  rw[hv]at vx
  generalize dD:a.eval x=wx at vx
  cases vx
  rename_i b base hρ
  refine aX.value (.pointer (some ⟨b,base+idx*sz+(off+fl.offset),none⟩)) ?_ (.ptr hρ)
  simp[execOp,ho,dD,Instr.fieldAt,run_underlying hu,hf,Instr.sureAddr,fieldPlace,sizeOf,typeInfo,hi,dX,Addr.add_lit,Nat.add_assoc]
 ·rename_i l cs off hv
  simp only[Option.some.injEq,Prod.mk.injEq]at hs
  obtain⟨rfl,rfl⟩:=hs
  rw[hv]at vx
  generalize dD:a.eval x=wx at vx
  cases vx
  rename_i b o' vals hb hO hX hc xB
  refine aX.value (.pointer (some ⟨b,o'+(off+fl.offset),none⟩)) ?_ (.iptr vals hb hO hX hc xB)
  simp[execOp,ho,dD,Instr.fieldAt,run_underlying hu,hf,Instr.sureAddr,fieldPlace,sizeOf,typeInfo,hi,dX,Addr.add_lit,Nat.add_assoc]
 ·cases hs
theorem Gv{n:Option Nat}{cs:List DV}{vs:List Value}{off:Nat}{d:DV}{t:TypeId}(hp:cO n cs off=some d)(hl:cs.length=vs.length)(h1:∀i (h2:i<vs.length),(vs[i]).oneCell'=true)
  (hv:∀i (h1:i<cs.length) (h2:i<vs.length),VR c cs[i] vs[i]) (hn:nOf P t=some n) (w:World):∃ u,(part t vs.toArray off).run P w=.ok u w∧VR c d u:=by
 unfold nOf at hn
 unfold cO at hp
 have agg:∀(i:TypeInfo),P.info? t=some i→n=some i.size→(isAgg t).run P w=.ok true w→∃ u,(part t vs.toArray off).run P w=.ok u w∧VR c d u:=by
  intro i hi PG G8
  subst PG
  simp only at hp
  split at hp
  ·rename_i cD
   cases hp
   refine⟨.agg (vs.toArray.extract off (off+i.size)),by simp[part,G8,sizeOf,typeInfo,hi],?_⟩
   have:vs.toArray.extract off (off+i.size)=((vs.drop off).take i.size).toArray:=by
    rw[List.extract_toArray,List.extract_eq_take_drop]
    congr 2
    omega
   rw[this]
   refine .agg (by simp;omega) (fun j hj=>?_) (fun j PL EB=>?_)
   ·simp only[List.getElem_take,List.getElem_drop];exact h1 _ _
   ·simp only[List.getElem_take,List.getElem_drop];exact hv _ _ _
  ·cases hp
 split at hn
 ·rename_i fs i hu hi;cases hn;exact agg i hi rfl (by simp[isAgg,run_underlying hu])
 ·rename_i k e i hu hi;cases hn;exact agg i hi rfl (by simp[isAgg,run_underlying hu])
 ·rename_i dd i BV WM hu hi
  cases hn
  simp only at hp
  obtain⟨aY,hr⟩:=List.getElem?_eq_some_iff.1 hp
  have qH:off<vs.length:=by omega
  refine⟨vs[off],?_,hr ▸ hv off aY qH⟩
  have G8:(isAgg t).run P w=.ok false w:=by
   simp only[isAgg,Sem.run_bind,run_underlying hu,Result.andThen_ok]
   cases dd<;>first|rfl|(exact absurd rfl (BV _))|(exact absurd rfl (WM _ _))
  simp[part,G8,qH]
 ·cases hn
theorem NI{s:TypeId}{x:Operand}{x':Opd}{f:Nat}{n:Option Nat}{fs:Array Field}{fl:Field}(ho:o.op=.field s x f)(hu:P.underlying s=some (.struct fs))(hf:fs[f]?=some fl)(hn:nOf P fl.type=some n)
  (hx:opd x=some x') (_hR:Rel h c) (hE:bY c env a) (hs:aC h env (.field fl.offset n x')=some (r,h')):aX P h c o a h' r:=by
 have vx:=bD hx hE
 simp only[aC]at hs
 split at hs
 ·rename_i cs hv
  split at hs
  ·rename_i v hp
   simp only[Option.some.injEq,Prod.mk.injEq]at hs
   obtain⟨rfl,rfl⟩:=hs
   rw[hv]at vx
   obtain⟨vs,dD,hl,h1,JH⟩:=vx.agg_inv
   obtain⟨u,a1,a2⟩:=Gv (P:=P) (t:=fl.type) hp hl h1 JH hn c.w
   exact aX.value u (by simp[execOp,ho,dD,Instr.field,run_underlying hu,hf,asAgg,a1]) a2
  ·cases hs
 ·cases hs
theorem wG{d:DV}{v:Value}{n:Int}(ha:asI d=some n)(hv:VR c d v):∃ k,v=.int k n:=by
 cases hv<;>simp[asI]at ha
 subst ha;exact⟨_,rfl⟩
theorem Sy{t e:TypeId}{x y:Operand}{x' y':Opd}{i:TypeInfo}(ho:o.op=.indexAddr t x y)(hu:P.underlying t=some (.slice e))(hi:P.info? e=some i)(_hsz:0<i.size)
  (hx:opd x=some x') (hy:opd y=some y') (_hR:Rel h c) (hE:bY c env a) (hs:aC h env (.indexAddr i.size x' y')=some (r,h')):aX P h c o a h' r:=by
 have vx:=bD hx hE
 have vy:=bD hy hE
 simp only[aC]at hs
 split at hs
 ·rename_i n hn
  obtain⟨k,hk⟩:=wG hn vy
  split at hs
  ·rename_i id sz off len hv
   split at hs
   ·rename_i bS
    obtain⟨h1,h2,h3⟩:=bS
    simp only[Option.some.injEq,Prod.mk.injEq]at hs
    obtain⟨rfl,rfl⟩:=hs
    rw[hv]at vx
    obtain⟨b,base,cap,gK,m,ety,dD,hρ,dV,hm,Ay,Eo⟩:=vx.sl_inv
    have nS:gK=base+off*sz:=Eo.elim (fun e=>e) (fun e=>by omega)
    subst nS
    subst h1
    refine aX.value (.pointer (some ⟨b,base+(off+n.toNat)*i.size+0,none⟩)) ?_ (.ptr hρ)
    simp[execOp,ho,dD,hk,Instr.indexAt,asIntOf,run_underlying hu,h2,h3,sizeOf,typeInfo,hi,Addr.add_lit]
    rw[Nat.add_mul];omega
   ·cases hs
  ·rename_i l sz xs hv
   split at hs
   ·rename_i bS
    obtain⟨h1,h2⟩:=bS
    split at hs
    ·rename_i e' RW
     simp only[Option.some.injEq,Prod.mk.injEq]at hs
     obtain⟨rfl,rfl⟩:=hs
     rw[hv]at vx
     obtain⟨aY,Rk⟩:=List.getElem?_eq_some_iff.1 RW
     rcases vx.isl_inv with⟨hnil,_⟩|⟨b,o',cap,vals,dD,gZ,hb,hO,hX,hszs,hc,xB⟩
     ·subst hnil;simp at aY
     ·subst h1
      have hszi:=hszs n.toNat aY
      have key:VR c (.iptr l (aF i.size xs[n.toNat]) 0) (.pointer (some ⟨b,o'+n.toNat*i.size+0,none⟩)) :=
       .iptr (vals n.toNat) hb hO hX (fun j hj=>hc n.toNat j aY (by omega)) (fun j hj=>xB n.toNat aY j hj)
      rw[Rk]at key
      refine aX.value _ ?_ key
      have h3:n<(xs.length:Int):=by omega
      simp[execOp,ho,dD,hk,Instr.indexAt,asIntOf,run_underlying hu,h2,h3,sizeOf,typeInfo,hi,Addr.add_lit]
    ·cases hs
   ·cases hs
  ·cases hs
 ·cases hs
theorem Yy{t e:TypeId}{len:Nat}{x y:Operand}{x' y':Opd}{i:TypeInfo}(ho:o.op=.indexAddr t x y)(hu:P.underlying t=some (.array len e))(hi:P.info? e=some i)
  (hx:opd x=some x') (hy:opd y=some y') (_hR:Rel h c) (hE:bY c env a) (hs:aC h env (.indexArr len i.size x' y')=some (r,h')):aX P h c o a h' r:=by
 have vx:=bD hx hE
 have vy:=bD hy hE
 simp only[aC]at hs
 split at hs
 ·rename_i n hn
  obtain⟨k,hk⟩:=wG hn vy
  split at hs
  ·rename_i bS
   obtain⟨h2,h3⟩:=bS
   split at hs
   ·rename_i id sz idx off hv
    simp only[Option.some.injEq,Prod.mk.injEq]at hs
    obtain⟨rfl,rfl⟩:=hs
    rw[hv]at vx
    generalize dD:a.eval x=wx at vx
    cases vx
    rename_i b base hρ
    refine aX.value (.pointer (some ⟨b,base+idx*sz+(off+n.toNat*i.size),none⟩)) ?_ (.ptr hρ)
    simp[execOp,ho,dD,hk,Instr.indexAt,Instr.sureAddr,asIntOf,run_underlying hu,h2,h3,sizeOf,typeInfo,hi,Addr.add_lit,Nat.add_assoc]
   ·rename_i l cs off hv
    simp only[Option.some.injEq,Prod.mk.injEq]at hs
    obtain⟨rfl,rfl⟩:=hs
    rw[hv]at vx
    generalize dD:a.eval x=wx at vx
    cases vx
    rename_i b o' vals hb hO hX hc xB
    refine aX.value (.pointer (some ⟨b,o'+(off+n.toNat*i.size),none⟩)) ?_ (.iptr vals hb hO hX hc xB)
    simp[execOp,ho,dD,hk,Instr.indexAt,Instr.sureAddr,asIntOf,run_underlying hu,h2,h3,sizeOf,typeInfo,hi,Addr.add_lit,Nat.add_assoc]
   ·cases hs
  ·cases hs
 ·cases hs
theorem NH{t e:TypeId}{len:Nat}{n:Option Nat}{x y:Operand}{x' y':Opd}{i:TypeInfo}(ho:o.op=.index t x y)(hu:P.underlying t=some (.array len e))(hi:P.info? e=some i)(hn:nOf P e=some n)
  (hx:opd x=some x') (hy:opd y=some y') (_hR:Rel h c) (hE:bY c env a) (hs:aC h env (.index len i.size n x' y')=some (r,h')):aX P h c o a h' r:=by
 have vx:=bD hx hE
 have vy:=bD hy hE
 simp only[aC]at hs
 split at hs
 ·rename_i m cs hm hv
  obtain⟨k,hk⟩:=wG hm vy
  split at hs
  ·rename_i bS
   obtain⟨h2,h3⟩:=bS
   split at hs
   ·rename_i v hp
    simp only[Option.some.injEq,Prod.mk.injEq]at hs
    obtain⟨rfl,rfl⟩:=hs
    rw[hv]at vx
    obtain⟨vs,dD,hl,h1,JH⟩:=vx.agg_inv
    obtain⟨u,a1,a2⟩:=Gv (P:=P) (t:=e) hp hl h1 JH hn c.w
    refine aX.value u ?_ a2
    simp[execOp,ho,dD,hk,Instr.index,asIntOf,run_underlying hu,h2,h3,sizeOf,typeInfo,hi,a1]
   ·cases hs
  ·cases hs
 ·cases hs
theorem Yx{t:TypeId}{x y:Operand}{x' y':Opd}(ho:o.op=.index t x y)(hu:P.underlying t=some .string)
  (hx:opd x=some x') (hy:opd y=some y') (_hR:Rel h c) (hE:bY c env a) (hs:aC h env (.indexStr x' y')=some (r,h')):aX P h c o a h' r:=by
 have vx:=bD hx hE
 have vy:=bD hy hE
 simp only[aC]at hs
 split at hs
 ·rename_i m s hm hv
  obtain⟨k,hk⟩:=wG hm vy
  split at hs
  ·rename_i h2
   split at hs
   ·rename_i b hb
    simp only[Option.some.injEq,Prod.mk.injEq]at hs
    obtain⟨rfl,rfl⟩:=hs
    rw[hv]at vx
    generalize dD:a.eval x=wx at vx
    cases vx
    refine aX.value (.int .u8 b.toNat) ?_ (.int _ _)
    obtain⟨aY,hbb⟩:=List.getElem?_eq_some_iff.1 hb
    have hg:(⟨s.toArray⟩:ByteArray)[m.toNat]?=some b:=by
     have dX:m.toNat<(⟨s.toArray⟩:ByteArray).size:=by simp[ByteArray.size];exact aY
     rw[getElem?_pos (⟨s.toArray⟩:ByteArray) m.toNat dX]
     exact congrArg some hbb
    simp[execOp,ho,dD,hk,Instr.index,asIntOf,run_underlying hu,h2,hg]
   ·cases hs
  ·cases hs
 ·cases hs
theorem jE{oo:Option Operand}{o':Option Opd}(F9:mO oo=some o')(hE:bY c env a){dflt lim n:Nat}(hb:bound env o' dflt lim=some n)(code:BoundsCode)(w:World) :
  (oo=none∧n=dflt)∨(∃ x,oo=some x∧n≤lim∧∀lim',n≤lim'→(Instr.sliceBound (a.eval x) lim' code).run P w=.ok n w):=by
 unfold mO at F9
 split at F9
 ·cases F9;simp[bound]at hb;exact .inl ⟨rfl,hb.symm⟩
 ·rename_i x
  simp only[Option.map_eq_some_iff]at F9
  obtain⟨x',hx,rfl⟩:=F9
  have vx:=bD hx hE
  simp only[bound]at hb
  split at hb
  ·rename_i m hm
   obtain⟨k,hk⟩:=wG hm vx
   split at hb
   ·rename_i bS
    cases hb
    refine .inr ⟨x,rfl,by omega,fun lim' hl=>?_⟩
    have:m≤(lim':Int):=by omega
    simp[Instr.sliceBound,hk,asIntOf,bS.1,this]
   ·cases hb
  ·cases hb
theorem lT{lo hi:Option Operand}{lo' vN:Option Opd}(dY:mO lo=some lo')(Qf:mO hi=some vN)(hE:bY c env a){len lim m n cap:Nat}(isS:Bool)(cC:len≤cap)(bJ:lim≤cap)
  (h1:bound env vN len lim=some n) (h2:bound env lo' 0 n=some m) (w:World) :
  (Instr.sliceBounds isS len cap (lo.map a.eval) (hi.map a.eval) none).run P w=.ok (m,n,cap) w∧m≤n∧n≤cap:=by
 rcases jE (P:=P) Qf hE h1 (if isS then .sliceAcap else .sliceAlen) w with⟨rfl,rfl⟩|⟨y,rfl,hn,hy⟩ <;>
  rcases jE (P:=P) dY hE h2 .sliceB w with⟨rfl,rfl⟩|⟨x,rfl,hm,hx⟩
 ·exact⟨by simp[Instr.sliceBounds],by omega,cC⟩
 ·exact⟨by simp[Instr.sliceBounds,hx _ hm],hm,cC⟩
 ·exact⟨by simp[Instr.sliceBounds,hy _ (Nat.le_trans hn bJ)],by omega,by omega⟩
 ·exact⟨by simp[Instr.sliceBounds,hy _ (Nat.le_trans hn bJ),hx _ hm],hm,by omega⟩
theorem Yu{t:TypeId}{x:Operand}{lo hi:Option Operand}{x':Opd}{lo' vN:Option Opd}(ho:o.op=.slice t x lo hi none)(hu:P.underlying t=some .string)(hx:opd x=some x')(dY:mO lo=some lo')(Qf:mO hi=some vN)
  (_hR:Rel h c) (hE:bY c env a) (hs:aC h env (.sliceStr x' lo' vN)=some (r,h')):aX P h c o a h' r:=by
 have vx:=bD hx hE
 simp only[aC]at hs
 split at hs
 ·rename_i s hv
  split at hs
  ·rename_i n hn
   split at hs
   ·rename_i m hm
    simp only[Option.some.injEq,Prod.mk.injEq]at hs
    obtain⟨rfl,rfl⟩:=hs
    rw[hv]at vx
    generalize dD:a.eval x=wx at vx
    cases vx
    have dX:(⟨s.toArray⟩:ByteArray).size=s.length:=by simp[ByteArray.size]
    obtain⟨b1,b2,b3⟩:=lT (P:=P) dY Qf hE (cap:=s.length) false (Nat.le_refl _) (Nat.le_refl _) hn hm c.w
    refine aX.value (.string ((⟨s.toArray⟩:ByteArray).extract m n)) ?_ ?_
    ·simp[execOp,ho,dD,Instr.sliceAt,Instr.slice,run_underlying hu,dX,b1]
    ·have:(⟨s.toArray⟩:ByteArray).extract m n=⟨((s.drop m).take (n-m)).toArray⟩:=by
      apply ByteArray.ext
      simp[ByteArray.data_extract,List.extract_toArray,List.extract_eq_take_drop]
     rw[this];exact .str _
   ·cases hs
  ·cases hs
 ·cases hs
end
end Go.Dm
/-
Part 6 of "Dm": the last operations that write nothing.
-/
namespace Go.Dm
section
variable {P:Program} {h h':aA} {c:Ctx} {env:Env} {a:Act} {o:Oper} {r:DV}
theorem Rel.arr{h:aA}{c:Ctx}(hR:Rel h c){id ety sz:Nat}{xs:List DV}{cap:Option Nat}(hg:h.get id=some (.arr ety sz xs cap)){b base:Nat}(hρ:c.ρ id=some (b,base)) :
  ∃ cur m,c.w.heap[b]?=some (.cells cur ety (0,0))∧0<sz∧cur.size=base+m*sz∧xs.length≤m∧(∀k,cap=some k→k=m∧xs.length=m)∧gJ c xs sz cur base:=by
 obtain⟨b',base',cur,m,h1,h2,h3,h4,h5,h6,_,h7⟩:=hR.obj id _ hg
 rw[hρ]at h1;cases h1
 exact⟨cur,m,h2,h3,h4,h5,h6,h7⟩
theorem Rel.oneRow{h:aA}{c:Ctx}(hR:Rel h c){id ety sz:Nat}{xs:List DV}{cap:Option Nat}(hg:h.get id=some (.arr ety sz xs cap)){b base:Nat}(hρ:c.ρ id=some (b,base)){cur:Array Value}{e:TypeId}{fr:Nat×Nat}
  (hb:c.w.heap[b]?=some (.cells cur e fr)):lW cur:=by
 obtain⟨b',base',cur',m,h1,h2,_,_,_,_,h8,_⟩:=hR.obj id _ hg
 rw[hρ]at h1;cases h1
 rw[hb]at h2;cases h2
 exact h8
theorem dN{w:World}{b:Nat}{cur:Array Value}{e:TypeId}{fr:Nat×Nat}(h:w.heap[b]?=some (.cells cur e fr)):w.shape? b=some (e,cur.size):=by
 simp[World.shape?,h]
theorem zX{m off cap sz base n:Nat}(dX:0<sz)(h1:n=base+m*sz)(h2:base+off*sz+cap*sz=n):off+cap=m:=by
 have:(off+cap)*sz=m*sz:=by rw[Nat.add_mul];omega
 exact Nat.eq_of_mul_eq_mul_right dX this
theorem Y8{t e:TypeId}{x:Operand}{lo hi:Option Operand}{x':Opd}{lo' hi'':Option Opd}{i:TypeInfo}(ho:o.op=.slice t x lo hi none)(hu:P.underlying t=some (.slice e))(vN:P.info? e=some i)(_hsz:0<i.size)
  (hx:opd x=some x') (dY:mO lo=some lo') (Qf:mO hi=some hi'')
  (hR:Rel h c) (hE:bY c env a) (hs:aC h env (.sliceSl i.size x' lo' hi'')=some (r,h')):aX P h c o a h' r:=by
 have vx:=bD hx hE
 simp only[aC]at hs
 split at hs
 ·rename_i hv
  split at hs
  ·rename_i n hn
   split at hs
   ·rename_i m hm
    simp only[Option.some.injEq,Prod.mk.injEq]at hs
    obtain⟨rfl,rfl⟩:=hs
    rw[hv]at vx
    obtain⟨ad,dD⟩:=vx.nsl_inv
    obtain⟨b1,b2,b3⟩:=lT (P:=P) dY Qf hE (cap:=0) true (Nat.le_refl _) (Nat.le_refl _) hn hm c.w
    have e1:m=0:=by omega
    have e2:n=0:=by omega
    subst e1;subst e2
    exact aX.value (.slice ad 0 0) (by simp[execOp,ho,dD,Instr.sliceAt,Instr.slice,run_underlying hu,b1,sizeOf,typeInfo,vN]) (.nsl ad)
   ·cases hs
  ·cases hs
 ·rename_i l sz xs hv
  split at hs
  ·rename_i bS
   split at hs
   ·rename_i n hn
    split at hs
    ·rename_i m hm
     simp only[Option.some.injEq,Prod.mk.injEq]at hs
     obtain⟨rfl,rfl⟩:=hs
     rw[hv]at vx
     have hinv:(xs=[]∧∃ ad cap,a.eval x=.slice ad 0 cap)∨(i.size=sz∧∃ (b o:Nat) (cap:Nat) (vals:Nat→Nat→Value),a.eval x=.slice (some ⟨b,o,none⟩) xs.length cap ∧
       xs.length≤cap∧b<c.w.heap.size∧¬c.O b∧(l=false→¬c.X b)∧(∀i (hi:i<xs.length),(aF sz xs[i]).length=sz) ∧
       (∀i j,i<xs.length→j<sz→c.w.cell? ⟨b,o+i*sz+j,none⟩=some (vals i j)∧(vals i j).oneCell'=true) ∧
       (∀i (hi:i<xs.length) j (hj:j<(aF sz xs[i]).length),VR c.still (aF sz xs[i])[j] (vals i j))):=by
      rcases vx.isl_inv with h1|h2
      ·exact .inl h1
      ·rcases bS with h3|h3
       ·exact .inr ⟨h3,h2⟩
       ·subst h3
        obtain⟨b,o',cap,vals,dD,_⟩:=h2
        exact .inl ⟨rfl,_,_,dD⟩
     rcases hinv with⟨rfl,ad,cap,dD⟩|⟨rfl,b,o',cap,vals,dD,gZ,hb,hO,hX,hszs,hc,xB⟩
     ·obtain⟨b1,b2,b3⟩:=lT (P:=P) dY Qf hE (cap:=cap) true (Nat.zero_le _) (Nat.zero_le _) hn hm c.w
      have hn0:n=0:=by
       rcases jE (P:=P) Qf hE hn .sliceAcap c.w with⟨_,e⟩|⟨_,_,e,_⟩<;>simp at e<;>omega
      have R8:m=0:=by omega
      subst hn0;subst R8
      refine aX.value (.slice (if cap=0 then ad else ad.map (·.add 0)) 0 cap) (by simp[execOp,ho,dD,Instr.sliceAt,Instr.slice,run_underlying hu,b1,sizeOf,typeInfo,vN]) ?_
      exact .isl0 _ _
     ·obtain⟨b1,b2,b3⟩:=lT (P:=P) dY Qf hE (cap:=cap) true gZ gZ hn hm c.w
      have hnle:n≤xs.length:=by
       rcases jE (P:=P) Qf hE hn .sliceAcap c.w with⟨_,e⟩|⟨_,_,e,_⟩<;>omega
      refine aX.value (.slice (if cap=m then some ⟨b,o',none⟩else some ⟨b,o'+m*i.size,none⟩) (n-m) (cap-m)) ?_ ?_
      ·simp[execOp,ho,dD,Instr.sliceAt,Instr.slice,run_underlying hu,b1,sizeOf,typeInfo,vN,Addr.add_lit]
      ·by_cases hnm:n=m
       ·subst hnm
        simp only[Nat.sub_self,List.take_zero]
        exact .isl0 _ _
       ·rw[if_neg (by omega)]
        refine .isl (fun k j=>vals (m+k) j) (by simp;omega) (by omega) hb hO hX (fun k hk=>?_) (fun k j hk hj=>?_) (fun k hk j hj=>?_)
        ·simp only[List.length_take,List.length_drop]at hk
         simp only[List.getElem_take,List.getElem_drop]
         exact hszs _ _
        ·simp only[List.length_take,List.length_drop]at hk
         have:=hc (m+k) j (by omega) hj
         rw[Nat.add_mul,←Nat.add_assoc]at this
         exact this
        ·simp only[List.length_take,List.length_drop]at hk
         simp only[List.getElem_take,List.getElem_drop]at hj ⊢
         exact xB (m+k) (by omega) j hj
    ·cases hs
   ·cases hs
  ·cases hs
 ·rename_i id sz off len hv
  split at hs
  ·rename_i ety dK xs cap hg
   split at hs
   ·rename_i bS
    obtain⟨e1,e2,cD⟩:=bS
    subst e1;subst e2
    split at hs
    ·rename_i n hn
     split at hs
     ·rename_i m hm
      simp only[Option.some.injEq,Prod.mk.injEq]at hs
      obtain⟨rfl,rfl⟩:=hs
      rw[hv]at vx
      obtain⟨b,base,fA,gK,nn,lP,dD,hρ,dV,yU,Ay,Eo⟩:=vx.sl_inv
      obtain⟨cur,mm,g1,g2,g3,g4,g5,g6⟩:=hR.arr hg hρ
      have RK:=dN g1
      rw[RK]at dV
      cases dV
      have mC:=zX g2 g3 yU
      obtain⟨b1,b2,b3⟩:=lT (P:=P) dY Qf hE (cap:=fA) true Ay (by omega) hn hm c.w
      refine aX.value (.slice (if fA=m then some ⟨b,gK,none⟩else some ⟨b,gK+m*i.size,none⟩) (n-m) (fA-m)) ?_ ?_
      ·simp[execOp,ho,dD,Instr.sliceAt,Instr.slice,run_underlying hu,b1,sizeOf,typeInfo,vN,Addr.add_lit]
      ·have hmle:m≤fA:=by omega
       have harith:base+(off+m)*i.size+(fA-m)*i.size=cur.size:=by
        have e3:(off+m)*i.size+(fA-m)*i.size=(off+fA)*i.size:=by
         rw[←Nat.add_mul];congr 1;omega
        rw[Nat.add_assoc,e3,mC,g3]
       by_cases hmc:fA=m
       ·rw[if_pos hmc]
        exact .sl hρ RK harith (by omega) (.inr (by omega))
       ·rw[if_neg hmc]
        have nS:gK=base+off*i.size:=Eo.elim (fun e=>e) (fun e=>by omega)
        exact .sl hρ RK harith (by omega) (.inl (by rw[nS,Nat.add_mul];omega))
     ·cases hs
    ·cases hs
   ·cases hs
  ·cases hs
 ·cases hs
theorem GC{t e:TypeId}{x lo hi mx:Operand}{x' lo' hi'' mx':Opd}{i:TypeInfo}(ho:o.op=.slice t x (some lo) (some hi) (some mx))(hu:P.underlying t=some (.slice e))(vN:P.info? e=some i)
  (hx:opd x=some x') (dY:opd lo=some lo') (Qf:opd hi=some hi'') (hmx:opd mx=some mx') (hE:bY c env a) (hs:aC h env (.slice3 x' lo' hi'' mx')=some (r,h')):aX P h c o a h' r:=by
 have vx:=bD hx hE
 simp only[aC]at hs
 split at hs
 ·rename_i len cC
  have hval:∃ ad cap,a.eval x=.slice ad len cap∧len≤cap:=by
   split at cC
   ·rename_i hv;cases cC;rw[hv]at vx;obtain⟨ad,e⟩:=vx.nsl_inv;exact⟨_,_,e,Nat.le_refl _⟩
   ·rename_i hv;cases cC;rw[hv]at vx
    obtain⟨b,base,fA,gK,nn,lP,dD,_,_,_,Ay,_⟩:=vx.sl_inv
    exact⟨_,_,dD,Ay⟩
   ·rename_i hv;cases cC;rw[hv]at vx
    rcases vx.isl_inv with⟨rfl,ad,cap,dD⟩|⟨b,o',cap,vals,dD,gZ,_⟩
    ·exact⟨_,_,dD,Nat.zero_le _⟩
    ·exact⟨_,_,dD,gZ⟩
   ·cases cC
  obtain⟨ad,cap,dD,Ay⟩:=hval
  split at hs
  ·rename_i m hm
   split at hs
   ·rename_i b hb
    split at hs
    ·rename_i l hl
     cases hs
     rcases jE (P:=P) (oo:=some mx) (by simp[mO,hmx]) hE hm .slice3Acap c.w with⟨e0,_⟩|⟨y,e0,q1,q2⟩
     ·cases e0
     cases e0
     rcases jE (P:=P) (oo:=some hi) (by simp[mO,Qf]) hE hb .slice3B c.w with⟨e0,_⟩|⟨y,e0,q3,q4⟩
     ·cases e0
     cases e0
     rcases jE (P:=P) (oo:=some lo) (by simp[mO,dY]) hE hl .slice3C c.w with⟨e0,_⟩|⟨y,e0,q5,q6⟩
     ·cases e0
     cases e0
     exact aX.value (.slice (if m=l then ad else ad.map (·.add (l*i.size))) (b-l) (m-l))
      (by simp[execOp,ho,dD,Instr.sliceAt,Instr.slice,Instr.sliceBounds,run_underlying hu,q2 _ (Nat.le_trans q1 Ay),q4 _ q3,q6 _ q5,sizeOf,typeInfo,vN]) (.unk _)
    ·cases hs
   ·cases hs
  ·cases hs
 ·cases hs
theorem cG{b:Builtin}{args:Array Operand}{ats:Array TypeId}{ρ:Operand→Value}(ho:o.op=.call {callee:=.builtin b,args:=args,argTypes:=ats})(w:World) :
  (execOp ρ o).run P w=(builtin b ats o.type (args.map fun|.const _=>true|_=>false) (args.map ρ)).run P w:=by
 simp only[execOp,ho,Go.resolve,invoke,Sem.run_bind,Sem.run_pure,Result.andThen_ok]
 rfl
def tJ:TypeDesc→Option Nat
 | .string=>some 0
 | .slice _=>some 1
 | .map _ _=>some 2
 | _=>none
theorem GG{t:TypeId}{x:Operand}{x':Opd}{k:Nat}{desc:TypeDesc}(ho:o.op=.call {callee:=.builtin .len,args:=#[x],argTypes:=#[t]})(hu:P.underlying t=some desc)(hk:tJ desc=some k)
  (hx:opd x=some x') (hR:Rel h c) (hE:bY c env a) (hs:aC h env (.len k x')=some (r,h')):aX P h c o a h' r:=by
 have vx:=bD hx hE
 have key:∀n:Nat,(Builtin.len_ #[t] o.type #[a.eval x]).run P c.w=.ok (goInt n) c.w→aX P h c o a h (.int .i64 n):=by
  intro n gB
  exact aX.value (.int .i64 n) (by rw[cG ho];simp[builtin,gB,goInt]) (.int _ _)
 simp only[aC]at hs
 split at hs
 ·rename_i s hv
  split at hs
  ·rename_i Hm
   simp only[Option.some.injEq,Prod.mk.injEq]at hs
   obtain⟨rfl,rfl⟩:=hs
   rw[hv]at vx
   have dD:=vx.str_inv
   cases desc<;>simp[tJ,Hm]at hk
   have dX:(⟨s.toArray⟩:ByteArray).size=s.length:=by simp[ByteArray.size]
   refine key _ ?_
   simp[Builtin.len_,run_underlying hu,dD,goInt,dX]
  ·cases hs
 ·rename_i hv
  split at hs
  ·rename_i Hm
   simp only[Option.some.injEq,Prod.mk.injEq]at hs
   obtain⟨rfl,rfl⟩:=hs
   rw[hv]at vx
   obtain⟨ad,dD⟩:=vx.nsl_inv
   cases desc<;>simp[tJ,Hm]at hk
   refine key 0 ?_
   simp[Builtin.len_,run_underlying hu,dD,goInt]
  ·cases hs
 ·rename_i id sz off len hv
  split at hs
  ·rename_i Hm
   simp only[Option.some.injEq,Prod.mk.injEq]at hs
   obtain⟨rfl,rfl⟩:=hs
   rw[hv]at vx
   obtain⟨b,base,fA,gK,nn,lP,dD,_⟩:=vx.sl_inv
   cases desc<;>simp[tJ,Hm]at hk
   refine key _ ?_
   simp[Builtin.len_,run_underlying hu,dD,goInt]
  ·cases hs
 ·rename_i l sz xs hv
  split at hs
  ·rename_i Hm
   simp only[Option.some.injEq,Prod.mk.injEq]at hs
   obtain⟨rfl,rfl⟩:=hs
   rw[hv]at vx
   have dD:∃ ad cap,a.eval x=.slice ad xs.length cap:=by
    rcases vx.isl_inv with⟨rfl,ad,cap,dD⟩|⟨b,o',cap,vals,dD,_⟩
    ·exact⟨ad,cap,dD⟩
    ·exact⟨_,_,dD⟩
   obtain⟨ad,cap,dD⟩:=dD
   cases desc<;>simp[tJ,Hm]at hk
   refine key _ ?_
   simp[Builtin.len_,run_underlying hu,dD,goInt]
  ·cases hs
 ·rename_i hv
  split at hs
  ·rename_i Hm
   simp only[Option.some.injEq,Prod.mk.injEq]at hs
   obtain⟨rfl,rfl⟩:=hs
   rw[hv]at vx
   have dD:=vx.nmap_inv
   cases desc<;>simp[tJ,Hm]at hk
   refine key 0 ?_
   simp[Builtin.len_,run_underlying hu,dD,goInt]
  ·cases hs
 ·rename_i id hv
  split at hs
  ·rename_i es hg
   split at hs
   ·rename_i Hm
    simp only[Option.some.injEq,Prod.mk.injEq]at hs
    obtain⟨rfl,rfl⟩:=hs
    rw[hv]at vx
    obtain⟨b,dD,hρ⟩:=vx.map_inv
    obtain⟨es',jX,b',entries,clock,h1,h2,h3,h4,_⟩:=hR.obj id _ hg
    rw[hρ]at h1;cases h1
    cases desc<;>simp[tJ,Hm]at hk
    refine key _ ?_
    simp[Builtin.len_,run_underlying hu,dD,goInt,getObj,Sem.run,h2,←h3,jX.length_eq]
   ·cases hs
  ·cases hs
 ·cases hs
theorem GF{t e:TypeId}{n:Nat}{x:Operand}{_x':Opd}(ho:o.op=.call {callee:=.builtin .len,args:=#[x],argTypes:=#[t]})(hu:P.underlying t=some (.array n e))
  (_hR:Rel h c) (_hE:bY c env a) (hs:aC h env (.move (.c (.int .i64 n)))=some (r,h')):aX P h c o a h' r:=by
 simp only[aC,Opd.eval,Option.some.injEq,Prod.mk.injEq]at hs
 obtain⟨rfl,rfl⟩:=hs
 exact aX.value (.int .i64 n) (by rw[cG ho];simp[builtin,Builtin.len_,run_underlying hu,goInt]) (.int _ _)
theorem k7{t e:TypeId}{x:Operand}{x':Opd}(ho:o.op=.call {callee:=.builtin .cap,args:=#[x],argTypes:=#[t]})(hu:P.underlying t=some (.slice e))
  (hx:opd x=some x') (hR:Rel h c) (hE:bY c env a) (hs:aC h env (.cap x')=some (r,h')):aX P h c o a h' r:=by
 have vx:=bD hx hE
 simp only[aC]at hs
 split at hs
 ·rename_i hv
  simp only[Option.some.injEq,Prod.mk.injEq]at hs
  obtain⟨rfl,rfl⟩:=hs
  rw[hv]at vx
  obtain⟨ad,dD⟩:=vx.nsl_inv
  exact aX.value (.int .i64 0) (by rw[cG ho];simp[builtin,Builtin.cap_,run_underlying hu,dD,goInt]) (.int _ _)
 ·rename_i id sz off len hv
  split at hs
  ·rename_i ety dK xs k hg
   split at hs
   ·rename_i hss
    subst hss
    simp only[Option.some.injEq,Prod.mk.injEq]at hs
    obtain⟨rfl,rfl⟩:=hs
    rw[hv]at vx
    obtain⟨b,base,fA,gK,nn,lP,dD,hρ,dV,yU,Ay,Eo⟩:=vx.sl_inv
    obtain⟨cur,mm,g1,g2,g3,g4,g5,g6⟩:=hR.arr hg hρ
    rw[dN g1]at dV
    cases dV
    have mC:=zX g2 g3 yU
    have hk:=(g5 k rfl).1
    have e1:((k-off:Nat):Int)=((fA:Nat):Int):=by omega
    rw[e1]
    exact aX.value (.int .i64 fA) (by rw[cG ho];simp[builtin,Builtin.cap_,run_underlying hu,dD,goInt]) (.int _ _)
   ·cases hs
  ·rename_i ety dK xs hg
   split at hs
   ·rename_i hss
    subst hss
    simp only[Option.some.injEq,Prod.mk.injEq]at hs
    obtain⟨rfl,rfl⟩:=hs
    rw[hv]at vx
    obtain⟨b,base,fA,gK,nn,lP,dD,hρ,dV,yU,Ay,Eo⟩:=vx.sl_inv
    obtain⟨cur,mm,g1,g2,g3,g4,g5,g6⟩:=hR.arr hg hρ
    rw[dN g1]at dV
    cases dV
    have mC:=zX g2 g3 yU
    exact aX.value (.int .i64 fA) (by rw[cG ho];simp[builtin,Builtin.cap_,run_underlying hu,dD,goInt]) (.atl (by omega))
   ·cases hs
  ·cases hs
 ·cases hs
theorem Sv{mx:Bool}{x y:Operand}{x' y':Opd}{ats:Array TypeId}(ho:o.op=.call {callee:=.builtin (if mx then .max else .min),args:=#[x,y],argTypes:=ats})
  (hx:opd x=some x') (hy:opd y=some y') (_hR:Rel h c) (hE:bY c env a) (hs:aC h env (.minmax mx x' y')=some (r,h')):aX P h c o a h' r:=by
 have vx:=bD hx hE
 have vy:=bD hy hE
 simp only[aC]at hs
 split at hs
 ·rename_i k m k' n hm hn
  rw[hm]at vx;rw[hn]at vy
  simp only[Option.some.injEq,Prod.mk.injEq]at hs
  obtain⟨rfl,rfl⟩:=hs
  have dD:=vx.int_inv
  have DY:=vy.int_inv
  cases mx
  ·exact aX.value (.int k (if n<m then n else m)) (by rw[cG ho];simp[builtin,Builtin.min_,Builtin.min2,dD,DY]) (.int _ _)
  ·exact aX.value (.int k (if m<n then n else m)) (by rw[cG ho];simp[builtin,Builtin.max_,Builtin.max2,dD,DY]) (.int _ _)
 ·cases hs
theorem OF{xs:List Operand}{xs':List Opd}(hx:xs.mapM opd=some xs')(hE:bY c env a):VRs c (xs'.map (Opd.eval env)) (xs.map a.eval):=by
 have hl:=bZ _ _ _ hx
 refine⟨by simp[hl],fun i h1 h2=>?_⟩
 simp only[List.length_map]at h1 h2
 simp only[List.getElem_map]
 exact bD (eG _ _ _ hx i h2 h1) hE
theorem Yw{f:FuncId}{first cap:Array Operand}{fA:List Opd}(ho:o.op=.makeFunc (.func f) first cap)(hf:first.isEmpty=true)(hc:cap.toList.mapM opd=some fA)
  (_hR:Rel h c) (hE:bY c env a) (hs:aC h env (.makeFunc f fA)=some (r,h')):aX P h c o a h' r:=by
 have hv:=OF hc hE
 simp only[aC,Option.some.injEq,Prod.mk.injEq]at hs
 obtain⟨rfl,rfl⟩:=hs
 refine aX.value (.func (.func f) #[] (cap.toList.map a.eval).toArray) ?_ (.func hv.1 hv.2)
 have:first=#[]:=by simpa using hf
 subst this
 have e:cap.map a.eval=(cap.toList.map a.eval).toArray:=by apply Array.ext';simp
 simp[execOp,ho,Instr.makeFunc,e]
theorem Z0{x:Operand}{x':Opd}{i:Nat}(ho:o.op=.extract x i)(hx:opd x=some x')(_hR:Rel h c)(hE:bY c env a)(hs:aC h env (.extract x' i)=some (r,h')):aX P h c o a h' r:=by
 have vx:=bD hx hE
 simp only[aC]at hs
 split at hs
 ·rename_i vs hv
  split at hs
  ·rename_i v hvi
   simp only[Option.some.injEq,Prod.mk.injEq]at hs
   obtain⟨rfl,rfl⟩:=hs
   rw[hv]at vx
   obtain⟨us,dD,hl,hu⟩:=vx.tup_inv
   obtain⟨aY,he⟩:=List.getElem?_eq_some_iff.1 hvi
   have qH:i<us.length:=by omega
   refine aX.value us[i] (by simp[execOp,ho,dD,Instr.extract,qH]) ?_
   rw[←he];exact hu i aY qH
  ·cases hs
 ·cases hs
theorem Sx{t:TypeId}{x:Operand}{x':Opd}{desc:TypeDesc}(ho:o.op=.makeInterface t x)(hu:P.underlying t=some desc)(hni:∀ms,desc≠.interface ms)(hx:opd x=some x')(_hR:Rel h c)(hE:bY c env a)
  (hs:aC h env (.makeIface t x')=some (r,h')):aX P h c o a h' r:=by
 have vx:=bD hx hE
 simp only[aC,Option.some.injEq,Prod.mk.injEq]at hs
 obtain⟨rfl,rfl⟩:=hs
 refine aX.value (.iface t (a.eval x)) ?_ (.iface vx)
 simp only[execOp,ho,Instr.makeInterface,Sem.run_bind,run_underlying hu,Result.andThen_ok]
 cases desc<;>first|rfl|exact absurd rfl (hni _)
end
end Go.Dm
