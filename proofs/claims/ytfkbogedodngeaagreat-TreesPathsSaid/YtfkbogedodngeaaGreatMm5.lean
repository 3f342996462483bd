/- A part of the proof. -/
import Derived.Test.YtfkbogedodngeaaGreatMm4
import Derived.IntWalk
import Derived.ChangeArms
import Derived.ChangeSame
set_option linter.all false
namespace Go.Dm
def WF(h:aA):Prop:=h.objs.length=h.n
theorem BW:WF rB:=rfl
theorem WF.push{h:aA}{o:DO}(w:WF h):WF (h.push o):=by unfold WF at *;simp[aA.push,w]
theorem WF.set{h:aA}{id:Nat}{o:DO}(w:WF h):WF (h.set id o):=by unfold WF at *;simp[aA.set,w]
theorem WF.lim{h:aA}{l:Nat}(w:WF h):WF {h with lim:=l}:=w
theorem Nb{h:aA}{o o':DO}{id:Nat}(eF:id<h.n):(h.push o).set id o'=(h.set id o').push o:=by
 have e:h.n-id=(h.n-1-id)+1:=by omega
 simp[aA.push,aA.set]
 rw[e];rfl
theorem Rp{h:aA}{o o':DO}{id:Nat}:(h.push o).set id o'=if id<h.n then(h.set id o').push o else h.push o':=by
 split
 ·rename_i eF;exact Nb eF
 ·rename_i eF
  have e:h.n-id=0:=by omega
  simp[aA.push,aA.set]
  rw[e];rfl
theorem NR{h:aA}{id:Nat}{o:DO}:(h.set id o).n=h.n:=rfl
theorem cO{h:aA}(w:WF h){id k:Nat}{o:DO}(eF:id<h.n):(h.set id o).get k=if k=id then some o else h.get k:=by
 unfold WF at w
 by_cases e:k=id
 ·subst e
  rw[if_pos rfl]
  simp only[aA.get,aA.set,if_pos eF]
  rw[List.getElem?_set,if_pos rfl,if_pos (by omega)]
  exact if_pos eF
 ·rw[if_neg e];exact aT eF e
theorem aC{h:aA}{id:Nat}{o:DO}(hg:h.get id=some o):id<h.n:=cZ hg
def EZ(c a b:DV):Option DV:=match c with|.bool t=>some (if t then a else b)|_=>none
theorem Yc(t:Bool)(a b:DV):EZ (.bool t) a b=some (if t then a else b):=rfl
def vF:DV→Option DV
 | .ptr id sz idx off=>some (.ptr id sz idx off)
 | .iptr l cs off=>some (.iptr l cs off)
 | _=>none
theorem Ib(id sz idx off:Nat):vF (.ptr id sz idx off)=some (.ptr id sz idx off):=rfl
theorem Ez(l:Bool)(cs:List DV)(off:Nat):vF (.iptr l cs off)=some (.iptr l cs off):=rfl
def SS(neq:Bool):DV→DV→Option DV
 | .bool a,.bool b=>some (.bool (if neq then !(a == b)else a == b))
 | _,_=>none
theorem AA(neq a b:Bool):SS neq (.bool a) (.bool b)=some (.bool (if neq then !(a == b)else a == b)):=rfl
def Gc(neq:Bool):Option Bool→Option DV
 | some r=>some (.bool (if neq then !r else r))
 | none=>none
theorem Zs(neq r:Bool):Gc neq (some r)=some (.bool (if neq then !r else r)):=rfl
def HN(k:IntKind):DV→Option DV|.int _ n=>some (.int k (k.wrap n))|_=>none
theorem AK(k k':IntKind)(n:Int):HN k (.int k' n)=some (.int k (k.wrap n)):=rfl
def C7:DV→Option DV|.str s=>some (.str s)|_=>none
theorem C6(s:List UInt8):C7 (.str s)=some (.str s):=rfl
def sH(off:Nat):DV→Option DV
 | .ptr id sz idx o=>some (.ptr id sz idx (o+off))
 | .iptr l cs o=>some (.iptr l cs (o+off))
 | _=>none
theorem Gh(off id sz idx o:Nat):sH off (.ptr id sz idx o)=some (.ptr id sz idx (o+off)):=rfl
theorem Cx(off:Nat)(l:Bool)(cs:List DV)(o:Nat):sH off (.iptr l cs o)=some (.iptr l cs (o+off)):=rfl
def Gg(off:Nat)(n:Option Nat):DV→Option DV|.agg cs=>cT n cs off|_=>none
theorem Zw(off:Nat)(n:Option Nat)(cs:List DV):Gg off n (.agg cs)=cT n cs off:=rfl
def aR(sz:Nat)(x i:DV):Option DV :=
 match asI i with
 | some i =>
  match x with
  | .sl id dK off len=>if sz=dK∧0≤i∧i<(len:Int)then some (.ptr id sz (off+i.toNat) 0)else none
  | .isl l dK xs=>if sz=dK∧0≤i then(match xs[i.toNat]? with|some e=>some (.iptr l (aF sz e) 0)|none=>none)else none
  | _=>none
 | none=>none
def jB(len esz:Nat)(x i:DV):Option DV :=
 match asI i with
 | some i =>
  if 0≤i∧i<(len:Int)then
   match x with
   | .ptr id sz idx o=>some (.ptr id sz idx (o+i.toNat*esz))
   | .iptr l cs o=>some (.iptr l cs (o+i.toNat*esz))
   | _=>none
  else none
 | none=>none
def Zd(len esz:Nat)(n:Option Nat)(x i:DV):Option DV :=
 match asI i,x with
 | some i,.agg cs=>if 0≤i∧i<(len:Int)then cT n cs (i.toNat*esz)else none
 | _,_=>none
def Au(x i:DV):Option DV :=
 match asI i,x with
 | some i,.str s=>if 0≤i then(match s[i.toNat]? with|some b=>some (.int .u8 b.toNat)|none=>none)else none
 | _,_=>none
def cG(o:Option DV)(dflt lim:Nat):Option Nat :=
 match o with
 | none=>some dflt
 | some x=>match asI x with
  | some n=>if 0≤n∧n≤(lim:Int)then some n.toNat else none
  | none=>none
theorem Gy(env:Env)(o:Option Opd)(d l:Nat):bound env o d l=cG (o.map (Opd.eval env)) d l:=by
 cases o<;>rfl
theorem uO(d l:Nat):cG none d l=some d:=rfl
theorem sP(k:IntKind)(n:Int)(d l:Nat)(h0:0≤n)(h1:n≤(l:Int)):cG (some (.int k n)) d l=some n.toNat:=by
 simp[cG,asI,h0,h1]
def Ah(x:DV)(lo hi:Option DV):Option DV :=
 match x with
 | .str s=>match cG hi s.length s.length with
  | some b=>match cG lo 0 b with
   | some a=>some (.str ((s.drop a).take (b-a)))
   | none=>none
  | none=>none
 | _=>none
def fB(h:aA)(sz:Nat)(x:DV)(lo hi:Option DV):Option DV :=
 match x with
 | .nsl=>match cG hi 0 0 with
  | some b=>match cG lo 0 b with
   | some _=>some .nsl
   | none=>none
  | none=>none
 | .isl l dK xs=>if sz=dK∨xs=[]then match cG hi xs.length xs.length with
   | some b=>match cG lo 0 b with
    | some a=>some (.isl l sz ((xs.drop a).take (b-a)))
    | none=>none
   | none=>none
  else none
 | .sl id dK off len=>match h.get id with
  | some (.arr _ jK xs _)=>if sz=dK∧sz=jK∧off+len≤xs.length then match cG hi len (xs.length-off)with
    | some b=>match cG lo 0 b with
     | some a=>some (.sl id sz (off+a) (b-a))
     | none=>none
    | none=>none
   else none
  | _=>none
 | _=>none
def lenV(h:aA)(k:Nat):DV→Option DV
 | .str s=>if k=0 then some (.int .i64 s.length)else none
 | .nsl=>if k=1 then some (.int .i64 0)else none
 | .sl _ _ _ len=>if k=1 then some (.int .i64 len)else none
 | .isl _ _ xs=>if k=1 then some (.int .i64 xs.length)else none
 | .nmap=>if k=2 then some (.int .i64 0)else none
 | .map id=>match h.get id with|some (.mp es)=>if k=2 then some (.int .i64 es.length)else none|_=>none
 | _=>none
theorem GB(h:aA)(s:List UInt8):lenV h 0 (.str s)=some (.int .i64 s.length):=rfl
theorem GC(h:aA):lenV h 1 .nsl=some (.int .i64 0):=rfl
theorem LE(h:aA)(id sz off len:Nat):lenV h 1 (.sl id sz off len)=some (.int .i64 len):=rfl
theorem GE(h:aA)(t:Bool)(sz:Nat)(xs:List DV):lenV h 1 (.isl t sz xs)=some (.int .i64 xs.length):=rfl
def Pe(h:aA)(ety sz bytes:Nat)(s:DV):Option (List DV)→Option (DV×aA)
 | some ys=>bB h ety sz bytes s ys
 | none=>none
theorem Pd(h:aA)(ety sz bytes:Nat)(s:DV)(ys:List DV):Pe h ety sz bytes s (some ys)=bB h ety sz bytes s ys:=rfl
def HK(h:aA)(sz:Nat)(d:DV):Option (List DV)→Option (DV×aA)
 | some ys=>uK h sz d ys
 | none=>none
theorem B2(h:aA)(sz:Nat)(d:DV)(ys:List DV):HK h sz d (some ys)=uK h sz d ys:=rfl
def Nq(mx:Bool):DV→DV→Option DV
 | .int k a,.int _ b=>some (.int k (if mx then(if a<b then b else a)else(if b<a then b else a)))
 | _,_=>none
theorem Sn(mx:Bool)(k k':IntKind)(a b:Int):Nq mx (.int k a) (.int k' b)=some (.int k (if mx then(if a<b then b else a)else(if b<a then b else a))):=rfl
def zL(i:Nat):DV→Option DV|.tup vs=>vs[i]?|_=>none
theorem Om(i:Nat)(vs:List DV):zL i (.tup vs)=vs[i]?:=rfl
def Dw:Option aA→Option (DV×aA)
 | some h=>some (.tup [],h)
 | none=>none
theorem Qf(h:aA):Dw (some h)=some (.tup [],h):=rfl
def TG(h:aA)(ety sz:Nat)(x:DV):Option (DV×aA):=if aO sz x then some (.ptr h.n sz 0 0,h.push (.arr ety sz [x] (some 1)))else none
theorem NC{h:aA}{ety sz:Nat}{x:DV}(hs:aO sz x=true):TG h ety sz x=some (.ptr h.n sz 0 0,h.push (.arr ety sz [x] (some 1))):=if_pos hs
def TK(h:aA):Option (List DV)→Option (DV×aA)
 | some cs=>some (.agg cs,h)
 | none=>none
theorem BF(h:aA)(cs:List DV):TK h (some cs)=some (.agg cs,h):=rfl
def Ed(h:aA)(ety sz len:Nat):Option (List DV)→Option (DV×aA)
 | some xs=>some (.sl h.n sz 0 len,h.push (.arr ety sz xs (some len)))
 | none=>none
theorem Hr(h:aA)(ety sz len:Nat)(xs:List DV):Ed h ety sz len (some xs)=some (.sl h.n sz 0 len,h.push (.arr ety sz xs (some len))):=rfl
section
variable (h:aA) (env:Env)
theorem JL(x:Opd):aB h env (.move x)=some (x.eval env,h):=rfl
theorem H8(c a b:Opd):aB h env (.pick c a b)=cU h (EZ (c.eval env) (a.eval env) (b.eval env)):=by simp only[aB];cases c.eval env<;>rfl
theorem DE(ety sz:Nat)(z:DV):aB h env (.alloc ety sz z)=some (.ptr h.n sz 0 0,h.push (.arr ety sz [z] (some 1))):=rfl
theorem QM(ety sz:Nat)(x:Opd):aB h env (.box ety sz x)=TG h ety sz (x.eval env):=rfl
theorem Qo(zero:List DV)(parts:List (Nat×Nat×Opd)):aB h env (.build zero parts)=TK h (fM zero (parts.map fun p=>(p.1,p.2.1,p.2.2.eval env))):=by
 simp only[aB];cases fM zero (parts.map fun p=>(p.1,p.2.1,p.2.2.eval env))<;>rfl
theorem wI(ety sz:Nat)(z:DV)(len:Nat)(parts:List (Nat×Opd)):aB h env (.buildSlice ety sz z len parts)=Ed h ety sz len (cV sz (List.replicate len z) (parts.map fun p=>(p.1,p.2.eval env))):=by
 simp only[aB];cases cV sz (List.replicate len z) (parts.map fun p=>(p.1,p.2.eval env))<;>rfl
theorem H9(n:Option Nat)(a:Opd):aB h env (.load n a)=cU h (jI h n (a.eval env)):=by simp only[aB];cases jI h n (a.eval env)<;>rfl
theorem Qk(n:Nat)(a x:Opd):aB h env (.store n a x)=Dw (jW h n (a.eval env) (x.eval env)):=by simp only[aB];cases jW h n (a.eval env) (x.eval env)<;>rfl
theorem Bo(x:Opd):aB h env (.nilCheck x)=cU h (vF (x.eval env)):=by simp only[aB];cases x.eval env<;>rfl
theorem Qq(op:BinOp)(x y:Opd):aB h env (.arith op x y)=cU h (bV op (x.eval env) (y.eval env)):=by simp only[aB];cases bV op (x.eval env) (y.eval env)<;>rfl
theorem DB(neq:Bool)(x y:Opd):aB h env (.eqb neq x y)=cU h (SS neq (x.eval env) (y.eval env)):=by simp only[aB];cases x.eval env<;>cases y.eval env<;>rfl
theorem DC(neq:Bool)(ks:List Nat)(x y:Opd):aB h env (.eqa neq ks x y)=cU h (Gc neq (eY (.agg ks) (x.eval env) (y.eval env))):=by simp only[aB];cases eY (.agg ks) (x.eval env) (y.eval env)<;>rfl
theorem DA(k:Nat)(neq:Bool)(x y:Opd):aB h env (.eqn k neq x y)=cU h (Gc neq (qY k (x.eval env) (y.eval env))):=by simp only[aB];cases qY k (x.eval env) (y.eval env)<;>rfl
theorem NQ(op:UnOp)(x:Opd):aB h env (.un op x)=cU h (unD op (x.eval env)):=by simp only[aB];cases unD op (x.eval env)<;>rfl
theorem I7(k:IntKind)(x:Opd):aB h env (.conv k x)=cU h (HN k (x.eval env)):=by simp only[aB];cases x.eval env<;>rfl
theorem Qp(x:Opd):aB h env (.asStr x)=cU h (C7 (x.eval env)):=by simp only[aB];cases x.eval env<;>rfl
theorem yK(off:Nat)(x:Opd):aB h env (.fieldAddr off x)=cU h (sH off (x.eval env)):=by simp only[aB];cases x.eval env<;>rfl
theorem Qn(off:Nat)(n:Option Nat)(x:Opd):aB h env (.field off n x)=cU h (Gg off n (x.eval env)):=by
 simp only[aB]
 cases x.eval env with
 | agg cs=>simp only[Gg];cases cT n cs off<;>rfl
 | _=>rfl
theorem yJ(sz:Nat)(x i:Opd):aB h env (.indexAddr sz x i)=cU h (aR sz (x.eval env) (i.eval env)):=by
 simp only[aB,aR]
 cases asI (i.eval env)with
 | none=>rfl
 | some n =>
  simp only
  cases x.eval env with
  | sl id dK off len=>simp only;split<;>rfl
  | isl l dK xs =>
   simp only
   split
   ·cases xs[n.toNat]?<;>rfl
   ·rfl
  | _=>rfl
theorem Bq(len esz:Nat)(x i:Opd):aB h env (.indexArr len esz x i)=cU h (jB len esz (x.eval env) (i.eval env)):=by
 simp only[aB,jB]
 cases asI (i.eval env)with
 | none=>rfl
 | some n =>
  simp only
  split
  ·cases x.eval env<;>rfl
  ·rfl
theorem Qm(len esz:Nat)(n:Option Nat)(x i:Opd):aB h env (.index len esz n x i)=cU h (Zd len esz n (x.eval env) (i.eval env)):=by
 simp only[aB,Zd]
 cases asI (i.eval env)with
 | none=>rfl
 | some m =>
  cases x.eval env with
  | agg cs =>
   simp only
   split
   ·cases cT n cs (m.toNat*esz)<;>rfl
   ·rfl
  | _=>rfl
theorem Bp(x i:Opd):aB h env (.indexStr x i)=cU h (Au (x.eval env) (i.eval env)):=by
 simp only[aB,Au]
 cases asI (i.eval env)with
 | none=>rfl
 | some m =>
  cases x.eval env with
  | str s =>
   simp only
   split
   ·cases s[m.toNat]?<;>rfl
   ·rfl
  | _=>rfl
theorem Bn(x:Opd)(lo hi:Option Opd):aB h env (.sliceStr x lo hi)=cU h (Ah (x.eval env) (lo.map (Opd.eval env)) (hi.map (Opd.eval env))):=by
 simp only[aB,Ah,Gy]
 cases x.eval env with
 | str s =>
  simp only
  cases cG (hi.map (Opd.eval env)) s.length s.length with
  | none=>rfl
  | some b=>simp only;cases cG (lo.map (Opd.eval env)) 0 b<;>rfl
 | _=>rfl
theorem Dz(sz:Nat)(x:Opd)(lo hi:Option Opd):aB h env (.sliceSl sz x lo hi)=cU h (fB h sz (x.eval env) (lo.map (Opd.eval env)) (hi.map (Opd.eval env))):=by
 simp only[aB,fB,Gy]
 cases x.eval env with
 | nsl =>
  simp only
  cases cG (hi.map (Opd.eval env)) 0 0 with
  | none=>rfl
  | some b=>simp only;cases cG (lo.map (Opd.eval env)) 0 b<;>rfl
 | isl l dK xs =>
  simp only
  split
  ·cases cG (hi.map (Opd.eval env)) xs.length xs.length with
   | none=>rfl
   | some b=>simp only;cases cG (lo.map (Opd.eval env)) 0 b<;>rfl
  ·rfl
 | sl id dK off len =>
  simp only
  cases h.get id with
  | none=>rfl
  | some o =>
   cases o with
   | arr e s xs c =>
    simp only
    split
    ·cases cG (hi.map (Opd.eval env)) len (xs.length-off)with
     | none=>rfl
     | some b=>simp only;cases cG (lo.map (Opd.eval env)) 0 b<;>rfl
    ·rfl
   | _=>rfl
 | _=>rfl
theorem CZ(k:Nat)(x:Opd):aB h env (.len k x)=cU h (lenV h k (x.eval env)):=by
 simp only[aB,lenV]
 cases x.eval env with
 | map id =>
  simp only
  cases h.get id with
  | none=>rfl
  | some o=>cases o<;>simp only<;>first|rfl|(split<;>rfl)
 | _=>first|rfl|(simp only;split<;>rfl)
theorem Jo(ety sz bytes:Nat)(s x:Opd):aB h env (.append ety sz bytes s x)=Pe h ety sz bytes (s.eval env) (elems h sz (x.eval env)):=by
 simp only[aB];cases elems h sz (x.eval env)<;>rfl
theorem I6(sz:Nat)(d s:Opd):aB h env (.copy sz d s)=HK h sz (d.eval env) (elems h sz (s.eval env)):=by
 simp only[aB];cases elems h sz (s.eval env)<;>rfl
theorem Jm(mx:Bool)(x y:Opd):aB h env (.minmax mx x y)=cU h (Nq mx (x.eval env) (y.eval env)):=by
 simp only[aB];cases x.eval env<;>cases y.eval env<;>rfl
theorem Ql(f:FuncId)(cap:List Opd):aB h env (.makeFunc f cap)=some (.func f (cap.map (Opd.eval env)),h):=rfl
theorem Wn:aB h env .makeMap=some (.map h.n,h.push (.mp [])):=rfl
theorem Ea(x:Opd)(i:Nat):aB h env (.extract x i)=cU h (zL i (x.eval env)):=by
 simp only[aB]
 cases x.eval env with
 | tup vs=>simp only[zL];cases vs[i]?<;>rfl
 | _=>rfl
theorem Mk(t:TypeId)(x:Opd):aB h env (.makeIface t x)=some (.iface t (x.eval env),h):=rfl
end
def uH(h:aA):DV→Option (List (DV×DV))
 | .nmap=>some []
 | .map id=>match h.get id with|some (.mp es)=>some es|_=>none
 | _=>none
def fO(q:EqT)(z:DV)(ok:Bool)(k:DV):Option (List (DV×DV))→Option DV
 | some es=>if(eY q k k).isSome then
   match kZ q k es with
   | some (some (_,v))=>some (if ok then .tup [v,.bool true]else v)
   | some none=>some (if ok then .tup [z,.bool false]else z)
   | none=>none
  else none
 | none=>none
theorem Jn(h:aA)(env:Env)(q:EqT)(z:DV)(ok:Bool)(m k:Opd):aB h env (.lookup q z ok m k)=cU h (fO q z ok (k.eval env) (uH h (m.eval env))):=by
 have key:∀r:Option (List (DV×DV)),(match r with
   | some es=>if(eY q (k.eval env) (k.eval env)).isSome then
     match kZ q (k.eval env) es with
     | some (some (_,v))=>some (if ok then DV.tup [v,.bool true]else v,h)
     | some none=>some (if ok then DV.tup [z,.bool false]else z,h)
     | none=>none
    else none
   | none=>none)=cU h (fO q z ok (k.eval env) r):=by
  intro r
  cases r with
  | none=>rfl
  | some es =>
   simp only[fO]
   split
   ·cases kZ q (k.eval env) es with
    | none=>rfl
    | some x=>cases x<;>rfl
   ·rfl
 simp only[aB]
 rw[←key]
 cases m.eval env with
 | map id=>simp only[uH];cases h.get id with
  | none=>rfl
  | some o=>cases o<;>rfl
 | _=>rfl
def yC(h:aA)(q:EqT)(m k x:DV):Option aA :=
 match m with
 | .map id=>match h.get id with
  | some (.mp es) =>
   if h.lim≤id∧(eY q k k).isSome=true then
    match kZ q k es with
    | some (some (i,_))=>some (h.set id (.mp (es.set i (k,x))))
    | some none=>some (h.set id (.mp (es++[(k,x)])))
    | none=>none
   else none
  | _=>none
 | _=>none
theorem yI(h:aA)(env:Env)(q:EqT)(m k x:Opd):aB h env (.mapUpdate q m k x)=Dw (yC h q (m.eval env) (k.eval env) (x.eval env)):=by
 simp only[aB,yC]
 cases m.eval env with
 | map id =>
  simp only
  cases h.get id with
  | none=>rfl
  | some o =>
   cases o with
   | mp es =>
    simp only
    split
    ·cases kZ q (k.eval env) es with
     | none=>rfl
     | some y=>cases y with
      | none=>rfl
      | some p=>rfl
    ·rfl
   | _=>rfl
 | _=>rfl
section
variable (c:Nat→List DV→aA→Option (DV×aA)) (h:aA) (env:Env)
end
theorem bC{n:Int}(h1:-9223372036854775808≤n)(h2:n≤9223372036854775807):IntKind.i64.wrap n=n:=by
 exact Go.IntWalk.i64_in n ⟨h1,h2⟩
end Go.Dm
/-
Part 2 of "De": rows of data that are plain lists; rows that a call makes itself; what calls answer.
-/
namespace Go.Dm
def eL{α:Type}(t:Bool)(sz:Nat)(e:α→DV)(xs:List α):DV:=mkIsl t sz (xs.map e)
section eL
variable {α:Type} (t:Bool) (sz:Nat) (e:α→DV) (xs:List α)
theorem sK:eL t sz e []=.isl false 0 []:=rfl
theorem pY(x:α):eL t sz e (x::xs)=.isl t sz (e x::xs.map e):=rfl
theorem OM{xs:List α}(h:xs≠[]):eL t sz e xs=.isl t sz (xs.map e):=by
 cases xs with
 | nil=>exact absurd rfl h
 | cons x xs=>rfl
theorem LF(h:aA):lenV h 1 (eL t sz e xs)=some (.int .i64 xs.length):=by cases xs<;>simp[sK,pY,lenV]
theorem Bl:aO 1 (eL t sz e xs)=true:=by cases xs<;>rfl
theorem vO:aF 1 (eL t sz e xs)=[eL t sz e xs]:=by cases xs<;>rfl
theorem fW(h:aA):elems h sz (eL t sz e xs)=some (xs.map e):=by cases xs<;>simp[sK,pY,elems]
theorem Ig{xs:List α}(k:IntKind){i:Nat}{a:α}(ha:xs[i]?=some a):aR sz (eL t sz e xs) (.int k (i:Int))=some (.iptr t (aF sz (e a)) 0):=by
 have cS:xs≠[]:=by intro h0;subst h0;simp at ha
 rw[OM t sz e cS]
 simp[aR,asI,ha]
theorem Fj{xs:List α}(k:IntKind){i:Int}{a:α}(h0:0≤i)(ha:xs[i.toNat]?=some a):aR sz (eL t sz e xs) (.int k i)=some (.iptr t (aF sz (e a)) 0):=by
 obtain⟨n,rfl⟩:=Int.eq_ofNat_of_zero_le h0
 exact Ig t sz e k ha
end eL
def kG(k:Nat)(d:DV):Prop:=∀tag h n,k≤n→resolve tag h n d=some d
def Unl(k:Nat)(d:DV):Prop:=∀n,k≤n→bA n d=true
theorem kG.mono{k m:Nat}{d:DV}(h:kG k d)(hk:k≤m):kG m d:=fun t hp n hn=>h t hp n (Nat.le_trans hk hn)
theorem Unl.mono{k m:Nat}{d:DV}(h:Unl k d)(hk:k≤m):Unl m d:=fun n hn=>h n (Nat.le_trans hk hn)
theorem cL{k n:Nat}(h:k+1≤n):∃ m,n=m+1∧k≤m:=⟨n-1,by omega,by omega⟩
theorem gU(k:IntKind)(n:Int):kG 1 (.int k n):=fun t h m hm=>by obtain⟨q,rfl,_⟩:=cL hm;rfl
theorem Kz(b:Bool):kG 1 (.bool b):=fun t h m hm=>by obtain⟨q,rfl,_⟩:=cL hm;rfl
theorem GS(s:List UInt8):kG 1 (.str s):=fun t h m hm=>by obtain⟨q,rfl,_⟩:=cL hm;rfl
theorem dR{α:Type}(t:Bool)(sz:Nat)(e:α→DV)(xs:List α):kG 1 (eL t sz e xs):=fun tg h m hm=>by
 obtain⟨q,rfl,_⟩:=cL hm
 cases xs<;>rfl
theorem vI{f:DV→Option DV}:∀{cs:List DV},(∀x∈cs,f x=some x)→cs.mapM f=some cs:=by
 intro cs
 induction cs with
 | nil=>intro _;rfl
 | cons x r ih =>
  intro h
  rw[List.mapM_cons,h x (List.mem_cons_self ..),ih (fun y hy=>h y (List.mem_cons_of_mem _ hy))];rfl
theorem uB{k:Nat}{cs:List DV}(h:∀x∈cs,kG k x):kG (k+1) (.agg cs):=fun t hp m hm=>by
 obtain⟨q,rfl,hq⟩:=cL hm
 have:cs.mapM (resolve t hp q)=some cs:=vI fun x hx=>h x hx t hp q hq
 simp only[resolve,this]
theorem iZ(k:IntKind)(n:Int):Unl 1 (.int k n):=fun m hm=>by obtain⟨q,rfl,_⟩:=cL hm;rfl
theorem Pt(b:Bool):Unl 1 (.bool b):=fun m hm=>by obtain⟨q,rfl,_⟩:=cL hm;rfl
theorem D9(s:List UInt8):Unl 1 (.str s):=fun m hm=>by obtain⟨q,rfl,_⟩:=cL hm;rfl
theorem Db{k:Nat}{cs:List DV}(h:∀x∈cs,Unl k x):Unl (k+1) (.agg cs):=fun m hm=>by
 obtain⟨q,rfl,hq⟩:=cL hm
 simp only[bA,List.all_eq_true]
 exact fun x hx=>h x hx q hq
theorem kP{α:Type}{k sz:Nat}{e:α→DV}{xs:List α}(h:∀x∈xs,Unl k (e x)):Unl (k+1) (eL false sz e xs):=fun m hm=>by
 obtain⟨q,rfl,hq⟩:=cL hm
 cases xs with
 | nil=>rfl
 | cons x r =>
  simp only[pY,bA,Bool.not_false,Bool.true_and,List.all_eq_true]
  intro y hy
  rw[←List.map_cons (f:=e)]at hy
  obtain⟨z,hz,rfl⟩:=List.mem_map.1 hy
  exact h z hz q hq
class Plain {α:Type} (e:α→DV):Prop where
 flat:∀x,kG 20 (e x)
 unl:∀x,Unl 20 (e x)
inductive Own(lo:Nat)(h:aA)(v:DV)(ety sz:Nat)(xs:List DV):Prop where
 | nil (hv:v=.nsl) (hx:xs=[])
 | arr (id:Nat) (hv:v=.sl id sz 0 xs.length) (hg:h.get id=some (.arr ety sz xs none)) (bH:h.lim≤id) (eN:lo≤id)
structure Ext(lo:Nat)(h h':aA):Prop where
 le:lo≤h'.n
 lim:h'.lim=h.lim
 get:∀id,id<lo→h'.get id=h.get id
 wf:WF h'
theorem Ext.refl{lo:Nat}{h:aA}(cD:lo≤h.n)(w:WF h):Ext lo h h:=⟨cD,rfl,fun _ _=>rfl,w⟩
theorem Ext.trans{lo:Nat}{a b c:aA}(x:Ext lo a b)(y:Ext lo b c):Ext lo a c:=⟨y.le,y.lim.trans x.lim,fun id eF=>(y.get id eF).trans (x.get id eF),y.wf⟩
theorem Ext.push{lo:Nat}{h h':aA}{o:DO}(x:Ext lo h h'):Ext lo h (h'.push o) :=
 ⟨Nat.le_succ_of_le x.le,x.lim,fun id eF=>by rw[cJ,if_neg (by have:=x.le;omega)];exact x.get id eF,x.wf.push⟩
theorem Ext.set{lo:Nat}{h h':aA}{id:Nat}{o:DO}(x:Ext lo h h')(eF:lo≤id)(aZ:id<h'.n):Ext lo h (h'.set id o) :=
 ⟨x.le,x.lim,fun k hk=>by rw[cO x.wf aZ,if_neg (by omega)];exact x.get k hk,x.wf.set⟩
theorem Own.push{lo:Nat}{h:aA}{o:DO}{v:DV}{ety sz:Nat}{xs:List DV}(w:Own lo h v ety sz xs):Own lo (h.push o) v ety sz xs:=by
 cases w with
 | nil hv hx=>exact .nil hv hx
 | arr id hv hg bH eN =>
  refine .arr id hv ?_ bH eN
  rw[cJ,if_neg (by have:=aC hg;omega)];exact hg
theorem Own.start(lo:Nat)(h:aA)(ety sz:Nat):Own lo h .nsl ety sz []:=.nil rfl rfl
theorem Own.append{lo:Nat}{h:aA}{v:DV}{ety sz bytes:Nat}{xs ys:List DV}{A:Option (DV×aA)}(w:Own lo h v ety sz xs)(wf:WF h)(eN:lo≤h.n)(bH:h.lim≤h.n)(hA:bB h ety sz bytes v ys=A)
  (hb:(xs.length+ys.length)*bytes≤140737488355328) (yB:1≤bytes):∃ v' h',A=some (v',h')∧Own lo h' v' ety sz (xs++ys)∧Ext lo h h':=by
 have hm:xs.length+ys.length≤140737488355328:=Nat.le_trans (Nat.le_mul_of_pos_right _ yB) hb
 by_cases hy:ys=[]
 ·subst hy
  refine⟨v,h,?_,by simpa using w,.refl eN wf⟩
  rw[←hA]
  cases w with
  | nil hv hx=>subst hv;rfl
  | arr id hv hg _ _=>subst hv;rfl
 ·have Ij:ys.isEmpty=false:=by cases ys<;>simp_all
  have NW:0<ys.length:=List.length_pos_iff.2 hy
  cases w with
  | nil hv hx =>
   subst hv;subst hx
   simp only[List.length_nil,Nat.zero_add]at hb hm
   refine⟨.sl h.n sz 0 ys.length,h.push (.arr ety sz ys none),?_,.arr h.n rfl cW (by exact bH) eN,(Ext.refl eN wf).push⟩
   rw[←hA]
   simp only[bB,Ij]
   rw[if_neg (by simp),if_pos ⟨hb,by omega⟩]
  | arr id hv hg hl hi =>
   subst hv
   have aZ:=aC hg
   have e2:(h.set id DO.dead).n=h.n:=rfl
   refine⟨.sl h.n sz 0 (xs.length+ys.length),(h.set id .dead).push (.arr ety sz (xs++ys) none),?_,.arr h.n (by simp) ?_ (by exact bH) eN,(((Ext.refl eN wf).set hi aZ).push)⟩
   ·rw[←hA]
    simp only[bB,Ij,hg]
    simp only[Bool.false_eq_true,if_false,true_and,Nat.zero_add,Nat.le_refl]
    rw[if_pos ⟨hb,by omega⟩,if_neg (by omega),if_pos hl]
    simp
   ·exact cW
end Go.Dm
/-
Part 3 of "De": what own rows show; what a pure call hands back; the program's data by plain structures.
-/
namespace Go.Dm
section Own
variable {lo:Nat} {h:aA} {v:DV} {ety sz:Nat} {xs:List DV}
theorem Own.lenV(w:Own lo h v ety sz xs):lenV h 1 v=some (.int .i64 xs.length):=by
 cases w with
 | nil hv hx=>subst hv;subst hx;rfl
 | arr id hv hg hl hi=>subst hv;rfl
theorem Own.elems(w:Own lo h v ety sz xs):elems h sz v=some xs:=by
 cases w with
 | nil hv hx=>subst hv;subst hx;rfl
 | arr id hv hg hl hi=>subst hv;simp[Dm.elems,hg]
theorem Own.ext{lo:Nat}{h h':aA}(w:Own lo h v ety sz xs)(x:Ext h.n h h'):Own lo h' v ety sz xs:=by
 cases w with
 | nil hv hx=>exact .nil hv hx
 | arr id hv hg hl hi=>exact .arr id hv ((x.get id (aC hg)).trans hg) (by rw[x.lim];exact hl) hi
theorem Own.resolve{α:Type}{e:α→DV}{ys:List α}{k n:Nat}(tag:Bool)(w:Own lo h v ety sz (ys.map e))(hf:∀y∈ys,kG k (e y))(hn:k+1≤n):resolve tag h n v=some (eL tag sz e ys):=by
 obtain⟨m,rfl,hm⟩:=cL hn
 cases w with
 | nil hv hx =>
  subst hv
  cases ys with
  | nil=>rfl
  | cons y r=>simp at hx
 | arr id hv hg hl hi =>
  subst hv
  have xF:(ys.map e).mapM (Dm.resolve tag h m)=some (ys.map e):=vI fun x hx=>by
   obtain⟨y,hy,rfl⟩:=List.mem_map.1 hx
   exact hf y hy tag h m hm
  simp only[Dm.resolve,hg,true_and,Nat.zero_add,Nat.le_refl,if_true,List.drop_zero,List.take_length,xF]
  rfl
end Own
theorem Rx{v d:DV}{h:aA}{k:Nat}(hr:resolve false h bT v=some d)(hu:Unl k d)(hk:k≤200):iK (some (v,h))=some d:=by
 simp only[iK,hr,hu bT hk,if_true]
theorem Own.out{lo:Nat}{h:aA}{v:DV}{ety sz:Nat}{α:Type}{e:α→DV}{ys:List α}{k:Nat}(w:Own lo h v ety sz (ys.map e))(hf:∀y∈ys,kG k (e y))(hu:∀y∈ys,Unl k (e y))(hk:k≤198) :
  iK (some (v,h))=some (eL false sz e ys) :=
 Rx (k:=k+1) (w.resolve false hf (by show k+1≤200;omega)) (kP hu) (by omega)
theorem M5{D:bX}{f:Nat}{df:aK}(hh:D.hook f=none)(hf:D.fn f=some df)(args:List DV)(h:aA):fc D f args h=dI (ev D) df args h:=by
 rw[To,hh,hf]
theorem AH{α:Type}{xs:List α}{i:Nat}{a:α}{r:List α}(h:xs.drop i=a::r):i<xs.length∧xs[i]?=some a∧xs.drop (i+1)=r:=by
 have h1:i<xs.length:=by
  by_cases aZ:i<xs.length
  ·exact aZ
  ·rw[List.drop_eq_nil_of_le (by omega)]at h;cases h
 rw[List.drop_eq_getElem_cons h1]at h
 injection h with h2 h3
 exact⟨h1,by rw[List.getElem?_eq_getElem h1,h2],h3⟩
theorem jF{α:Type}{xs:List α}{i:Nat}{a:α}{r:List α}(h:xs.drop i=a::r):∃ hi:i<xs.length,xs[i]=a∧xs.drop (i+1)=r:=by
 obtain⟨h1,h2,h3⟩:=AH h
 exact⟨h1,by rw[List.getElem?_eq_getElem h1]at h2;injection h2,h3⟩
theorem iB{α:Type}{xs:List α}{i:Nat}(h:xs.drop i=[]):xs.length≤i:=List.drop_eq_nil_iff.1 h
structure ID where
 bJ:Int
 seq:Int
 deriving DecidableEq,Inhabited
structure Val where
 isText:Bool
 n:Int
 text:List UInt8
 deriving DecidableEq,Inhabited
structure Att where
 name:List UInt8
 val:Val
 deriving DecidableEq,Inhabited
structure Vg where
 name:List UInt8
 kind:Int
 lo:Int
 hi:Int
 text:List UInt8
 deriving DecidableEq,Inhabited
abbrev dY:=List Vg
structure cP where
 id:ID
 pred:dY
 eG:Int
 deriving DecidableEq,Inhabited
structure bL where
 tree:ID
 sub:ID
 pred:dY
 lG:Int
 up:Bool
 deriving DecidableEq,Inhabited
structure Vc where
 id:ID
 pred:dY
 deriving DecidableEq,Inhabited
structure aL where
 me:Int
 bD:List Int
 aW:List cP
 seen:List ID
 entries:List bL
 jZ:List Vc
 deriving DecidableEq,Inhabited
structure Msg where
 kind:Int
 tree:ID
 id:ID
 pred:dY
 HQ:List Att
 deriving DecidableEq,Inhabited
structure Out where
 to:Int
 m:Msg
 deriving DecidableEq,Inhabited
def bF(n:Int):DV:=.int .i64 n
def MW(a:Att):DV:=.agg [.str a.name,.bool a.val.isText,.int .i64 a.val.n,.str a.val.text]
def wT(c:Vg):DV:=.agg [.str c.name,.int .i64 c.kind,.int .i64 c.lo,.int .i64 c.hi,.str c.text]
def fG(p:dY):DV:=eL false 5 wT p
def eID(x:ID):DV:=.agg [.int .i64 x.bJ,.int .i64 x.seq]
def aH(a:cP):DV:=.agg [.int .i64 a.id.bJ,.int .i64 a.id.seq,fG a.pred,.int .i64 a.eG]
def bQ(e:bL):DV:=.agg [.int .i64 e.tree.bJ,.int .i64 e.tree.seq,.int .i64 e.sub.bJ,.int .i64 e.sub.seq,fG e.pred,.int .i64 e.lG,.bool e.up]
def oV(o:Vc):DV:=.agg [.int .i64 o.id.bJ,.int .i64 o.id.seq,fG o.pred]
structure iD where
 bD:Bool
 aW:Bool
 seen:Bool
 entries:Bool
 jZ:Bool
def iD.none:iD:=⟨false,false,false,false,false⟩
def aX(t:iD)(b:aL):DV:=.agg [.int .i64 b.me,eL t.bD 1 bF b.bD,eL t.aW 4 aH b.aW,eL t.seen 2 eID b.seen,eL t.entries 7 bQ b.entries,eL t.jZ 3 oV b.jZ]
def kA(m:Msg):DV:=.agg [.int .i64 m.kind,.int .i64 m.tree.bJ,.int .i64 m.tree.seq,.int .i64 m.id.bJ,.int .i64 m.id.seq,fG m.pred,eL false 4 MW m.HQ]
def nL(o:Out):DV:=.agg [.int .i64 o.to,.int .i64 o.m.kind,.int .i64 o.m.tree.bJ,.int .i64 o.m.tree.seq,.int .i64 o.m.id.bJ,.int .i64 o.m.id.seq,fG o.m.pred,eL false 4 MW o.m.HQ]
theorem Ya:Plain wT:=⟨fun c=>(uB (k:=1) (by
  intro x hx;simp only[List.mem_cons,List.not_mem_nil,or_false]at hx
  rcases hx with rfl|rfl|rfl|rfl|rfl<;>first|exact gU _ _|exact GS _)).mono (by decide),fun c=>(Db (k:=1) (by
  intro x hx;simp only[List.mem_cons,List.not_mem_nil,or_false]at hx
  rcases hx with rfl|rfl|rfl|rfl|rfl<;>first|exact iZ _ _|exact D9 _)).mono (by decide)⟩
theorem qN(p:dY):Unl 21 (fG p):=kP fun x _=>Ya.unl x
theorem Az(p:dY):kG 1 (fG p):=dR false 5 wT p
end Go.Dm
/-
Part 4 of "De": the words by which 'simp' walks.
-/
namespace Go.Dm
theorem Ry(D:bX)(g:Opd)(args:List Opd)(env:Env)(h:aA):bE (fc D) (.call g args) env h=N1 D (args.map (Opd.eval env)) h (g.eval env):=Yg D h g args env
section
variable (c:Nat→List DV→aA→Option (DV×aA)) (h:aA) (env:Env)
theorem KQ(x:Opd):bE c (.move x) env h=some (x.eval env,h):=rfl
theorem KP(x a b:Opd):bE c (.pick x a b) env h=cU h (EZ (x.eval env) (a.eval env) (b.eval env)):=H8 ..
theorem FG(ety sz:Nat)(z:DV):bE c (.alloc ety sz z) env h=some (.ptr h.n sz 0 0,h.push (.arr ety sz [z] (some 1))):=rfl
theorem RE(ety sz:Nat)(x:Opd):bE c (.box ety sz x) env h=TG h ety sz (x.eval env):=rfl
theorem FD(zero:List DV)(parts:List (Nat×Nat×Opd)):bE c (.build zero parts) env h=TK h (fM zero (parts.map fun p=>(p.1,p.2.1,p.2.2.eval env))):=Qo ..
theorem Ia(ety sz:Nat)(z:DV)(len:Nat)(parts:List (Nat×Opd)):bE c (.buildSlice ety sz z len parts) env h=Ed h ety sz len (cV sz (List.replicate len z) (parts.map fun p=>(p.1,p.2.eval env))):=wI ..
theorem KR(n:Option Nat)(a:Opd):bE c (.load n a) env h=cU h (jI h n (a.eval env)):=H9 ..
theorem FA(n:Nat)(a x:Opd):bE c (.store n a x) env h=Dw (jW h n (a.eval env) (x.eval env)):=Qk ..
theorem Sa(x:Opd):bE c (.nilCheck x) env h=cU h (vF (x.eval env)):=Bo ..
theorem FF(op:BinOp)(x y:Opd):bE c (.arith op x y) env h=cU h (bV op (x.eval env) (y.eval env)):=Qq ..
theorem RB(neq:Bool)(x y:Opd):bE c (.eqb neq x y) env h=cU h (SS neq (x.eval env) (y.eval env)):=DB ..
theorem RC(neq:Bool)(ks:List Nat)(x y:Opd):bE c (.eqa neq ks x y) env h=cU h (Gc neq (eY (.agg ks) (x.eval env) (y.eval env))):=DC ..
theorem RA(k:Nat)(neq:Bool)(x y:Opd):bE c (.eqn k neq x y) env h=cU h (Gc neq (qY k (x.eval env) (y.eval env))):=DA ..
theorem WH(op:UnOp)(x:Opd):bE c (.un op x) env h=cU h (unD op (x.eval env)):=NQ ..
theorem KT(k:IntKind)(x:Opd):bE c (.conv k x) env h=cU h (HN k (x.eval env)):=I7 ..
theorem FE(x:Opd):bE c (.asStr x) env h=cU h (C7 (x.eval env)):=Qp ..
theorem Nj(off:Nat)(x:Opd):bE c (.fieldAddr off x) env h=cU h (sH off (x.eval env)):=yK ..
theorem FC(off:Nat)(n:Option Nat)(x:Opd):bE c (.field off n x) env h=cU h (Gg off n (x.eval env)):=Qn ..
theorem Ni(sz:Nat)(x i:Opd):bE c (.indexAddr sz x i) env h=cU h (aR sz (x.eval env) (i.eval env)):=yJ ..
theorem Sd(len esz:Nat)(x i:Opd):bE c (.indexArr len esz x i) env h=cU h (jB len esz (x.eval env) (i.eval env)):=Bq ..
theorem FB(len esz:Nat)(n:Option Nat)(x i:Opd):bE c (.index len esz n x i) env h=cU h (Zd len esz n (x.eval env) (i.eval env)):=Qm ..
theorem Sc(x i:Opd):bE c (.indexStr x i) env h=cU h (Au (x.eval env) (i.eval env)):=Bp ..
theorem Rz(x:Opd)(lo hi:Option Opd):bE c (.sliceStr x lo hi) env h=cU h (Ah (x.eval env) (lo.map (Opd.eval env)) (hi.map (Opd.eval env))):=Bn ..
theorem Yh(sz:Nat)(x:Opd)(lo hi:Option Opd):bE c (.sliceSl sz x lo hi) env h=cU h (fB h sz (x.eval env) (lo.map (Opd.eval env)) (hi.map (Opd.eval env))):=Dz ..
theorem QZ(k:Nat)(x:Opd):bE c (.len k x) env h=cU h (lenV h k (x.eval env)):=CZ ..
theorem V0(ety sz bytes:Nat)(s x:Opd):bE c (.append ety sz bytes s x) env h=Pe h ety sz bytes (s.eval env) (elems h sz (x.eval env)):=Jo ..
theorem KS(sz:Nat)(d s:Opd):bE c (.copy sz d s) env h=HK h sz (d.eval env) (elems h sz (s.eval env)):=I6 ..
theorem U8(mx:Bool)(x y:Opd):bE c (.minmax mx x y) env h=cU h (Nq mx (x.eval env) (y.eval env)):=Jm ..
theorem Sb(f:FuncId)(cap:List Opd):bE c (.makeFunc f cap) env h=some (.func f (cap.map (Opd.eval env)),h):=rfl
theorem Yi:bE c .makeMap env h=some (.map h.n,h.push (.mp [])):=rfl
theorem Yj(x:Opd)(i:Nat):bE c (.extract x i) env h=cU h (zL i (x.eval env)):=Ea ..
theorem Nh(t:TypeId)(x:Opd):bE c (.makeIface t x) env h=some (.iface t (x.eval env),h):=rfl
theorem U9(q:EqT)(z:DV)(ok:Bool)(m k:Opd):bE c (.lookup q z ok m k) env h=cU h (fO q z ok (k.eval env) (uH h (m.eval env))):=Jn ..
theorem Ng(q:EqT)(m k x:Opd):bE c (.mapUpdate q m k x) env h=Dw (yC h q (m.eval env) (k.eval env) (x.eval env)):=yI ..
end
theorem IP(f:dV)(d i:Nat)(v:DV):upd f d v i=if i=d then v else f i:=rfl
theorem HR(args:List DV)(i:Nat):HT args i=args.getD i bI:=rfl
theorem T6(f:dV)(d:Nat)(v:DV):qV f (some d) v=upd f d v:=rfl
theorem T7(f:dV)(v:DV):qV f none v=f:=rfl
theorem VX(N:Nat)(f:dV)(i:Nat):rd N f i=if i<N then f i else .unk:=rfl
theorem Yw(h:aA)(n:Option Nat)(l:Bool)(cs:List DV)(off:Nat):jI h n (.iptr l cs off)=cT n cs off:=rfl
theorem WE(cs:List DV)(off:Nat):cT none cs off=cs[off]?:=rfl
theorem WD(n:Nat)(cs:List DV)(off:Nat):cT (some n) cs off=if off+n≤cs.length then some (.agg ((cs.drop off).take n))else none:=rfl
theorem Mi(n:Nat)(cs:List DV):aO n (.agg cs)=(cs.length == n):=rfl
theorem Mh(n:Nat)(k:IntKind)(m:Int):aO n (.int k m)=(n == 1):=rfl
theorem Hp(n:Nat)(b:Bool):aO n (.bool b)=(n == 1):=rfl
theorem Mc(n:Nat)(s:List UInt8):aO n (.str s)=(n == 1):=rfl
theorem Md(n a b c d:Nat):aO n (.ptr a b c d)=(n == 1):=rfl
theorem Qi(n a b c d:Nat):aO n (.sl a b c d)=(n == 1):=rfl
theorem Me(n:Nat):aO n .nsl=(n == 1):=rfl
theorem Mg(n:Nat)(t:Bool)(s:Nat)(xs:List DV):aO n (.isl t s xs)=(n == 1):=rfl
theorem Ho(n:Nat)(f:Nat)(cs:List DV):aO n (.func f cs)=(n == 1):=rfl
theorem Mf(n:Nat)(i:Nat):aO n (.map i)=(n == 1):=rfl
theorem Dx(n:Nat)(t:Nat)(d:DV):aO n (.iface t d)=(n == 1):=rfl
theorem Hn(n:Nat):aO n .nili=(n == 1):=rfl
theorem Hm(n:Nat):aO n .nilp=(n == 1):=rfl
theorem Hl(p:dY):aO 1 (fG p)=true:=Bl ..
theorem CB(sz n:Nat)(e x:DV)(h:n=sz):turn sz 0 n e x=x:=by simp[turn,h]
theorem Uv(a b:Int):bV .add (.int .i64 a) (.int .i64 b)=some (.int .i64 (IntKind.i64.wrap (a+b))):=by simp[bV]
theorem Ut(a b:Int):bV .sub (.int .i64 a) (.int .i64 b)=some (.int .i64 (IntKind.i64.wrap (a-b))):=by simp[bV]
theorem Uu(a b:Int):bV .mul (.int .i64 a) (.int .i64 b)=some (.int .i64 (IntKind.i64.wrap (a*b))):=by simp[bV]
theorem BC(k:IntKind)(a b:Int):bV .eql (.int k a) (.int k b)=some (.bool (a == b)):=by simp[bV]
theorem AX(k:IntKind)(a b:Int):bV .neq (.int k a) (.int k b)=some (.bool (a != b)):=by simp[bV]
theorem AY(k:IntKind)(a b:Int):bV .lss (.int k a) (.int k b)=some (.bool (decide (a<b))):=by simp[bV]
theorem AZ(k:IntKind)(a b:Int):bV .leq (.int k a) (.int k b)=some (.bool (decide (a≤b))):=by simp[bV]
theorem BA(k:IntKind)(a b:Int):bV .gtr (.int k a) (.int k b)=some (.bool (decide (b<a))):=by simp[bV]
theorem BB(k:IntKind)(a b:Int):bV .geq (.int k a) (.int k b)=some (.bool (decide (b≤a))):=by simp[bV]
theorem AW(a b:List UInt8):bV .eql (.str a) (.str b)=some (.bool (a == b)):=rfl
theorem AR(a b:List UInt8):bV .neq (.str a) (.str b)=some (.bool (!(a == b))):=rfl
theorem AS(a b:List UInt8):bV .lss (.str a) (.str b)=some (.bool (Go.Op.bytesLess a b)):=rfl
theorem AT(a b:List UInt8):bV .leq (.str a) (.str b)=some (.bool (Go.Op.bytesLess a b || a == b)):=rfl
theorem AU(a b:List UInt8):bV .gtr (.str a) (.str b)=some (.bool (!(Go.Op.bytesLess a b || a == b))):=rfl
theorem AV(a b:List UInt8):bV .geq (.str a) (.str b)=some (.bool (!Go.Op.bytesLess a b)):=rfl
theorem OU(b:Bool):unD .not (.bool b)=some (.bool (!b)):=rfl
theorem OV(k:IntKind)(n:Int):unD .neg (.int k n)=some (.int k (k.wrap (0-n))):=rfl
theorem GY(ks:List Nat)(xs ys:List DV):eY (.agg ks) (.agg xs) (.agg ys)=bW ks xs ys:=rfl
theorem AB(k:Nat)(x y:DV):eY (.prim k) x y=fH k x y:=rfl
theorem Ul:bW [] [] []=some true:=rfl
theorem Um(ks:List Nat)(a b:Int)(k:IntKind)(xs ys:List DV):bW (1::ks) (.int k a::xs) (.int k b::ys)=(bW ks xs ys).map ((a == b) && ·):=by
 simp only[bW,fH,and_self,if_true];cases bW ks xs ys<;>rfl
theorem Uk(ks:List Nat)(a b:List UInt8)(xs ys:List DV):bW (2::ks) (.str a::xs) (.str b::ys)=(bW ks xs ys).map ((a == b) && ·):=by
 simp only[bW,fH,if_true];cases bW ks xs ys<;>rfl
theorem Oy(ks:List Nat)(a b:Bool)(xs ys:List DV):bW (0::ks) (.bool a::xs) (.bool b::ys)=(bW ks xs ys).map ((a == b) && ·):=by
 simp only[bW,fH,if_true];cases bW ks xs ys<;>rfl
theorem Xy(k:IntKind)(a b:Int):fH 1 (.int k a) (.int k b)=some (a == b):=by simp[fH]
theorem Xx(a b:List UInt8):fH 2 (.str a) (.str b)=some (a == b):=by simp[fH]
theorem Rr(a b:Bool):fH 0 (.bool a) (.bool b)=some (a == b):=by simp[fH]
theorem GU(cs:List DV):fM cs []=some cs:=rfl
theorem Z4(cs:List DV)(off n:Nat)(v:DV)(r:List (Nat×Nat×DV))(hs:aO n v=true)(ho:off+n≤cs.length):fM cs ((off,n,v)::r)=fM (cs.take off++aF n v++cs.drop (off+n)) r:=by
 simp[fM,hs,ho]
theorem Z5(sz:Nat)(xs:List DV):cV sz xs []=some xs:=rfl
theorem Zv(sz:Nat)(xs:List DV)(i:Nat)(v:DV)(r:List (Nat×DV))(hs:aO sz v=true)(hi:i<xs.length):cV sz xs ((i,v)::r)=cV sz (xs.set i v) r:=by
 simp[cV,hs,hi]
theorem Ud(sz:Nat)(cs:List DV):aF sz (.agg cs)=cs:=rfl
theorem A8(sz:Nat)(k:IntKind)(n:Int):aF sz (.int k n)=[.int k n]:=rfl
theorem Uc(sz:Nat)(n:Bool):aF sz (.bool n)=[.bool n]:=rfl
theorem Zz(sz:Nat)(n:List UInt8):aF sz (.str n)=[.str n]:=rfl
theorem A5(sz:Nat):aF sz .nsl=[.nsl]:=rfl
theorem AF(sz a b c d:Nat):aF sz (.sl a b c d)=[.sl a b c d]:=rfl
theorem A4(sz a b c d:Nat):aF sz (.ptr a b c d)=[.ptr a b c d]:=rfl
theorem A7(sz:Nat)(t:Bool)(s:Nat)(xs:List DV):aF sz (.isl t s xs)=[.isl t s xs]:=rfl
theorem Ub(sz:Nat)(f:Nat)(cs:List DV):aF sz (.func f cs)=[.func f cs]:=rfl
theorem A6(sz:Nat)(i:Nat):aF sz (.map i)=[.map i]:=rfl
theorem Oq(sz t:Nat)(d:DV):aF sz (.iface t d)=[.iface t d]:=rfl
theorem Ua(sz:Nat):aF sz .nili=[.nili]:=rfl
theorem Tz(sz:Nat):aF sz .nilp=[.nilp]:=rfl
theorem Tx(p:dY):aF 1 (fG p)=[fG p]:=vO ..
theorem AD(h:aA)(sz:Nat):elems h sz .nsl=some []:=rfl
def GA(n:Option Nat)(sz off:Nat):Option DV→Option DV|some e=>cT n (aF sz e) off|none=>none
theorem Yy(n:Option Nat)(sz off:Nat)(e:DV):GA n sz off (some e)=cT n (aF sz e) off:=rfl
def FZ(n:Option Nat)(sz idx off:Nat):Option DO→Option DV
 | some (.arr _ dK xs _)=>if sz=dK then GA n sz off xs[idx]? else none
 | _=>none
theorem Yx(n:Option Nat)(sz idx off ety dK:Nat)(xs:List DV)(cap:Option Nat):FZ n sz idx off (some (.arr ety dK xs cap))=if sz=dK then GA n sz off xs[idx]? else none:=rfl
theorem FY(h:aA)(n:Option Nat)(id sz idx off:Nat):jI h n (.ptr id sz idx off)=FZ n sz idx off (h.get id):=by
 simp only[jI,FZ]
 cases h.get id with
 | none=>rfl
 | some o=>cases o with
  | arr e s xs c =>
   simp only
   split
   ·cases xs[idx]?<;>rfl
   ·rfl
  | _=>rfl
def Wl(h:aA)(n id sz idx off ety:Nat)(xs:List DV)(cap:Option Nat)(x:DV):Option DV→Option aA
 | some e=>if(aF sz e).length=sz then some (h.set id (.arr ety sz (xs.set idx (turn sz off n e x)) cap))else none
 | none=>none
theorem Qh(h:aA)(n id sz idx off ety:Nat)(xs:List DV)(cap:Option Nat)(x e:DV):Wl h n id sz idx off ety xs cap x (some e)=if(aF sz e).length=sz then some (h.set id (.arr ety sz (xs.set idx (turn sz off n e x)) cap))else none:=rfl
def Wk(h:aA)(n id sz idx off:Nat)(x:DV):Option DO→Option aA
 | some (.arr ety dK xs cap)=>if sz=dK∧h.lim≤id∧aO n x=true∧off+n≤sz then Wl h n id sz idx off ety xs cap x xs[idx]? else none
 | _=>none
theorem Qg(h:aA)(n id sz idx off:Nat)(x:DV)(ety dK:Nat)(xs:List DV)(cap:Option Nat):Wk h n id sz idx off x (some (.arr ety dK xs cap))=if sz=dK∧h.lim≤id∧aO n x=true∧off+n≤sz then Wl h n id sz idx off ety xs cap x xs[idx]? else none:=rfl
theorem Q4(h:aA)(n id sz idx off:Nat)(x:DV):jW h n (.ptr id sz idx off) x=Wk h n id sz idx off x (h.get id):=by
 simp only[jW,Wk]
 cases h.get id with
 | none=>rfl
 | some o=>cases o with
  | arr e s xs c =>
   simp only
   split
   ·cases xs[idx]?<;>rfl
   ·rfl
  | _=>rfl
def Zy(sz dK off len:Nat):Option DO→Option (List DV)
 | some (.arr _ jK xs _)=>if sz=dK∧sz=jK∧off+len≤xs.length then some ((xs.drop off).take len)else none
 | _=>none
theorem Tu(sz dK off len ety jK:Nat)(xs:List DV)(cap:Option Nat):Zy sz dK off len (some (.arr ety jK xs cap))=if sz=dK∧sz=jK∧off+len≤xs.length then some ((xs.drop off).take len)else none:=rfl
theorem HA(h:aA)(sz id dK off len:Nat):elems h sz (.sl id dK off len)=Zy sz dK off len (h.get id):=by
 simp only[elems,Zy]
 cases h.get id with
 | none=>rfl
 | some o=>cases o<;>rfl
def Ag(sz id off:Nat)(lo:Option DV):Option Nat→Option DV
 | some b=>match cG lo 0 b with
  | some a=>some (.sl id sz (off+a) (b-a))
  | none=>none
 | none=>none
def Mn(sz dK id off len:Nat)(lo hi:Option DV):Option DO→Option DV
 | some (.arr _ jK xs _)=>if sz=dK∧sz=jK∧off+len≤xs.length then Ag sz id off lo (cG hi len (xs.length-off))else none
 | _=>none
theorem Bt(sz dK id off len:Nat)(lo hi:Option DV)(ety jK:Nat)(xs:List DV)(cap:Option Nat):Mn sz dK id off len lo hi (some (.arr ety jK xs cap))=if sz=dK∧sz=jK∧off+len≤xs.length then Ag sz id off lo (cG hi len (xs.length-off))else none:=rfl
theorem Q7(h:aA)(sz id dK off len:Nat)(lo hi:Option DV):fB h sz (.sl id dK off len) lo hi=Mn sz dK id off len lo hi (h.get id):=by
 simp only[fB,Mn]
 cases h.get id with
 | none=>rfl
 | some o=>cases o with
  | arr e s xs c =>
   simp only
   split
   ·cases cG hi len (xs.length-off)with
    | none=>rfl
    | some b=>first|(simp only[Ag];done)|(simp only[Ag];cases cG lo 0 b<;>rfl)
   ·rfl
  | _=>rfl
def QO(sz id off b:Nat):Option Nat→Option DV
 | some a=>some (.sl id sz (off+a) (b-a))
 | none=>none
theorem Jp(sz id off b a:Nat):QO sz id off b (some a)=some (.sl id sz (off+a) (b-a)):=rfl
theorem Bs(sz id off:Nat)(lo:Option DV)(b:Nat):Ag sz id off lo (some b)=QO sz id off b (cG lo 0 b):=by
 simp only[Ag,QO]
def HL(h:aA)(sz dK id off len:Nat)(ys:List DV):Option DO→Option (DV×aA)
 | some (.arr ety jK xs cap)=>if sz=dK∧sz=jK∧off+len≤xs.length∧h.lim≤id then some (.int .i64 (ys.take len).length,h.set id (.arr ety sz (cF xs (ys.take len) off) cap))else none
 | _=>none
theorem B4(h:aA)(sz dK id off len:Nat)(ys:List DV)(ety jK:Nat)(xs:List DV)(cap:Option Nat):HL h sz dK id off len ys (some (.arr ety jK xs cap))=if sz=dK∧sz=jK∧off+len≤xs.length∧h.lim≤id then some (.int .i64 (ys.take len).length,h.set id (.arr ety sz (cF xs (ys.take len) off) cap))else none:=rfl
theorem HM(h:aA)(sz id dK off len:Nat)(ys:List DV):uK h sz (.sl id dK off len) ys=HL h sz dK id off len ys (h.get id):=by
 simp only[uK,HL]
 cases h.get id with
 | none=>rfl
 | some o=>cases o<;>rfl
def B7(h:aA):DV→Option DV
 | .nsl=>some (.int .i64 0)
 | .sl id sz off _=>match h.get id with
  | some (.arr _ dK _ (some c))=>if sz=dK then some (.int .i64 (c-off:Nat))else none
  | some (.arr _ dK xs none)=>if sz=dK then some (.atl (xs.length-off))else none
  | _=>none
 | _=>none
theorem DD(h:aA)(env:Env)(x:Opd):aB h env (.cap x)=cU h (B7 h (x.eval env)):=by
 simp only[aB,B7]
 cases x.eval env with
 | sl id sz off len =>
  simp only
  cases h.get id with
  | none=>rfl
  | some o=>cases o with
   | arr e s xs c=>cases c<;>simp only<;>split<;>rfl
   | _=>rfl
 | _=>rfl
theorem RD(c:Nat→List DV→aA→Option (DV×aA))(h:aA)(env:Env)(x:Opd):bE c (.cap x) env h=cU h (B7 h (x.eval env)):=DD h env x
def MZ(sz off:Nat):Option DO→Option DV
 | some (.arr _ dK _ (some c))=>if sz=dK then some (.int .i64 (c-off:Nat))else none
 | some (.arr _ dK xs none)=>if sz=dK then some (.atl (xs.length-off))else none
 | _=>none
theorem MY(h:aA)(id sz off len:Nat):B7 h (.sl id sz off len)=MZ sz off (h.get id):=by
 simp only[B7,MZ]
theorem AN(sz off ety dK:Nat)(xs:List DV):MZ sz off (some (.arr ety dK xs none))=if sz=dK then some (.atl (xs.length-off))else none:=rfl
theorem AM(sz off ety dK:Nat)(xs:List DV)(c:Nat):MZ sz off (some (.arr ety dK xs (some c)))=if sz=dK then some (.int .i64 (c-off:Nat))else none:=rfl
theorem C9(a:Int)(n:Nat)(h:a≤(n:Int)):bV .gtr (.int .i64 a) (.atl n)=some (.bool false):=by simp[bV,h]
def Uy(h:aA)(ety sz bytes:Nat)(z s:DV)(x:DV):Option (DV×aA):=match asI x with
  | some n=>if 0≤n∧n≤140737488355328 then bB h ety sz bytes s (List.replicate n.toNat z)else none
  | none=>none
theorem Yk(c:Nat→List DV→aA→Option (DV×aA))(h:aA)(env:Env)(ety sz bytes:Nat)(z:DV)(s x:Opd):bE c (.appendZ ety sz bytes z s x) env h=Uy h ety sz bytes z (s.eval env) (x.eval env):=rfl
theorem Pc(h:aA)(ety sz bytes:Nat)(z s:DV)(k:IntKind)(n:Int):Uy h ety sz bytes z s (.int k n)=if 0≤n∧n≤140737488355328 then bB h ety sz bytes s (List.replicate n.toNat z)else none:=rfl
theorem JQ{h:aA}{id:Nat}{o o':DO}:(h.set id o).set id o'=h.set id o':=by
 simp[aA.set]
theorem Pp{h:aA}{o:DO}:WF (h.push o)↔WF h:=⟨fun w=>by unfold WF at *;simpa[aA.push]using w,fun w=>w.push⟩
theorem Vr{h:aA}{id:Nat}{o:DO}:WF (h.set id o)↔WF h:=⟨fun w=>by unfold WF at *;simpa[aA.set]using w,fun w=>w.set⟩
theorem Fy{h:aA}{id k:Nat}{o:DO}(w:WF h)(eF:id<h.n):(h.set id o).get k=if k=id then some o else h.get k:=cO w eF
def wl(h:aA)(l:Nat):aA:={h with lim:=l}
theorem O2{h:aA}{l:Nat}:WF (wl h l)↔WF h:=Iff.rfl
theorem WF.wl{h:aA}(w:WF h)(l:Nat):WF (Dm.wl h l):=w
def crV(h:aA)(L:cC):Option (DV×aA)→Option (DV×aA×cC)
 | some (v,h')=>some (v,wl h' h.lim,L)
 | none=>none
theorem HH(h:aA)(L:cC)(v:DV)(h':aA):crV h L (some (v,h'))=some (v,wl h' h.lim,L):=rfl
theorem fL(c:fE)(l r:Nat)(L:cC)(o:DOp)(env:Env)(h:aA)(hp:jY L env o=none)(hq:yV env o=false):cK c l r L o env h=crV h L (bE c o env (wl h (max l h.lim))):=by
 unfold cK
 rw[hp,hq]
 simp only[kY,wl]
 cases bE c o env {h with lim:=max l h.lim} with
 | some p=>rfl
 | none=>rfl
def Nc:DV→Bool|.func g _=>J6 g|_=>false
theorem Rt(g:FuncId)(cap:List DV):Nc (.func g cap)=J6 g:=rfl
def pkC(r:Nat)(L:cC)(h:aA):Option (DV×aA)→Option (DV×aA×cC)
 | some (v,h')=>if(vS h h').all (fun id=>L.rds.all fun x=>!(Nat.beq x.1 id))=true then some (v,h',{L with pks:=(vS h h').map (fun id=>(r,id))++L.pks})else none
 | none=>none
theorem Iw(c:fE)(l r:Nat)(L:cC)(g:Opd)(as:List Opd)(env:Env)(h:aA):cK c l r L (.call g as) env h=if Nc (g.eval env)=true then pkC r L h (bE c (.call g as) env h)else crV h L (bE c (.call g as) env (wl h (max l h.lim))):=by
 have hq:yV env (.call g as)=Nc (g.eval env):=by simp only[yV,Nc];cases g.eval env<;>rfl
 split
 ·rename_i ht
  unfold cK
  rw[show jY L env (.call g as)=none from rfl,hq,ht]
  simp only[kU,pkC]
  cases bE c (.call g as) env h<;>rfl
 ·rename_i hf
  exact fL _ _ _ _ _ _ _ rfl (by rw[hq];simpa using hf)
theorem Gs(c:fE)(l r:Nat)(L:cC)(e s:Nat)(z:DV)(env:Env)(h:aA):cK c l r L (.alloc e s z) env h=crV h L (bE c (.alloc e s z) env (wl h (max l h.lim))):=fL _ _ _ _ _ _ _ rfl rfl
theorem Ot(c:fE)(l r:Nat)(L:cC)(e s:Nat)(z:Opd)(env:Env)(h:aA):cK c l r L (.box e s z) env h=crV h L (bE c (.box e s z) env (wl h (max l h.lim))):=fL _ _ _ _ _ _ _ rfl rfl
theorem wD(c:fE)(l r:Nat)(L:cC)(e s:Nat)(z:DV)(n:Nat)(ps:List (Nat×Opd))(env:Env)(h:aA):cK c l r L (.buildSlice e s z n ps) env h=crV h L (bE c (.buildSlice e s z n ps) env (wl h (max l h.lim))):=fL _ _ _ _ _ _ _ rfl rfl
theorem Iv(c:fE)(l r:Nat)(L:cC)(s:Nat)(d x:Opd)(env:Env)(h:aA):cK c l r L (.copy s d x) env h=crV h L (bE c (.copy s d x) env (wl h (max l h.lim))):=fL _ _ _ _ _ _ _ rfl rfl
theorem Bd(c:fE)(l r:Nat)(L:cC)(env:Env)(h:aA):cK c l r L .makeMap env h=crV h L (bE c .makeMap env (wl h (max l h.lim))):=fL _ _ _ _ _ _ _ rfl rfl
def ES:DV→Option Nat|.ptr id ..=>some id|_=>none
def Ee:DV→Option Nat|.sl id ..=>some id|_=>none
def mapId:DV→Option Nat|.map id=>some id|_=>none
section
variable (env:Env)
theorem JB(n:Option Nat)(a:Opd):bM env (.load n a)=ES (a.eval env):=by simp only[bM];cases a.eval env<;>rfl
theorem Pw(sz:Nat)(x:Opd)(lo hi:Option Opd):bM env (.sliceSl sz x lo hi)=Ee (x.eval env):=by simp only[bM];cases x.eval env<;>rfl
theorem CG(x:Opd):bM env (.cap x)=Ee (x.eval env):=by simp only[bM];cases x.eval env<;>rfl
theorem CD(k:Nat)(x:Opd):bM env (.len k x)=mapId (x.eval env):=by simp only[bM];cases x.eval env<;>rfl
theorem Jj(q:EqT)(z:DV)(ok:Bool)(m k:Opd):bM env (.lookup q z ok m k)=mapId (m.eval env):=by simp only[bM];cases m.eval env<;>rfl
theorem JA(x:Opd):bM env (.move x)=none:=_root_.id rfl
theorem IZ(c a b:Opd):bM env (.pick c a b)=none:=_root_.id rfl
theorem CH(z:List DV)(ps:List (Nat×Nat×Opd)):bM env (.build z ps)=none:=_root_.id rfl
theorem CJ(op:BinOp)(x y:Opd):bM env (.arith op x y)=none:=_root_.id rfl
theorem PC(n:Bool)(x y:Opd):bM env (.eqb n x y)=none:=_root_.id rfl
theorem PD(n:Bool)(ks:List Nat)(x y:Opd):bM env (.eqa n ks x y)=none:=_root_.id rfl
theorem PB(k:Nat)(n:Bool)(x y:Opd):bM env (.eqn k n x y)=none:=_root_.id rfl
theorem TS(op:UnOp)(x:Opd):bM env (.un op x)=none:=_root_.id rfl
theorem JC(k:IntKind)(x:Opd):bM env (.conv k x)=none:=_root_.id rfl
theorem CI(x:Opd):bM env (.asStr x)=none:=_root_.id rfl
theorem Px(x:Opd):bM env (.nilCheck x)=none:=_root_.id rfl
theorem Lp(o:Nat)(x:Opd):bM env (.fieldAddr o x)=none:=_root_.id rfl
theorem CF(o:Nat)(n:Option Nat)(x:Opd):bM env (.field o n x)=none:=_root_.id rfl
theorem Lo(s:Nat)(x i:Opd):bM env (.indexAddr s x i)=none:=_root_.id rfl
theorem Qa(l e:Nat)(x i:Opd):bM env (.indexArr l e x i)=none:=_root_.id rfl
theorem CE(l e:Nat)(n:Option Nat)(x i:Opd):bM env (.index l e n x i)=none:=_root_.id rfl
theorem Pz(x i:Opd):bM env (.indexStr x i)=none:=_root_.id rfl
theorem Pv(x:Opd)(lo hi:Option Opd):bM env (.sliceStr x lo hi)=none:=_root_.id rfl
theorem O5(b:Bool)(x y:Opd):bM env (.minmax b x y)=none:=_root_.id rfl
theorem Py(f:FuncId)(c:List Opd):bM env (.makeFunc f c)=none:=_root_.id rfl
theorem Vy(x:Opd)(i:Nat):bM env (.extract x i)=none:=_root_.id rfl
theorem Ln(t:TypeId)(x:Opd):bM env (.makeIface t x)=none:=_root_.id rfl
def V4:Option Nat→Option (Nat×jJ)
 | some id=>some (id,none)
 | none=>none
theorem V2(id:Nat):V4 (some id)=some (id,none):=_root_.id rfl
theorem V3:V4 none=none:=_root_.id rfl
def ER(n:Option Nat):DV→Option (Nat×jJ)
 | .ptr id sz i o=>some (id,some (n,sz,i,o))
 | _=>none
theorem T9(n:Option Nat)(id sz i o:Nat):ER n (.ptr id sz i o)=some (id,some (n,sz,i,o)):=_root_.id rfl
theorem Xv(n:Option Nat)(l:Bool)(cs:List DV)(o:Nat):ER n (.iptr l cs o)=none:=_root_.id rfl
theorem KX(n:Option Nat)(a:Opd):mark env (.load n a)=ER n (a.eval env):=by simp only[mark];cases a.eval env<;>rfl
theorem FJ(sz:Nat)(x:Opd)(lo hi:Option Opd):mark env (.sliceSl sz x lo hi)=V4 (Ee (x.eval env)):=by rw[←Pw env];simp only[mark];cases bM env (.sliceSl sz x lo hi)<;>rfl
theorem RL(x:Opd):mark env (.cap x)=V4 (Ee (x.eval env)):=by rw[←CG env];simp only[mark];cases bM env (.cap x)<;>rfl
theorem RH(k:Nat)(x:Opd):mark env (.len k x)=V4 (mapId (x.eval env)):=by rw[←CD env];simp only[mark];cases bM env (.len k x)<;>rfl
theorem V8(q:EqT)(z:DV)(ok:Bool)(m k:Opd):mark env (.lookup q z ok m k)=V4 (mapId (m.eval env)):=by rw[←Jj env];simp only[mark];cases bM env (.lookup q z ok m k)<;>rfl
theorem KW(x:Opd):mark env (.move x)=none:=_root_.id rfl
theorem KV(c a b:Opd):mark env (.pick c a b)=none:=_root_.id rfl
theorem FM(z:List DV)(ps:List (Nat×Nat×Opd)):mark env (.build z ps)=none:=_root_.id rfl
theorem FO(op:BinOp)(x y:Opd):mark env (.arith op x y)=none:=_root_.id rfl
theorem RJ(n:Bool)(x y:Opd):mark env (.eqb n x y)=none:=_root_.id rfl
theorem RK(n:Bool)(ks:List Nat)(x y:Opd):mark env (.eqa n ks x y)=none:=_root_.id rfl
theorem RI(k:Nat)(n:Bool)(x y:Opd):mark env (.eqn k n x y)=none:=_root_.id rfl
theorem WK(op:UnOp)(x:Opd):mark env (.un op x)=none:=_root_.id rfl
theorem KY(k:IntKind)(x:Opd):mark env (.conv k x)=none:=_root_.id rfl
theorem FN(x:Opd):mark env (.asStr x)=none:=_root_.id rfl
theorem Sj(x:Opd):mark env (.nilCheck x)=none:=_root_.id rfl
theorem No(o:Nat)(x:Opd):mark env (.fieldAddr o x)=none:=_root_.id rfl
theorem FL(o:Nat)(n:Option Nat)(x:Opd):mark env (.field o n x)=none:=_root_.id rfl
theorem Nn(s:Nat)(x i:Opd):mark env (.indexAddr s x i)=none:=_root_.id rfl
theorem Sm(l e:Nat)(x i:Opd):mark env (.indexArr l e x i)=none:=_root_.id rfl
theorem FK(l e:Nat)(n:Option Nat)(x i:Opd):mark env (.index l e n x i)=none:=_root_.id rfl
theorem Sl(x i:Opd):mark env (.indexStr x i)=none:=_root_.id rfl
theorem Si(x:Opd)(lo hi:Option Opd):mark env (.sliceStr x lo hi)=none:=_root_.id rfl
theorem V7(b:Bool)(x y:Opd):mark env (.minmax b x y)=none:=_root_.id rfl
theorem Sk(f:FuncId)(c:List Opd):mark env (.makeFunc f c)=none:=_root_.id rfl
theorem Yp(x:Opd)(i:Nat):mark env (.extract x i)=none:=_root_.id rfl
theorem Nm(t:TypeId)(x:Opd):mark env (.makeIface t x)=none:=_root_.id rfl
end
theorem U0(a b c d:Nat):ES (.ptr a b c d)=some a:=_root_.id rfl
theorem Xw(l:Bool)(cs:List DV)(o:Nat):ES (.iptr l cs o)=none:=_root_.id rfl
theorem JN(a b c d:Nat):Ee (.sl a b c d)=some a:=_root_.id rfl
theorem DH:Ee .nsl=none:=_root_.id rfl
theorem JO{α:Type}(t:Bool)(sz:Nat)(e:α→DV)(xs:List α):Ee (eL t sz e xs)=none:=by cases xs<;>rfl
theorem W4(i:Nat):mapId (.map i)=some i:=_root_.id rfl
theorem FT{α:Type}(t:Bool)(sz:Nat)(e:α→DV)(xs:List α):mapId (eL t sz e xs)=none:=by cases xs<;>rfl
theorem FR(a b c d:Nat):mapId (.sl a b c d)=none:=_root_.id rfl
theorem W2:mapId .nsl=none:=_root_.id rfl
theorem V9(s:List UInt8):mapId (.str s)=none:=_root_.id rfl
theorem W7:cC.start=⟨[],[]⟩:=_root_.id rfl
theorem FX(L:cC)(t:Option (Nat×jJ)):cC.see L true t=L:=_root_.id rfl
theorem LC(L:cC)(t:Option (Nat×jJ)):cC.see L false t=cC.read L t:=_root_.id rfl
theorem FV(r:List (Nat×jJ))(p:List (Nat×Nat))(x:Nat×jJ):cC.read ⟨r,p⟩ (some x)=⟨x::r,p⟩:=_root_.id rfl
theorem W8(L:cC):cC.read L none=L:=_root_.id rfl
theorem X1(r:List (Nat×jJ))(s:Nat)(t:Option Nat):cC.free ⟨r,[]⟩ s t=true:=by cases t<;>rfl
theorem W9(L:cC)(s:Nat):cC.free L s none=true:=_root_.id rfl
theorem FW(r:List (Nat×jJ))(p:Nat×Nat)(ps:List (Nat×Nat))(s id:Nat):cC.free ⟨r,p::ps⟩ s (some id)=((decide (p.1<s) || !decide (p.2=id)) && cC.free ⟨r,ps⟩ s (some id)):=by
 have e1:Nat.blt p.1 s=decide (p.1<s):=by rw[Bool.eq_iff_iff];simp[Nat.blt_eq]
 have e2:Nat.beq p.2 id=decide (p.2=id):=by rw[Bool.eq_iff_iff];simp
 simp only[cC.free,List.all_cons,e1,e2]
theorem D0(m:Option Nat)(z i o n idx off:Nat):nD (some (m,z,i,o)) n idx off=(!decide (i=idx) || decide (o+Dn m≤off) || decide (off+n≤o)):=by
 have e2:Nat.beq i idx=decide (i=idx):=by rw[Bool.eq_iff_iff];simp
 have e3:Nat.ble (o+Dn m) off=decide (o+Dn m≤off):=by rw[Bool.eq_iff_iff];simp
 have e4:Nat.ble (off+n) o=decide (off+n≤o):=by rw[Bool.eq_iff_iff];simp
 simp only[nD,e2,e3,e4]
theorem D1(n idx off:Nat):nD none n idx off=false:=_root_.id rfl
theorem Vq:Dn none=1:=_root_.id rfl
theorem Vp(n:Nat):Dn (some n)=n:=_root_.id rfl
def pkA(L:cC):Option Nat→Option Nat
 | some id=>if L.rds.all (fun x=>!decide (x.1=id))=true then some id else none
 | none=>none
theorem EX(r:List (Nat×jJ))(p:List (Nat×Nat))(id:Nat):pkA ⟨r,p⟩ (some id)=if r.all (fun x=>!decide (x.1=id))=true then some id else none:=_root_.id rfl
theorem EY(L:cC):pkA L none=none:=_root_.id rfl
theorem WC(L:cC)(id:Nat):(L.rds.all fun x=>!(Nat.beq x.1 id))=(L.rds.all fun x=>!decide (x.1=id)):=by
 congr 1;funext x
 have e2:Nat.beq x.1 id=decide (x.1=id):=by rw[Bool.eq_iff_iff];simp
 rw[e2]
def pkS(L:cC)(n:Nat):DV→Option Nat
 | .ptr id _ idx off=>if L.rds.all (fun x=>!decide (x.1=id) || nD x.2 n idx off)=true then some id else none
 | _=>none
theorem KM(r:List (Nat×jJ))(p:List (Nat×Nat))(n id sz idx off:Nat):pkS ⟨r,p⟩ n (.ptr id sz idx off)=if r.all (fun x=>!decide (x.1=id) || nD x.2 n idx off)=true then some id else none:=_root_.id rfl
theorem EW(L:cC)(n:Nat)(l:Bool)(cs:List DV)(o:Nat):pkS L n (.iptr l cs o)=none:=_root_.id rfl
theorem EU(L:cC)(env:Env)(n:Nat)(a x:Opd):jY L env (.store n a x)=pkS L n (a.eval env):=by
 simp only[jY]
 cases a.eval env<;>try rfl
 rename_i id sz idx off
 have:(L.rds.all fun x=>!(Nat.beq x.1 id) || nD x.2 n idx off)=(L.rds.all fun x=>!decide (x.1=id) || nD x.2 n idx off):=by
  congr 1;funext x
  have e2:Nat.beq x.1 id=decide (x.1=id):=by rw[Bool.eq_iff_iff];simp
  rw[e2]
 simp only[this];rfl
theorem U5(L:cC)(env:Env)(e s b:Nat)(a x:Opd):jY L env (.append e s b a x)=pkA L (Ee (a.eval env)):=by
 simp only[jY,pkA,Ee,WC];cases a.eval env<;>rfl
def pkV(L:cC)(r id:Nat):Option (DV×aA)→Option (DV×aA×cC)
 | some (v,h')=>some (v,h',⟨L.rds,(r,id)::L.pks⟩)
 | none=>none
theorem EV(rs:List (Nat×jJ))(ps:List (Nat×Nat))(r id:Nat)(v:DV)(h':aA):pkV ⟨rs,ps⟩ r id (some (v,h'))=some (v,h',⟨rs,(r,id)::ps⟩):=_root_.id rfl
def crP(c:fE)(l r:Nat)(L:cC)(o:DOp)(env:Env)(h:aA):Option Nat→Option (DV×aA×cC)
 | some id=>pkV L r id (aB h env o)
 | none=>crV h L (bE c o env (wl h (max l h.lim)))
theorem HI(c:fE)(l r:Nat)(L:cC)(o:DOp)(env:Env)(h:aA)(id:Nat):crP c l r L o env h (some id)=pkV L r id (aB h env o):=_root_.id rfl
theorem HJ(c:fE)(l r:Nat)(L:cC)(o:DOp)(env:Env)(h:aA):crP c l r L o env h none=crV h L (bE c o env (wl h (max l h.lim))):=_root_.id rfl
theorem Ch(c:fE)(l r:Nat)(L:cC)(o:DOp)(env:Env)(h:aA)(hq:yV env o=false):cK c l r L o env h=crP c l r L o env h (jY L env o):=by
 cases hp:jY L env o with
 | none=>rw[fL _ _ _ _ _ _ _ hp hq];rfl
 | some id =>
  unfold cK
  rw[hp]
  simp only[crP,pkV]
  cases aB h env o with
  | none=>rfl
  | some q=>rfl
theorem Gp(c:fE)(l r:Nat)(L:cC)(n:Nat)(a x:Opd)(env:Env)(h:aA):cK c l r L (.store n a x) env h=crP c l r L (.store n a x) env h (pkS L n (a.eval env)):=by rw[Ch _ _ _ _ _ _ _ rfl,EU]
theorem Cz(c:fE)(l r:Nat)(L:cC)(e s b:Nat)(a x:Opd)(env:Env)(h:aA):cK c l r L (.append e s b a x) env h=crP c l r L (.append e s b a x) env h (pkA L (Ee (a.eval env))):=by rw[Ch _ _ _ _ _ _ _ rfl,U5]
theorem xO(c:fE)(l r:Nat)(L:cC)(q:EqT)(m k x:Opd)(env:Env)(h:aA):cK c l r L (.mapUpdate q m k x) env h=crV h L (bE c (.mapUpdate q m k x) env (wl h (max l h.lim))):=fL _ _ _ _ _ _ _ rfl rfl
theorem KH(t:Bool)(h:aA)(n:Nat)(k:IntKind)(m:Int):resolve t h (n+1) (.int k m)=some (.int k m):=rfl
theorem EL(t:Bool)(h:aA)(n:Nat)(m:Bool):resolve t h (n+1) (.bool m)=some (.bool m):=rfl
theorem KF(t:Bool)(h:aA)(n:Nat)(m:List UInt8):resolve t h (n+1) (.str m)=some (.str m):=rfl
theorem KG(t:Bool)(h:aA)(n:Nat):resolve t h (n+1) .nsl=some (.isl false 0 []):=rfl
theorem EJ(t:Bool)(h:aA)(n:Nat)(l:Bool)(cs:List DV)(o:Nat):resolve t h (n+1) (.iptr l cs o)=some (.iptr l cs o):=rfl
theorem EK{α:Type}(t:Bool)(h:aA)(n:Nat)(t':Bool)(sz:Nat)(e:α→DV)(xs:List α):resolve t h (n+1) (eL t' sz e xs)=some (eL t' sz e xs):=dR t' sz e xs t h (n+1) (by omega)
theorem Rl(t:Bool)(h:aA)(n:Nat)(p:dY):resolve t h (n+1) (fG p)=some (fG p):=EK ..
theorem EI(t:Bool)(h:aA)(n:Nat):resolve t h (n+1) .nili=some .nili:=rfl
theorem EH(t:Bool)(h:aA)(n:Nat):resolve t h (n+1) .nilp=some .nilp:=rfl
theorem MX(t:Bool)(h:aA)(v:DV):resolve t h bT v=resolve t h (199+1) v:=rfl
def tK(t:Bool)(h:aA)(n:Nat)(vs:List DV):Option (List DV):=vs.mapM (resolve t h n)
theorem KI(t:Bool)(h:aA)(n:Nat)(vs:List DV):vs.mapM (resolve t h n)=tK t h n vs:=rfl
theorem EM(t:Bool)(h:aA)(n:Nat):tK t h n []=some []:=rfl
def ON:Option DV→Option (List DV)→Option (List DV)
 | some x,some l=>some (x::l)
 | _,_=>none
theorem B5(x:DV)(l:List DV):ON (some x) (some l)=some (x::l):=rfl
theorem S9(t:Bool)(h:aA)(n:Nat)(v:DV)(vs:List DV):tK t h n (v::vs)=ON (resolve t h n v) (tK t h n vs):=by
 unfold tK
 rw[List.mapM_cons]
 cases resolve t h n v<;>cases vs.mapM (resolve t h n)<;>rfl
def XF:Option (List DV)→Option DV|some c=>some (.agg c)|none=>none
def TQ:Option (List DV)→Option DV|some c=>some (.tup c)|none=>none
def WN(f:Nat):Option (List DV)→Option DV|some c=>some (.func f c)|none=>none
theorem BG(c:List DV):XF (some c)=some (.agg c):=rfl
theorem O4(c:List DV):TQ (some c)=some (.tup c):=rfl
theorem Y9(f:Nat)(c:List DV):WN f (some c)=some (.func f c):=rfl
theorem J4(t:Bool)(h:aA)(n:Nat)(cs:List DV):resolve t h (n+1) (.agg cs)=XF (tK t h n cs):=by
 simp only[resolve];unfold tK;cases cs.mapM (resolve t h n)<;>rfl
theorem KE(t:Bool)(h:aA)(n:Nat)(cs:List DV):resolve t h (n+1) (.tup cs)=TQ (tK t h n cs):=by
 simp only[resolve];unfold tK;cases cs.mapM (resolve t h n)<;>rfl
theorem En(t:Bool)(h:aA)(n:Nat)(f:Nat)(cs:List DV):resolve t h (n+1) (.func f cs)=WN f (tK t h n cs):=by
 simp only[resolve];unfold tK;cases cs.mapM (resolve t h n)<;>rfl
def GI(t:Bool)(off:Nat):Option (List DV)→Option DV|some c=>some (.iptr t c off)|none=>none
theorem Zb(t:Bool)(off:Nat)(c:List DV):GI t off (some c)=some (.iptr t c off):=rfl
def KJ(t:Bool)(h:aA)(n sz off:Nat):Option DV→Option DV|some e=>GI t off (tK t h n (aF sz e))|none=>none
theorem T0(t:Bool)(h:aA)(n sz off:Nat)(e:DV):KJ t h n sz off (some e)=GI t off (tK t h n (aF sz e)):=rfl
def Na(t:Bool)(h:aA)(n sz idx off:Nat):Option DO→Option DV
 | some (.arr _ dK xs _)=>if sz=dK then KJ t h n sz off xs[idx]? else none
 | _=>none
theorem Mz(t:Bool)(h:aA)(n sz idx off ety dK:Nat)(xs:List DV)(cap:Option Nat):Na t h n sz idx off (some (.arr ety dK xs cap))=if sz=dK then KJ t h n sz off xs[idx]? else none:=rfl
theorem Xo(t:Bool)(h:aA)(n id sz idx off:Nat):resolve t h (n+1) (.ptr id sz idx off)=Na t h n sz idx off (h.get id):=by
 simp only[resolve,Na]
 cases h.get id with
 | none=>rfl
 | some o=>cases o with
  | arr e s xs c =>
   simp only
   split
   ·cases xs[idx]? with
    | none=>rfl
    | some x=>simp only[KJ,tK];cases(aF sz x).mapM (resolve t h n)<;>rfl
   ·rfl
  | _=>rfl
def RP(t:Bool)(sz:Nat):Option (List DV)→Option DV|some ys=>some (mkIsl t sz ys)|none=>none
theorem X4(t:Bool)(sz:Nat)(ys:List DV):RP t sz (some ys)=some (mkIsl t sz ys):=rfl
def Xp(t:Bool)(h:aA)(n sz off len:Nat):Option DO→Option DV
 | some (.arr _ dK xs _)=>if sz=dK∧off+len≤xs.length then RP t sz (tK t h n ((xs.drop off).take len))else none
 | _=>none
theorem Rm(t:Bool)(h:aA)(n sz off len ety dK:Nat)(xs:List DV)(cap:Option Nat):Xp t h n sz off len (some (.arr ety dK xs cap))=if sz=dK∧off+len≤xs.length then RP t sz (tK t h n ((xs.drop off).take len))else none:=rfl
theorem Ju(t:Bool)(h:aA)(n id sz off len:Nat):resolve t h (n+1) (.sl id sz off len)=Xp t h n sz off len (h.get id):=by
 simp only[resolve,Xp]
 cases h.get id with
 | none=>rfl
 | some o=>cases o with
  | arr e s xs c =>
   simp only
   split
   ·simp only[tK];cases((xs.drop off).take len).mapM (resolve t h n)<;>rfl
   ·rfl
  | _=>rfl
def WG(h:aA)(v:DV):Option DV :=
 match resolve false h (199+1) v with
 | some d=>if bA (199+1) d then some d else none
 | none=>none
theorem fX(v:DV)(h:aA):iK (some (v,h))=WG h v:=rfl
def CA:Option DV→Option DV
 | some d=>if bA (199+1) d then some d else none
 | none=>none
theorem KN(h:aA)(v:DV):WG h v=CA (resolve false h (199+1) v):=rfl
theorem BZ(k:IntKind)(n:Int):CA (some (.int k n))=some (.int k n):=rfl
theorem O3(b:Bool):CA (some (.bool b))=some (.bool b):=rfl
theorem BY(b:List UInt8):CA (some (.str b))=some (.str b):=rfl
theorem IR(d:DV):CA (some d)=if bA 200 d=true then some d else none:=rfl
theorem OY(n:Nat)(k:IntKind)(m:Int):bA (n+1) (.int k m)=true:=rfl
theorem IY(n:Nat)(m:Bool):bA (n+1) (.bool m)=true:=rfl
theorem OX(n:Nat)(m:List UInt8):bA (n+1) (.str m)=true:=rfl
theorem PA(n:Nat)(cs:List DV):bA (n+1) (.agg cs)=cs.all (bA n):=rfl
theorem OW(n:Nat)(cs:List DV):bA (n+1) (.tup cs)=cs.all (bA n):=rfl
theorem IS(n:Nat)(p:dY):bA (n+21) (fG p)=true:=qN p (n+21) (by omega)
theorem IW(n:Nat)(sz:Nat):bA (n+1) (.isl false sz [])=true:=by simp[bA]
theorem IV(n:Nat):bA (n+1) .nili=true:=rfl
theorem IU(n:Nat):bA (n+1) .nilp=true:=rfl
theorem Re(D:bX)(N:Nat)(S:List Fr)(f:dV)(hs:List aA)(L:cC)(dst:Option Nat)(op:DOp)(s:Nat)(cm:Bool)(r:List aJ)(hf:L.free s (bM (tab N f) op)=true) :
  yS D N S dst op s cm r f hs L .read=Rf D N S dst op cm r f hs L (gZ hs s):=by rw[Xh,if_pos hf]
theorem oG{α:Type}(t:Bool)(sz:Nat)(e:α→DV)(xs:List α)(k:IntKind)(i:Int)(h0:0≤i):aR sz (eL t sz e xs) (.int k i)=(xs[i.toNat]?).map fun a=>.iptr t (aF sz (e a)) 0:=by
 cases hx:xs[i.toNat]? with
 | some a=>rw[Fj t sz e k h0 hx];rfl
 | none =>
  cases xs with
  | nil=>simp[sK,aR,asI]
  | cons x xs =>
   have hy:(List.map e (x::xs))[i.toNat]?=none:=by rw[List.getElem?_map,hx];rfl
   rw[pY,←List.map_cons]
   simp only[aR,asI,h0,and_self,if_true,hy,Option.map_none]
theorem tW{α:Type}(t:Bool)(sz:Nat)(e:α→DV)(xs:List α)(k:IntKind)(i:Nat):aR sz (eL t sz e xs) (.int k (i:Int))=(xs[i]?).map fun a=>.iptr t (aF sz (e a)) 0:=by
 rw[oG _ _ _ _ _ _ (Int.natCast_nonneg i)];simp
theorem Ct{α:Type}(t:Bool)(sz:Nat)(e:α→DV)(xs:List α)(k:IntKind)(i:Nat):aR sz (eL t sz e xs) (.int k ((i:Int)+1))=(xs[i+1]?).map fun a=>.iptr t (aF sz (e a)) 0:=by
 have:=tW t sz e xs k (i+1)
 rwa[Int.natCast_add]at this
theorem Lk{n:Int}(h1:0≤n)(h2:n≤18446744073709551615):IntKind.u64.wrap n=n:=by
 exact Go.IntWalk.u64_in n ⟨h1,h2⟩
theorem C8(a:Int):bV .shr (.int .u64 a) (.int .u64 1)=some (.int .u64 (a.fdiv 2)):=by
 simp[bV,IntKind.bits]
theorem YZ(i j:Nat):((i:Int)+j).fdiv 2=((i+j) / 2:Nat):=by
 rw[Int.fdiv_eq_ediv_of_nonneg _ (by decide)];omega
theorem mB(k:IntKind)(n d l:Nat)(h:n≤l):cG (some (.int k (n:Int))) d l=some n:=by
 rw[sP _ _ _ _ (by omega) (by omega)];simp
theorem Uq(k:IntKind)(n d l:Nat)(h:n+1≤l):cG (some (.int k ((n:Int)+1))) d l=some (n+1):=by
 rw[sP _ _ _ _ (by omega) (by omega)];simp
theorem Uo(k:IntKind)(d l:Nat):cG (some (.int k 0)) d l=some 0:=by
 rw[sP _ _ _ _ (by omega) (by omega)];simp
theorem Xb(D:bX)(N:Nat)(S:List Fr)(f:dV)(h:aA)(o:aJ)(w:Bool)(r:List aJ):S1 D N S o w r f h bI=yR D N S r (qV f o.dst bI) h:=rfl
theorem Rg(D:bX)(N:Nat)(S:List Fr)(f:dV)(hs:List aA)(L:cC)(o:aJ)(w:Bool)(r:List aJ):Rh D N S o w r f hs L bI=wL D N S o.dst o.kind r f L hs:=rfl
theorem aG{b c:aI}(hb:b=c)(D:bX)(N:Nat)(S:List Fr)(f:dV)(h:aA):run D N S (.loop b) f h=run D N (.loop b::S) c f h:=by
 rw[DW];rw[←hb]
theorem IJ(h:aA)(o:DO):(h.push o).n=h.n+1:=_root_.id rfl
theorem O1(h:aA)(o:DO):(h.push o).lim=h.lim:=_root_.id rfl
theorem OS(h:aA)(id':Nat)(o:DO):(h.set id' o).n=h.n:=_root_.id rfl
theorem BV(h:aA)(id':Nat)(o:DO):(h.set id' o).lim=h.lim:=_root_.id rfl
theorem TM(h:aA)(l:Nat):(wl h l).n=h.n:=_root_.id rfl
theorem IK(h:aA)(l:Nat):(wl h l).lim=l:=_root_.id rfl
theorem IL(h:aA)(l i:Nat):(wl h l).get i=h.get i:=_root_.id rfl
theorem BT(h:aA)(l:Nat)(o:DO):(wl h l).push o=wl (h.push o) l:=_root_.id rfl
theorem II(h:aA)(l i:Nat)(o:DO):(wl h l).set i o=wl (h.set i o) l:=_root_.id rfl
theorem OR(h:aA)(a b:Nat):wl (wl h a) b=wl h b:=_root_.id rfl
theorem BS(h:aA):wl h h.lim=h:=_root_.id rfl
theorem Lj(h:aA)(o:DO):wl (h.push o) h.lim=h.push o:=_root_.id rfl
theorem IM(h:aA)(l:Nat)(hl:l=h.lim):wl h l=h:=by subst hl;rfl
theorem BU:rB.n=0:=_root_.id rfl
theorem Vn:rB.lim=0:=_root_.id rfl
abbrev eU8(b:UInt8):DV:=.int .u8 b.toNat
def JK(h:aA):Option (List UInt8)→Option (DV×aA)
 | some s=>some (.str s,h)
 | none=>none
def Bg(h:aA):Option (List DV)→Option (DV×aA)
 | some ys=>JK h (ys.mapM Oz)
 | none=>none
def Uz(h:aA)(ety sz bytes:Nat)(s:DV):DV→Option (DV×aA)
 | .str t=>bB h ety sz bytes s (t.map eU8)
 | _=>none
theorem Se(c:Nat→List DV→aA→Option (DV×aA))(h:aA)(env:Env)(x:Opd):bE c (.bytesStr x) env h=Bg h (elems h 1 (x.eval env)):=by
 simp only[bE,aB]
 cases elems h 1 (x.eval env)with
 | none=>rfl
 | some ys=>cases hm:ys.mapM Oz<;>simp only[Bg,JK,hm]
theorem Gx(h:aA)(ys:List DV):Bg h (some ys)=JK h (ys.mapM Oz):=rfl
theorem Q0(h:aA)(s:List UInt8):JK h (some s)=some (.str s,h):=rfl
theorem FQ(xs:List UInt8):(xs.map eU8).mapM Oz=some xs:=by
 induction xs with
 | nil=>rfl
 | cons b xs ih =>
  have hb:Oz (eU8 b)=some b:=by simp[Oz,eU8]
  simp only[List.map_cons,List.mapM_cons,hb,ih]
  rfl
theorem Yl(c:Nat→List DV→aA→Option (DV×aA))(h:aA)(env:Env)(ety sz bytes:Nat)(s x:Opd):bE c (.appendS ety sz bytes s x) env h=Uz h ety sz bytes (s.eval env) (x.eval env):=by
 simp only[bE,aB]
 cases x.eval env<;>rfl
theorem Pf(h:aA)(ety sz bytes:Nat)(s:DV)(t:List UInt8):Uz h ety sz bytes s (.str t)=bB h ety sz bytes s (t.map eU8):=rfl
theorem ET(f:Nat):J6 f=([]:List Nat).contains f:=rfl
attribute [simp] Rt ET
attribute [simp] Se Gx Q0 FQ Yl Pf
attribute [simp] KA Wz R9 EA R7 KC R6 DU KB DX S7 Hw El Mx Rj KD Hv My EG
 DZ S4 Xl ED SO SP VX HR T6 T7 IP
 KQ KP FG RE FD Ia KR FA Sa FF RB RC RA WH KT FE Nj FC Ni Sd FB Sc Rz Yh QZ V0 KS U8 Sb Yi Yj Nh U9 Ng
 xU NC Mi Mh Hp Mc Md Qi Me Mg Ho Mf Dx Hn Hm Bl Hl
 OS BV cJ IJ BU Vn O1 Yw FY Yx Yy Q4 Qg Qh HA Tu Qf CB JQ Pp Vr O2 Fy BW TM IK IL BT II OR BS Lj IM HH Iw Gs Ot wD Iv Bd Q7 Bt Bs Jp B2 HM B4 RD DD MY AN AM C9 Yk Pc WE WD Rp Ud A8 Uc Zz A5 AF A4 A7 Ub A6 Oq Ua Tz vO Tx
 Gh Cx Zw LF GB GC LE GE Uv Ut Uu BC AX AY AZ BA BB AW AR AS AT AU AV OU OV
 GY AB Ul Um Uk Oy Xy Xx Rr Zs AA Yc AK C6 Om BF Hr GU Z4 Z5 Zv Pd AD fW Ib Ez Sn
 Ry B9 sO
 KI EM S9 B5 BG O4 Y9 Zb KH EL KF KG EJ EK Rl EI EH J4 KE En MX Xo Mz T0 Ju Rm X4
 MN Zu Z2 Hy Xm Hz fX KN BZ O3 BY IR OY IY OX PA OW IS IW IV IU
 DY EC S2 Xc Xj S3 Xg Rc Ms Re Rd Mt Xi Xk Xf Xe Xd JB Pw CG CD Jj JA IZ CH CJ PC PD PB TS JC CI Px Lp CF Lo Qa CE Pz Pv O5 Py Vy Ln
 U0 Xw JN DH JO W4 FT FR W2 V9 W7 FX LC FV D0 D1 Vq Vp KM EW V2 V3 T9 Xv KX FJ RL RH V8 KW KV FM FO RJ RK RI WK KY FN Sj No FL Nn Sm FK Sl Si V7 Sk Yp Nm W8 X1 W9 FW EX EY EV HI HJ Gp Cz xO Q6 Xa S0 EB Xb Rg
 JL H8 DE QM Qo wI H9 Qk Bo Qq DB DC DA NQ I7 Qp yK Qn yJ Bq Qm Bp Bn Dz CZ Jo I6 Jm Ql Wn Ea Mk Jn yI
 uO mB Uq Uo sP tW Ct oG bC Lk C8 YZ
end Go.Dm
/-
Part 5 of "De": copies of rows; rows with room left over behind a deletion.
-/
namespace Go.Dm
theorem vQ{lo:Nat}{h:aA}{v:DV}{ety sz bytes:Nat}{ys:List DV}{A:Option (DV×aA)}(he:elems h sz v=some ys)(wf:WF h)(eN:lo≤h.n)(bH:h.lim≤h.n)(hb:ys.length*bytes≤140737488355328)(yB:1≤bytes)(hA:bP ety sz bytes h [v]=A) :
  ∃ v' h',A=some (v',h')∧Own lo h' v' ety sz ys∧Ext lo h h'∧Ext h.n h h':=by
 have hm:ys.length≤140737488355328:=Nat.le_trans (Nat.le_mul_of_pos_right _ yB) hb
 subst hA
 by_cases hy:ys=[]
 ·subst hy
  refine⟨.nsl,h.push .dead,?_,.nil rfl rfl,(Ext.refl eN wf).push,(Ext.refl (Nat.le_refl _) wf).push⟩
  simp[bP,he]
 ·have Ij:ys.isEmpty=false:=by cases ys<;>simp_all
  refine⟨.sl (h.n+1) sz 0 ys.length,(h.push (.arr ety sz [] (some 0))).push (.arr ety sz ys none),?_,.arr (h.n+1) rfl ?_ ?_ (by omega),((Ext.refl eN wf).push).push,((Ext.refl (Nat.le_refl _) wf).push).push⟩
  ·simp only[bP,he,Ij]
   rw[if_neg (by simp),if_pos ⟨hb,by omega⟩]
  ·exact cW
  ·show h.lim≤h.n+1
   omega
inductive OwnR(lo:Nat)(h:aA)(v:DV)(ety sz:Nat)(xs:List DV):Prop where
 | nil (hv:v=.nsl) (hx:xs=[])
 | arr (id:Nat) (sp:List DV) (cap:Option Nat) (hv:v=.sl id sz 0 xs.length) (hg:h.get id=some (.arr ety sz (xs++sp) cap)) (bH:h.lim≤id) (eN:lo≤id)
theorem Own.toR{lo:Nat}{h:aA}{v:DV}{ety sz:Nat}{xs:List DV}(w:Own lo h v ety sz xs):OwnR lo h v ety sz xs:=by
 cases w with
 | nil hv hx=>exact .nil hv hx
 | arr id hv hg hl hi=>exact .arr id [] none hv (by simpa using hg) hl hi
section OwnR
variable {lo:Nat} {h:aA} {v:DV} {ety sz:Nat} {xs:List DV}
theorem OwnR.push{o:DO}(w:OwnR lo h v ety sz xs):OwnR lo (h.push o) v ety sz xs:=by
 cases w with
 | nil hv hx=>exact .nil hv hx
 | arr id sp cap hv hg bH eN =>
  refine .arr id sp cap hv ?_ bH eN
  rw[cJ,if_neg (by have:=aC hg;omega)];exact hg
theorem OwnR.ext{h':aA}(w:OwnR lo h v ety sz xs)(x:Ext h.n h h'):OwnR lo h' v ety sz xs:=by
 cases w with
 | nil hv hx=>exact .nil hv hx
 | arr id sp cap hv hg hl hi=>exact .arr id sp cap hv ((x.get id (aC hg)).trans hg) (by rw[x.lim];exact hl) hi
theorem OwnR.lenV(w:OwnR lo h v ety sz xs):lenV h 1 v=some (.int .i64 xs.length):=by
 cases w with
 | nil hv hx=>subst hv;subst hx;rfl
 | arr id sp cap hv hg hl hi=>subst hv;rfl
theorem OwnR.elems(w:OwnR lo h v ety sz xs):elems h sz v=some xs:=by
 cases w with
 | nil hv hx=>subst hv;subst hx;rfl
 | arr id sp cap hv hg hl hi=>subst hv;simp[Dm.elems,hg]
theorem OwnR.resolve{α:Type}{e:α→DV}{ys:List α}{k n:Nat}(tag:Bool)(w:OwnR lo h v ety sz (ys.map e))(hf:∀y∈ys,kG k (e y))(hn:k+1≤n):resolve tag h n v=some (eL tag sz e ys):=by
 obtain⟨m,rfl,hm⟩:=cL hn
 cases w with
 | nil hv hx =>
  subst hv
  cases ys with
  | nil=>rfl
  | cons y r=>simp at hx
 | arr id sp cap hv hg hl hi =>
  subst hv
  have xF:(ys.map e).mapM (Dm.resolve tag h m)=some (ys.map e):=vI fun x hx=>by
   obtain⟨y,hy,rfl⟩:=List.mem_map.1 hx
   exact hf y hy tag h m hm
  simp only[Dm.resolve,hg,true_and,Nat.zero_add,List.length_append,Nat.le_add_right,if_true,List.drop_zero,List.take_left,xF]
  rfl
theorem OwnR.aO(w:OwnR lo h v ety sz xs):aO 1 v=true:=by
 cases w with
 | nil hv hx=>subst hv;rfl
 | arr id sp cap hv hg hl hi=>subst hv;rfl
theorem OwnR.aF(w:OwnR lo h v ety sz xs):aF 1 v=[v]:=by
 cases w with
 | nil hv hx=>subst hv;rfl
 | arr id sp cap hv hg hl hi=>subst hv;rfl
theorem OwnR.out{α:Type}{e:α→DV}{ys:List α}{k:Nat}(w:OwnR lo h v ety sz (ys.map e))(hf:∀y∈ys,kG k (e y))(hu:∀y∈ys,Unl k (e y))(hk:k≤198) :
  iK (some (v,h))=some (eL false sz e ys) :=
 Rx (k:=k+1) (w.resolve false hf (by show k+1≤200;omega)) (kP hu) (by omega)
theorem OwnR.index(w:OwnR lo h v ety sz xs){i:Nat}{x:DV}(hx:xs[i]?=some x)(k:IntKind) :
  ∃ id sp cap,v=.sl id sz 0 xs.length∧h.get id=some (.arr ety sz (xs++sp) cap)∧h.lim≤id∧lo≤id∧aR sz v (.int k (i:Int))=some (.ptr id sz i 0)∧(xs++sp)[i]?=some x:=by
 have hi:i<xs.length:=by
  by_cases aZ:i<xs.length
  ·exact aZ
  ·rw[List.getElem?_eq_none (by omega)]at hx;cases hx
 cases w with
 | nil hv oH=>subst oH;simp at hi
 | arr id sp cap hv hg hl eN =>
  refine⟨id,sp,cap,hv,hg,hl,eN,?_,by rw[List.getElem?_append_left hi];exact hx⟩
  subst hv
  simp[aR,asI,hi]
end OwnR
theorem Own.aO{lo:Nat}{h:aA}{v:DV}{ety sz:Nat}{xs:List DV}(w:Own lo h v ety sz xs):aO 1 v=true:=w.toR.aO
theorem Own.aF{lo:Nat}{h:aA}{v:DV}{ety sz:Nat}{xs:List DV}(w:Own lo h v ety sz xs):aF 1 v=[v]:=w.toR.aF
theorem Own.wl{lo:Nat}{h:aA}{v:DV}{ety sz:Nat}{xs:List DV}(w:Own lo h v ety sz xs){m:Nat}(hm:m≤lo):Own lo (Dm.wl h m) v ety sz xs:=by
 cases w with
 | nil hv hx=>exact .nil hv hx
 | arr id hv hg hl hi=>exact .arr id hv hg (Nat.le_trans hm hi) hi
theorem Own.aS{lo:Nat}{h:aA}{v:DV}{ety sz:Nat}{xs:List DV}(w:Own lo h v ety sz xs)(wf:WF h){id:Nat}{o:DO}(eF:id<lo)(hn:id<h.n):Own lo (h.set id o) v ety sz xs:=by
 cases w with
 | nil hv hx=>exact .nil hv hx
 | arr k hv hg hl hi=>exact .arr k hv (by rw[cO wf hn,if_neg (by omega)];exact hg) hl hi
theorem Own.lower{lo lo':Nat}{h:aA}{v:DV}{ety sz:Nat}{xs:List DV}(w:Own lo h v ety sz xs)(hl:lo'≤lo):Own lo' h v ety sz xs:=by
 cases w with
 | nil hv hx=>exact .nil hv hx
 | arr k hv hg bH hi=>exact .arr k hv hg bH (Nat.le_trans hl hi)
theorem Ext.wl{lo:Nat}{h h':aA}(x:Ext lo h h')(m:Nat)(hm:m=h.lim):Ext lo h (Dm.wl h' m):=⟨x.le,hm,x.get,x.wf⟩
theorem Ext.lower{lo lo':Nat}{h h':aA}(x:Ext lo h h')(hl:lo'≤lo):Ext lo' h h':=⟨Nat.le_trans hl x.le,x.lim,fun id eF=>x.get id (by omega),x.wf⟩
theorem mQ{lo m:Nat}{h:aA}{v:DV}{ety sz bytes:Nat}{ys:List DV}{A:Option (DV×aA)}(hA:bP ety sz bytes (Dm.wl h m) [v]=A)(he:elems h sz v=some ys)(wf:WF h)(eN:lo≤h.n)(hm:m≤h.n)(bH:h.lim≤h.n)(hb:ys.length*bytes≤140737488355328)(yB:1≤bytes) :
  ∃ v' h',A=some (v',h')∧Own lo (Dm.wl h' h.lim) v' ety sz ys∧Ext lo h (Dm.wl h' h.lim)∧Ext h.n h (Dm.wl h' h.lim):=by
 have OJ:elems (Dm.wl h m) sz v=some ys:=he
 obtain⟨v',h',e,o,x,y⟩:=vQ (lo:=h.n) (h:=Dm.wl h m) OJ (wf.wl m) (Nat.le_refl _) hm hb yB hA
 exact⟨v',h',e,(o.wl bH).lower eN,⟨Nat.le_trans eN x.le,rfl,fun id eF=>x.get id (by omega),x.wf⟩,⟨x.le,rfl,x.get,x.wf⟩⟩
def jH(ety:Nat)(h h':aA):Prop:=∀k o,h.get k=some o→(∀s xs c,o≠.arr ety s xs c)→h'.get k=some o
theorem jH.refl(ety:Nat)(h:aA):jH ety h h:=fun _ _ h _=>h
theorem jH.push{ety:Nat}{h h':aA}{o:DO}(x:jH ety h h'):jH ety h (h'.push o):=fun k ob hg cS=>by
 have:=x k ob hg cS
 rw[cJ,if_neg (by have:=aC this;omega)];exact this
theorem jH.set{ety:Nat}{h h':aA}{id s:Nat}{xs:List DV}{c:Option Nat}{o:DO}(x:jH ety h h')(w:WF h')(hg:h.get id=some (.arr ety s xs c))(eF:id<h'.n):jH ety h (h'.set id o):=fun k ob hk cS=>by
 have hki:k≠id:=by
  intro e
  subst e
  rw[hg]at hk
  injection hk with hk
  exact cS _ _ _ hk.symm
 rw[cO w eF,if_neg hki]
 exact x k ob hk cS
theorem Own.keep{lo:Nat}{h h':aA}{v:DV}{ety e2 sz:Nat}{xs:List DV}(w:Own lo h v e2 sz xs)(x:jH ety h h')(hl:h'.lim=h.lim)(cS:e2≠ety):Own lo h' v e2 sz xs:=by
 cases w with
 | nil hv hx=>exact .nil hv hx
 | arr id hv hg bH eN =>
  exact .arr id hv (x _ _ hg (fun s ys c e=>by injection e with e1;exact cS e1)) (by rw[hl];exact bH) eN
theorem OwnR.keep{lo:Nat}{h h':aA}{v:DV}{ety e2 sz:Nat}{xs:List DV}(w:OwnR lo h v e2 sz xs)(x:jH ety h h')(hl:h'.lim=h.lim)(cS:e2≠ety):OwnR lo h' v e2 sz xs:=by
 cases w with
 | nil hv hx=>exact .nil hv hx
 | arr id sp cap hv hg bH eN =>
  exact .arr id sp cap hv (x _ _ hg (fun s ys c e=>by injection e with e1;exact cS e1)) (by rw[hl];exact bH) eN
theorem OwnR.aS{lo:Nat}{h:aA}{v:DV}{ety sz:Nat}{xs:List DV}(w:OwnR lo h v ety sz xs)(wf:WF h){id:Nat}{o:DO}(eF:id<lo)(hn:id<h.n):OwnR lo (h.set id o) v ety sz xs:=by
 cases w with
 | nil hv hx=>exact .nil hv hx
 | arr k sp cap hv hg hl hi=>exact .arr k sp cap hv (by rw[cO wf hn,if_neg (by omega)];exact hg) hl hi
theorem OwnR.lower{lo lo':Nat}{h:aA}{v:DV}{ety sz:Nat}{xs:List DV}(w:OwnR lo h v ety sz xs)(hl:lo'≤lo):OwnR lo' h v ety sz xs:=by
 cases w with
 | nil hv hx=>exact .nil hv hx
 | arr k sp cap hv hg bH hi=>exact .arr k sp cap hv hg bH (Nat.le_trans hl hi)
theorem mC{h:aA}{id ety sz bytes len:Nat}{xs ys:List DV}{cap:Option Nat}(hg:h.get id=some (.arr ety sz xs cap))(bY:len+ys.length≤xs.length)(bH:h.lim≤id)(hb:(len+ys.length)*bytes≤140737488355328)(yB:1≤bytes)(hy:ys≠[]) :
  bB h ety sz bytes (.sl id sz 0 len) ys=some (.sl id sz 0 (len+ys.length),h.set id (.arr ety sz (cF xs ys len) cap)):=by
 have hm:len+ys.length≤140737488355328:=Nat.le_trans (Nat.le_mul_of_pos_right _ yB) hb
 have Ij:ys.isEmpty=false:=by cases ys<;>simp_all
 simp only[bB,Ij,hg,Bool.false_eq_true,if_false,true_and,Nat.zero_add]
 rw[if_pos ⟨by omega,hb,by omega⟩,if_pos bY,if_pos bH]
theorem iW{h:aA}{id ety sz bytes len c:Nat}{xs ys:List DV}(hg:h.get id=some (.arr ety sz xs (some c)))(hl:len≤xs.length)(bY:xs.length<len+ys.length)(hb:(len+ys.length)*bytes≤140737488355328)(yB:1≤bytes)(hy:ys≠[]) :
  bB h ety sz bytes (.sl id sz 0 len) ys=some (.sl h.n sz 0 (len+ys.length),h.push (.arr ety sz (xs.take len++ys) none)):=by
 have hm:len+ys.length≤140737488355328:=Nat.le_trans (Nat.le_mul_of_pos_right _ yB) hb
 have Ij:ys.isEmpty=false:=by cases ys<;>simp_all
 simp only[bB,Ij,hg,Bool.false_eq_true,if_false,true_and,Nat.zero_add,List.drop_zero]
 rw[if_pos ⟨hl,hb,by omega⟩,if_neg (by omega)]
theorem Ki(X:List DV)(u:DV)(i:Nat)(hi:i<X.length):cF (X++[u]) (List.take (X.length-i) (List.take (X.length+1-i) (List.drop i (X++[u])))) (i+1)=X.take (i+1)++X.drop i:=by
 have e1:List.take (X.length-i) (List.take (X.length+1-i) (List.drop i (X++[u])))=X.drop i:=by
  rw[List.take_take,Nat.min_eq_left (by omega),List.drop_append_of_le_length (by omega),List.take_left' (by simp)]
 rw[e1]
 unfold cF
 have e2:List.drop (i+1+(X.drop i).length) (X++[u])=[]:=List.drop_eq_nil_of_le (by simp only[List.length_append,List.length_drop,List.length_cons,List.length_nil];omega)
 rw[e2,List.take_append_of_le_length (by omega),List.append_nil]
theorem K8(X:List DV)(x:DV)(i:Nat)(hi:i<X.length):cF (X.take (i+1)++X.drop i) [x] i=X.take i++x::X.drop i:=by
 unfold cF
 have h1:(X.take (i+1)).length=i+1:=by simp;omega
 rw[List.take_append_of_le_length (by omega),List.take_take,Nat.min_eq_left (by omega)]
 have:List.drop (i+[x].length) (X.take (i+1)++X.drop i)=X.drop i:=by
  rw[List.drop_left' (by simpa using h1)]
 rw[this];simp
theorem Su(X:List DV)(z x:DV)(i:Nat)(hi:i<X.length):cF (X.take i++List.replicate (X.length+1-i) z) [x] i=X.take i++x::List.replicate (X.length-i) z:=by
 unfold cF
 have h1:(X.take i).length=i:=by simp;omega
 rw[List.take_left' h1]
 have h2:List.replicate (X.length+1-i) z=z::List.replicate (X.length-i) z:=by
  rw[show X.length+1-i=(X.length-i)+1 by omega,List.replicate_succ]
 rw[h2]
 have:List.drop (i+[x].length) (X.take i++z::List.replicate (X.length-i) z)=List.replicate (X.length-i) z:=by
  rw[List.drop_append,h1,List.drop_eq_nil_of_le (by simp;omega)]
  simp
 rw[this];simp
theorem Ss(X:List DV)(z x:DV)(i:Nat)(hi:i<X.length):cF (X.take i++x::List.replicate (X.length-i) z) (X.drop i) (i+1)=X.take i++x::X.drop i:=by
 unfold cF
 have h1:(X.take i).length=i:=by simp;omega
 have h2:List.take (i+1) (X.take i++x::List.replicate (X.length-i) z)=X.take i++[x]:=by
  rw[List.take_append,h1,List.take_of_length_le (by omega)]
  simp
 have h3:List.drop (i+1+(X.drop i).length) (X.take i++x::List.replicate (X.length-i) z)=[]:=by
  apply List.drop_eq_nil_of_le
  simp;omega
 rw[h2,h3];simp
theorem OwnR.start(lo:Nat)(h:aA)(ety sz:Nat):OwnR lo h .nsl ety sz []:=.nil rfl rfl
theorem OwnR.fresh{lo:Nat}{h:aA}{ety sz:Nat}{xs:List DV}{cap:Option Nat}(bH:h.lim≤h.n)(eN:lo≤h.n):OwnR lo (h.push (.arr ety sz xs cap)) (.sl h.n sz 0 xs.length) ety sz xs:=.arr h.n [] cap rfl (by simp[cJ]) bH eN
theorem OwnR.append{lo:Nat}{h:aA}{v:DV}{ety sz bytes:Nat}{xs ys:List DV}{A:Option (DV×aA)}(w:OwnR lo h v ety sz xs)(wf:WF h)(eN:lo≤h.n)(bH:h.lim≤h.n)(hA:bB h ety sz bytes v ys=A)
  (hb:(xs.length+ys.length)*bytes≤140737488355328) (yB:1≤bytes):∃ v' h',A=some (v',h')∧OwnR lo h' v' ety sz (xs++ys)∧Ext lo h h'∧jH ety h h':=by
 have hm:xs.length+ys.length≤140737488355328:=Nat.le_trans (Nat.le_mul_of_pos_right _ yB) hb
 by_cases hy:ys=[]
 ·subst hy
  refine⟨v,h,?_,by simpa using w,.refl eN wf,.refl _ _⟩
  rw[←hA]
  cases w with
  | nil hv hx=>subst hv;rfl
  | arr id sp cap hv hg _ _=>subst hv;rfl
 ·have Ij:ys.isEmpty=false:=by cases ys<;>simp_all
  have NW:0<ys.length:=List.length_pos_iff.2 hy
  cases w with
  | nil hv hx =>
   subst hv;subst hx
   simp only[List.length_nil,Nat.zero_add]at hb hm
   refine⟨.sl h.n sz 0 ys.length,h.push (.arr ety sz ys none),?_,.arr h.n [] none rfl (by simp[cJ]) (by exact bH) eN,(Ext.refl eN wf).push,(jH.refl _ _).push⟩
   rw[←hA]
   simp only[bB,Ij]
   rw[if_neg (by simp),if_pos ⟨hb,by omega⟩]
  | arr id sp cap hv hg hl hi =>
   subst hv
   have aZ:=aC hg
   by_cases Fw:xs.length+ys.length≤(xs++sp).length
   ·refine⟨.sl id sz 0 (xs.length+ys.length),h.set id (.arr ety sz (cF (xs++sp) ys xs.length) cap),?_,.arr id (sp.drop ys.length) cap (by simp) ?_ (by exact hl) hi,(Ext.refl eN wf).set hi aZ,(jH.refl _ _).set wf hg aZ⟩
    ·rw[←hA];exact mC hg Fw hl hb yB hy
    ·rw[cO wf aZ,if_pos rfl]
     simp only[cF,List.take_left',List.append_assoc]
     congr 3
     rw[List.drop_append]
     simp
   ·cases cap with
    | none =>
     refine⟨.sl h.n sz 0 (xs.length+ys.length),(h.set id .dead).push (.arr ety sz (xs++ys) none),?_,.arr h.n [] none (by simp) ?_ (by exact bH) eN,((Ext.refl eN wf).set hi aZ).push,((jH.refl _ _).set wf hg aZ).push⟩
     ·rw[←hA]
      simp only[bB,Ij,hg]
      simp only[Bool.false_eq_true,if_false,true_and,Nat.zero_add,List.drop_zero]
      rw[if_pos ⟨by simp,hb,by omega⟩,if_neg Fw,if_pos hl]
      simp
     ·simp
    | some c =>
     refine⟨.sl h.n sz 0 (xs.length+ys.length),h.push (.arr ety sz (xs++ys) none),?_,.arr h.n [] none (by simp) ?_ (by exact bH) eN,(Ext.refl eN wf).push,(jH.refl _ _).push⟩
     ·rw[←hA]
      rw[iW hg (by simp) (by omega) hb yB hy]
      simp
     ·simp
structure nO(lo:Nat)(h:aA)(id ety sz:Nat)(xs:List DV):Prop where
 get:∃ sp cap,h.get id=some (.arr ety sz (xs++sp) cap)
 lim:h.lim≤id
 lo:lo≤id
theorem nO.toR{lo:Nat}{h:aA}{id ety sz:Nat}{xs:List DV}(w:nO lo h id ety sz xs):OwnR lo h (.sl id sz 0 xs.length) ety sz xs:=by
 obtain⟨⟨sp,cap,hg⟩,hl,hi⟩:=w
 exact .arr id sp cap rfl hg hl hi
theorem nO.lt{lo:Nat}{h:aA}{id ety sz:Nat}{xs:List DV}(w:nO lo h id ety sz xs):id<h.n:=by
 obtain⟨⟨sp,cap,hg⟩,_,_⟩:=w
 exact aC hg
theorem nO.fresh{lo:Nat}{h:aA}{ety sz:Nat}{xs:List DV}{cap:Option Nat}(bH:h.lim≤h.n)(eN:lo≤h.n):nO lo (h.push (.arr ety sz xs cap)) h.n ety sz xs:=⟨⟨[],cap,by simp[cJ]⟩,bH,eN⟩
theorem nO.push{lo:Nat}{h:aA}{id ety sz:Nat}{xs:List DV}{o:DO}(w:nO lo h id ety sz xs):nO lo (h.push o) id ety sz xs:=by
 obtain⟨⟨sp,cap,hg⟩,hl,hi⟩:=w
 exact⟨⟨sp,cap,by rw[cJ,if_neg (by have:=aC hg;omega)];exact hg⟩,hl,hi⟩
theorem nO.keep{lo:Nat}{h h':aA}{id ety e2 sz:Nat}{xs:List DV}(w:nO lo h id e2 sz xs)(x:jH ety h h')(hl:h'.lim=h.lim)(cS:e2≠ety):nO lo h' id e2 sz xs:=by
 obtain⟨⟨sp,cap,hg⟩,bH,hi⟩:=w
 exact⟨⟨sp,cap,x _ _ hg (fun s ys c e=>by injection e with e1;exact cS e1)⟩,by rw[hl];exact bH,hi⟩
theorem nO.aS{lo:Nat}{h:aA}{id ety sz:Nat}{xs:List DV}(w:nO lo h id ety sz xs)(wf:WF h){k:Nat}{o:DO}(eF:k<lo)(hn:k<h.n):nO lo (h.set k o) id ety sz xs:=by
 obtain⟨⟨sp,cap,hg⟩,hl,hi⟩:=w
 exact⟨⟨sp,cap,by rw[cO wf hn,if_neg (by omega)];exact hg⟩,hl,hi⟩
theorem nO.wl{lo:Nat}{h:aA}{id ety sz:Nat}{xs:List DV}(w:nO lo h id ety sz xs){m:Nat}(hm:m≤lo):nO lo (Dm.wl h m) id ety sz xs:=by
 obtain⟨⟨sp,cap,hg⟩,hl,hi⟩:=w
 exact⟨⟨sp,cap,hg⟩,Nat.le_trans hm hi,hi⟩
theorem nO.ext{lo:Nat}{h h':aA}{id ety sz:Nat}{xs:List DV}(w:nO lo h id ety sz xs)(x:Ext h.n h h'):nO lo h' id ety sz xs:=by
 have:=w.lt
 obtain⟨⟨sp,cap,hg⟩,hl,hi⟩:=w
 exact⟨⟨sp,cap,(x.get id this).trans hg⟩,by rw[x.lim];exact hl,hi⟩
theorem nO.append{lo:Nat}{h:aA}{id ety sz bytes:Nat}{xs ys:List DV}{A:Option (DV×aA)}{n:Nat}(w:nO lo h id ety sz xs)(hn:n=xs.length)(wf:WF h)(eN:lo≤h.n)(bH:h.lim≤h.n)(hA:bB h ety sz bytes (.sl id sz 0 n) ys=A)
  (hb:(xs.length+ys.length)*bytes≤140737488355328) (yB:1≤bytes):∃ id' h',A=some (.sl id' sz 0 (xs.length+ys.length),h')∧nO lo h' id' ety sz (xs++ys)∧Ext lo h h'∧jH ety h h'∧(id'=id∨h.n≤id'):=by
 subst hn
 have hm:xs.length+ys.length≤140737488355328:=Nat.le_trans (Nat.le_mul_of_pos_right _ yB) hb
 by_cases hy:ys=[]
 ·subst hy
  refine⟨id,h,?_,by simpa using w,.refl eN wf,.refl _ _,.inl rfl⟩
  rw[←hA];rfl
 ·have Ij:ys.isEmpty=false:=by cases ys<;>simp_all
  obtain⟨⟨sp,cap,hg⟩,hl,hi⟩:=w
  have aZ:=aC hg
  by_cases Fw:xs.length+ys.length≤(xs++sp).length
  ·refine⟨id,h.set id (.arr ety sz (cF (xs++sp) ys xs.length) cap),?_,⟨⟨sp.drop ys.length,cap,?_⟩,hl,hi⟩,(Ext.refl eN wf).set hi aZ,(jH.refl _ _).set wf hg aZ,.inl rfl⟩
   ·rw[←hA];exact mC hg Fw hl hb yB hy
   ·rw[cO wf aZ,if_pos rfl]
    simp only[cF,List.take_left',List.append_assoc]
    congr 3
    rw[List.drop_append]
    simp
  ·cases cap with
   | none =>
    refine⟨h.n,(h.set id .dead).push (.arr ety sz (xs++ys) none),?_,⟨⟨[],none,?_⟩,bH,eN⟩,((Ext.refl eN wf).set hi aZ).push,((jH.refl _ _).set wf hg aZ).push,.inr (Nat.le_refl _)⟩
    ·rw[←hA]
     simp only[bB,Ij,hg]
     simp only[Bool.false_eq_true,if_false,true_and,Nat.zero_add,List.drop_zero]
     rw[if_pos ⟨by simp,hb,by omega⟩,if_neg Fw,if_pos hl]
     simp
    ·simp
   | some c =>
    refine⟨h.n,h.push (.arr ety sz (xs++ys) none),?_,⟨⟨[],none,?_⟩,bH,eN⟩,(Ext.refl eN wf).push,(jH.refl _ _).push,.inr (Nat.le_refl _)⟩
    ·rw[←hA]
     rw[iW hg (by simp) (by omega) hb yB hy]
     simp
    ·simp
theorem AE(h:aA)(t:Bool)(sz:Nat)(xs:List DV):elems h sz (.isl t sz xs)=some xs:=by simp[elems]
theorem DI(t:Bool)(sz:Nat)(xs:List DV):Ee (.isl t sz xs)=none:=_root_.id rfl
theorem W5(t:Bool)(sz:Nat)(xs:List DV):mapId (.isl t sz xs)=none:=_root_.id rfl
theorem Qt{α:Type}(h:aA)(t:Bool)(sz:Nat)(e:α→DV)(xs:List α)(k:IntKind)(i:Nat)(hi:i≤xs.length):fB h sz (eL t sz e xs) none (some (.int k (i:Int)))=some (.isl (t && !xs.isEmpty) sz ((xs.take i).map e)):=by
 cases xs with
 | nil =>
  have h0:i=0:=by simpa using hi
  subst h0
  simp[sK,fB,cG,asI]
 | cons x xs =>
  have h2:(i:Int)≤((xs.length+1:Nat):Int):=by simp at hi;omega
  rw[pY]
  simp only[fB,List.length_cons,List.length_map,cG,asI]
  simp only[List.isEmpty_cons,Bool.not_false,Bool.and_true,true_or,if_true,Int.natCast_nonneg,h2,and_self,Int.toNat_natCast,List.drop_zero,Nat.sub_zero]
  rw[←List.map_cons,←List.map_take]
theorem yL{α:Type}(h:aA)(t:Bool)(sz:Nat)(e:α→DV)(xs:List α)(k:IntKind)(i:Nat)(hi:i≤xs.length):fB h sz (eL t sz e xs) (some (.int k (i:Int))) none=some (.isl (t && !xs.isEmpty) sz ((xs.drop i).map e)):=by
 cases xs with
 | nil =>
  have h0:i=0:=by simpa using hi
  subst h0
  simp[sK,fB,cG,asI]
 | cons x xs =>
  have h2:(i:Int)≤((xs.length+1:Nat):Int):=by simp at hi;omega
  rw[pY]
  simp only[fB,List.length_cons,List.length_map,cG,asI]
  simp only[List.isEmpty_cons,Bool.not_false,Bool.and_true,true_or,if_true,Int.natCast_nonneg,h2,and_self,Int.toNat_natCast]
  rw[←List.map_cons,←List.map_drop,List.take_of_length_le (by simp)]
theorem Mm{α:Type}(h:aA)(t:Bool)(sz:Nat)(e:α→DV)(xs:List α)(k:IntKind)(i:Nat)(hi:i+1≤xs.length):fB h sz (eL t sz e xs) (some (.int k ((i:Int)+1))) none=some (.isl (t && !xs.isEmpty) sz ((xs.drop (i+1)).map e)):=by
 have:=yL h t sz e xs k (i+1) hi
 rwa[Int.natCast_add]at this
attribute [simp] AE DI W5 Qt yL Mm
mutual
theorem DV.beq_refl:∀v:DV,DV.beq v v=true
 | .unk|.nilp|.nsl|.nmap|.nilf|.nili=>rfl
 | .bool _|.int _ _|.str _|.ptr ..|.sl ..|.map _|.tok _|.atl _=>by simp[DV.beq]
 | .iptr l xs o=>by simp[DV.beq,kN xs]
 | .isl l s xs=>by simp[DV.beq,kN xs]
 | .func f xs=>by simp[DV.beq,kN xs]
 | .iface t v=>by simp[DV.beq,DV.beq_refl v]
 | .agg xs=>by simp[DV.beq,kN xs]
 | .tup xs=>by simp[DV.beq,kN xs]
theorem kN:∀l:List DV,sW l l=true
 | []=>rfl
 | x::xs=>by simp[sW,DV.beq_refl x,kN xs]
end
inductive Dep:Nat→DV→Prop where
 | int (k:IntKind) (n:Int) {d:Nat}:Dep (d+1) (.int k n)
 | bool (b:Bool) {d:Nat}:Dep (d+1) (.bool b)
 | str (s:List UInt8) {d:Nat}:Dep (d+1) (.str s)
 | isl (t:Bool) (sz:Nat) (xs:List DV) {d:Nat} (h:∀x∈xs,Dep d x):Dep (d+1) (.isl t sz xs)
 | agg (xs:List DV) {d:Nat} (h:∀x∈xs,Dep d x):Dep (d+1) (.agg xs)
theorem Dep.belowN{d:Nat}{v:DV}(h:Dep d v):∀{n N:Nat},d≤n→Dm.dP n N v=true:=by
 induction h with
 | int k n=>intro m N hm;obtain⟨q,rfl,_⟩:=cL hm;rfl
 | bool b=>intro m N hm;obtain⟨q,rfl,_⟩:=cL hm;rfl
 | str s=>intro m N hm;obtain⟨q,rfl,_⟩:=cL hm;rfl
 | isl t sz xs h ih=>intro m N hm;obtain⟨q,rfl,hq⟩:=cL hm;rfl
 | agg xs h ih =>
  intro m N hm;obtain⟨q,rfl,hq⟩:=cL hm
  simp only[Dm.dP,List.all_eq_true]
  exact fun x hx=>ih x hx hq
theorem Dep.eL{α:Type}{d:Nat}(t:Bool)(sz:Nat){e:α→DV}{xs:List α}(h:∀x∈xs,Dep d (e x)):Dep (d+1) (eL t sz e xs):=by
 cases xs with
 | nil=>exact .isl _ _ _ (fun x hx=>by cases hx)
 | cons x r =>
  rw[pY,←List.map_cons]
  refine .isl _ _ _ fun y hy=>?_
  obtain⟨z,hz,rfl⟩:=List.mem_map.1 hy
  exact h z hz
theorem HE(c:Vg):Dep 2 (wT c):=.agg _ (by
 intro x hx;simp only[List.mem_cons,List.not_mem_nil,or_false]at hx
 rcases hx with rfl|rfl|rfl|rfl|rfl<;>first|exact .int _ _|exact .str _)
theorem HD(p:dY):Dep 3 (fG p):=.eL _ _ fun c _=>HE c
theorem Dep.mono{d:Nat}{v:DV}(h:Dep d v):∀{e:Nat},d≤e→Dep e v:=by
 induction h with
 | int k n=>intro e he;obtain⟨q,rfl,_⟩:=cL he;exact .int _ _
 | bool b=>intro e he;obtain⟨q,rfl,_⟩:=cL he;exact .bool _
 | str s=>intro e he;obtain⟨q,rfl,_⟩:=cL he;exact .str _
 | isl t sz xs h ih=>intro e he;obtain⟨q,rfl,hq⟩:=cL he;exact .isl _ _ _ fun x hx=>ih x hx hq
 | agg xs h ih=>intro e he;obtain⟨q,rfl,hq⟩:=cL he;exact .agg _ fun x hx=>ih x hx hq
theorem SW(x:ID):Dep 4 (eID x):=.agg _ (by
 intro x hx;simp only[List.mem_cons,List.not_mem_nil,or_false]at hx
 rcases hx with rfl|rfl<;>exact .int _ _)
theorem B1(a:cP):Dep 4 (aH a):=.agg _ (by
 intro x hx;simp only[List.mem_cons,List.not_mem_nil,or_false]at hx
 rcases hx with rfl|rfl|rfl|rfl<;>first|exact .int _ _|exact HD _)
theorem oU{cs:List DV}(h:∀x∈cs,kG 1 x):kG 20 (.agg cs):=(uB h).mono (by decide)
theorem qP{cs:List DV}(h:∀x∈cs,Unl 21 x):Unl 22 (.agg cs):=Db h
theorem jO(x:ID):kG 20 (eID x)∧Unl 22 (eID x):=⟨oU (by
 intro x hx;simp only[List.mem_cons,List.not_mem_nil,or_false]at hx
 rcases hx with rfl|rfl<;>exact gU _ _),qP (by
 intro x hx;simp only[List.mem_cons,List.not_mem_nil,or_false]at hx
 rcases hx with rfl|rfl<;>exact(iZ _ _).mono (by decide))⟩
theorem fI(a:cP):kG 20 (aH a)∧Unl 22 (aH a):=⟨oU (by
 intro x hx;simp only[List.mem_cons,List.not_mem_nil,or_false]at hx
 rcases hx with rfl|rfl|rfl|rfl<;>first|exact gU _ _|exact Az _),qP (by
 intro x hx;simp only[List.mem_cons,List.not_mem_nil,or_false]at hx
 rcases hx with rfl|rfl|rfl|rfl<;>first|exact(iZ _ _).mono (by decide)|exact qN _)⟩
theorem fK(a:bL):kG 20 (bQ a)∧Unl 22 (bQ a):=⟨oU (by
 intro x hx;simp only[List.mem_cons,List.not_mem_nil,or_false]at hx
 rcases hx with rfl|rfl|rfl|rfl|rfl|rfl|rfl<;>first|exact gU _ _|exact Az _|exact Kz _),qP (by
 intro x hx;simp only[List.mem_cons,List.not_mem_nil,or_false]at hx
 rcases hx with rfl|rfl|rfl|rfl|rfl|rfl|rfl<;>first|exact(iZ _ _).mono (by decide)|exact qN _|exact(Pt _).mono (by decide))⟩
theorem jA(a:Vc):kG 20 (oV a)∧Unl 22 (oV a):=⟨oU (by
 intro x hx;simp only[List.mem_cons,List.not_mem_nil,or_false]at hx
 rcases hx with rfl|rfl|rfl<;>first|exact gU _ _|exact Az _),qP (by
 intro x hx;simp only[List.mem_cons,List.not_mem_nil,or_false]at hx
 rcases hx with rfl|rfl|rfl<;>first|exact(iZ _ _).mono (by decide)|exact qN _)⟩
theorem dD(n:Int):kG 20 (bF n)∧Unl 22 (bF n):=⟨(gU _ _).mono (by decide),(iZ _ _).mono (by decide)⟩
theorem IX(n:Nat)(xs:List Int):bA (n+23) (eL false 1 bF xs)=true:=kP (fun x _=>(dD x).2) _ (by omega)
theorem OZ(n:Nat)(xs:List ID):bA (n+23) (eL false 2 eID xs)=true:=kP (fun x _=>(jO x).2) _ (by omega)
theorem Vv(n:Nat)(xs:List cP):bA (n+23) (eL false 4 aH xs)=true:=kP (fun x _=>(fI x).2) _ (by omega)
theorem Vu(n:Nat)(xs:List bL):bA (n+23) (eL false 7 bQ xs)=true:=kP (fun x _=>(fK x).2) _ (by omega)
theorem IT(n:Nat)(xs:List Vc):bA (n+23) (eL false 3 oV xs)=true:=kP (fun x _=>(jA x).2) _ (by omega)
attribute [simp] IX OZ Vv Vu IT
end Go.Dm
/-
Arguments of a call from outside: what the frame tells of them,in the machine's form;a function with arguments that answers true.
-/
namespace Go.Dm
open Go.RowKit
theorem BE {P : Program} {D : bX} (G : Je P D) {f : Nat} {fn : Func} {body : Code} (hf : P.funcs[f]? = some fn) (hb : fn.body = some body) (hn : fn.name ≠ "runtime.NumGoroutine") {ds : List DV} {vs : List Value} {h' : aA} (hr : fc D f ds iH = some (.bool true, h')) (w : World) (hg : Ve w) (hv : VRs (Iu w) ds vs) :
  Calls P f vs.toArray w fun e w'=>e=.returned (.bool true)∧HZ w w'∧∀b,b<w.heap.size→w'.heap[b]?=w.heap[b]?:=by
 obtain⟨n,he⟩:=Dl.1 hr
 have hc:=Gv G n f ds iH _ h' (Iu w) vs he (VW w hg) hv
 have hen:=lB hf hb hn vs.toArray w
 rcases hc with⟨v,w',gO,_⟩|⟨f',vals',gO,hcalls⟩
 ·have:(callFunc f vs.toArray).run P w=.ok (.value v) w':=gO
  rw[hen]at this
  cases this
 ·have h2:(callFunc f vs.toArray).run P w=.ok (.enter f' vals') w:=gO
  rw[hen]at h2
  cases h2
  refine hcalls.mono fun e w' hp=>?_
  obtain⟨v,e1,ρ',k1,k2,k3⟩:=hp
  exact⟨by rw[e1,k3.bool_inv],Te k2,fun b hb=>k2.frame b hb fun h=>h⟩
structure Jg(c:Ctx)(w:World):Prop where
 w:c.w=w
 O:∀b,¬c.O b
 X:∀b,¬c.X b
theorem Jg.zero(w:World):Jg (Iu w) w:=⟨rfl,fun _ h=>h,fun _ h=>h⟩
theorem Jg.still{c:Ctx}{w:World}(h:Jg c w):Jg c.still w:=⟨h.w,h.O,h.X⟩
theorem K7{α:Type}{p:Nat→α→Prop}:∀n,(∀i,i<n→∃ a,p i a)→∃ l:List α,l.length=n∧∀i (hi:i<l.length),p i l[i]
 | 0,_=>⟨[],rfl,fun i hi=>absurd hi (Nat.not_lt_zero _)⟩
 | n+1,h=>by
  obtain⟨l,hl,hp⟩:=K7 n fun i hi=>h i (Nat.lt_succ_of_lt hi)
  obtain⟨a,ha⟩:=h n (Nat.lt_succ_self n)
  refine⟨l++[a],by simp[hl],fun i hi=>?_⟩
  by_cases aZ:i<l.length
  ·rw[List.getElem_append_left aZ];exact hp i aZ
  ·have:i=n:=by simp at hi;omega
   subst this
   rw[List.getElem_append_right (by omega)]
   simpa[hl]using ha
theorem Vb(b o n:Nat):(⟨b,o,none⟩:Addr).add n=⟨b,o+n,none⟩:=by
 unfold Addr.add
 split
 ·rename_i h;subst h;rfl
 ·rfl
theorem JM{w:World}{a:Addr}{v:Value}(h:w.cell? a=some v):a.spot=none∧a.block<w.heap.size:=by
 unfold World.cell? at h
 split at h
 ·rename_i hb
  refine⟨?_,?_⟩
  ·split at h
   ·cases h
   ·rename_i hs;cases hs2:a.spot with|none=>rfl|some x=>simp[hs2]at hs
  ·by_cases aZ:a.block<w.heap.size
   ·exact aZ
   ·rw[Array.getElem?_eq_none (by omega)]at hb;cases hb
 ·cases h
def kH(c:Ctx)(ds:List DV)(cs:List Value):Prop:=ds.length=cs.length∧∀i (h1:i<ds.length) (h2:i<cs.length),VR c ds[i] cs[i]∧(cs[i]).oneCell'=true
theorem kH.append{c:Ctx}{ds ds':List DV}{cs cs':List Value}(h:kH c ds cs)(h':kH c ds' cs'):kH c (ds++ds') (cs++cs'):=by
 refine⟨by rw[List.length_append,List.length_append,h.1,h'.1],fun i h1 h2=>?_⟩
 by_cases aZ:i<ds.length
 ·rw[List.getElem_append_left aZ,List.getElem_append_left (by rw[←h.1];exact aZ)]
  exact h.2 i aZ _
 ·rw[List.getElem_append_right (by omega),List.getElem_append_right (by rw[←h.1];omega)]
  have:i-cs.length=i-ds.length:=by rw[h.1]
  simp only[this]
  exact h'.2 (i-ds.length) (by rw[List.length_append]at h1;omega) _
theorem kH.one{c:Ctx}{d:DV}{v:Value}(h:VR c d v)(h1:v.oneCell'=true):kH c [d] [v]:=by
 refine⟨rfl,fun i h2 h3=>?_⟩
 have:i=0:=by simp at h2;omega
 subst this
 exact⟨h,h1⟩
theorem kH.nil{c:Ctx}:kH c [] []:=⟨rfl,fun i h=>absurd h (Nat.not_lt_zero _)⟩
section
variable {H:Type} {enc:TypeId×Value→H} {P:Program} {w:World} {sp:Nat→Bool} {wC:Bool}
theorem yT{t:TypeId}{cs:List Value}{fuel:Nat}{x:DataW H×List MemPlace}(ht:P.underlying t=some (.int .i64))(h:DataW.trod enc P w 0 sp wC fuel t cs=some x)(c:Ctx):∃ n:Int,kH c [.int .i64 n] cs:=by
 obtain⟨n,rfl,_,_⟩:=DataW.trod_int ht h
 exact⟨n,.one (.int _ _) rfl⟩
theorem Xr{α:Type}{t e:TypeId}{cs:List Value}{fuel sz:Nat}{x:DataW H×List MemPlace}(ht:P.underlying t=some (.slice e))(hz:P.cellsOf e=sz)(RV:0<sz)(h:DataW.trod enc P w 0 sp wC fuel t cs=some x){c:Ctx}(hc:Jg c w)
  (en:α→DV) (good:α→Prop) (nJ:∀ecs y n,DataW.trod enc P w 0 sp wC n e ecs=some y→∃ a,good a∧kH c.still (aF sz (en a)) ecs) :
  ∃ l:List α,(∀a∈l,good a)∧l.length≤maxLen∧kH c [eL false sz en l] cs:=by
 rcases DataW.trod_slice ht h with⟨rfl,_⟩|⟨a,len,cap,elems,rest,n,_,rfl,_,hb,hl,gP,hel1,hel2,_⟩
 ·exact⟨[],fun a h=>(by cases h),Nat.zero_le _,.one (.isl0 _ _) rfl⟩
 ·rw[hz]at hel2
  have BQ:∀i,i<len→∃ p:α×List Value,good p.1∧w.cells? 0 (a.add (i*sz)) sz=some p.2∧kH c.still (aF sz (en p.1)) p.2:=fun i hi=>by
   have h1:=hel2 i hi
   rw[List.getElem?_eq_getElem (by omega)]at h1
   simp only[Option.bind_eq_some_iff]at h1
   obtain⟨ecs,h2,h3⟩:=h1
   obtain⟨b,h4,h5⟩:=nJ _ _ _ h3
   exact⟨(b,ecs),h4,h2,h5⟩
  obtain⟨l,Ik,SH⟩:=K7 len BQ
  refine⟨l.map (·.1),?_,by rw[List.length_map,Ik];omega,.one ?_ rfl⟩
  ·intro b hb
   obtain⟨p,hp,rfl⟩:=List.mem_map.1 hb
   obtain⟨i,hi,rfl⟩:=List.mem_iff_getElem.1 hp
   exact(SH i hi).1
  ·by_cases h0:len=0
   ·have:l=[]:=List.eq_nil_of_length_eq_zero (by omega)
    subst this
    subst h0
    exact .isl0 _ _
   ·have cS:l≠[]:=fun e=>h0 (by rw[←Ik,e];rfl)
    have hne':l.map (·.1)≠[]:=by simpa using cS
    have wQ:∀i (hi:i<l.length) j,j<sz→w.cell? ((a.add (i*sz)).add j)=(l[i]).2[j]?∧(l[i]).2.length=sz:=fun i hi j hj=>by
     obtain⟨_,k2,k3⟩:=World.cells?_some (SH i hi).2.1
     exact⟨k3 j hj,k2⟩
    have pF:0<l.length:=by omega
    have h00:=wQ 0 pF 0 RV
    have ha0:(a.add (0*sz)).add 0=a:=by simp[Addr.add]
    rw[ha0,List.getElem?_eq_getElem (by rw[h00.2];exact RV)]at h00
    obtain⟨hs,hbk⟩:=JM h00.1
    obtain⟨b,o,s⟩:=a
    simp only at hs hbk
    subst hs
    rw[OM false sz en hne']
    have vM:∀i (hi:i<l.length) j (hj:j<sz),w.cell? ⟨b,o+i*sz+j,none⟩=some ((l[i]).2[j]'(by rw[(wQ i hi j hj).2];exact hj)):=fun i hi j hj=>by
     have k1:=(wQ i hi j hj).1
     rw[Vb,Vb]at k1
     exact k1.trans (List.getElem?_eq_getElem _)
    refine .isl (fun i j=>(w.cell? ⟨b,o+i*sz+j,none⟩).getD undef) (by simp[Ik]) hl (by rw[hc.w];exact hbk) (hc.O b) (fun _=>hc.X b) ?_ ?_ ?_
    ·intro i hi
     simp only[List.length_map]at hi
     simp only[List.getElem_map]
     have:=(SH i hi).2.2.1
     rw[this]
     exact(wQ i hi 0 RV).2
    ·intro i j hi hj
     simp only[List.length_map]at hi
     rw[hc.w,vM i hi j hj]
     have h5:=(SH i hi).2.2
     have h6:=(wQ i hi j hj).2
     exact⟨rfl,(h5.2 j (by rw[h5.1,h6];exact hj) (by rw[h6];exact hj)).2⟩
    ·intro i hi j hj
     simp only[List.length_map]at hi
     simp only[List.getElem_map]at hj ⊢
     have h5:=(SH i hi).2.2
     have h6:=(wQ i hi 0 RV).2
     have rK:j<sz:=by rw[h5.1,h6]at hj;exact hj
     have h7:=(h5.2 j hj (by rw[h6];exact rK)).1
     have h8:(w.cell? ⟨b,o+i*sz+j,none⟩).getD undef=(l[i]).2[j]'(by rw[h6];exact rK):=by rw[vM i hi j rK];rfl
     simp only[h8]
     exact h7
theorem JR{w':World}(hg:∀b,b<w.heap.size→w'.heap[b]?=w.heap[b]?){p:MemPlace}(hp:p.block<w.heap.size):w.sameAt w' p:=by
 cases p with
 | cell b off =>
  show w'.cell? ⟨b,off,none⟩=w.cell? ⟨b,off,none⟩
  unfold World.cell?
  rw[hg b hp]
 | map b=>exact hg b hp
theorem yD{w':World}(hg:∀b,b<w.heap.size→w'.heap[b]?=w.heap[b]?)(sp':Nat→Bool):∀{ts:List TypeId} {vs:List Value} {ds:List (DataW H)} {ps:List MemPlace},DataW.TrodAll enc P w 0 sp' wC ts vs ds ps→(∀p∈ps,p.block<w.heap.size)→DataW.TrodAll enc P w' 0 sp' wC ts vs ds ps
 | [],[],[],_,h,_=>h
 | t::ts,v::vs,d::ds,ps,h,hl=>by
  obtain⟨p,q,⟨fuel,h1⟩,h2,rfl⟩:=h
  exact⟨p,q,⟨fuel,DataW.trod_carry _ _ _ _ h1 fun x hx=>JR hg (hl x (List.mem_append.2 (.inl hx)))⟩,yD hg sp' h2 fun x hx=>hl x (List.mem_append.2 (.inr hx)),rfl⟩
end
end Go.Dm
