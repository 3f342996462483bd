/- A part of the proof. -/
import Derived.Test.YtfkbogedodngeaaGreatMm4
import Derived.IntWalk
import Derived.ChangeArms
import Derived.ChangeSame
set_option linter.all false
namespace Go.Dm
def WF(h:aA):Prop:=h.objs.length=h.n
theorem AB:WF qT:=rfl
theorem WF.push{h:aA}{o:DO}(w:WF h):WF (h.push o):=by unfold WF at *;simp[aA.push,w]
theorem WF.set{h:aA}{id:Nat}{o:DO}(w:WF h):WF (h.set id o):=by unfold WF at *;simp[aA.set,w]
theorem WF.lim{h:aA}{l:Nat}(w:WF h):WF {h with lim:=l}:=w
theorem Ng{h:aA}{o o':DO}{id:Nat}(eK:id<h.n):(h.push o).set id o'=(h.set id o').push o:=by
 have e:h.n-id=(h.n-1-id)+1:=by omega
 simp[aA.push,aA.set]
 rw[e];rfl
theorem Rw{h:aA}{o o':DO}{id:Nat}:(h.push o).set id o'=if id<h.n then(h.set id o').push o else h.push o':=by
 split
 ·rename_i eK;exact Ng eK
 ·rename_i eK
  have e:h.n-id=0:=by omega
  simp[aA.push,aA.set]
  rw[e];rfl
theorem Rb{h:aA}{id:Nat}{o:DO}:(h.set id o).n=h.n:=rfl
theorem bW{h:aA}(w:WF h){id k:Nat}{o:DO}(eK:id<h.n):(h.set id o).get k=if k=id then some o else h.get k:=by
 unfold WF at w
 by_cases e:k=id
 ·subst e
  rw[if_pos rfl]
  simp only[aA.get,aA.set,if_pos eK]
  rw[List.getElem?_set,if_pos rfl,if_pos (by omega)]
  exact if_pos eK
 ·rw[if_neg e];exact bD eK e
theorem aI{h:aA}{id:Nat}{o:DO}(hg:h.get id=some o):id<h.n:=dH hg
def CX(c a b:DV):Option DV:=match c with|.bool t=>some (if t then a else b)|_=>none
theorem Xy(t:Bool)(a b:DV):CX (.bool t) a b=some (if t then a else b):=rfl
def wK:DV→Option DV
 | .ptr id sz idx off=>some (.ptr id sz idx off)
 | .iptr l cs off=>some (.iptr l cs off)
 | _=>none
theorem Ji(id sz idx off:Nat):wK (.ptr id sz idx off)=some (.ptr id sz idx off):=rfl
theorem Ga(l:Bool)(cs:List DV)(off:Nat):wK (.iptr l cs off)=some (.iptr l cs off):=rfl
def PJ(neq:Bool):DV→DV→Option DV
 | .bool a,.bool b=>some (.bool (if neq then !(a == b)else a == b))
 | _,_=>none
theorem V3(neq a b:Bool):PJ neq (.bool a) (.bool b)=some (.bool (if neq then !(a == b)else a == b)):=rfl
def Cp(neq:Bool):Option Bool→Option DV
 | some r=>some (.bool (if neq then !r else r))
 | none=>none
theorem Zi(neq r:Bool):Cp neq (some r)=some (.bool (if neq then !r else r)):=rfl
def FW(k:IntKind):DV→Option DV|.int _ n=>some (.int k (k.wrap n))|_=>none
theorem W6(k k':IntKind)(n:Int):FW k (.int k' n)=some (.int k (k.wrap n)):=rfl
def B2:DV→Option DV|.str s=>some (.str s)|_=>none
theorem B1(s:List UInt8):B2 (.str s)=some (.str s):=rfl
def tW(off:Nat):DV→Option DV
 | .ptr id sz idx o=>some (.ptr id sz idx (o+off))
 | .iptr l cs o=>some (.iptr l cs (o+off))
 | _=>none
theorem Hj(off id sz idx o:Nat):tW off (.ptr id sz idx o)=some (.ptr id sz idx (o+off)):=rfl
theorem Dj(off:Nat)(l:Bool)(cs:List DV)(o:Nat):tW off (.iptr l cs o)=some (.iptr l cs (o+off)):=rfl
def Hi(off:Nat)(n:Option Nat):DV→Option DV|.agg cs=>dB n cs off|_=>none
theorem Zm(off:Nat)(n:Option Nat)(cs:List DV):Hi off n (.agg cs)=dB n cs off:=rfl
def cF(sz:Nat)(x i:DV):Option DV :=
 match asI i with
 | some i =>
  match x with
  | .sl id dT off len=>if sz=dT∧0≤i∧i<(len:Int)then some (.ptr id sz (off+i.toNat) 0)else none
  | .isl l dT xs=>if sz=dT∧0≤i then(match xs[i.toNat]? with|some e=>some (.iptr l (aF sz e) 0)|none=>none)else none
  | _=>none
 | none=>none
def sG(len esz:Nat)(x i:DV):Option DV :=
 match asI i with
 | some i =>
  if 0≤i∧i<(len:Int)then
   match x with
   | .ptr id sz idx o=>some (.ptr id sz idx (o+i.toNat*esz))
   | .iptr l cs o=>some (.iptr l cs (o+i.toNat*esz))
   | _=>none
  else none
 | none=>none
def Yv(len esz:Nat)(n:Option Nat)(x i:DV):Option DV :=
 match asI i,x with
 | some i,.agg cs=>if 0≤i∧i<(len:Int)then dB n cs (i.toNat*esz)else none
 | _,_=>none
def pN(x i:DV):Option DV :=
 match asI i,x with
 | some i,.str s=>if 0≤i then(match s[i.toNat]? with|some b=>some (.int .u8 b.toNat)|none=>none)else none
 | _,_=>none
theorem Jl(s:List UInt8)(k:IntKind)(i:Nat){b:UInt8}(hb:s[i]?=some b):pN (.str s) (.int k (i:Int))=some (.int .u8 b.toNat):=by
 simp[pN,asI,hb]
def dG(o:Option DV)(dflt lim:Nat):Option Nat :=
 match o with
 | none=>some dflt
 | some x=>match asI x with
  | some n=>if 0≤n∧n≤(lim:Int)then some n.toNat else none
  | none=>none
theorem Hx(env:Env)(o:Option Opd)(d l:Nat):bound env o d l=dG (o.map (Opd.eval env)) d l:=by
 cases o<;>rfl
theorem Cy(d l:Nat):dG none d l=some d:=rfl
theorem uB(k:IntKind)(n:Int)(d l:Nat)(h0:0≤n)(h1:n≤(l:Int)):dG (some (.int k n)) d l=some n.toNat:=by
 simp[dG,asI,h0,h1]
def rV(x:DV)(lo hi:Option DV):Option DV :=
 match x with
 | .str s=>match dG hi s.length s.length with
  | some b=>match dG lo 0 b with
   | some a=>some (.str ((s.drop a).take (b-a)))
   | none=>none
  | none=>none
 | _=>none
def jJ(h:aA)(sz:Nat)(x:DV)(lo hi:Option DV):Option DV :=
 match x with
 | .nsl=>match dG hi 0 0 with
  | some b=>match dG lo 0 b with
   | some _=>some .nsl
   | none=>none
  | none=>none
 | .isl l dT xs=>if sz=dT∨xs=[]then match dG hi xs.length xs.length with
   | some b=>match dG lo 0 b with
    | some a=>some (.isl l sz ((xs.drop a).take (b-a)))
    | none=>none
   | none=>none
  else none
 | .sl id dT off len=>match h.get id with
  | some (.arr _ kE xs _)=>if sz=dT∧sz=kE∧off+len≤xs.length then match dG hi len (xs.length-off)with
    | some b=>match dG lo 0 b with
     | some a=>some (.sl id sz (off+a) (b-a))
     | none=>none
    | none=>none
   else none
  | _=>none
 | _=>none
def lenV(h:aA)(k:Nat):DV→Option DV
 | .str s=>if k=0 then some (.int .i64 s.length)else none
 | .nsl=>if k=1 then some (.int .i64 0)else none
 | .sl _ _ _ len=>if k=1 then some (.int .i64 len)else none
 | .isl _ _ xs=>if k=1 then some (.int .i64 xs.length)else none
 | .nmap=>if k=2 then some (.int .i64 0)else none
 | .map id=>match h.get id with|some (.mp es)=>if k=2 then some (.int .i64 es.length)else none|_=>none
 | _=>none
theorem EC(h:aA)(s:List UInt8):lenV h 0 (.str s)=some (.int .i64 s.length):=rfl
theorem ED(h:aA):lenV h 1 .nsl=some (.int .i64 0):=rfl
theorem JT(h:aA)(id sz off len:Nat):lenV h 1 (.sl id sz off len)=some (.int .i64 len):=rfl
theorem EF(h:aA)(t:Bool)(sz:Nat)(xs:List DV):lenV h 1 (.isl t sz xs)=some (.int .i64 xs.length):=rfl
def Pm(h:aA)(ety sz bytes:Nat)(s:DV):Option (List DV)→Option (DV×aA)
 | some ys=>bF h ety sz bytes s ys
 | none=>none
theorem Pl(h:aA)(ety sz bytes:Nat)(s:DV)(ys:List DV):Pm h ety sz bytes s (some ys)=bF h ety sz bytes s ys:=rfl
def FT(h:aA)(sz:Nat)(d:DV):Option (List DV)→Option (DV×aA)
 | some ys=>vO h sz d ys
 | none=>none
theorem A4(h:aA)(sz:Nat)(d:DV)(ys:List DV):FT h sz d (some ys)=vO h sz d ys:=rfl
def Nv(mx:Bool):DV→DV→Option DV
 | .int k a,.int _ b=>some (.int k (if mx then(if a<b then b else a)else(if b<a then b else a)))
 | _,_=>none
theorem Ss(mx:Bool)(k k':IntKind)(a b:Int):Nv mx (.int k a) (.int k' b)=some (.int k (if mx then(if a<b then b else a)else(if b<a then b else a))):=rfl
def Ad(i:Nat):DV→Option DV|.tup vs=>vs[i]?|_=>none
theorem Oq(i:Nat)(vs:List DV):Ad i (.tup vs)=vs[i]?:=rfl
def Ax:Option aA→Option (DV×aA)
 | some h=>some (.tup [],h)
 | none=>none
theorem Qm(h:aA):Ax (some h)=some (.tup [],h):=rfl
def PT(h:aA)(ety sz:Nat)(x:DV):Option (DV×aA):=if aU sz x then some (.ptr h.n sz 0 0,h.push (.arr ety sz [x] (some 1)))else none
theorem LP{h:aA}{ety sz:Nat}{x:DV}(hs:aU sz x=true):PT h ety sz x=some (.ptr h.n sz 0 0,h.push (.arr ety sz [x] (some 1))):=if_pos hs
def PX(h:aA):Option (List DV)→Option (DV×aA)
 | some cs=>some (.agg cs,h)
 | none=>none
theorem Y8(h:aA)(cs:List DV):PX h (some cs)=some (.agg cs,h):=rfl
def Eu(h:aA)(ety sz len:Nat):Option (List DV)→Option (DV×aA)
 | some xs=>some (.sl h.n sz 0 len,h.push (.arr ety sz xs (some len)))
 | none=>none
theorem Ix(h:aA)(ety sz len:Nat)(xs:List DV):Eu h ety sz len (some xs)=some (.sl h.n sz 0 len,h.push (.arr ety sz xs (some len))):=rfl
section
variable (h:aA) (env:Env)
theorem HZ(x:Opd):aC h env (.move x)=some (x.eval env,h):=rfl
theorem D2(c a b:Opd):aC h env (.pick c a b)=dE h (CX (c.eval env) (a.eval env) (b.eval env)):=by simp only[aC];cases c.eval env<;>rfl
theorem BJ(ety sz:Nat)(z:DV):aC h env (.alloc ety sz z)=some (.ptr h.n sz 0 0,h.push (.arr ety sz [z] (some 1))):=rfl
theorem NR(ety sz:Nat)(x:Opd):aC h env (.box ety sz x)=PT h ety sz (x.eval env):=rfl
theorem Qv(zero:List DV)(parts:List (Nat×Nat×Opd)):aC h env (.build zero parts)=PX h (fT zero (parts.map fun p=>(p.1,p.2.1,p.2.2.eval env))):=by
 simp only[aC];cases fT zero (parts.map fun p=>(p.1,p.2.1,p.2.2.eval env))<;>rfl
theorem xA(ety sz:Nat)(z:DV)(len:Nat)(parts:List (Nat×Opd)):aC h env (.buildSlice ety sz z len parts)=Eu h ety sz len (dF sz (List.replicate len z) (parts.map fun p=>(p.1,p.2.eval env))):=by
 simp only[aC];cases dF sz (List.replicate len z) (parts.map fun p=>(p.1,p.2.eval env))<;>rfl
theorem D3(n:Option Nat)(a:Opd):aC h env (.load n a)=dE h (kB h n (a.eval env)):=by simp only[aC];cases kB h n (a.eval env)<;>rfl
theorem Qr(n:Nat)(a x:Opd):aC h env (.store n a x)=Ax (kX h n (a.eval env) (x.eval env)):=by simp only[aC];cases kX h n (a.eval env) (x.eval env)<;>rfl
theorem Cb(x:Opd):aC h env (.nilCheck x)=dE h (wK (x.eval env)):=by simp only[aC];cases x.eval env<;>rfl
theorem Qx(op:BinOp)(x y:Opd):aC h env (.arith op x y)=dE h (bY op (x.eval env) (y.eval env)):=by simp only[aC];cases bY op (x.eval env) (y.eval env)<;>rfl
theorem BG(neq:Bool)(x y:Opd):aC h env (.eqb neq x y)=dE h (PJ neq (x.eval env) (y.eval env)):=by simp only[aC];cases x.eval env<;>cases y.eval env<;>rfl
theorem BH(neq:Bool)(ks:List Nat)(x y:Opd):aC h env (.eqa neq ks x y)=dE h (Cp neq (fO (.agg ks) (x.eval env) (y.eval env))):=by simp only[aC];cases fO (.agg ks) (x.eval env) (y.eval env)<;>rfl
theorem BF(k:Nat)(neq:Bool)(x y:Opd):aC h env (.eqn k neq x y)=dE h (Cp neq (sD k (x.eval env) (y.eval env))):=by simp only[aC];cases sD k (x.eval env) (y.eval env)<;>rfl
theorem LY(op:UnOp)(x:Opd):aC h env (.un op x)=dE h (unD op (x.eval env)):=by simp only[aC];cases unD op (x.eval env)<;>rfl
theorem D5(k:IntKind)(x:Opd):aC h env (.conv k x)=dE h (FW k (x.eval env)):=by simp only[aC];cases x.eval env<;>rfl
theorem Qw(x:Opd):aC h env (.asStr x)=dE h (B2 (x.eval env)):=by simp only[aC];cases x.eval env<;>rfl
theorem yY(off:Nat)(x:Opd):aC h env (.fieldAddr off x)=dE h (tW off (x.eval env)):=by simp only[aC];cases x.eval env<;>rfl
theorem Qu(off:Nat)(n:Option Nat)(x:Opd):aC h env (.field off n x)=dE h (Hi off n (x.eval env)):=by
 simp only[aC]
 cases x.eval env with
 | agg cs=>simp only[Hi];cases dB n cs off<;>rfl
 | _=>rfl
theorem yX(sz:Nat)(x i:Opd):aC h env (.indexAddr sz x i)=dE h (cF sz (x.eval env) (i.eval env)):=by
 simp only[aC,cF]
 cases asI (i.eval env)with
 | none=>rfl
 | some n =>
  simp only
  cases x.eval env with
  | sl id dT off len=>simp only;split<;>rfl
  | isl l dT xs =>
   simp only
   split
   ·cases xs[n.toNat]?<;>rfl
   ·rfl
  | _=>rfl
theorem Cd(len esz:Nat)(x i:Opd):aC h env (.indexArr len esz x i)=dE h (sG len esz (x.eval env) (i.eval env)):=by
 simp only[aC,sG]
 cases asI (i.eval env)with
 | none=>rfl
 | some n =>
  simp only
  split
  ·cases x.eval env<;>rfl
  ·rfl
theorem Qt(len esz:Nat)(n:Option Nat)(x i:Opd):aC h env (.index len esz n x i)=dE h (Yv len esz n (x.eval env) (i.eval env)):=by
 simp only[aC,Yv]
 cases asI (i.eval env)with
 | none=>rfl
 | some m =>
  cases x.eval env with
  | agg cs =>
   simp only
   split
   ·cases dB n cs (m.toNat*esz)<;>rfl
   ·rfl
  | _=>rfl
theorem Cc(x i:Opd):aC h env (.indexStr x i)=dE h (pN (x.eval env) (i.eval env)):=by
 simp only[aC,pN]
 cases asI (i.eval env)with
 | none=>rfl
 | some m =>
  cases x.eval env with
  | str s =>
   simp only
   split
   ·cases s[m.toNat]?<;>rfl
   ·rfl
  | _=>rfl
theorem Ca(x:Opd)(lo hi:Option Opd):aC h env (.sliceStr x lo hi)=dE h (rV (x.eval env) (lo.map (Opd.eval env)) (hi.map (Opd.eval env))):=by
 simp only[aC,rV,Hx]
 cases x.eval env with
 | str s =>
  simp only
  cases dG (hi.map (Opd.eval env)) s.length s.length with
  | none=>rfl
  | some b=>simp only;cases dG (lo.map (Opd.eval env)) 0 b<;>rfl
 | _=>rfl
theorem Eo(sz:Nat)(x:Opd)(lo hi:Option Opd):aC h env (.sliceSl sz x lo hi)=dE h (jJ h sz (x.eval env) (lo.map (Opd.eval env)) (hi.map (Opd.eval env))):=by
 simp only[aC,jJ,Hx]
 cases x.eval env with
 | nsl =>
  simp only
  cases dG (hi.map (Opd.eval env)) 0 0 with
  | none=>rfl
  | some b=>simp only;cases dG (lo.map (Opd.eval env)) 0 b<;>rfl
 | isl l dT xs =>
  simp only
  split
  ·cases dG (hi.map (Opd.eval env)) xs.length xs.length with
   | none=>rfl
   | some b=>simp only;cases dG (lo.map (Opd.eval env)) 0 b<;>rfl
  ·rfl
 | sl id dT off len =>
  simp only
  cases h.get id with
  | none=>rfl
  | some o =>
   cases o with
   | arr e s xs c =>
    simp only
    split
    ·cases dG (hi.map (Opd.eval env)) len (xs.length-off)with
     | none=>rfl
     | some b=>simp only;cases dG (lo.map (Opd.eval env)) 0 b<;>rfl
    ·rfl
   | _=>rfl
 | _=>rfl
theorem BE(k:Nat)(x:Opd):aC h env (.len k x)=dE h (lenV h k (x.eval env)):=by
 simp only[aC,lenV]
 cases x.eval env with
 | map id =>
  simp only
  cases h.get id with
  | none=>rfl
  | some o=>cases o<;>simp only<;>first|rfl|(split<;>rfl)
 | _=>first|rfl|(simp only;split<;>rfl)
theorem Kl(ety sz bytes:Nat)(s x:Opd):aC h env (.append ety sz bytes s x)=Pm h ety sz bytes (s.eval env) (elems h sz (x.eval env)):=by
 simp only[aC];cases elems h sz (x.eval env)<;>rfl
theorem D4(sz:Nat)(d s:Opd):aC h env (.copy sz d s)=FT h sz (d.eval env) (elems h sz (s.eval env)):=by
 simp only[aC];cases elems h sz (s.eval env)<;>rfl
theorem Kj(mx:Bool)(x y:Opd):aC h env (.minmax mx x y)=dE h (Nv mx (x.eval env) (y.eval env)):=by
 simp only[aC];cases x.eval env<;>cases y.eval env<;>rfl
theorem Qs(f:FuncId)(cap:List Opd):aC h env (.makeFunc f cap)=some (.func f (cap.map (Opd.eval env)),h):=rfl
theorem Wp:aC h env .makeMap=some (.map h.n,h.push (.mp [])):=rfl
theorem Ep(x:Opd)(i:Nat):aC h env (.extract x i)=dE h (Ad i (x.eval env)):=by
 simp only[aC]
 cases x.eval env with
 | tup vs=>simp only[Ad];cases vs[i]?<;>rfl
 | _=>rfl
theorem Mo(t:TypeId)(x:Opd):aC h env (.makeIface t x)=some (.iface t (x.eval env),h):=rfl
end
def vL(h:aA):DV→Option (List (DV×DV))
 | .nmap=>some []
 | .map id=>match h.get id with|some (.mp es)=>some es|_=>none
 | _=>none
def nF(q:EqT)(z:DV)(ok:Bool)(k:DV):Option (List (DV×DV))→Option DV
 | some es=>if(fO q k k).isSome then
   match lY q k es with
   | some (some (_,v))=>some (if ok then .tup [v,.bool true]else v)
   | some none=>some (if ok then .tup [z,.bool false]else z)
   | none=>none
  else none
 | none=>none
theorem Kk(h:aA)(env:Env)(q:EqT)(z:DV)(ok:Bool)(m k:Opd):aC h env (.lookup q z ok m k)=dE h (nF q z ok (k.eval env) (vL h (m.eval env))):=by
 have key:∀r:Option (List (DV×DV)),(match r with
   | some es=>if(fO q (k.eval env) (k.eval env)).isSome then
     match lY q (k.eval env) es with
     | some (some (_,v))=>some (if ok then DV.tup [v,.bool true]else v,h)
     | some none=>some (if ok then DV.tup [z,.bool false]else z,h)
     | none=>none
    else none
   | none=>none)=dE h (nF q z ok (k.eval env) r):=by
  intro r
  cases r with
  | none=>rfl
  | some es =>
   simp only[nF]
   split
   ·cases lY q (k.eval env) es with
    | none=>rfl
    | some x=>cases x<;>rfl
   ·rfl
 simp only[aC]
 rw[←key]
 cases m.eval env with
 | map id=>simp only[vL];cases h.get id with
  | none=>rfl
  | some o=>cases o<;>rfl
 | _=>rfl
def yR(h:aA)(q:EqT)(m k x:DV):Option aA :=
 match m with
 | .map id=>match h.get id with
  | some (.mp es) =>
   if h.lim≤id∧(fO q k k).isSome=true then
    match lY q k es with
    | some (some (i,_))=>some (h.set id (.mp (es.set i (k,x))))
    | some none=>some (h.set id (.mp (es++[(k,x)])))
    | none=>none
   else none
  | _=>none
 | _=>none
theorem yW(h:aA)(env:Env)(q:EqT)(m k x:Opd):aC h env (.mapUpdate q m k x)=Ax (yR h q (m.eval env) (k.eval env) (x.eval env)):=by
 simp only[aC,yR]
 cases m.eval env with
 | map id =>
  simp only
  cases h.get id with
  | none=>rfl
  | some o =>
   cases o with
   | mp es =>
    simp only
    split
    ·cases lY q (k.eval env) es with
     | none=>rfl
     | some y=>cases y with
      | none=>rfl
      | some p=>rfl
    ·rfl
   | _=>rfl
 | _=>rfl
section
variable (c:Nat→List DV→aA→Option (DV×aA)) (h:aA) (env:Env)
end
theorem bC{n:Int}(h1:-9223372036854775808≤n)(h2:n≤9223372036854775807):IntKind.i64.wrap n=n:=by
 exact Go.IntWalk.i64_in n ⟨h1,h2⟩
end Go.Dm
/-
Part 2 of "De": rows of data that are plain lists; rows that a call makes itself; what calls answer.
-/
namespace Go.Dm
def eL{α:Type}(t:Bool)(sz:Nat)(e:α→DV)(xs:List α):DV:=mkIsl t sz (xs.map e)
section eL
variable {α:Type} (t:Bool) (sz:Nat) (e:α→DV) (xs:List α)
theorem mZ:eL t sz e []=.isl false 0 []:=rfl
theorem tY(x:α):eL t sz e (x::xs)=.isl t sz (e x::xs.map e):=rfl
theorem MR{xs:List α}(h:xs≠[]):eL t sz e xs=.isl t sz (xs.map e):=by
 cases xs with
 | nil=>exact absurd rfl h
 | cons x xs=>rfl
theorem JU(h:aA):lenV h 1 (eL t sz e xs)=some (.int .i64 xs.length):=by cases xs<;>simp[mZ,tY,lenV]
theorem By:aU 1 (eL t sz e xs)=true:=by cases xs<;>rfl
theorem Lj:aF 1 (eL t sz e xs)=[eL t sz e xs]:=by cases xs<;>rfl
theorem jS(h:aA):elems h sz (eL t sz e xs)=some (xs.map e):=by cases xs<;>simp[mZ,tY,elems]
theorem Jm{xs:List α}(k:IntKind){i:Nat}{a:α}(ha:xs[i]?=some a):cF sz (eL t sz e xs) (.int k (i:Int))=some (.iptr t (aF sz (e a)) 0):=by
 have cY:xs≠[]:=by intro h0;subst h0;simp at ha
 rw[MR t sz e cY]
 simp[cF,asI,ha]
theorem Gj{xs:List α}(k:IntKind){i:Int}{a:α}(h0:0≤i)(ha:xs[i.toNat]?=some a):cF sz (eL t sz e xs) (.int k i)=some (.iptr t (aF sz (e a)) 0):=by
 obtain⟨n,rfl⟩:=Int.eq_ofNat_of_zero_le h0
 exact Jm t sz e k ha
end eL
def iQ(k:Nat)(d:DV):Prop:=∀tag h n,k≤n→resolve tag h n d=some d
def Unl(k:Nat)(d:DV):Prop:=∀n,k≤n→bE n d=true
theorem iQ.mono{k m:Nat}{d:DV}(h:iQ k d)(hk:k≤m):iQ m d:=fun t hp n hn=>h t hp n (Nat.le_trans hk hn)
theorem Unl.mono{k m:Nat}{d:DV}(h:Unl k d)(hk:k≤m):Unl m d:=fun n hn=>h n (Nat.le_trans hk hn)
theorem cL{k n:Nat}(h:k+1≤n):∃ m,n=m+1∧k≤m:=⟨n-1,by omega,by omega⟩
theorem hZ(k:IntKind)(n:Int):iQ 1 (.int k n):=fun t h m hm=>by obtain⟨q,rfl,_⟩:=cL hm;rfl
theorem Bo(b:Bool):iQ 1 (.bool b):=fun t h m hm=>by obtain⟨q,rfl,_⟩:=cL hm;rfl
theorem Hc(s:List UInt8):iQ 1 (.str s):=fun t h m hm=>by obtain⟨q,rfl,_⟩:=cL hm;rfl
theorem T9(l:Bool)(cs:List DV)(o:Nat):iQ 1 (.iptr l cs o):=fun t h m hm=>by obtain⟨q,rfl,_⟩:=cL hm;rfl
theorem nM{α:Type}(t:Bool)(sz:Nat)(e:α→DV)(xs:List α):iQ 1 (eL t sz e xs):=fun tg h m hm=>by
 obtain⟨q,rfl,_⟩:=cL hm
 cases xs<;>rfl
theorem pM{f:DV→Option DV}:∀{cs:List DV},(∀x∈cs,f x=some x)→cs.mapM f=some cs:=by
 intro cs
 induction cs with
 | nil=>intro _;rfl
 | cons x r ih =>
  intro h
  rw[List.mapM_cons,h x (List.mem_cons_self ..),ih (fun y hy=>h y (List.mem_cons_of_mem _ hy))];rfl
theorem Tr{k:Nat}{cs:List DV}(h:∀x∈cs,iQ k x):iQ (k+1) (.agg cs):=fun t hp m hm=>by
 obtain⟨q,rfl,hq⟩:=cL hm
 have:cs.mapM (resolve t hp q)=some cs:=pM fun x hx=>h x hx t hp q hq
 simp only[resolve,this]
theorem U0{k:Nat}{f:Nat}{cs:List DV}(h:∀x∈cs,iQ k x):iQ (k+1) (.func f cs):=fun t hp m hm=>by
 obtain⟨q,rfl,hq⟩:=cL hm
 have:cs.mapM (resolve t hp q)=some cs:=pM fun x hx=>h x hx t hp q hq
 simp only[resolve,this]
theorem oY(k:IntKind)(n:Int):Unl 1 (.int k n):=fun m hm=>by obtain⟨q,rfl,_⟩:=cL hm;rfl
theorem Ef(b:Bool):Unl 1 (.bool b):=fun m hm=>by obtain⟨q,rfl,_⟩:=cL hm;rfl
theorem yS(s:List UInt8):Unl 1 (.str s):=fun m hm=>by obtain⟨q,rfl,_⟩:=cL hm;rfl
theorem B9{k:Nat}{cs:List DV}(h:∀x∈cs,Unl k x):Unl (k+1) (.agg cs):=fun m hm=>by
 obtain⟨q,rfl,hq⟩:=cL hm
 simp only[bE,List.all_eq_true]
 exact fun x hx=>h x hx q hq
theorem jH{α:Type}{k sz:Nat}{e:α→DV}{xs:List α}(h:∀x∈xs,Unl k (e x)):Unl (k+1) (eL false sz e xs):=fun m hm=>by
 obtain⟨q,rfl,hq⟩:=cL hm
 cases xs with
 | nil=>rfl
 | cons x r =>
  simp only[tY,bE,Bool.not_false,Bool.true_and,List.all_eq_true]
  intro y hy
  rw[←List.map_cons (f:=e)]at hy
  obtain⟨z,hz,rfl⟩:=List.mem_map.1 hy
  exact h z hz q hq
class Plain {α:Type} (e:α→DV):Prop where
 flat:∀x,iQ 20 (e x)
 unl:∀x,Unl 20 (e x)
inductive Own(lo:Nat)(h:aA)(v:DV)(ety sz:Nat)(xs:List DV):Prop where
 | nil (hv:v=.nsl) (hx:xs=[])
 | arr (id:Nat) (hv:v=.sl id sz 0 xs.length) (hg:h.get id=some (.arr ety sz xs none)) (aS:h.lim≤id) (dM:lo≤id)
structure Ext(lo:Nat)(h h':aA):Prop where
 le:lo≤h'.n
 lim:h'.lim=h.lim
 get:∀id,id<lo→h'.get id=h.get id
 wf:WF h'
theorem Ext.refl{lo:Nat}{h:aA}(cM:lo≤h.n)(w:WF h):Ext lo h h:=⟨cM,rfl,fun _ _=>rfl,w⟩
theorem Ext.trans{lo:Nat}{a b c:aA}(x:Ext lo a b)(y:Ext lo b c):Ext lo a c:=⟨y.le,y.lim.trans x.lim,fun id eK=>(y.get id eK).trans (x.get id eK),y.wf⟩
theorem Ext.push{lo:Nat}{h h':aA}{o:DO}(x:Ext lo h h'):Ext lo h (h'.push o) :=
 ⟨Nat.le_succ_of_le x.le,x.lim,fun id eK=>by rw[cD,if_neg (by have:=x.le;omega)];exact x.get id eK,x.wf.push⟩
theorem Ext.set{lo:Nat}{h h':aA}{id:Nat}{o:DO}(x:Ext lo h h')(eK:lo≤id)(aY:id<h'.n):Ext lo h (h'.set id o) :=
 ⟨x.le,x.lim,fun k hk=>by rw[bW x.wf aY,if_neg (by omega)];exact x.get k hk,x.wf.set⟩
theorem Own.push{lo:Nat}{h:aA}{o:DO}{v:DV}{ety sz:Nat}{xs:List DV}(w:Own lo h v ety sz xs):Own lo (h.push o) v ety sz xs:=by
 cases w with
 | nil hv hx=>exact .nil hv hx
 | arr id hv hg aS dM =>
  refine .arr id hv ?_ aS dM
  rw[cD,if_neg (by have:=aI hg;omega)];exact hg
theorem Own.start(lo:Nat)(h:aA)(ety sz:Nat):Own lo h .nsl ety sz []:=.nil rfl rfl
theorem Own.append{lo:Nat}{h:aA}{v:DV}{ety sz bytes:Nat}{xs ys:List DV}{A:Option (DV×aA)}(w:Own lo h v ety sz xs)(wf:WF h)(dM:lo≤h.n)(aS:h.lim≤h.n)(hA:bF h ety sz bytes v ys=A)
  (hb:(xs.length+ys.length)*bytes≤140737488355328) (As:1≤bytes):∃ v' h',A=some (v',h')∧Own lo h' v' ety sz (xs++ys)∧Ext lo h h':=by
 have hm:xs.length+ys.length≤140737488355328:=Nat.le_trans (Nat.le_mul_of_pos_right _ As) hb
 by_cases hy:ys=[]
 ·subst hy
  refine⟨v,h,?_,by simpa using w,.refl dM wf⟩
  rw[←hA]
  cases w with
  | nil hv hx=>subst hv;rfl
  | arr id hv hg _ _=>subst hv;rfl
 ·have Nx:ys.isEmpty=false:=by cases ys<;>simp_all
  have hyl:0<ys.length:=List.length_pos_iff.2 hy
  cases w with
  | nil hv hx =>
   subst hv;subst hx
   simp only[List.length_nil,Nat.zero_add]at hb hm
   refine⟨.sl h.n sz 0 ys.length,h.push (.arr ety sz ys none),?_,.arr h.n rfl bQ (by exact aS) dM,(Ext.refl dM wf).push⟩
   rw[←hA]
   simp only[bF,Nx]
   rw[if_neg (by simp),if_pos ⟨hb,by omega⟩]
  | arr id hv hg hl hi =>
   subst hv
   have aY:=aI hg
   have e2:(h.set id DO.dead).n=h.n:=rfl
   refine⟨.sl h.n sz 0 (xs.length+ys.length),(h.set id .dead).push (.arr ety sz (xs++ys) none),?_,.arr h.n (by simp) ?_ (by exact aS) dM,(((Ext.refl dM wf).set hi aY).push)⟩
   ·rw[←hA]
    simp only[bF,Nx,hg]
    simp only[Bool.false_eq_true,if_false,true_and,Nat.zero_add,Nat.le_refl]
    rw[if_pos ⟨hb,by omega⟩,if_neg (by omega),if_pos hl]
    simp
   ·exact bQ
end Go.Dm
/-
Part 3 of "De": what own rows show; what a pure call hands back; the program's data by plain structures.
-/
namespace Go.Dm
section Own
variable {lo:Nat} {h:aA} {v:DV} {ety sz:Nat} {xs:List DV}
theorem Own.lenV(w:Own lo h v ety sz xs):lenV h 1 v=some (.int .i64 xs.length):=by
 cases w with
 | nil hv hx=>subst hv;subst hx;rfl
 | arr id hv hg hl hi=>subst hv;rfl
theorem Own.elems(w:Own lo h v ety sz xs):elems h sz v=some xs:=by
 cases w with
 | nil hv hx=>subst hv;subst hx;rfl
 | arr id hv hg hl hi=>subst hv;simp[Dm.elems,hg]
theorem Own.ext{lo:Nat}{h h':aA}(w:Own lo h v ety sz xs)(x:Ext h.n h h'):Own lo h' v ety sz xs:=by
 cases w with
 | nil hv hx=>exact .nil hv hx
 | arr id hv hg hl hi=>exact .arr id hv ((x.get id (aI hg)).trans hg) (by rw[x.lim];exact hl) hi
theorem Own.resolve{α:Type}{e:α→DV}{ys:List α}{k n:Nat}(tag:Bool)(w:Own lo h v ety sz (ys.map e))(hf:∀y∈ys,iQ k (e y))(hn:k+1≤n):resolve tag h n v=some (eL tag sz e ys):=by
 obtain⟨m,rfl,hm⟩:=cL hn
 cases w with
 | nil hv hx =>
  subst hv
  cases ys with
  | nil=>rfl
  | cons y r=>simp at hx
 | arr id hv hg hl hi =>
  subst hv
  have zU:(ys.map e).mapM (Dm.resolve tag h m)=some (ys.map e):=pM fun x hx=>by
   obtain⟨y,hy,rfl⟩:=List.mem_map.1 hx
   exact hf y hy tag h m hm
  simp only[Dm.resolve,hg,true_and,Nat.zero_add,Nat.le_refl,if_true,List.drop_zero,List.take_length,zU]
  rfl
end Own
theorem Se{v d:DV}{h:aA}{k:Nat}(hr:resolve false h cG v=some d)(hu:Unl k d)(hk:k≤200):gV (some (v,h))=some d:=by
 simp only[gV,hr,hu cG hk,if_true]
theorem Own.out{lo:Nat}{h:aA}{v:DV}{ety sz:Nat}{α:Type}{e:α→DV}{ys:List α}{k:Nat}(w:Own lo h v ety sz (ys.map e))(hf:∀y∈ys,iQ k (e y))(hu:∀y∈ys,Unl k (e y))(hk:k≤198) :
  gV (some (v,h))=some (eL false sz e ys) :=
 Se (k:=k+1) (w.resolve false hf (by show k+1≤200;omega)) (jH hu) (by omega)
theorem Tt{D:bV}{f:Nat}{df:aV}(hh:D.hook f=none)(hf:D.fn f=some df)(args:List DV)(h:aA):fc D f args h=cX (ev D) df args h:=by
 rw[Tu,hh,hf]
theorem W2{α:Type}{xs:List α}{i:Nat}{a:α}{r:List α}(h:xs.drop i=a::r):i<xs.length∧xs[i]?=some a∧xs.drop (i+1)=r:=by
 have h1:i<xs.length:=by
  by_cases aY:i<xs.length
  ·exact aY
  ·rw[List.drop_eq_nil_of_le (by omega)]at h;cases h
 rw[List.drop_eq_getElem_cons h1]at h
 injection h with h2 h3
 exact⟨h1,by rw[List.getElem?_eq_getElem h1,h2],h3⟩
theorem iI{α:Type}{xs:List α}{i:Nat}{a:α}{r:List α}(h:xs.drop i=a::r):∃ hi:i<xs.length,xs[i]=a∧xs.drop (i+1)=r:=by
 obtain⟨h1,h2,h3⟩:=W2 h
 exact⟨h1,by rw[List.getElem?_eq_getElem h1]at h2;injection h2,h3⟩
theorem fY{α:Type}{xs:List α}{i:Nat}(h:xs.drop i=[]):xs.length≤i:=List.drop_eq_nil_iff.1 h
structure ID where
 bS:Int
 seq:Int
 deriving DecidableEq,Inhabited
structure Val where
 isText:Bool
 n:Int
 text:List UInt8
 deriving DecidableEq,Inhabited
structure Att where
 name:List UInt8
 val:Val
 deriving DecidableEq,Inhabited
structure iB where
 name:List UInt8
 kind:Int
 lo:Int
 hi:Int
 text:List UInt8
 deriving DecidableEq,Inhabited
abbrev aZ:=List iB
structure bZ where
 id:ID
 pred:aZ
 dC:Int
 deriving DecidableEq,Inhabited
structure aX where
 tree:ID
 sub:ID
 pred:aZ
 jW:Int
 up:Bool
 deriving DecidableEq,Inhabited
structure gT where
 id:ID
 pred:aZ
 deriving DecidableEq,Inhabited
structure aG where
 me:Int
 bJ:List Int
 aP:List bZ
 seen:List ID
 entries:List aX
 cW:List gT
 deriving DecidableEq,Inhabited
structure Msg where
 kind:Int
 tree:ID
 id:ID
 pred:aZ
 MU:List Att
 deriving DecidableEq,Inhabited
structure Out where
 to:Int
 m:Msg
 deriving DecidableEq,Inhabited
def fJ(n:Int):DV:=.int .i64 n
def Oy(s:List UInt8):DV:=.str s
def Ox(v:Val):DV:=.agg [.bool v.isText,.int .i64 v.n,.str v.text]
def RO(a:Att):DV:=.agg [.str a.name,.bool a.val.isText,.int .i64 a.val.n,.str a.val.text]
def aW(c:iB):DV:=.agg [.str c.name,.int .i64 c.kind,.int .i64 c.lo,.int .i64 c.hi,.str c.text]
def bO(p:aZ):DV:=eL false 5 aW p
def eID(x:ID):DV:=.agg [.int .i64 x.bS,.int .i64 x.seq]
def aH(a:bZ):DV:=.agg [.int .i64 a.id.bS,.int .i64 a.id.seq,bO a.pred,.int .i64 a.dC]
def aD(e:aX):DV:=.agg [.int .i64 e.tree.bS,.int .i64 e.tree.seq,.int .i64 e.sub.bS,.int .i64 e.sub.seq,bO e.pred,.int .i64 e.jW,.bool e.up]
def bL(o:gT):DV:=.agg [.int .i64 o.id.bS,.int .i64 o.id.seq,bO o.pred]
structure gQ where
 bJ:Bool
 aP:Bool
 seen:Bool
 entries:Bool
 cW:Bool
def gQ.none:gQ:=⟨false,false,false,false,false⟩
def aQ(t:gQ)(b:aG):DV:=.agg [.int .i64 b.me,eL t.bJ 1 fJ b.bJ,eL t.aP 4 aH b.aP,eL t.seen 2 eID b.seen,eL t.entries 7 aD b.entries,eL t.cW 3 bL b.cW]
def PL(m:Msg):DV:=.agg [.int .i64 m.kind,.int .i64 m.tree.bS,.int .i64 m.tree.seq,.int .i64 m.id.bS,.int .i64 m.id.seq,bO m.pred,eL false 4 RO m.MU]
def jA(o:Out):DV:=.agg [.int .i64 o.to,.int .i64 o.m.kind,.int .i64 o.m.tree.bS,.int .i64 o.m.tree.seq,.int .i64 o.m.id.bS,.int .i64 o.m.id.seq,bO o.m.pred,eL false 4 RO o.m.MU]
theorem xT:Plain aW:=⟨fun c=>(Tr (k:=1) (by
  intro x hx;simp only[List.mem_cons,List.not_mem_nil,or_false]at hx
  rcases hx with rfl|rfl|rfl|rfl|rfl<;>first|exact hZ _ _|exact Hc _)).mono (by decide),fun c=>(B9 (k:=1) (by
  intro x hx;simp only[List.mem_cons,List.not_mem_nil,or_false]at hx
  rcases hx with rfl|rfl|rfl|rfl|rfl<;>first|exact oY _ _|exact yS _)).mono (by decide)⟩
theorem uM(p:aZ):Unl 21 (bO p):=jH fun x _=>xT.unl x
theorem Bn(p:aZ):iQ 1 (bO p):=nM false 5 aW p
end Go.Dm
/-
Part 4 of "De": the words by which 'simp' walks.
-/
namespace Go.Dm
theorem Sf(D:bV)(g:Opd)(args:List Opd)(env:Env)(h:aA):bH (fc D) (.call g args) env h=I8 D (args.map (Opd.eval env)) h (g.eval env):=Ya D h g args env
section
variable (c:Nat→List DV→aA→Option (DV×aA)) (h:aA) (env:Env)
theorem JH(x:Opd):bH c (.move x) env h=some (x.eval env,h):=rfl
theorem JG(x a b:Opd):bH c (.pick x a b) env h=dE h (CX (x.eval env) (a.eval env) (b.eval env)):=D2 ..
theorem DH(ety sz:Nat)(z:DV):bH c (.alloc ety sz z) env h=some (.ptr h.n sz 0 0,h.push (.arr ety sz [z] (some 1))):=rfl
theorem OG(ety sz:Nat)(x:Opd):bH c (.box ety sz x) env h=PT h ety sz (x.eval env):=rfl
theorem DE(zero:List DV)(parts:List (Nat×Nat×Opd)):bH c (.build zero parts) env h=PX h (fT zero (parts.map fun p=>(p.1,p.2.1,p.2.2.eval env))):=Qv ..
theorem Jh(ety sz:Nat)(z:DV)(len:Nat)(parts:List (Nat×Opd)):bH c (.buildSlice ety sz z len parts) env h=Eu h ety sz len (dF sz (List.replicate len z) (parts.map fun p=>(p.1,p.2.eval env))):=xA ..
theorem JI(n:Option Nat)(a:Opd):bH c (.load n a) env h=dE h (kB h n (a.eval env)):=D3 ..
theorem DB(n:Nat)(a x:Opd):bH c (.store n a x) env h=Ax (kX h n (a.eval env) (x.eval env)):=Qr ..
theorem Sh(x:Opd):bH c (.nilCheck x) env h=dE h (wK (x.eval env)):=Cb ..
theorem DG(op:BinOp)(x y:Opd):bH c (.arith op x y) env h=dE h (bY op (x.eval env) (y.eval env)):=Qx ..
theorem OD(neq:Bool)(x y:Opd):bH c (.eqb neq x y) env h=dE h (PJ neq (x.eval env) (y.eval env)):=BG ..
theorem OE(neq:Bool)(ks:List Nat)(x y:Opd):bH c (.eqa neq ks x y) env h=dE h (Cp neq (fO (.agg ks) (x.eval env) (y.eval env))):=BH ..
theorem OC(k:Nat)(neq:Bool)(x y:Opd):bH c (.eqn k neq x y) env h=dE h (Cp neq (sD k (x.eval env) (y.eval env))):=BF ..
theorem RG(op:UnOp)(x:Opd):bH c (.un op x) env h=dE h (unD op (x.eval env)):=LY ..
theorem JK(k:IntKind)(x:Opd):bH c (.conv k x) env h=dE h (FW k (x.eval env)):=D5 ..
theorem DF(x:Opd):bH c (.asStr x) env h=dE h (B2 (x.eval env)):=Qw ..
theorem Nn(off:Nat)(x:Opd):bH c (.fieldAddr off x) env h=dE h (tW off (x.eval env)):=yY ..
theorem DD(off:Nat)(n:Option Nat)(x:Opd):bH c (.field off n x) env h=dE h (Hi off n (x.eval env)):=Qu ..
theorem Nm(sz:Nat)(x i:Opd):bH c (.indexAddr sz x i) env h=dE h (cF sz (x.eval env) (i.eval env)):=yX ..
theorem Sk(len esz:Nat)(x i:Opd):bH c (.indexArr len esz x i) env h=dE h (sG len esz (x.eval env) (i.eval env)):=Cd ..
theorem DC(len esz:Nat)(n:Option Nat)(x i:Opd):bH c (.index len esz n x i) env h=dE h (Yv len esz n (x.eval env) (i.eval env)):=Qt ..
theorem Sj(x i:Opd):bH c (.indexStr x i) env h=dE h (pN (x.eval env) (i.eval env)):=Cc ..
theorem Sg(x:Opd)(lo hi:Option Opd):bH c (.sliceStr x lo hi) env h=dE h (rV (x.eval env) (lo.map (Opd.eval env)) (hi.map (Opd.eval env))):=Ca ..
theorem Yb(sz:Nat)(x:Opd)(lo hi:Option Opd):bH c (.sliceSl sz x lo hi) env h=dE h (jJ h sz (x.eval env) (lo.map (Opd.eval env)) (hi.map (Opd.eval env))):=Eo ..
theorem Fx(k:Nat)(x:Opd):bH c (.len k x) env h=dE h (lenV h k (x.eval env)):=BE ..
theorem R0(ety sz bytes:Nat)(s x:Opd):bH c (.append ety sz bytes s x) env h=Pm h ety sz bytes (s.eval env) (elems h sz (x.eval env)):=Kl ..
theorem JJ(sz:Nat)(d s:Opd):bH c (.copy sz d s) env h=FT h sz (d.eval env) (elems h sz (s.eval env)):=D4 ..
theorem Q7(mx:Bool)(x y:Opd):bH c (.minmax mx x y) env h=dE h (Nv mx (x.eval env) (y.eval env)):=Kj ..
theorem Si(f:FuncId)(cap:List Opd):bH c (.makeFunc f cap) env h=some (.func f (cap.map (Opd.eval env)),h):=rfl
theorem Yc:bH c .makeMap env h=some (.map h.n,h.push (.mp [])):=rfl
theorem Yd(x:Opd)(i:Nat):bH c (.extract x i) env h=dE h (Ad i (x.eval env)):=Ep ..
theorem Nl(t:TypeId)(x:Opd):bH c (.makeIface t x) env h=some (.iface t (x.eval env),h):=rfl
theorem Q8(q:EqT)(z:DV)(ok:Bool)(m k:Opd):bH c (.lookup q z ok m k) env h=dE h (nF q z ok (k.eval env) (vL h (m.eval env))):=Kk ..
theorem Nk(q:EqT)(m k x:Opd):bH c (.mapUpdate q m k x) env h=Ax (yR h q (m.eval env) (k.eval env) (x.eval env)):=yW ..
end
theorem HE(f:dK)(d i:Nat)(v:DV):upd f d v i=if i=d then v else f i:=rfl
theorem GB(args:List DV)(i:Nat):GC args i=args.getD i bN:=rfl
theorem P8(f:dK)(d:Nat)(v:DV):sA f (some d) v=upd f d v:=rfl
theorem P9(f:dK)(v:DV):sA f none v=f:=rfl
theorem RA(N:Nat)(f:dK)(i:Nat):rd N f i=if i<N then f i else .unk:=rfl
theorem Ym(h:aA)(n:Option Nat)(l:Bool)(cs:List DV)(off:Nat):kB h n (.iptr l cs off)=dB n cs off:=rfl
theorem RE(cs:List DV)(off:Nat):dB none cs off=cs[off]?:=rfl
theorem RD(n:Nat)(cs:List DV)(off:Nat):dB (some n) cs off=if off+n≤cs.length then some (.agg ((cs.drop off).take n))else none:=rfl
theorem Mm(n:Nat)(cs:List DV):aU n (.agg cs)=(cs.length == n):=rfl
theorem Ml(n:Nat)(k:IntKind)(m:Int):aU n (.int k m)=(n == 1):=rfl
theorem Iv(n:Nat)(b:Bool):aU n (.bool b)=(n == 1):=rfl
theorem Mg(n:Nat)(s:List UInt8):aU n (.str s)=(n == 1):=rfl
theorem Mh(n a b c d:Nat):aU n (.ptr a b c d)=(n == 1):=rfl
theorem Qp(n a b c d:Nat):aU n (.sl a b c d)=(n == 1):=rfl
theorem Mi(n:Nat):aU n .nsl=(n == 1):=rfl
theorem Mk(n:Nat)(t:Bool)(s:Nat)(xs:List DV):aU n (.isl t s xs)=(n == 1):=rfl
theorem Iu(n:Nat)(f:Nat)(cs:List DV):aU n (.func f cs)=(n == 1):=rfl
theorem Mj(n:Nat)(i:Nat):aU n (.map i)=(n == 1):=rfl
theorem Em(n:Nat)(t:Nat)(d:DV):aU n (.iface t d)=(n == 1):=rfl
theorem It(n:Nat):aU n .nili=(n == 1):=rfl
theorem Ir(n:Nat):aU n .nilp=(n == 1):=rfl
theorem Iq(p:aZ):aU 1 (bO p)=true:=By ..
theorem AI(sz n:Nat)(e x:DV)(h:n=sz):turn sz 0 n e x=x:=by simp[turn,h]
theorem Vb(a b:Int):bY .add (.int .i64 a) (.int .i64 b)=some (.int .i64 (IntKind.i64.wrap (a+b))):=by simp[bY]
theorem Uz(a b:Int):bY .sub (.int .i64 a) (.int .i64 b)=some (.int .i64 (IntKind.i64.wrap (a-b))):=by simp[bY]
theorem Va(a b:Int):bY .mul (.int .i64 a) (.int .i64 b)=some (.int .i64 (IntKind.i64.wrap (a*b))):=by simp[bY]
theorem Y5(k:IntKind)(a b:Int):bY .eql (.int k a) (.int k b)=some (.bool (a == b)):=by simp[bY]
theorem X9(k:IntKind)(a b:Int):bY .neq (.int k a) (.int k b)=some (.bool (a != b)):=by simp[bY]
theorem Y1(k:IntKind)(a b:Int):bY .lss (.int k a) (.int k b)=some (.bool (decide (a<b))):=by simp[bY]
theorem Y2(k:IntKind)(a b:Int):bY .leq (.int k a) (.int k b)=some (.bool (decide (a≤b))):=by simp[bY]
theorem Y3(k:IntKind)(a b:Int):bY .gtr (.int k a) (.int k b)=some (.bool (decide (b<a))):=by simp[bY]
theorem Y4(k:IntKind)(a b:Int):bY .geq (.int k a) (.int k b)=some (.bool (decide (b≤a))):=by simp[bY]
theorem X8(a b:List UInt8):bY .eql (.str a) (.str b)=some (.bool (a == b)):=rfl
theorem X3(a b:List UInt8):bY .neq (.str a) (.str b)=some (.bool (!(a == b))):=rfl
theorem X4(a b:List UInt8):bY .lss (.str a) (.str b)=some (.bool (Go.Op.bytesLess a b)):=rfl
theorem X5(a b:List UInt8):bY .leq (.str a) (.str b)=some (.bool (Go.Op.bytesLess a b || a == b)):=rfl
theorem X6(a b:List UInt8):bY .gtr (.str a) (.str b)=some (.bool (!(Go.Op.bytesLess a b || a == b))):=rfl
theorem X7(a b:List UInt8):bY .geq (.str a) (.str b)=some (.bool (!Go.Op.bytesLess a b)):=rfl
theorem MZ(b:Bool):unD .not (.bool b)=some (.bool (!b)):=rfl
theorem NA(k:IntKind)(n:Int):unD .neg (.int k n)=some (.int k (k.wrap (0-n))):=rfl
theorem FE(ks:List Nat)(xs ys:List DV):fO (.agg ks) (.agg xs) (.agg ys)=cC ks xs ys:=rfl
theorem sL(k:Nat)(x y:DV):fO (.prim k) x y=fX k x y:=rfl
theorem Ut:cC [] [] []=some true:=rfl
theorem Uu(ks:List Nat)(a b:Int)(k:IntKind)(xs ys:List DV):cC (1::ks) (.int k a::xs) (.int k b::ys)=(cC ks xs ys).map ((a == b) && ·):=by
 simp only[cC,fX,and_self,if_true];cases cC ks xs ys<;>rfl
theorem Us(ks:List Nat)(a b:List UInt8)(xs ys:List DV):cC (2::ks) (.str a::xs) (.str b::ys)=(cC ks xs ys).map ((a == b) && ·):=by
 simp only[cC,fX,if_true];cases cC ks xs ys<;>rfl
theorem Pg(ks:List Nat)(a b:Bool)(xs ys:List DV):cC (0::ks) (.bool a::xs) (.bool b::ys)=(cC ks xs ys).map ((a == b) && ·):=by
 simp only[cC,fX,if_true];cases cC ks xs ys<;>rfl
theorem Xv(k:IntKind)(a b:Int):fX 1 (.int k a) (.int k b)=some (a == b):=by simp[fX]
theorem pR(a b:List UInt8):fX 2 (.str a) (.str b)=some (a == b):=by simp[fX]
theorem Ry(a b:Bool):fX 0 (.bool a) (.bool b)=some (a == b):=by simp[fX]
theorem FB(cs:List DV):fT cs []=some cs:=rfl
theorem U7(cs:List DV)(off n:Nat)(v:DV)(r:List (Nat×Nat×DV))(hs:aU n v=true)(ho:off+n≤cs.length):fT cs ((off,n,v)::r)=fT (cs.take off++aF n v++cs.drop (off+n)) r:=by
 simp[fT,hs,ho]
theorem U8(sz:Nat)(xs:List DV):dF sz xs []=some xs:=rfl
theorem Zl(sz:Nat)(xs:List DV)(i:Nat)(v:DV)(r:List (Nat×DV))(hs:aU sz v=true)(hi:i<xs.length):dF sz xs ((i,v)::r)=dF sz (xs.set i v) r:=by
 simp[dF,hs,hi]
theorem Uh(sz:Nat)(cs:List DV):aF sz (.agg cs)=cs:=rfl
theorem Zw(sz:Nat)(k:IntKind)(n:Int):aF sz (.int k n)=[.int k n]:=rfl
theorem Ug(sz:Nat)(n:Bool):aF sz (.bool n)=[.bool n]:=rfl
theorem Zr(sz:Nat)(n:List UInt8):aF sz (.str n)=[.str n]:=rfl
theorem Zt(sz:Nat):aF sz .nsl=[.nsl]:=rfl
theorem V8(sz a b c d:Nat):aF sz (.sl a b c d)=[.sl a b c d]:=rfl
theorem Zs(sz a b c d:Nat):aF sz (.ptr a b c d)=[.ptr a b c d]:=rfl
theorem Zv(sz:Nat)(t:Bool)(s:Nat)(xs:List DV):aF sz (.isl t s xs)=[.isl t s xs]:=rfl
theorem Uf(sz:Nat)(f:Nat)(cs:List DV):aF sz (.func f cs)=[.func f cs]:=rfl
theorem Zu(sz:Nat)(i:Nat):aF sz (.map i)=[.map i]:=rfl
theorem Ow(sz t:Nat)(d:DV):aF sz (.iface t d)=[.iface t d]:=rfl
theorem Ue(sz:Nat):aF sz .nili=[.nili]:=rfl
theorem Ud(sz:Nat):aF sz .nilp=[.nilp]:=rfl
theorem Uc(p:aZ):aF 1 (bO p)=[bO p]:=Lj ..
theorem V6(h:aA)(sz:Nat):elems h sz .nsl=some []:=rfl
def EB(n:Option Nat)(sz off:Nat):Option DV→Option DV|some e=>dB n (aF sz e) off|none=>none
theorem Yo(n:Option Nat)(sz off:Nat)(e:DV):EB n sz off (some e)=dB n (aF sz e) off:=rfl
def EA(n:Option Nat)(sz idx off:Nat):Option DO→Option DV
 | some (.arr _ dT xs _)=>if sz=dT then EB n sz off xs[idx]? else none
 | _=>none
theorem Yn(n:Option Nat)(sz idx off ety dT:Nat)(xs:List DV)(cap:Option Nat):EA n sz idx off (some (.arr ety dT xs cap))=if sz=dT then EB n sz off xs[idx]? else none:=rfl
theorem DZ(h:aA)(n:Option Nat)(id sz idx off:Nat):kB h n (.ptr id sz idx off)=EA n sz idx off (h.get id):=by
 simp only[kB,EA]
 cases h.get id with
 | none=>rfl
 | some o=>cases o with
  | arr e s xs c =>
   simp only
   split
   ·cases xs[idx]?<;>rfl
   ·rfl
  | _=>rfl
def Wn(h:aA)(n id sz idx off ety:Nat)(xs:List DV)(cap:Option Nat)(x:DV):Option DV→Option aA
 | some e=>if(aF sz e).length=sz then some (h.set id (.arr ety sz (xs.set idx (turn sz off n e x)) cap))else none
 | none=>none
theorem Qo(h:aA)(n id sz idx off ety:Nat)(xs:List DV)(cap:Option Nat)(x e:DV):Wn h n id sz idx off ety xs cap x (some e)=if(aF sz e).length=sz then some (h.set id (.arr ety sz (xs.set idx (turn sz off n e x)) cap))else none:=rfl
def Wm(h:aA)(n id sz idx off:Nat)(x:DV):Option DO→Option aA
 | some (.arr ety dT xs cap)=>if sz=dT∧h.lim≤id∧aU n x=true∧off+n≤sz then Wn h n id sz idx off ety xs cap x xs[idx]? else none
 | _=>none
theorem Qn(h:aA)(n id sz idx off:Nat)(x:DV)(ety dT:Nat)(xs:List DV)(cap:Option Nat):Wm h n id sz idx off x (some (.arr ety dT xs cap))=if sz=dT∧h.lim≤id∧aU n x=true∧off+n≤sz then Wn h n id sz idx off ety xs cap x xs[idx]? else none:=rfl
theorem N2(h:aA)(n id sz idx off:Nat)(x:DV):kX h n (.ptr id sz idx off) x=Wm h n id sz idx off x (h.get id):=by
 simp only[kX,Wm]
 cases h.get id with
 | none=>rfl
 | some o=>cases o with
  | arr e s xs c =>
   simp only
   split
   ·cases xs[idx]?<;>rfl
   ·rfl
  | _=>rfl
def Zq(sz dT off len:Nat):Option DO→Option (List DV)
 | some (.arr _ kE xs _)=>if sz=dT∧sz=kE∧off+len≤xs.length then some ((xs.drop off).take len)else none
 | _=>none
theorem Ua(sz dT off len ety kE:Nat)(xs:List DV)(cap:Option Nat):Zq sz dT off len (some (.arr ety kE xs cap))=if sz=dT∧sz=kE∧off+len≤xs.length then some ((xs.drop off).take len)else none:=rfl
theorem FG(h:aA)(sz id dT off len:Nat):elems h sz (.sl id dT off len)=Zq sz dT off len (h.get id):=by
 simp only[elems,Zq]
 cases h.get id with
 | none=>rfl
 | some o=>cases o<;>rfl
def Ay(sz id off:Nat)(lo:Option DV):Option Nat→Option DV
 | some b=>match dG lo 0 b with
  | some a=>some (.sl id sz (off+a) (b-a))
  | none=>none
 | none=>none
def Ev(sz dT id off len:Nat)(lo hi:Option DV):Option DO→Option DV
 | some (.arr _ kE xs _)=>if sz=dT∧sz=kE∧off+len≤xs.length then Ay sz id off lo (dG hi len (xs.length-off))else none
 | _=>none
theorem uQ(sz dT id off len:Nat)(lo hi:Option DV)(ety kE:Nat)(xs:List DV)(cap:Option Nat):Ev sz dT id off len lo hi (some (.arr ety kE xs cap))=if sz=dT∧sz=kE∧off+len≤xs.length then Ay sz id off lo (dG hi len (xs.length-off))else none:=rfl
theorem N5(h:aA)(sz id dT off len:Nat)(lo hi:Option DV):jJ h sz (.sl id dT off len) lo hi=Ev sz dT id off len lo hi (h.get id):=by
 simp only[jJ,Ev]
 cases h.get id with
 | none=>rfl
 | some o=>cases o with
  | arr e s xs c =>
   simp only
   split
   ·cases dG hi len (xs.length-off)with
    | none=>rfl
    | some b=>first|(simp only[Ay];done)|(simp only[Ay];cases dG lo 0 b<;>rfl)
   ·rfl
  | _=>rfl
def NS(sz id off b:Nat):Option Nat→Option DV
 | some a=>some (.sl id sz (off+a) (b-a))
 | none=>none
theorem Az(sz id off b a:Nat):NS sz id off b (some a)=some (.sl id sz (off+a) (b-a)):=rfl
theorem uP(sz id off:Nat)(lo:Option DV)(b:Nat):Ay sz id off lo (some b)=NS sz id off b (dG lo 0 b):=by
 simp only[Ay,NS]
def FU(h:aA)(sz dT id off len:Nat)(ys:List DV):Option DO→Option (DV×aA)
 | some (.arr ety kE xs cap)=>if sz=dT∧sz=kE∧off+len≤xs.length∧h.lim≤id then some (.int .i64 (ys.take len).length,h.set id (.arr ety sz (cN xs (ys.take len) off) cap))else none
 | _=>none
theorem A5(h:aA)(sz dT id off len:Nat)(ys:List DV)(ety kE:Nat)(xs:List DV)(cap:Option Nat):FU h sz dT id off len ys (some (.arr ety kE xs cap))=if sz=dT∧sz=kE∧off+len≤xs.length∧h.lim≤id then some (.int .i64 (ys.take len).length,h.set id (.arr ety sz (cN xs (ys.take len) off) cap))else none:=rfl
theorem FV(h:aA)(sz id dT off len:Nat)(ys:List DV):vO h sz (.sl id dT off len) ys=FU h sz dT id off len ys (h.get id):=by
 simp only[vO,FU]
 cases h.get id with
 | none=>rfl
 | some o=>cases o<;>rfl
def FY(h:aA):DV→Option DV
 | .nsl=>some (.int .i64 0)
 | .sl id sz off _=>match h.get id with
  | some (.arr _ dT _ (some c))=>if sz=dT then some (.int .i64 (c-off:Nat))else none
  | some (.arr _ dT xs none)=>if sz=dT then some (.atl (xs.length-off))else none
  | _=>none
 | _=>none
theorem BI(h:aA)(env:Env)(x:Opd):aC h env (.cap x)=dE h (FY h (x.eval env)):=by
 simp only[aC,FY]
 cases x.eval env with
 | sl id sz off len =>
  simp only
  cases h.get id with
  | none=>rfl
  | some o=>cases o with
   | arr e s xs c=>cases c<;>simp only<;>split<;>rfl
   | _=>rfl
 | _=>rfl
theorem OF(c:Nat→List DV→aA→Option (DV×aA))(h:aA)(env:Env)(x:Opd):bH c (.cap x) env h=dE h (FY h (x.eval env)):=BI h env x
def LO(sz off:Nat):Option DO→Option DV
 | some (.arr _ dT _ (some c))=>if sz=dT then some (.int .i64 (c-off:Nat))else none
 | some (.arr _ dT xs none)=>if sz=dT then some (.atl (xs.length-off))else none
 | _=>none
theorem LN(h:aA)(id sz off len:Nat):FY h (.sl id sz off len)=LO sz off (h.get id):=by
 simp only[FY,LO]
theorem W9(sz off ety dT:Nat)(xs:List DV):LO sz off (some (.arr ety dT xs none))=if sz=dT then some (.atl (xs.length-off))else none:=rfl
theorem W8(sz off ety dT:Nat)(xs:List DV)(c:Nat):LO sz off (some (.arr ety dT xs (some c)))=if sz=dT then some (.int .i64 (c-off:Nat))else none:=rfl
theorem B4(a:Int)(n:Nat)(h:a≤(n:Int)):bY .gtr (.int .i64 a) (.atl n)=some (.bool false):=by simp[bY,h]
def Ve(h:aA)(ety sz bytes:Nat)(z s:DV)(x:DV):Option (DV×aA):=match asI x with
  | some n=>if 0≤n∧n≤140737488355328 then bF h ety sz bytes s (List.replicate n.toNat z)else none
  | none=>none
theorem Ye(c:Nat→List DV→aA→Option (DV×aA))(h:aA)(env:Env)(ety sz bytes:Nat)(z:DV)(s x:Opd):bH c (.appendZ ety sz bytes z s x) env h=Ve h ety sz bytes z (s.eval env) (x.eval env):=rfl
theorem Pk(h:aA)(ety sz bytes:Nat)(z s:DV)(k:IntKind)(n:Int):Ve h ety sz bytes z s (.int k n)=if 0≤n∧n≤140737488355328 then bF h ety sz bytes s (List.replicate n.toNat z)else none:=rfl
theorem set_set{h:aA}{id:Nat}{o o':DO}:(h.set id o).set id o'=h.set id o':=by
 simp[aA.set]
theorem Pr{h:aA}{o:DO}:WF (h.push o)↔WF h:=⟨fun w=>by unfold WF at *;simpa[aA.push]using w,fun w=>w.push⟩
theorem Vu{h:aA}{id:Nat}{o:DO}:WF (h.set id o)↔WF h:=⟨fun w=>by unfold WF at *;simpa[aA.set]using w,fun w=>w.set⟩
theorem Gy{h:aA}{id k:Nat}{o:DO}(w:WF h)(eK:id<h.n):(h.set id o).get k=if k=id then some o else h.get k:=bW w eK
def wl(h:aA)(l:Nat):aA:={h with lim:=l}
theorem J7{h:aA}{l:Nat}:WF (wl h l)↔WF h:=Iff.rfl
theorem WF.wl{h:aA}(w:WF h)(l:Nat):WF (Dm.wl h l):=w
def crV(h:aA)(L:cK):Option (DV×aA)→Option (DV×aA×cK)
 | some (v,h')=>some (v,wl h' h.lim,L)
 | none=>none
theorem FQ(h:aA)(L:cK)(v:DV)(h':aA):crV h L (some (v,h'))=some (v,wl h' h.lim,L):=rfl
theorem fS(c:fH)(l r:Nat)(L:cK)(o:DOp)(env:Env)(h:aA)(hp:kZ L env o=none)(hq:zK env o=false):cT c l r L o env h=crV h L (bH c o env (wl h (max l h.lim))):=by
 unfold cT
 rw[hp,hq]
 simp only[lX,wl]
 cases bH c o env {h with lim:=max l h.lim} with
 | some p=>rfl
 | none=>rfl
def Nh:DV→Bool|.func g _=>E6 g|_=>false
theorem Sa(g:FuncId)(cap:List DV):Nh (.func g cap)=E6 g:=rfl
def pkC(r:Nat)(L:cK)(h:aA):Option (DV×aA)→Option (DV×aA×cK)
 | some (v,h')=>if(wP h h').all (fun id=>L.rds.all fun x=>!(Nat.beq x.1 id))=true then some (v,h',{L with pks:=(wP h h').map (fun id=>(r,id))++L.pks})else none
 | none=>none
theorem Jv(c:fH)(l r:Nat)(L:cK)(g:Opd)(as:List Opd)(env:Env)(h:aA):cT c l r L (.call g as) env h=if Nh (g.eval env)=true then pkC r L h (bH c (.call g as) env h)else crV h L (bH c (.call g as) env (wl h (max l h.lim))):=by
 have hq:zK env (.call g as)=Nh (g.eval env):=by simp only[zK,Nh];cases g.eval env<;>rfl
 split
 ·rename_i ht
  unfold cT
  rw[show kZ L env (.call g as)=none from rfl,hq,ht]
  simp only[lR,pkC]
  cases bH c (.call g as) env h<;>rfl
 ·rename_i hf
  exact fS _ _ _ _ _ _ _ rfl (by rw[hq];simpa using hf)
theorem Hs(c:fH)(l r:Nat)(L:cK)(e s:Nat)(z:DV)(env:Env)(h:aA):cT c l r L (.alloc e s z) env h=crV h L (bH c (.alloc e s z) env (wl h (max l h.lim))):=fS _ _ _ _ _ _ _ rfl rfl
theorem Pa(c:fH)(l r:Nat)(L:cK)(e s:Nat)(z:Opd)(env:Env)(h:aA):cT c l r L (.box e s z) env h=crV h L (bH c (.box e s z) env (wl h (max l h.lim))):=fS _ _ _ _ _ _ _ rfl rfl
theorem wX(c:fH)(l r:Nat)(L:cK)(e s:Nat)(z:DV)(n:Nat)(ps:List (Nat×Opd))(env:Env)(h:aA):cT c l r L (.buildSlice e s z n ps) env h=crV h L (bH c (.buildSlice e s z n ps) env (wl h (max l h.lim))):=fS _ _ _ _ _ _ _ rfl rfl
theorem Ju(c:fH)(l r:Nat)(L:cK)(s:Nat)(d x:Opd)(env:Env)(h:aA):cT c l r L (.copy s d x) env h=crV h L (bH c (.copy s d x) env (wl h (max l h.lim))):=fS _ _ _ _ _ _ _ rfl rfl
theorem Bq(c:fH)(l r:Nat)(L:cK)(env:Env)(h:aA):cT c l r L .makeMap env h=crV h L (bH c .makeMap env (wl h (max l h.lim))):=fS _ _ _ _ _ _ _ rfl rfl
def CQ:DV→Option Nat|.ptr id ..=>some id|_=>none
def Ey:DV→Option Nat|.sl id ..=>some id|_=>none
def mapId:DV→Option Nat|.map id=>some id|_=>none
section
variable (env:Env)
theorem HP(n:Option Nat)(a:Opd):bT env (.load n a)=CQ (a.eval env):=by simp only[bT];cases a.eval env<;>rfl
theorem Px(sz:Nat)(x:Opd)(lo hi:Option Opd):bT env (.sliceSl sz x lo hi)=Ey (x.eval env):=by simp only[bT];cases x.eval env<;>rfl
theorem AN(x:Opd):bT env (.cap x)=Ey (x.eval env):=by simp only[bT];cases x.eval env<;>rfl
theorem AK(k:Nat)(x:Opd):bT env (.len k x)=mapId (x.eval env):=by simp only[bT];cases x.eval env<;>rfl
theorem Kg(q:EqT)(z:DV)(ok:Bool)(m k:Opd):bT env (.lookup q z ok m k)=mapId (m.eval env):=by simp only[bT];cases m.eval env<;>rfl
theorem HO(x:Opd):bT env (.move x)=none:=_root_.id rfl
theorem HN(c a b:Opd):bT env (.pick c a b)=none:=_root_.id rfl
theorem AO(z:List DV)(ps:List (Nat×Nat×Opd)):bT env (.build z ps)=none:=_root_.id rfl
theorem AQ(op:BinOp)(x y:Opd):bT env (.arith op x y)=none:=_root_.id rfl
theorem NH(n:Bool)(x y:Opd):bT env (.eqb n x y)=none:=_root_.id rfl
theorem NI(n:Bool)(ks:List Nat)(x y:Opd):bT env (.eqa n ks x y)=none:=_root_.id rfl
theorem NG(k:Nat)(n:Bool)(x y:Opd):bT env (.eqn k n x y)=none:=_root_.id rfl
theorem QC(op:UnOp)(x:Opd):bT env (.un op x)=none:=_root_.id rfl
theorem HQ(k:IntKind)(x:Opd):bT env (.conv k x)=none:=_root_.id rfl
theorem AP(x:Opd):bT env (.asStr x)=none:=_root_.id rfl
theorem Py(x:Opd):bT env (.nilCheck x)=none:=_root_.id rfl
theorem Lt(o:Nat)(x:Opd):bT env (.fieldAddr o x)=none:=_root_.id rfl
theorem AM(o:Nat)(n:Option Nat)(x:Opd):bT env (.field o n x)=none:=_root_.id rfl
theorem Ls(s:Nat)(x i:Opd):bT env (.indexAddr s x i)=none:=_root_.id rfl
theorem Qb(l e:Nat)(x i:Opd):bT env (.indexArr l e x i)=none:=_root_.id rfl
theorem AL(l e:Nat)(n:Option Nat)(x i:Opd):bT env (.index l e n x i)=none:=_root_.id rfl
theorem Qa(x i:Opd):bT env (.indexStr x i)=none:=_root_.id rfl
theorem Pw(x:Opd)(lo hi:Option Opd):bT env (.sliceStr x lo hi)=none:=_root_.id rfl
theorem K7(b:Bool)(x y:Opd):bT env (.minmax b x y)=none:=_root_.id rfl
theorem Pz(f:FuncId)(c:List Opd):bT env (.makeFunc f c)=none:=_root_.id rfl
theorem Vz(x:Opd)(i:Nat):bT env (.extract x i)=none:=_root_.id rfl
theorem Lr(t:TypeId)(x:Opd):bT env (.makeIface t x)=none:=_root_.id rfl
def R5:Option Nat→Option (Nat×kC)
 | some id=>some (id,none)
 | none=>none
theorem R3(id:Nat):R5 (some id)=some (id,none):=_root_.id rfl
theorem R4:R5 none=none:=_root_.id rfl
def CP(n:Option Nat):DV→Option (Nat×kC)
 | .ptr id sz i o=>some (id,some (n,sz,i,o))
 | _=>none
theorem Q1(n:Option Nat)(id sz i o:Nat):CP n (.ptr id sz i o)=some (id,some (n,sz,i,o)):=_root_.id rfl
theorem Xt(n:Option Nat)(l:Bool)(cs:List DV)(o:Nat):CP n (.iptr l cs o)=none:=_root_.id rfl
theorem JN(n:Option Nat)(a:Opd):mark env (.load n a)=CP n (a.eval env):=by simp only[mark];cases a.eval env<;>rfl
theorem DJ(sz:Nat)(x:Opd)(lo hi:Option Opd):mark env (.sliceSl sz x lo hi)=R5 (Ey (x.eval env)):=by rw[←Px env];simp only[mark];cases bT env (.sliceSl sz x lo hi)<;>rfl
theorem OM(x:Opd):mark env (.cap x)=R5 (Ey (x.eval env)):=by rw[←AN env];simp only[mark];cases bT env (.cap x)<;>rfl
theorem OI(k:Nat)(x:Opd):mark env (.len k x)=R5 (mapId (x.eval env)):=by rw[←AK env];simp only[mark];cases bT env (.len k x)<;>rfl
theorem R8(q:EqT)(z:DV)(ok:Bool)(m k:Opd):mark env (.lookup q z ok m k)=R5 (mapId (m.eval env)):=by rw[←Kg env];simp only[mark];cases bT env (.lookup q z ok m k)<;>rfl
theorem JM(x:Opd):mark env (.move x)=none:=_root_.id rfl
theorem JL(c a b:Opd):mark env (.pick c a b)=none:=_root_.id rfl
theorem DM(z:List DV)(ps:List (Nat×Nat×Opd)):mark env (.build z ps)=none:=_root_.id rfl
theorem DP(op:BinOp)(x y:Opd):mark env (.arith op x y)=none:=_root_.id rfl
theorem OK(n:Bool)(x y:Opd):mark env (.eqb n x y)=none:=_root_.id rfl
theorem OL(n:Bool)(ks:List Nat)(x y:Opd):mark env (.eqa n ks x y)=none:=_root_.id rfl
theorem OJ(k:Nat)(n:Bool)(x y:Opd):mark env (.eqn k n x y)=none:=_root_.id rfl
theorem RI(op:UnOp)(x:Opd):mark env (.un op x)=none:=_root_.id rfl
theorem JO(k:IntKind)(x:Opd):mark env (.conv k x)=none:=_root_.id rfl
theorem DN(x:Opd):mark env (.asStr x)=none:=_root_.id rfl
theorem So(x:Opd):mark env (.nilCheck x)=none:=_root_.id rfl
theorem Nt(o:Nat)(x:Opd):mark env (.fieldAddr o x)=none:=_root_.id rfl
theorem DL(o:Nat)(n:Option Nat)(x:Opd):mark env (.field o n x)=none:=_root_.id rfl
theorem Ns(s:Nat)(x i:Opd):mark env (.indexAddr s x i)=none:=_root_.id rfl
theorem Sr(l e:Nat)(x i:Opd):mark env (.indexArr l e x i)=none:=_root_.id rfl
theorem DK(l e:Nat)(n:Option Nat)(x i:Opd):mark env (.index l e n x i)=none:=_root_.id rfl
theorem Sq(x i:Opd):mark env (.indexStr x i)=none:=_root_.id rfl
theorem Sn(x:Opd)(lo hi:Option Opd):mark env (.sliceStr x lo hi)=none:=_root_.id rfl
theorem R7(b:Bool)(x y:Opd):mark env (.minmax b x y)=none:=_root_.id rfl
theorem Sp(f:FuncId)(c:List Opd):mark env (.makeFunc f c)=none:=_root_.id rfl
theorem Yj(x:Opd)(i:Nat):mark env (.extract x i)=none:=_root_.id rfl
theorem Nr(t:TypeId)(x:Opd):mark env (.makeIface t x)=none:=_root_.id rfl
end
theorem Q2(a b c d:Nat):CQ (.ptr a b c d)=some a:=_root_.id rfl
theorem Xu(l:Bool)(cs:List DV)(o:Nat):CQ (.iptr l cs o)=none:=_root_.id rfl
theorem IB(a b c d:Nat):Ey (.sl a b c d)=some a:=_root_.id rfl
theorem BM:Ey .nsl=none:=_root_.id rfl
theorem IE{α:Type}(t:Bool)(sz:Nat)(e:α→DV)(xs:List α):Ey (eL t sz e xs)=none:=by cases xs<;>rfl
theorem S1(i:Nat):mapId (.map i)=some i:=_root_.id rfl
theorem DT{α:Type}(t:Bool)(sz:Nat)(e:α→DV)(xs:List α):mapId (eL t sz e xs)=none:=by cases xs<;>rfl
theorem DS(a b c d:Nat):mapId (.sl a b c d)=none:=_root_.id rfl
theorem S0:mapId .nsl=none:=_root_.id rfl
theorem R9(s:List UInt8):mapId (.str s)=none:=_root_.id rfl
theorem S5:cK.start=⟨[],[]⟩:=_root_.id rfl
theorem DY(L:cK)(t:Option (Nat×kC)):cK.see L true t=L:=_root_.id rfl
theorem JS(L:cK)(t:Option (Nat×kC)):cK.see L false t=cK.read L t:=_root_.id rfl
theorem DW(r:List (Nat×kC))(p:List (Nat×Nat))(x:Nat×kC):cK.read ⟨r,p⟩ (some x)=⟨x::r,p⟩:=_root_.id rfl
theorem S6(L:cK):cK.read L none=L:=_root_.id rfl
theorem S8(r:List (Nat×kC))(s:Nat)(t:Option Nat):cK.free ⟨r,[]⟩ s t=true:=by cases t<;>rfl
theorem S7(L:cK)(s:Nat):cK.free L s none=true:=_root_.id rfl
theorem DX(r:List (Nat×kC))(p:Nat×Nat)(ps:List (Nat×Nat))(s id:Nat):cK.free ⟨r,p::ps⟩ s (some id)=((decide (p.1<s) || !decide (p.2=id)) && cK.free ⟨r,ps⟩ s (some id)):=by
 have e1:Nat.blt p.1 s=decide (p.1<s):=by rw[Bool.eq_iff_iff];simp[Nat.blt_eq]
 have e2:Nat.beq p.2 id=decide (p.2=id):=by rw[Bool.eq_iff_iff];simp
 simp only[cK.free,List.all_cons,e1,e2]
theorem B5(m:Option Nat)(z i o n idx off:Nat):oU (some (m,z,i,o)) n idx off=(!decide (i=idx) || decide (o+Ee m≤off) || decide (off+n≤o)):=by
 have e2:Nat.beq i idx=decide (i=idx):=by rw[Bool.eq_iff_iff];simp
 have e3:Nat.ble (o+Ee m) off=decide (o+Ee m≤off):=by rw[Bool.eq_iff_iff];simp
 have e4:Nat.ble (off+n) o=decide (off+n≤o):=by rw[Bool.eq_iff_iff];simp
 simp only[oU,e2,e3,e4]
theorem B6(n idx off:Nat):oU none n idx off=false:=_root_.id rfl
theorem Vs:Ee none=1:=_root_.id rfl
theorem Vr(n:Nat):Ee (some n)=n:=_root_.id rfl
def pkA(L:cK):Option Nat→Option Nat
 | some id=>if L.rds.all (fun x=>!decide (x.1=id))=true then some id else none
 | none=>none
theorem CV(r:List (Nat×kC))(p:List (Nat×Nat))(id:Nat):pkA ⟨r,p⟩ (some id)=if r.all (fun x=>!decide (x.1=id))=true then some id else none:=_root_.id rfl
theorem CW(L:cK):pkA L none=none:=_root_.id rfl
theorem RC(L:cK)(id:Nat):(L.rds.all fun x=>!(Nat.beq x.1 id))=(L.rds.all fun x=>!decide (x.1=id)):=by
 congr 1;funext x
 have e2:Nat.beq x.1 id=decide (x.1=id):=by rw[Bool.eq_iff_iff];simp
 rw[e2]
def pkS(L:cK)(n:Nat):DV→Option Nat
 | .ptr id _ idx off=>if L.rds.all (fun x=>!decide (x.1=id) || oU x.2 n idx off)=true then some id else none
 | _=>none
theorem JC(r:List (Nat×kC))(p:List (Nat×Nat))(n id sz idx off:Nat):pkS ⟨r,p⟩ n (.ptr id sz idx off)=if r.all (fun x=>!decide (x.1=id) || oU x.2 n idx off)=true then some id else none:=_root_.id rfl
theorem CU(L:cK)(n:Nat)(l:Bool)(cs:List DV)(o:Nat):pkS L n (.iptr l cs o)=none:=_root_.id rfl
theorem CS(L:cK)(env:Env)(n:Nat)(a x:Opd):kZ L env (.store n a x)=pkS L n (a.eval env):=by
 simp only[kZ]
 cases a.eval env<;>try rfl
 rename_i id sz idx off
 have:(L.rds.all fun x=>!(Nat.beq x.1 id) || oU x.2 n idx off)=(L.rds.all fun x=>!decide (x.1=id) || oU x.2 n idx off):=by
  congr 1;funext x
  have e2:Nat.beq x.1 id=decide (x.1=id):=by rw[Bool.eq_iff_iff];simp
  rw[e2]
 simp only[this];rfl
theorem Q4(L:cK)(env:Env)(e s b:Nat)(a x:Opd):kZ L env (.append e s b a x)=pkA L (Ey (a.eval env)):=by
 simp only[kZ,pkA,Ey,RC];cases a.eval env<;>rfl
def pkV(L:cK)(r id:Nat):Option (DV×aA)→Option (DV×aA×cK)
 | some (v,h')=>some (v,h',⟨L.rds,(r,id)::L.pks⟩)
 | none=>none
theorem CT(rs:List (Nat×kC))(ps:List (Nat×Nat))(r id:Nat)(v:DV)(h':aA):pkV ⟨rs,ps⟩ r id (some (v,h'))=some (v,h',⟨rs,(r,id)::ps⟩):=_root_.id rfl
def crP(c:fH)(l r:Nat)(L:cK)(o:DOp)(env:Env)(h:aA):Option Nat→Option (DV×aA×cK)
 | some id=>pkV L r id (aC h env o)
 | none=>crV h L (bH c o env (wl h (max l h.lim)))
theorem FR(c:fH)(l r:Nat)(L:cK)(o:DOp)(env:Env)(h:aA)(id:Nat):crP c l r L o env h (some id)=pkV L r id (aC h env o):=_root_.id rfl
theorem FS(c:fH)(l r:Nat)(L:cK)(o:DOp)(env:Env)(h:aA):crP c l r L o env h none=crV h L (bH c o env (wl h (max l h.lim))):=_root_.id rfl
theorem Ct(c:fH)(l r:Nat)(L:cK)(o:DOp)(env:Env)(h:aA)(hq:zK env o=false):cT c l r L o env h=crP c l r L o env h (kZ L env o):=by
 cases hp:kZ L env o with
 | none=>rw[fS _ _ _ _ _ _ _ hp hq];rfl
 | some id =>
  unfold cT
  rw[hp]
  simp only[crP,pkV]
  cases aC h env o with
  | none=>rfl
  | some q=>rfl
theorem Hp(c:fH)(l r:Nat)(L:cK)(n:Nat)(a x:Opd)(env:Env)(h:aA):cT c l r L (.store n a x) env h=crP c l r L (.store n a x) env h (pkS L n (a.eval env)):=by rw[Ct _ _ _ _ _ _ _ rfl,CS]
theorem Dn(c:fH)(l r:Nat)(L:cK)(e s b:Nat)(a x:Opd)(env:Env)(h:aA):cT c l r L (.append e s b a x) env h=crP c l r L (.append e s b a x) env h (pkA L (Ey (a.eval env))):=by rw[Ct _ _ _ _ _ _ _ rfl,Q4]
theorem yE(c:fH)(l r:Nat)(L:cK)(q:EqT)(m k x:Opd)(env:Env)(h:aA):cT c l r L (.mapUpdate q m k x) env h=crV h L (bH c (.mapUpdate q m k x) env (wl h (max l h.lim))):=fS _ _ _ _ _ _ _ rfl rfl
theorem IX(t:Bool)(h:aA)(n:Nat)(k:IntKind)(m:Int):resolve t h (n+1) (.int k m)=some (.int k m):=rfl
theorem CM(t:Bool)(h:aA)(n:Nat)(m:Bool):resolve t h (n+1) (.bool m)=some (.bool m):=rfl
theorem IV(t:Bool)(h:aA)(n:Nat)(m:List UInt8):resolve t h (n+1) (.str m)=some (.str m):=rfl
theorem IW(t:Bool)(h:aA)(n:Nat):resolve t h (n+1) .nsl=some (.isl false 0 []):=rfl
theorem CK(t:Bool)(h:aA)(n:Nat)(l:Bool)(cs:List DV)(o:Nat):resolve t h (n+1) (.iptr l cs o)=some (.iptr l cs o):=rfl
theorem CL{α:Type}(t:Bool)(h:aA)(n:Nat)(t':Bool)(sz:Nat)(e:α→DV)(xs:List α):resolve t h (n+1) (eL t' sz e xs)=some (eL t' sz e xs):=nM t' sz e xs t h (n+1) (by omega)
theorem Rs(t:Bool)(h:aA)(n:Nat)(p:aZ):resolve t h (n+1) (bO p)=some (bO p):=CL ..
theorem CJ(t:Bool)(h:aA)(n:Nat):resolve t h (n+1) .nili=some .nili:=rfl
theorem CI(t:Bool)(h:aA)(n:Nat):resolve t h (n+1) .nilp=some .nilp:=rfl
theorem LL(t:Bool)(h:aA)(v:DV):resolve t h cG v=resolve t h (199+1) v:=rfl
def uX(t:Bool)(h:aA)(n:Nat)(vs:List DV):Option (List DV):=vs.mapM (resolve t h n)
theorem IY(t:Bool)(h:aA)(n:Nat)(vs:List DV):vs.mapM (resolve t h n)=uX t h n vs:=rfl
theorem CN(t:Bool)(h:aA)(n:Nat):uX t h n []=some []:=rfl
def MS:Option DV→Option (List DV)→Option (List DV)
 | some x,some l=>some (x::l)
 | _,_=>none
theorem A6(x:DV)(l:List DV):MS (some x) (some l)=some (x::l):=rfl
theorem P4(t:Bool)(h:aA)(n:Nat)(v:DV)(vs:List DV):uX t h n (v::vs)=MS (resolve t h n v) (uX t h n vs):=by
 unfold uX
 rw[List.mapM_cons]
 cases resolve t h n v<;>cases vs.mapM (resolve t h n)<;>rfl
def RY:Option (List DV)→Option DV|some c=>some (.agg c)|none=>none
def QA:Option (List DV)→Option DV|some c=>some (.tup c)|none=>none
def RN(f:Nat):Option (List DV)→Option DV|some c=>some (.func f c)|none=>none
theorem Y9(c:List DV):RY (some c)=some (.agg c):=rfl
theorem K6(c:List DV):QA (some c)=some (.tup c):=rfl
theorem T8(f:Nat)(c:List DV):RN f (some c)=some (.func f c):=rfl
theorem E5(t:Bool)(h:aA)(n:Nat)(cs:List DV):resolve t h (n+1) (.agg cs)=RY (uX t h n cs):=by
 simp only[resolve];unfold uX;cases cs.mapM (resolve t h n)<;>rfl
theorem IU(t:Bool)(h:aA)(n:Nat)(cs:List DV):resolve t h (n+1) (.tup cs)=QA (uX t h n cs):=by
 simp only[resolve];unfold uX;cases cs.mapM (resolve t h n)<;>rfl
theorem Rt(t:Bool)(h:aA)(n:Nat)(f:Nat)(cs:List DV):resolve t h (n+1) (.func f cs)=RN f (uX t h n cs):=by
 simp only[resolve];unfold uX;cases cs.mapM (resolve t h n)<;>rfl
def EH(t:Bool)(off:Nat):Option (List DV)→Option DV|some c=>some (.iptr t c off)|none=>none
theorem Yt(t:Bool)(off:Nat)(c:List DV):EH t off (some c)=some (.iptr t c off):=rfl
def IZ(t:Bool)(h:aA)(n sz off:Nat):Option DV→Option DV|some e=>EH t off (uX t h n (aF sz e))|none=>none
theorem P5(t:Bool)(h:aA)(n sz off:Nat)(e:DV):IZ t h n sz off (some e)=EH t off (uX t h n (aF sz e)):=rfl
def Nf(t:Bool)(h:aA)(n sz idx off:Nat):Option DO→Option DV
 | some (.arr _ dT xs _)=>if sz=dT then IZ t h n sz off xs[idx]? else none
 | _=>none
theorem Nd(t:Bool)(h:aA)(n sz idx off ety dT:Nat)(xs:List DV)(cap:Option Nat):Nf t h n sz idx off (some (.arr ety dT xs cap))=if sz=dT then IZ t h n sz off xs[idx]? else none:=rfl
theorem Xo(t:Bool)(h:aA)(n id sz idx off:Nat):resolve t h (n+1) (.ptr id sz idx off)=Nf t h n sz idx off (h.get id):=by
 simp only[resolve,Nf]
 cases h.get id with
 | none=>rfl
 | some o=>cases o with
  | arr e s xs c =>
   simp only
   split
   ·cases xs[idx]? with
    | none=>rfl
    | some x=>simp only[IZ,uX];cases(aF sz x).mapM (resolve t h n)<;>rfl
   ·rfl
  | _=>rfl
def OP(t:Bool)(sz:Nat):Option (List DV)→Option DV|some ys=>some (mkIsl t sz ys)|none=>none
theorem T1(t:Bool)(sz:Nat)(ys:List DV):OP t sz (some ys)=some (mkIsl t sz ys):=rfl
def Xp(t:Bool)(h:aA)(n sz off len:Nat):Option DO→Option DV
 | some (.arr _ dT xs _)=>if sz=dT∧off+len≤xs.length then OP t sz (uX t h n ((xs.drop off).take len))else none
 | _=>none
theorem Ru(t:Bool)(h:aA)(n sz off len ety dT:Nat)(xs:List DV)(cap:Option Nat):Xp t h n sz off len (some (.arr ety dT xs cap))=if sz=dT∧off+len≤xs.length then OP t sz (uX t h n ((xs.drop off).take len))else none:=rfl
theorem wG(t:Bool)(h:aA)(n id sz off len:Nat):resolve t h (n+1) (.sl id sz off len)=Xp t h n sz off len (h.get id):=by
 simp only[resolve,Xp]
 cases h.get id with
 | none=>rfl
 | some o=>cases o with
  | arr e s xs c =>
   simp only
   split
   ·simp only[uX];cases((xs.drop off).take len).mapM (resolve t h n)<;>rfl
   ·rfl
  | _=>rfl
def RF(h:aA)(v:DV):Option DV :=
 match resolve false h (199+1) v with
 | some d=>if bE (199+1) d then some d else none
 | none=>none
theorem xU(v:DV)(h:aA):gV (some (v,h))=RF h v:=rfl
def AF:Option DV→Option DV
 | some d=>if bE (199+1) d then some d else none
 | none=>none
theorem JE(h:aA)(v:DV):RF h v=AF (resolve false h (199+1) v):=rfl
theorem AE(k:IntKind)(n:Int):AF (some (.int k n))=some (.int k n):=rfl
theorem J9(b:Bool):AF (some (.bool b))=some (.bool b):=rfl
theorem AD(b:List UInt8):AF (some (.str b))=some (.str b):=rfl
theorem HF(d:DV):AF (some d)=if bE 200 d=true then some d else none:=rfl
theorem ND(n:Nat)(k:IntKind)(m:Int):bE (n+1) (.int k m)=true:=rfl
theorem HM(n:Nat)(m:Bool):bE (n+1) (.bool m)=true:=rfl
theorem NC(n:Nat)(m:List UInt8):bE (n+1) (.str m)=true:=rfl
theorem NF(n:Nat)(cs:List DV):bE (n+1) (.agg cs)=cs.all (bE n):=rfl
theorem NB(n:Nat)(cs:List DV):bE (n+1) (.tup cs)=cs.all (bE n):=rfl
theorem HG(n:Nat)(p:aZ):bE (n+21) (bO p)=true:=uM p (n+21) (by omega)
theorem HK(n:Nat)(sz:Nat):bE (n+1) (.isl false sz [])=true:=by simp[bE]
theorem HJ(n:Nat):bE (n+1) .nili=true:=rfl
theorem HI(n:Nat):bE (n+1) .nilp=true:=rfl
theorem Rl(D:bV)(N:Nat)(S:List Fr)(f:dK)(hs:List aA)(L:cK)(dst:Option Nat)(op:DOp)(s:Nat)(cm:Bool)(r:List aJ)(hf:L.free s (bT (tab N f) op)=true) :
  zG D N S dst op s cm r f hs L .read=Rm D N S dst op cm r f hs L (iG hs s):=by rw[Xg,if_pos hf]
theorem vE{α:Type}(t:Bool)(sz:Nat)(e:α→DV)(xs:List α)(k:IntKind)(i:Int)(h0:0≤i):cF sz (eL t sz e xs) (.int k i)=(xs[i.toNat]?).map fun a=>.iptr t (aF sz (e a)) 0:=by
 cases hx:xs[i.toNat]? with
 | some a=>rw[Gj t sz e k h0 hx];rfl
 | none =>
  cases xs with
  | nil=>simp[mZ,cF,asI]
  | cons x xs =>
   have hy:(List.map e (x::xs))[i.toNat]?=none:=by rw[List.getElem?_map,hx];rfl
   rw[tY,←List.map_cons]
   simp only[cF,asI,h0,and_self,if_true,hy,Option.map_none]
theorem vD{α:Type}(t:Bool)(sz:Nat)(e:α→DV)(xs:List α)(k:IntKind)(i:Nat):cF sz (eL t sz e xs) (.int k (i:Int))=(xs[i]?).map fun a=>.iptr t (aF sz (e a)) 0:=by
 rw[vE _ _ _ _ _ _ (Int.natCast_nonneg i)];simp
theorem Dd{α:Type}(t:Bool)(sz:Nat)(e:α→DV)(xs:List α)(k:IntKind)(i:Nat):cF sz (eL t sz e xs) (.int k ((i:Int)+1))=(xs[i+1]?).map fun a=>.iptr t (aF sz (e a)) 0:=by
 have:=vD t sz e xs k (i+1)
 rwa[Int.natCast_add]at this
theorem wB{n:Int}(h1:0≤n)(h2:n≤18446744073709551615):IntKind.u64.wrap n=n:=by
 exact Go.IntWalk.u64_in n ⟨h1,h2⟩
theorem B3(a:Int):bY .shr (.int .u64 a) (.int .u64 1)=some (.int .u64 (a.fdiv 2)):=by
 simp[bY,IntKind.bits]
theorem TN(i j:Nat):((i:Int)+j).fdiv 2=((i+j) / 2:Nat):=by
 rw[Int.fdiv_eq_ediv_of_nonneg _ (by decide)];omega
theorem iO(k:IntKind)(n d l:Nat)(h:n≤l):dG (some (.int k (n:Int))) d l=some n:=by
 rw[uB _ _ _ _ (by omega) (by omega)];simp
theorem Ux(k:IntKind)(n d l:Nat)(h:n+1≤l):dG (some (.int k ((n:Int)+1))) d l=some (n+1):=by
 rw[uB _ _ _ _ (by omega) (by omega)];simp
theorem Uw(k:IntKind)(d l:Nat):dG (some (.int k 0)) d l=some 0:=by
 rw[uB _ _ _ _ (by omega) (by omega)];simp
theorem Xa(D:bV)(N:Nat)(S:List Fr)(f:dK)(h:aA)(o:aJ)(w:Bool)(r:List aJ):O7 D N S o w r f h bN=xP D N S r (sA f o.dst bN) h:=rfl
theorem Rn(D:bV)(N:Nat)(S:List Fr)(f:dK)(hs:List aA)(L:cK)(o:aJ)(w:Bool)(r:List aJ):Ro D N S o w r f hs L bN=xD D N S o.dst o.kind r f L hs:=rfl
theorem aO{b c:aN}(hb:b=c)(D:bV)(N:Nat)(S:List Fr)(f:dK)(h:aA):run D N S (.loop b) f h=run D N (.loop b::S) c f h:=by
 rw[BY];rw[←hb]
theorem GY(h:aA)(o:DO):(h.push o).n=h.n+1:=_root_.id rfl
theorem J6(h:aA)(o:DO):(h.push o).lim=h.lim:=_root_.id rfl
theorem MY(h:aA)(id':Nat)(o:DO):(h.set id' o).n=h.n:=_root_.id rfl
theorem Z9(h:aA)(id':Nat)(o:DO):(h.set id' o).lim=h.lim:=_root_.id rfl
theorem PY(h:aA)(l:Nat):(wl h l).n=h.n:=_root_.id rfl
theorem GZ(h:aA)(l:Nat):(wl h l).lim=l:=_root_.id rfl
theorem HA(h:aA)(l i:Nat):(wl h l).get i=h.get i:=_root_.id rfl
theorem Z7(h:aA)(l:Nat)(o:DO):(wl h l).push o=wl (h.push o) l:=_root_.id rfl
theorem GX(h:aA)(l i:Nat)(o:DO):(wl h l).set i o=wl (h.set i o) l:=_root_.id rfl
theorem MX(h:aA)(a b:Nat):wl (wl h a) b=wl h b:=_root_.id rfl
theorem Z6(h:aA):wl h h.lim=h:=_root_.id rfl
theorem Lo(h:aA)(o:DO):wl (h.push o) h.lim=h.push o:=_root_.id rfl
theorem HB(h:aA)(l:Nat)(hl:l=h.lim):wl h l=h:=by subst hl;rfl
theorem Z8:qT.n=0:=_root_.id rfl
theorem Vp:qT.lim=0:=_root_.id rfl
abbrev eU8(b:UInt8):DV:=.int .u8 b.toNat
def HY(h:aA):Option (List UInt8)→Option (DV×aA)
 | some s=>some (.str s,h)
 | none=>none
def Bt(h:aA):Option (List DV)→Option (DV×aA)
 | some ys=>HY h (ys.mapM Ph)
 | none=>none
def Vf(h:aA)(ety sz bytes:Nat)(s:DV):DV→Option (DV×aA)
 | .str t=>bF h ety sz bytes s (t.map eU8)
 | _=>none
theorem Sl(c:Nat→List DV→aA→Option (DV×aA))(h:aA)(env:Env)(x:Opd):bH c (.bytesStr x) env h=Bt h (elems h 1 (x.eval env)):=by
 simp only[bH,aC]
 cases elems h 1 (x.eval env)with
 | none=>rfl
 | some ys=>cases hm:ys.mapM Ph<;>simp only[Bt,HY,hm]
theorem Hw(h:aA)(ys:List DV):Bt h (some ys)=HY h (ys.mapM Ph):=rfl
theorem N1(h:aA)(s:List UInt8):HY h (some s)=some (.str s,h):=rfl
theorem DR(xs:List UInt8):(xs.map eU8).mapM Ph=some xs:=by
 induction xs with
 | nil=>rfl
 | cons b xs ih =>
  have hb:Ph (eU8 b)=some b:=by simp[Ph,eU8]
  simp only[List.map_cons,List.mapM_cons,hb,ih]
  rfl
theorem Yf(c:Nat→List DV→aA→Option (DV×aA))(h:aA)(env:Env)(ety sz bytes:Nat)(s x:Opd):bH c (.appendS ety sz bytes s x) env h=Vf h ety sz bytes (s.eval env) (x.eval env):=by
 simp only[bH,aC]
 cases x.eval env<;>rfl
theorem Pn(h:aA)(ety sz bytes:Nat)(s:DV)(t:List UInt8):Vf h ety sz bytes s (.str t)=bF h ety sz bytes s (t.map eU8):=rfl
theorem CR(f:Nat):E6 f=([]:List Nat).contains f:=rfl
attribute [simp] Sa CR
attribute [simp] Sl Hw N1 DR Yf Pn
attribute [simp] D9 Fc O5 CC O3 IS O2 BX IR BZ P2 Jc Fh Nb Rq IT Jb Nc CH
 CB P0 Xk CF Zn PG RA GB P8 P9 HE
 JH JG DH OG DE Jh JI DB Sh DG OD OE OC RG JK DF Nn DD Nm Sk DC Sj Sg Yb Fx R0 JJ Q7 Si Yc Yd Nl Q8 Nk
 yJ LP Mm Ml Iv Mg Mh Qp Mi Mk Iu Mj Em It Ir By Iq
 MY Z9 cD GY Z8 Vp J6 Ym DZ Yn Yo N2 Qn Qo FG Ua Qm AI set_set Pr Vu J7 Gy AB PY GZ HA Z7 GX MX Z6 Lo HB FQ Jv Hs Pa wX Ju Bq N5 uQ uP Az A4 FV A5 OF BI LN W9 W8 B4 Ye Pk RE RD Rw Uh Zw Ug Zr Zt V8 Zs Zv Uf Zu Ow Ue Ud Lj Uc
 Hj Dj Zm JU EC ED JT EF Vb Uz Va Y5 X9 Y1 Y2 Y3 Y4 X8 X3 X4 X5 X6 X7 MZ NA
 FE sL Ut Uu Us Pg Xv pR Ry Zi V3 Xy W6 B1 Oq Y8 Ix FB U7 U8 Zl Pl V6 jS Ji Ga Ss
 Sf A9 uA
 IY CN P4 A6 Y9 K6 T8 Yt IX CM IV IW CK CL Rs CJ CI E5 IU Rt LL Xo Nd P5 wG Ru T1
 LA Zk U6 Je Xm Jf xU JE AE J9 AD HF ND HM NC NF NB HG HK HJ HI
 CA CE O8 Xb Xi O9 Xf Rj Mv Rl Rk Mw Xh Xj Xe Xd Xc HP Px AN AK Kg HO HN AO AQ NH NI NG QC HQ AP Py Lt AM Ls Qb AL Qa Pw K7 Pz Vz Lr
 Q2 Xu IB BM IE S1 DT DS S0 R9 S5 DY JS DW B5 B6 Vs Vr JC CU R3 R4 Q1 Xt JN DJ OM OI R8 JM JL DM DP OK OL OJ RI JO DN So Nt DL Ns Sr DK Sq Sn R7 Sp Yj Nr S6 S8 S7 DX CV CW CT FR FS Hp Dn yE N4 Wz O6 CD Xa Rn
 HZ D2 BJ NR Qv xA D3 Qr Cb Qx BG BH BF LY D5 Qw yY Qu yX Cd Qt Cc Ca Eo BE Kl D4 Kj Qs Wp Ep Mo Kk yW
 Cy iO Ux Uw uB vD Dd vE bC wB B3 TN
end Go.Dm
/-
Part 5 of "De": copies of rows; rows with room left over behind a deletion.
-/
namespace Go.Dm
theorem pO{lo:Nat}{h:aA}{v:DV}{ety sz bytes:Nat}{ys:List DV}{A:Option (DV×aA)}(he:elems h sz v=some ys)(wf:WF h)(dM:lo≤h.n)(aS:h.lim≤h.n)(hb:ys.length*bytes≤140737488355328)(As:1≤bytes)(hA:cH ety sz bytes h [v]=A) :
  ∃ v' h',A=some (v',h')∧Own lo h' v' ety sz ys∧Ext lo h h'∧Ext h.n h h':=by
 have hm:ys.length≤140737488355328:=Nat.le_trans (Nat.le_mul_of_pos_right _ As) hb
 subst hA
 by_cases hy:ys=[]
 ·subst hy
  refine⟨.nsl,h.push .dead,?_,.nil rfl rfl,(Ext.refl dM wf).push,(Ext.refl (Nat.le_refl _) wf).push⟩
  simp[cH,he]
 ·have Nx:ys.isEmpty=false:=by cases ys<;>simp_all
  refine⟨.sl (h.n+1) sz 0 ys.length,(h.push (.arr ety sz [] (some 0))).push (.arr ety sz ys none),?_,.arr (h.n+1) rfl ?_ ?_ (by omega),((Ext.refl dM wf).push).push,((Ext.refl (Nat.le_refl _) wf).push).push⟩
  ·simp only[cH,he,Nx]
   rw[if_neg (by simp),if_pos ⟨hb,by omega⟩]
  ·exact bQ
  ·show h.lim≤h.n+1
   omega
inductive OwnR(lo:Nat)(h:aA)(v:DV)(ety sz:Nat)(xs:List DV):Prop where
 | nil (hv:v=.nsl) (hx:xs=[])
 | arr (id:Nat) (sp:List DV) (cap:Option Nat) (hv:v=.sl id sz 0 xs.length) (hg:h.get id=some (.arr ety sz (xs++sp) cap)) (aS:h.lim≤id) (dM:lo≤id)
theorem Own.toR{lo:Nat}{h:aA}{v:DV}{ety sz:Nat}{xs:List DV}(w:Own lo h v ety sz xs):OwnR lo h v ety sz xs:=by
 cases w with
 | nil hv hx=>exact .nil hv hx
 | arr id hv hg hl hi=>exact .arr id [] none hv (by simpa using hg) hl hi
section OwnR
variable {lo:Nat} {h:aA} {v:DV} {ety sz:Nat} {xs:List DV}
theorem OwnR.push{o:DO}(w:OwnR lo h v ety sz xs):OwnR lo (h.push o) v ety sz xs:=by
 cases w with
 | nil hv hx=>exact .nil hv hx
 | arr id sp cap hv hg aS dM =>
  refine .arr id sp cap hv ?_ aS dM
  rw[cD,if_neg (by have:=aI hg;omega)];exact hg
theorem OwnR.ext{h':aA}(w:OwnR lo h v ety sz xs)(x:Ext h.n h h'):OwnR lo h' v ety sz xs:=by
 cases w with
 | nil hv hx=>exact .nil hv hx
 | arr id sp cap hv hg hl hi=>exact .arr id sp cap hv ((x.get id (aI hg)).trans hg) (by rw[x.lim];exact hl) hi
theorem OwnR.lenV(w:OwnR lo h v ety sz xs):lenV h 1 v=some (.int .i64 xs.length):=by
 cases w with
 | nil hv hx=>subst hv;subst hx;rfl
 | arr id sp cap hv hg hl hi=>subst hv;rfl
theorem OwnR.elems(w:OwnR lo h v ety sz xs):elems h sz v=some xs:=by
 cases w with
 | nil hv hx=>subst hv;subst hx;rfl
 | arr id sp cap hv hg hl hi=>subst hv;simp[Dm.elems,hg]
theorem OwnR.resolve{α:Type}{e:α→DV}{ys:List α}{k n:Nat}(tag:Bool)(w:OwnR lo h v ety sz (ys.map e))(hf:∀y∈ys,iQ k (e y))(hn:k+1≤n):resolve tag h n v=some (eL tag sz e ys):=by
 obtain⟨m,rfl,hm⟩:=cL hn
 cases w with
 | nil hv hx =>
  subst hv
  cases ys with
  | nil=>rfl
  | cons y r=>simp at hx
 | arr id sp cap hv hg hl hi =>
  subst hv
  have zU:(ys.map e).mapM (Dm.resolve tag h m)=some (ys.map e):=pM fun x hx=>by
   obtain⟨y,hy,rfl⟩:=List.mem_map.1 hx
   exact hf y hy tag h m hm
  simp only[Dm.resolve,hg,true_and,Nat.zero_add,List.length_append,Nat.le_add_right,if_true,List.drop_zero,List.take_left,zU]
  rfl
theorem OwnR.aU(w:OwnR lo h v ety sz xs):aU 1 v=true:=by
 cases w with
 | nil hv hx=>subst hv;rfl
 | arr id sp cap hv hg hl hi=>subst hv;rfl
theorem OwnR.aF(w:OwnR lo h v ety sz xs):aF 1 v=[v]:=by
 cases w with
 | nil hv hx=>subst hv;rfl
 | arr id sp cap hv hg hl hi=>subst hv;rfl
theorem OwnR.out{α:Type}{e:α→DV}{ys:List α}{k:Nat}(w:OwnR lo h v ety sz (ys.map e))(hf:∀y∈ys,iQ k (e y))(hu:∀y∈ys,Unl k (e y))(hk:k≤198) :
  gV (some (v,h))=some (eL false sz e ys) :=
 Se (k:=k+1) (w.resolve false hf (by show k+1≤200;omega)) (jH hu) (by omega)
theorem OwnR.index(w:OwnR lo h v ety sz xs){i:Nat}{x:DV}(hx:xs[i]?=some x)(k:IntKind) :
  ∃ id sp cap,v=.sl id sz 0 xs.length∧h.get id=some (.arr ety sz (xs++sp) cap)∧h.lim≤id∧lo≤id∧cF sz v (.int k (i:Int))=some (.ptr id sz i 0)∧(xs++sp)[i]?=some x:=by
 have hi:i<xs.length:=by
  by_cases aY:i<xs.length
  ·exact aY
  ·rw[List.getElem?_eq_none (by omega)]at hx;cases hx
 cases w with
 | nil hv Im=>subst Im;simp at hi
 | arr id sp cap hv hg hl dM =>
  refine⟨id,sp,cap,hv,hg,hl,dM,?_,by rw[List.getElem?_append_left hi];exact hx⟩
  subst hv
  simp[cF,asI,hi]
end OwnR
theorem Own.aU{lo:Nat}{h:aA}{v:DV}{ety sz:Nat}{xs:List DV}(w:Own lo h v ety sz xs):aU 1 v=true:=w.toR.aU
theorem Own.aF{lo:Nat}{h:aA}{v:DV}{ety sz:Nat}{xs:List DV}(w:Own lo h v ety sz xs):aF 1 v=[v]:=w.toR.aF
theorem Own.wl{lo:Nat}{h:aA}{v:DV}{ety sz:Nat}{xs:List DV}(w:Own lo h v ety sz xs){m:Nat}(hm:m≤lo):Own lo (Dm.wl h m) v ety sz xs:=by
 cases w with
 | nil hv hx=>exact .nil hv hx
 | arr id hv hg hl hi=>exact .arr id hv hg (Nat.le_trans hm hi) hi
theorem Own.bA{lo:Nat}{h:aA}{v:DV}{ety sz:Nat}{xs:List DV}(w:Own lo h v ety sz xs)(wf:WF h){id:Nat}{o:DO}(eK:id<lo)(hn:id<h.n):Own lo (h.set id o) v ety sz xs:=by
 cases w with
 | nil hv hx=>exact .nil hv hx
 | arr k hv hg hl hi=>exact .arr k hv (by rw[bW wf hn,if_neg (by omega)];exact hg) hl hi
theorem Own.lower{lo lo':Nat}{h:aA}{v:DV}{ety sz:Nat}{xs:List DV}(w:Own lo h v ety sz xs)(hl:lo'≤lo):Own lo' h v ety sz xs:=by
 cases w with
 | nil hv hx=>exact .nil hv hx
 | arr k hv hg aS hi=>exact .arr k hv hg aS (Nat.le_trans hl hi)
theorem Ext.wl{lo:Nat}{h h':aA}(x:Ext lo h h')(m:Nat)(hm:m=h.lim):Ext lo h (Dm.wl h' m):=⟨x.le,hm,x.get,x.wf⟩
theorem Ext.lower{lo lo':Nat}{h h':aA}(x:Ext lo h h')(hl:lo'≤lo):Ext lo' h h':=⟨Nat.le_trans hl x.le,x.lim,fun id eK=>x.get id (by omega),x.wf⟩
theorem Al{lo m:Nat}{h:aA}{v:DV}{ety sz bytes:Nat}{ys:List DV}{A:Option (DV×aA)}(hA:cH ety sz bytes (Dm.wl h m) [v]=A)(he:elems h sz v=some ys)(wf:WF h)(dM:lo≤h.n)(hm:m≤h.n)(aS:h.lim≤h.n)(hb:ys.length*bytes≤140737488355328)(As:1≤bytes) :
  ∃ v' h',A=some (v',h')∧Own lo (Dm.wl h' h.lim) v' ety sz ys∧Ext lo h (Dm.wl h' h.lim)∧Ext h.n h (Dm.wl h' h.lim):=by
 have EP:elems (Dm.wl h m) sz v=some ys:=he
 obtain⟨v',h',e,o,x,y⟩:=pO (lo:=h.n) (h:=Dm.wl h m) EP (wf.wl m) (Nat.le_refl _) hm hb As hA
 exact⟨v',h',e,(o.wl aS).lower dM,⟨Nat.le_trans dM x.le,rfl,fun id eK=>x.get id (by omega),x.wf⟩,⟨x.le,rfl,x.get,x.wf⟩⟩
def gC(ety:Nat)(h h':aA):Prop:=∀k o,h.get k=some o→(∀s xs c,o≠.arr ety s xs c)→h'.get k=some o
theorem gC.refl(ety:Nat)(h:aA):gC ety h h:=fun _ _ h _=>h
theorem gC.push{ety:Nat}{h h':aA}{o:DO}(x:gC ety h h'):gC ety h (h'.push o):=fun k ob hg cY=>by
 have:=x k ob hg cY
 rw[cD,if_neg (by have:=aI this;omega)];exact this
theorem gC.set{ety:Nat}{h h':aA}{id s:Nat}{xs:List DV}{c:Option Nat}{o:DO}(x:gC ety h h')(w:WF h')(hg:h.get id=some (.arr ety s xs c))(eK:id<h'.n):gC ety h (h'.set id o):=fun k ob hk cY=>by
 have hki:k≠id:=by
  intro e
  subst e
  rw[hg]at hk
  injection hk with hk
  exact cY _ _ _ hk.symm
 rw[bW w eK,if_neg hki]
 exact x k ob hk cY
theorem Own.keep{lo:Nat}{h h':aA}{v:DV}{ety e2 sz:Nat}{xs:List DV}(w:Own lo h v e2 sz xs)(x:gC ety h h')(hl:h'.lim=h.lim)(cY:e2≠ety):Own lo h' v e2 sz xs:=by
 cases w with
 | nil hv hx=>exact .nil hv hx
 | arr id hv hg aS dM =>
  exact .arr id hv (x _ _ hg (fun s ys c e=>by injection e with e1;exact cY e1)) (by rw[hl];exact aS) dM
theorem OwnR.keep{lo:Nat}{h h':aA}{v:DV}{ety e2 sz:Nat}{xs:List DV}(w:OwnR lo h v e2 sz xs)(x:gC ety h h')(hl:h'.lim=h.lim)(cY:e2≠ety):OwnR lo h' v e2 sz xs:=by
 cases w with
 | nil hv hx=>exact .nil hv hx
 | arr id sp cap hv hg aS dM =>
  exact .arr id sp cap hv (x _ _ hg (fun s ys c e=>by injection e with e1;exact cY e1)) (by rw[hl];exact aS) dM
theorem OwnR.bA{lo:Nat}{h:aA}{v:DV}{ety sz:Nat}{xs:List DV}(w:OwnR lo h v ety sz xs)(wf:WF h){id:Nat}{o:DO}(eK:id<lo)(hn:id<h.n):OwnR lo (h.set id o) v ety sz xs:=by
 cases w with
 | nil hv hx=>exact .nil hv hx
 | arr k sp cap hv hg hl hi=>exact .arr k sp cap hv (by rw[bW wf hn,if_neg (by omega)];exact hg) hl hi
theorem OwnR.lower{lo lo':Nat}{h:aA}{v:DV}{ety sz:Nat}{xs:List DV}(w:OwnR lo h v ety sz xs)(hl:lo'≤lo):OwnR lo' h v ety sz xs:=by
 cases w with
 | nil hv hx=>exact .nil hv hx
 | arr k sp cap hv hg aS hi=>exact .arr k sp cap hv hg aS (Nat.le_trans hl hi)
theorem gS{h:aA}{id ety sz bytes len:Nat}{xs ys:List DV}{cap:Option Nat}(hg:h.get id=some (.arr ety sz xs cap))(cB:len+ys.length≤xs.length)(aS:h.lim≤id)(hb:(len+ys.length)*bytes≤140737488355328)(As:1≤bytes)(hy:ys≠[]) :
  bF h ety sz bytes (.sl id sz 0 len) ys=some (.sl id sz 0 (len+ys.length),h.set id (.arr ety sz (cN xs ys len) cap)):=by
 have hm:len+ys.length≤140737488355328:=Nat.le_trans (Nat.le_mul_of_pos_right _ As) hb
 have Nx:ys.isEmpty=false:=by cases ys<;>simp_all
 simp only[bF,Nx,hg,Bool.false_eq_true,if_false,true_and,Nat.zero_add]
 rw[if_pos ⟨by omega,hb,by omega⟩,if_pos cB,if_pos aS]
theorem eN{h:aA}{id ety sz bytes len c:Nat}{xs ys:List DV}(hg:h.get id=some (.arr ety sz xs (some c)))(hl:len≤xs.length)(cB:xs.length<len+ys.length)(hb:(len+ys.length)*bytes≤140737488355328)(As:1≤bytes)(hy:ys≠[]) :
  bF h ety sz bytes (.sl id sz 0 len) ys=some (.sl h.n sz 0 (len+ys.length),h.push (.arr ety sz (xs.take len++ys) none)):=by
 have hm:len+ys.length≤140737488355328:=Nat.le_trans (Nat.le_mul_of_pos_right _ As) hb
 have Nx:ys.isEmpty=false:=by cases ys<;>simp_all
 simp only[bF,Nx,hg,Bool.false_eq_true,if_false,true_and,Nat.zero_add,List.drop_zero]
 rw[if_pos ⟨hl,hb,by omega⟩,if_neg (by omega)]
theorem sF(X:List DV)(u:DV)(i:Nat)(hi:i<X.length):cN (X++[u]) (List.take (X.length-i) (List.take (X.length+1-i) (List.drop i (X++[u])))) (i+1)=X.take (i+1)++X.drop i:=by
 have e1:List.take (X.length-i) (List.take (X.length+1-i) (List.drop i (X++[u])))=X.drop i:=by
  rw[List.take_take,Nat.min_eq_left (by omega),List.drop_append_of_le_length (by omega),List.take_left' (by simp)]
 rw[e1]
 unfold cN
 have e2:List.drop (i+1+(X.drop i).length) (X++[u])=[]:=List.drop_eq_nil_of_le (by simp only[List.length_append,List.length_drop,List.length_cons,List.length_nil];omega)
 rw[e2,List.take_append_of_le_length (by omega),List.append_nil]
theorem zP(X:List DV)(x:DV)(i:Nat)(hi:i<X.length):cN (X.take (i+1)++X.drop i) [x] i=X.take i++x::X.drop i:=by
 unfold cN
 have h1:(X.take (i+1)).length=i+1:=by simp;omega
 rw[List.take_append_of_le_length (by omega),List.take_take,Nat.min_eq_left (by omega)]
 have:List.drop (i+[x].length) (X.take (i+1)++X.drop i)=X.drop i:=by
  rw[List.drop_left' (by simpa using h1)]
 rw[this];simp
theorem vC(X:List DV)(z x:DV)(i:Nat)(hi:i<X.length):cN (X.take i++List.replicate (X.length+1-i) z) [x] i=X.take i++x::List.replicate (X.length-i) z:=by
 unfold cN
 have h1:(X.take i).length=i:=by simp;omega
 rw[List.take_left' h1]
 have h2:List.replicate (X.length+1-i) z=z::List.replicate (X.length-i) z:=by
  rw[show X.length+1-i=(X.length-i)+1 by omega,List.replicate_succ]
 rw[h2]
 have:List.drop (i+[x].length) (X.take i++z::List.replicate (X.length-i) z)=List.replicate (X.length-i) z:=by
  rw[List.drop_append,h1,List.drop_eq_nil_of_le (by simp;omega)]
  simp
 rw[this];simp
theorem vB(X:List DV)(z x:DV)(i:Nat)(hi:i<X.length):cN (X.take i++x::List.replicate (X.length-i) z) (X.drop i) (i+1)=X.take i++x::X.drop i:=by
 unfold cN
 have h1:(X.take i).length=i:=by simp;omega
 have h2:List.take (i+1) (X.take i++x::List.replicate (X.length-i) z)=X.take i++[x]:=by
  rw[List.take_append,h1,List.take_of_length_le (by omega)]
  simp
 have h3:List.drop (i+1+(X.drop i).length) (X.take i++x::List.replicate (X.length-i) z)=[]:=by
  apply List.drop_eq_nil_of_le
  simp;omega
 rw[h2,h3];simp
theorem OwnR.start(lo:Nat)(h:aA)(ety sz:Nat):OwnR lo h .nsl ety sz []:=.nil rfl rfl
theorem OwnR.fresh{lo:Nat}{h:aA}{ety sz:Nat}{xs:List DV}{cap:Option Nat}(aS:h.lim≤h.n)(dM:lo≤h.n):OwnR lo (h.push (.arr ety sz xs cap)) (.sl h.n sz 0 xs.length) ety sz xs:=.arr h.n [] cap rfl (by simp[cD]) aS dM
theorem OwnR.append{lo:Nat}{h:aA}{v:DV}{ety sz bytes:Nat}{xs ys:List DV}{A:Option (DV×aA)}(w:OwnR lo h v ety sz xs)(wf:WF h)(dM:lo≤h.n)(aS:h.lim≤h.n)(hA:bF h ety sz bytes v ys=A)
  (hb:(xs.length+ys.length)*bytes≤140737488355328) (As:1≤bytes):∃ v' h',A=some (v',h')∧OwnR lo h' v' ety sz (xs++ys)∧Ext lo h h'∧gC ety h h':=by
 have hm:xs.length+ys.length≤140737488355328:=Nat.le_trans (Nat.le_mul_of_pos_right _ As) hb
 by_cases hy:ys=[]
 ·subst hy
  refine⟨v,h,?_,by simpa using w,.refl dM wf,.refl _ _⟩
  rw[←hA]
  cases w with
  | nil hv hx=>subst hv;rfl
  | arr id sp cap hv hg _ _=>subst hv;rfl
 ·have Nx:ys.isEmpty=false:=by cases ys<;>simp_all
  have hyl:0<ys.length:=List.length_pos_iff.2 hy
  cases w with
  | nil hv hx =>
   subst hv;subst hx
   simp only[List.length_nil,Nat.zero_add]at hb hm
   refine⟨.sl h.n sz 0 ys.length,h.push (.arr ety sz ys none),?_,.arr h.n [] none rfl (by simp[cD]) (by exact aS) dM,(Ext.refl dM wf).push,(gC.refl _ _).push⟩
   rw[←hA]
   simp only[bF,Nx]
   rw[if_neg (by simp),if_pos ⟨hb,by omega⟩]
  | arr id sp cap hv hg hl hi =>
   subst hv
   have aY:=aI hg
   by_cases sT:xs.length+ys.length≤(xs++sp).length
   ·refine⟨.sl id sz 0 (xs.length+ys.length),h.set id (.arr ety sz (cN (xs++sp) ys xs.length) cap),?_,.arr id (sp.drop ys.length) cap (by simp) ?_ (by exact hl) hi,(Ext.refl dM wf).set hi aY,(gC.refl _ _).set wf hg aY⟩
    ·rw[←hA];exact gS hg sT hl hb As hy
    ·rw[bW wf aY,if_pos rfl]
     simp only[cN,List.take_left',List.append_assoc]
     congr 3
     rw[List.drop_append]
     simp
   ·cases cap with
    | none =>
     refine⟨.sl h.n sz 0 (xs.length+ys.length),(h.set id .dead).push (.arr ety sz (xs++ys) none),?_,.arr h.n [] none (by simp) ?_ (by exact aS) dM,((Ext.refl dM wf).set hi aY).push,((gC.refl _ _).set wf hg aY).push⟩
     ·rw[←hA]
      simp only[bF,Nx,hg]
      simp only[Bool.false_eq_true,if_false,true_and,Nat.zero_add,List.drop_zero]
      rw[if_pos ⟨by simp,hb,by omega⟩,if_neg sT,if_pos hl]
      simp
     ·simp
    | some c =>
     refine⟨.sl h.n sz 0 (xs.length+ys.length),h.push (.arr ety sz (xs++ys) none),?_,.arr h.n [] none (by simp) ?_ (by exact aS) dM,(Ext.refl dM wf).push,(gC.refl _ _).push⟩
     ·rw[←hA]
      rw[eN hg (by simp) (by omega) hb As hy]
      simp
     ·simp
structure kA(lo:Nat)(h:aA)(id ety sz:Nat)(xs:List DV):Prop where
 get:∃ sp cap,h.get id=some (.arr ety sz (xs++sp) cap)
 lim:h.lim≤id
 lo:lo≤id
theorem kA.toR{lo:Nat}{h:aA}{id ety sz:Nat}{xs:List DV}(w:kA lo h id ety sz xs):OwnR lo h (.sl id sz 0 xs.length) ety sz xs:=by
 obtain⟨⟨sp,cap,hg⟩,hl,hi⟩:=w
 exact .arr id sp cap rfl hg hl hi
theorem kA.lt{lo:Nat}{h:aA}{id ety sz:Nat}{xs:List DV}(w:kA lo h id ety sz xs):id<h.n:=by
 obtain⟨⟨sp,cap,hg⟩,_,_⟩:=w
 exact aI hg
theorem kA.fresh{lo:Nat}{h:aA}{ety sz:Nat}{xs:List DV}{cap:Option Nat}(aS:h.lim≤h.n)(dM:lo≤h.n):kA lo (h.push (.arr ety sz xs cap)) h.n ety sz xs:=⟨⟨[],cap,by simp[cD]⟩,aS,dM⟩
theorem kA.push{lo:Nat}{h:aA}{id ety sz:Nat}{xs:List DV}{o:DO}(w:kA lo h id ety sz xs):kA lo (h.push o) id ety sz xs:=by
 obtain⟨⟨sp,cap,hg⟩,hl,hi⟩:=w
 exact⟨⟨sp,cap,by rw[cD,if_neg (by have:=aI hg;omega)];exact hg⟩,hl,hi⟩
theorem kA.keep{lo:Nat}{h h':aA}{id ety e2 sz:Nat}{xs:List DV}(w:kA lo h id e2 sz xs)(x:gC ety h h')(hl:h'.lim=h.lim)(cY:e2≠ety):kA lo h' id e2 sz xs:=by
 obtain⟨⟨sp,cap,hg⟩,aS,hi⟩:=w
 exact⟨⟨sp,cap,x _ _ hg (fun s ys c e=>by injection e with e1;exact cY e1)⟩,by rw[hl];exact aS,hi⟩
theorem kA.bA{lo:Nat}{h:aA}{id ety sz:Nat}{xs:List DV}(w:kA lo h id ety sz xs)(wf:WF h){k:Nat}{o:DO}(eK:k<lo)(hn:k<h.n):kA lo (h.set k o) id ety sz xs:=by
 obtain⟨⟨sp,cap,hg⟩,hl,hi⟩:=w
 exact⟨⟨sp,cap,by rw[bW wf hn,if_neg (by omega)];exact hg⟩,hl,hi⟩
theorem kA.wl{lo:Nat}{h:aA}{id ety sz:Nat}{xs:List DV}(w:kA lo h id ety sz xs){m:Nat}(hm:m≤lo):kA lo (Dm.wl h m) id ety sz xs:=by
 obtain⟨⟨sp,cap,hg⟩,hl,hi⟩:=w
 exact⟨⟨sp,cap,hg⟩,Nat.le_trans hm hi,hi⟩
theorem kA.ext{lo:Nat}{h h':aA}{id ety sz:Nat}{xs:List DV}(w:kA lo h id ety sz xs)(x:Ext h.n h h'):kA lo h' id ety sz xs:=by
 have:=w.lt
 obtain⟨⟨sp,cap,hg⟩,hl,hi⟩:=w
 exact⟨⟨sp,cap,(x.get id this).trans hg⟩,by rw[x.lim];exact hl,hi⟩
theorem kA.append{lo:Nat}{h:aA}{id ety sz bytes:Nat}{xs ys:List DV}{A:Option (DV×aA)}{n:Nat}(w:kA lo h id ety sz xs)(hn:n=xs.length)(wf:WF h)(dM:lo≤h.n)(aS:h.lim≤h.n)(hA:bF h ety sz bytes (.sl id sz 0 n) ys=A)
  (hb:(xs.length+ys.length)*bytes≤140737488355328) (As:1≤bytes):∃ id' h',A=some (.sl id' sz 0 (xs.length+ys.length),h')∧kA lo h' id' ety sz (xs++ys)∧Ext lo h h'∧gC ety h h'∧(id'=id∨h.n≤id'):=by
 subst hn
 have hm:xs.length+ys.length≤140737488355328:=Nat.le_trans (Nat.le_mul_of_pos_right _ As) hb
 by_cases hy:ys=[]
 ·subst hy
  refine⟨id,h,?_,by simpa using w,.refl dM wf,.refl _ _,.inl rfl⟩
  rw[←hA];rfl
 ·have Nx:ys.isEmpty=false:=by cases ys<;>simp_all
  obtain⟨⟨sp,cap,hg⟩,hl,hi⟩:=w
  have aY:=aI hg
  by_cases sT:xs.length+ys.length≤(xs++sp).length
  ·refine⟨id,h.set id (.arr ety sz (cN (xs++sp) ys xs.length) cap),?_,⟨⟨sp.drop ys.length,cap,?_⟩,hl,hi⟩,(Ext.refl dM wf).set hi aY,(gC.refl _ _).set wf hg aY,.inl rfl⟩
   ·rw[←hA];exact gS hg sT hl hb As hy
   ·rw[bW wf aY,if_pos rfl]
    simp only[cN,List.take_left',List.append_assoc]
    congr 3
    rw[List.drop_append]
    simp
  ·cases cap with
   | none =>
    refine⟨h.n,(h.set id .dead).push (.arr ety sz (xs++ys) none),?_,⟨⟨[],none,?_⟩,aS,dM⟩,((Ext.refl dM wf).set hi aY).push,((gC.refl _ _).set wf hg aY).push,.inr (Nat.le_refl _)⟩
    ·rw[←hA]
     simp only[bF,Nx,hg]
     simp only[Bool.false_eq_true,if_false,true_and,Nat.zero_add,List.drop_zero]
     rw[if_pos ⟨by simp,hb,by omega⟩,if_neg sT,if_pos hl]
     simp
    ·simp
   | some c =>
    refine⟨h.n,h.push (.arr ety sz (xs++ys) none),?_,⟨⟨[],none,?_⟩,aS,dM⟩,(Ext.refl dM wf).push,(gC.refl _ _).push,.inr (Nat.le_refl _)⟩
    ·rw[←hA]
     rw[eN hg (by simp) (by omega) hb As hy]
     simp
    ·simp
theorem V7(h:aA)(t:Bool)(sz:Nat)(xs:List DV):elems h sz (.isl t sz xs)=some xs:=by simp[elems]
theorem BN(t:Bool)(sz:Nat)(xs:List DV):Ey (.isl t sz xs)=none:=_root_.id rfl
theorem S2(t:Bool)(sz:Nat)(xs:List DV):mapId (.isl t sz xs)=none:=_root_.id rfl
theorem Ra{α:Type}(h:aA)(t:Bool)(sz:Nat)(e:α→DV)(xs:List α)(k:IntKind)(i:Nat)(hi:i≤xs.length):jJ h sz (eL t sz e xs) none (some (.int k (i:Int)))=some (.isl (t && !xs.isEmpty) sz ((xs.take i).map e)):=by
 cases xs with
 | nil =>
  have h0:i=0:=by simpa using hi
  subst h0
  simp[mZ,jJ,dG,asI]
 | cons x xs =>
  have h2:(i:Int)≤((xs.length+1:Nat):Int):=by simp at hi;omega
  rw[tY]
  simp only[jJ,List.length_cons,List.length_map,dG,asI]
  simp only[List.isEmpty_cons,Bool.not_false,Bool.and_true,true_or,if_true,Int.natCast_nonneg,h2,and_self,Int.toNat_natCast,List.drop_zero,Nat.sub_zero]
  rw[←List.map_cons,←List.map_take]
theorem yZ{α:Type}(h:aA)(t:Bool)(sz:Nat)(e:α→DV)(xs:List α)(k:IntKind)(i:Nat)(hi:i≤xs.length):jJ h sz (eL t sz e xs) (some (.int k (i:Int))) none=some (.isl (t && !xs.isEmpty) sz ((xs.drop i).map e)):=by
 cases xs with
 | nil =>
  have h0:i=0:=by simpa using hi
  subst h0
  simp[mZ,jJ,dG,asI]
 | cons x xs =>
  have h2:(i:Int)≤((xs.length+1:Nat):Int):=by simp at hi;omega
  rw[tY]
  simp only[jJ,List.length_cons,List.length_map,dG,asI]
  simp only[List.isEmpty_cons,Bool.not_false,Bool.and_true,true_or,if_true,Int.natCast_nonneg,h2,and_self,Int.toNat_natCast]
  rw[←List.map_cons,←List.map_drop,List.take_of_length_le (by simp)]
theorem Mr{α:Type}(h:aA)(t:Bool)(sz:Nat)(e:α→DV)(xs:List α)(k:IntKind)(i:Nat)(hi:i+1≤xs.length):jJ h sz (eL t sz e xs) (some (.int k ((i:Int)+1))) none=some (.isl (t && !xs.isEmpty) sz ((xs.drop (i+1)).map e)):=by
 have:=yZ h t sz e xs k (i+1) hi
 rwa[Int.natCast_add]at this
attribute [simp] V7 BN S2 Ra yZ Mr
mutual
theorem DV.beq_refl:∀v:DV,DV.beq v v=true
 | .unk|.nilp|.nsl|.nmap|.nilf|.nili=>rfl
 | .bool _|.int _ _|.str _|.ptr ..|.sl ..|.map _|.tok _|.atl _=>by simp[DV.beq]
 | .iptr l xs o=>by simp[DV.beq,fV xs]
 | .isl l s xs=>by simp[DV.beq,fV xs]
 | .func f xs=>by simp[DV.beq,fV xs]
 | .iface t v=>by simp[DV.beq,DV.beq_refl v]
 | .agg xs=>by simp[DV.beq,fV xs]
 | .tup xs=>by simp[DV.beq,fV xs]
theorem fV:∀l:List DV,rO l l=true
 | []=>rfl
 | x::xs=>by simp[rO,DV.beq_refl x,fV xs]
end
theorem Hy:∀l:List (DV×DV),Hz l l=true
 | []=>rfl
 | x::xs=>by simp[Hz,B0,DV.beq_refl,Hy xs]
theorem sZ(o:DO):uR o o=true:=by
 cases o with
 | arr e s xs c=>cases c<;>simp[uR,PU,fV]
 | mp es=>simp[uR,Hy]
 | dead=>rfl
inductive Dep:Nat→DV→Prop where
 | int (k:IntKind) (n:Int) {d:Nat}:Dep (d+1) (.int k n)
 | bool (b:Bool) {d:Nat}:Dep (d+1) (.bool b)
 | str (s:List UInt8) {d:Nat}:Dep (d+1) (.str s)
 | isl (t:Bool) (sz:Nat) (xs:List DV) {d:Nat} (h:∀x∈xs,Dep d x):Dep (d+1) (.isl t sz xs)
 | agg (xs:List DV) {d:Nat} (h:∀x∈xs,Dep d x):Dep (d+1) (.agg xs)
theorem Dep.belowN{d:Nat}{v:DV}(h:Dep d v):∀{n N:Nat},d≤n→Dm.dJ n N v=true:=by
 induction h with
 | int k n=>intro m N hm;obtain⟨q,rfl,_⟩:=cL hm;rfl
 | bool b=>intro m N hm;obtain⟨q,rfl,_⟩:=cL hm;rfl
 | str s=>intro m N hm;obtain⟨q,rfl,_⟩:=cL hm;rfl
 | isl t sz xs h ih=>intro m N hm;obtain⟨q,rfl,hq⟩:=cL hm;rfl
 | agg xs h ih =>
  intro m N hm;obtain⟨q,rfl,hq⟩:=cL hm
  simp only[Dm.dJ,List.all_eq_true]
  exact fun x hx=>ih x hx hq
theorem Dep.eL{α:Type}{d:Nat}(t:Bool)(sz:Nat){e:α→DV}{xs:List α}(h:∀x∈xs,Dep d (e x)):Dep (d+1) (eL t sz e xs):=by
 cases xs with
 | nil=>exact .isl _ _ _ (fun x hx=>by cases hx)
 | cons x r =>
  rw[tY,←List.map_cons]
  refine .isl _ _ _ fun y hy=>?_
  obtain⟨z,hz,rfl⟩:=List.mem_map.1 hy
  exact h z hz
theorem Uk(c:iB):Dep 2 (aW c):=.agg _ (by
 intro x hx;simp only[List.mem_cons,List.not_mem_nil,or_false]at hx
 rcases hx with rfl|rfl|rfl|rfl|rfl<;>first|exact .int _ _|exact .str _)
theorem Ho(p:aZ):Dep 3 (bO p):=.eL _ _ fun c _=>Uk c
theorem Dep.mono{d:Nat}{v:DV}(h:Dep d v):∀{e:Nat},d≤e→Dep e v:=by
 induction h with
 | int k n=>intro e he;obtain⟨q,rfl,_⟩:=cL he;exact .int _ _
 | bool b=>intro e he;obtain⟨q,rfl,_⟩:=cL he;exact .bool _
 | str s=>intro e he;obtain⟨q,rfl,_⟩:=cL he;exact .str _
 | isl t sz xs h ih=>intro e he;obtain⟨q,rfl,hq⟩:=cL he;exact .isl _ _ _ fun x hx=>ih x hx hq
 | agg xs h ih=>intro e he;obtain⟨q,rfl,hq⟩:=cL he;exact .agg _ fun x hx=>ih x hx hq
theorem PO(x:ID):Dep 4 (eID x):=.agg _ (by
 intro x hx;simp only[List.mem_cons,List.not_mem_nil,or_false]at hx
 rcases hx with rfl|rfl<;>exact .int _ _)
theorem A3(a:bZ):Dep 4 (aH a):=.agg _ (by
 intro x hx;simp only[List.mem_cons,List.not_mem_nil,or_false]at hx
 rcases hx with rfl|rfl|rfl|rfl<;>first|exact .int _ _|exact Ho _)
theorem W4(a:aX):Dep 4 (aD a):=.agg _ (by
 intro x hx;simp only[List.mem_cons,List.not_mem_nil,or_false]at hx
 rcases hx with rfl|rfl|rfl|rfl|rfl|rfl|rfl<;>first|exact .int _ _|exact Ho _|exact .bool _)
theorem H8(a:gT):Dep 4 (bL a):=.agg _ (by
 intro x hx;simp only[List.mem_cons,List.not_mem_nil,or_false]at hx
 rcases hx with rfl|rfl|rfl<;>first|exact .int _ _|exact Ho _)
theorem lC{cs:List DV}(h:∀x∈cs,iQ 1 x):iQ 20 (.agg cs):=(Tr h).mono (by decide)
theorem mL{cs:List DV}(h:∀x∈cs,Unl 21 x):Unl 22 (.agg cs):=B9 h
theorem zL(x:ID):iQ 20 (eID x)∧Unl 22 (eID x):=⟨lC (by
 intro x hx;simp only[List.mem_cons,List.not_mem_nil,or_false]at hx
 rcases hx with rfl|rfl<;>exact hZ _ _),mL (by
 intro x hx;simp only[List.mem_cons,List.not_mem_nil,or_false]at hx
 rcases hx with rfl|rfl<;>exact(oY _ _).mono (by decide))⟩
theorem pA(a:bZ):iQ 20 (aH a)∧Unl 22 (aH a):=⟨lC (by
 intro x hx;simp only[List.mem_cons,List.not_mem_nil,or_false]at hx
 rcases hx with rfl|rfl|rfl|rfl<;>first|exact hZ _ _|exact Bn _),mL (by
 intro x hx;simp only[List.mem_cons,List.not_mem_nil,or_false]at hx
 rcases hx with rfl|rfl|rfl|rfl<;>first|exact(oY _ _).mono (by decide)|exact uM _)⟩
theorem cV(a:aX):iQ 20 (aD a)∧Unl 22 (aD a):=⟨lC (by
 intro x hx;simp only[List.mem_cons,List.not_mem_nil,or_false]at hx
 rcases hx with rfl|rfl|rfl|rfl|rfl|rfl|rfl<;>first|exact hZ _ _|exact Bn _|exact Bo _),mL (by
 intro x hx;simp only[List.mem_cons,List.not_mem_nil,or_false]at hx
 rcases hx with rfl|rfl|rfl|rfl|rfl|rfl|rfl<;>first|exact(oY _ _).mono (by decide)|exact uM _|exact(Ef _).mono (by decide))⟩
theorem pH(a:gT):iQ 20 (bL a)∧Unl 22 (bL a):=⟨lC (by
 intro x hx;simp only[List.mem_cons,List.not_mem_nil,or_false]at hx
 rcases hx with rfl|rfl|rfl<;>first|exact hZ _ _|exact Bn _),mL (by
 intro x hx;simp only[List.mem_cons,List.not_mem_nil,or_false]at hx
 rcases hx with rfl|rfl|rfl<;>first|exact(oY _ _).mono (by decide)|exact uM _)⟩
theorem tH(n:Int):iQ 20 (fJ n)∧Unl 22 (fJ n):=⟨(hZ _ _).mono (by decide),(oY _ _).mono (by decide)⟩
theorem pI(c:iB):iQ 20 (aW c)∧Unl 22 (aW c):=⟨xT.flat c,(xT.unl c).mono (by decide)⟩
theorem HL(n:Nat)(xs:List Int):bE (n+23) (eL false 1 fJ xs)=true:=jH (fun x _=>(tH x).2) _ (by omega)
theorem NE(n:Nat)(xs:List ID):bE (n+23) (eL false 2 eID xs)=true:=jH (fun x _=>(zL x).2) _ (by omega)
theorem Vx(n:Nat)(xs:List bZ):bE (n+23) (eL false 4 aH xs)=true:=jH (fun x _=>(pA x).2) _ (by omega)
theorem Vw(n:Nat)(xs:List aX):bE (n+23) (eL false 7 aD xs)=true:=jH (fun x _=>(cV x).2) _ (by omega)
theorem HH(n:Nat)(xs:List gT):bE (n+23) (eL false 3 bL xs)=true:=jH (fun x _=>(pH x).2) _ (by omega)
attribute [simp] HL NE Vx Vw HH
end Go.Dm
/-
Arguments of a call from outside: what the frame tells of them,in the machine's form;a function with arguments that answers true.
-/
namespace Go.Dm
open Go.RowKit
theorem Y7 {P : Program} {D : bV} (G : Kc P D) {f : Nat} {fn : Func} {body : Code} (hf : P.funcs[f]? = some fn) (hb : fn.body = some body) (hn : fn.name ≠ "runtime.NumGoroutine") {ds : List DV} {vs : List Value} {h' : aA} (hr : fc D f ds lD = some (.bool true, h')) (w : World) (hg : Vj w) (hv : VRs (Ul w) ds vs) :
  Calls P f vs.toArray w fun e w'=>e=.returned (.bool true)∧GG w w'∧∀b,b<w.heap.size→w'.heap[b]?=w.heap[b]?:=by
 obtain⟨n,he⟩:=Ea.1 hr
 have hc:=Hv G n f ds lD _ h' (Ul w) vs he (QZ w hg) hv
 have hen:=mC hf hb hn vs.toArray w
 rcases hc with⟨v,w',hJ,_⟩|⟨f',vals',hJ,hcalls⟩
 ·have:(callFunc f vs.toArray).run P w=.ok (.value v) w':=hJ
  rw[hen]at this
  cases this
 ·have h2:(callFunc f vs.toArray).run P w=.ok (.enter f' vals') w:=hJ
  rw[hen]at h2
  cases h2
  refine hcalls.mono fun e w' hp=>?_
  obtain⟨v,e1,ρ',k1,k2,k3⟩:=hp
  exact⟨by rw[e1,k3.bool_inv],Tl k2,fun b hb=>k2.frame b hb fun h=>h⟩
structure Ik(c:Ctx)(w:World):Prop where
 w:c.w=w
 O:∀b,¬c.O b
 X:∀b,¬c.X b
theorem Ik.zero(w:World):Ik (Ul w) w:=⟨rfl,fun _ h=>h,fun _ h=>h⟩
theorem Ik.still{c:Ctx}{w:World}(h:Ik c w):Ik c.still w:=⟨h.w,h.O,h.X⟩
theorem F0{α:Type}{p:Nat→α→Prop}:∀n,(∀i,i<n→∃ a,p i a)→∃ l:List α,l.length=n∧∀i (hi:i<l.length),p i l[i]
 | 0,_=>⟨[],rfl,fun i hi=>absurd hi (Nat.not_lt_zero _)⟩
 | n+1,h=>by
  obtain⟨l,hl,hp⟩:=F0 n fun i hi=>h i (Nat.lt_succ_of_lt hi)
  obtain⟨a,ha⟩:=h n (Nat.lt_succ_self n)
  refine⟨l++[a],by simp[hl],fun i hi=>?_⟩
  by_cases aY:i<l.length
  ·rw[List.getElem_append_left aY];exact hp i aY
  ·have:i=n:=by simp at hi;omega
   subst this
   rw[List.getElem_append_right (by omega)]
   simpa[hl]using ha
theorem Vi(b o n:Nat):(⟨b,o,none⟩:Addr).add n=⟨b,o+n,none⟩:=by
 unfold Addr.add
 split
 ·rename_i h;subst h;rfl
 ·rfl
theorem IA{w:World}{a:Addr}{v:Value}(h:w.cell? a=some v):a.spot=none∧a.block<w.heap.size:=by
 unfold World.cell? at h
 split at h
 ·rename_i hb
  refine⟨?_,?_⟩
  ·split at h
   ·cases h
   ·rename_i hs;cases hs2:a.spot with|none=>rfl|some x=>simp[hs2]at hs
  ·by_cases aY:a.block<w.heap.size
   ·exact aY
   ·rw[Array.getElem?_eq_none (by omega)]at hb;cases hb
 ·cases h
def jV(c:Ctx)(ds:List DV)(cs:List Value):Prop:=ds.length=cs.length∧∀i (h1:i<ds.length) (h2:i<cs.length),VR c ds[i] cs[i]∧(cs[i]).oneCell'=true
theorem jV.append{c:Ctx}{ds ds':List DV}{cs cs':List Value}(h:jV c ds cs)(h':jV c ds' cs'):jV c (ds++ds') (cs++cs'):=by
 refine⟨by rw[List.length_append,List.length_append,h.1,h'.1],fun i h1 h2=>?_⟩
 by_cases aY:i<ds.length
 ·rw[List.getElem_append_left aY,List.getElem_append_left (by rw[←h.1];exact aY)]
  exact h.2 i aY _
 ·rw[List.getElem_append_right (by omega),List.getElem_append_right (by rw[←h.1];omega)]
  have:i-cs.length=i-ds.length:=by rw[h.1]
  simp only[this]
  exact h'.2 (i-ds.length) (by rw[List.length_append]at h1;omega) _
theorem jV.one{c:Ctx}{d:DV}{v:Value}(h:VR c d v)(h1:v.oneCell'=true):jV c [d] [v]:=by
 refine⟨rfl,fun i h2 h3=>?_⟩
 have:i=0:=by simp at h2;omega
 subst this
 exact⟨h,h1⟩
theorem jV.nil{c:Ctx}:jV c [] []:=⟨rfl,fun i h=>absurd h (Nat.not_lt_zero _)⟩
section
variable {H:Type} {enc:TypeId×Value→H} {P:Program} {w:World} {sp:Nat→Bool} {sI:Bool}
theorem rZ{t:TypeId}{cs:List Value}{fuel:Nat}{x:DataW H×List MemPlace}(ht:P.underlying t=some (.int .i64))(h:DataW.trod enc P w 0 sp sI fuel t cs=some x)(c:Ctx):∃ n:Int,jV c [.int .i64 n] cs:=by
 obtain⟨n,rfl,_,_⟩:=DataW.trod_int ht h
 exact⟨n,.one (.int _ _) rfl⟩
theorem Fk{α:Type}{t e:TypeId}{cs:List Value}{fuel sz:Nat}{x:DataW H×List MemPlace}(ht:P.underlying t=some (.slice e))(hz:P.cellsOf e=sz)(hz0:0<sz)(h:DataW.trod enc P w 0 sp sI fuel t cs=some x){c:Ctx}(hc:Ik c w)
  (en:α→DV) (good:α→Prop) (nI:∀ecs y n,DataW.trod enc P w 0 sp sI n e ecs=some y→∃ a,good a∧jV c.still (aF sz (en a)) ecs) :
  ∃ l:List α,(∀a∈l,good a)∧l.length≤maxLen∧jV c [eL false sz en l] cs:=by
 rcases DataW.trod_slice ht h with⟨rfl,_⟩|⟨a,len,cap,elems,rest,n,_,rfl,_,hb,hl,hU,hel1,hel2,_⟩
 ·exact⟨[],fun a h=>(by cases h),Nat.zero_le _,.one (.isl0 _ _) rfl⟩
 ·rw[hz]at hel2
  have Z2:∀i,i<len→∃ p:α×List Value,good p.1∧w.cells? 0 (a.add (i*sz)) sz=some p.2∧jV c.still (aF sz (en p.1)) p.2:=fun i hi=>by
   have h1:=hel2 i hi
   rw[List.getElem?_eq_getElem (by omega)]at h1
   simp only[Option.bind_eq_some_iff]at h1
   obtain⟨ecs,h2,h3⟩:=h1
   obtain⟨b,h4,h5⟩:=nI _ _ _ h3
   exact⟨(b,ecs),h4,h2,h5⟩
  obtain⟨l,Bk,hlp⟩:=F0 len Z2
  refine⟨l.map (·.1),?_,by rw[List.length_map,Bk];omega,.one ?_ rfl⟩
  ·intro b hb
   obtain⟨p,hp,rfl⟩:=List.mem_map.1 hb
   obtain⟨i,hi,rfl⟩:=List.mem_iff_getElem.1 hp
   exact(hlp i hi).1
  ·by_cases h0:len=0
   ·have:l=[]:=List.eq_nil_of_length_eq_zero (by omega)
    subst this
    subst h0
    exact .isl0 _ _
   ·have cY:l≠[]:=fun e=>h0 (by rw[←Bk,e];rfl)
    have hne':l.map (·.1)≠[]:=by simpa using cY
    have xG:∀i (hi:i<l.length) j,j<sz→w.cell? ((a.add (i*sz)).add j)=(l[i]).2[j]?∧(l[i]).2.length=sz:=fun i hi j hj=>by
     obtain⟨_,k2,k3⟩:=World.cells?_some (hlp i hi).2.1
     exact⟨k3 j hj,k2⟩
    have uG:0<l.length:=by omega
    have h00:=xG 0 uG 0 hz0
    have ha0:(a.add (0*sz)).add 0=a:=by simp[Addr.add]
    rw[ha0,List.getElem?_eq_getElem (by rw[h00.2];exact hz0)]at h00
    obtain⟨hs,hbk⟩:=IA h00.1
    obtain⟨b,o,s⟩:=a
    simp only at hs hbk
    subst hs
    rw[MR false sz en hne']
    have Ti:∀i (hi:i<l.length) j (hj:j<sz),w.cell? ⟨b,o+i*sz+j,none⟩=some ((l[i]).2[j]'(by rw[(xG i hi j hj).2];exact hj)):=fun i hi j hj=>by
     have k1:=(xG i hi j hj).1
     rw[Vi,Vi]at k1
     exact k1.trans (List.getElem?_eq_getElem _)
    refine .isl (fun i j=>(w.cell? ⟨b,o+i*sz+j,none⟩).getD undef) (by simp[Bk]) hl (by rw[hc.w];exact hbk) (hc.O b) (fun _=>hc.X b) ?_ ?_ ?_
    ·intro i hi
     simp only[List.length_map]at hi
     simp only[List.getElem_map]
     have:=(hlp i hi).2.2.1
     rw[this]
     exact(xG i hi 0 hz0).2
    ·intro i j hi hj
     simp only[List.length_map]at hi
     rw[hc.w,Ti i hi j hj]
     have h5:=(hlp i hi).2.2
     have h6:=(xG i hi j hj).2
     exact⟨rfl,(h5.2 j (by rw[h5.1,h6];exact hj) (by rw[h6];exact hj)).2⟩
    ·intro i hi j hj
     simp only[List.length_map]at hi
     simp only[List.getElem_map]at hj ⊢
     have h5:=(hlp i hi).2.2
     have h6:=(xG i hi 0 hz0).2
     have sS:j<sz:=by rw[h5.1,h6]at hj;exact hj
     have h7:=(h5.2 j hj (by rw[h6];exact sS)).1
     have h8:(w.cell? ⟨b,o+i*sz+j,none⟩).getD undef=(l[i]).2[j]'(by rw[h6];exact sS):=by rw[Ti i hi j sS];rfl
     simp only[h8]
     exact h7
theorem IJ{w':World}(hg:∀b,b<w.heap.size→w'.heap[b]?=w.heap[b]?){p:MemPlace}(hp:p.block<w.heap.size):w.sameAt w' p:=by
 cases p with
 | cell b off =>
  show w'.cell? ⟨b,off,none⟩=w.cell? ⟨b,off,none⟩
  unfold World.cell?
  rw[hg b hp]
 | map b=>exact hg b hp
theorem yT{w':World}(hg:∀b,b<w.heap.size→w'.heap[b]?=w.heap[b]?)(sp':Nat→Bool):∀{ts:List TypeId} {vs:List Value} {ds:List (DataW H)} {ps:List MemPlace},DataW.TrodAll enc P w 0 sp' sI ts vs ds ps→(∀p∈ps,p.block<w.heap.size)→DataW.TrodAll enc P w' 0 sp' sI ts vs ds ps
 | [],[],[],_,h,_=>h
 | t::ts,v::vs,d::ds,ps,h,hl=>by
  obtain⟨p,q,⟨fuel,h1⟩,h2,rfl⟩:=h
  exact⟨p,q,⟨fuel,DataW.trod_carry _ _ _ _ h1 fun x hx=>IJ hg (hl x (List.mem_append.2 (.inl hx)))⟩,yT hg sp' h2 fun x hx=>hl x (List.mem_append.2 (.inr hx)),rfl⟩
end
end Go.Dm
