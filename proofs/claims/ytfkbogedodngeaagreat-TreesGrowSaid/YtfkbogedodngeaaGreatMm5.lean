/- A part of the proof. -/
import Derived.Test.YtfkbogedodngeaaGreatMm4
import Derived.IntWalk
import Derived.ChangeArms
import Derived.ChangeSame
set_option linter.all false
namespace Go.Dm
def WF(h:aA):Prop:=h.objs.length=h.n
theorem CD:WF sX:=rfl
theorem WF.push{h:aA}{o:DO}(w:WF h):WF (h.push o):=by unfold WF at *;simp[aA.push,w]
theorem WF.set{h:aA}{id:Nat}{o:DO}(w:WF h):WF (h.set id o):=by unfold WF at *;simp[aA.set,w]
theorem WF.lim{h:aA}{l:Nat}(w:WF h):WF {h with lim:=l}:=w
theorem Mz{h:aA}{o o':DO}{id:Nat}(eE:id<h.n):(h.push o).set id o'=(h.set id o').push o:=by
 have e:h.n-id=(h.n-1-id)+1:=by omega
 simp[aA.push,aA.set]
 rw[e];rfl
theorem Rs{h:aA}{o o':DO}{id:Nat}:(h.push o).set id o'=if id<h.n then(h.set id o').push o else h.push o':=by
 split
 ·rename_i eE;exact Mz eE
 ·rename_i eE
  have e:h.n-id=0:=by omega
  simp[aA.push,aA.set]
  rw[e];rfl
theorem NW{h:aA}{id:Nat}{o:DO}:(h.set id o).n=h.n:=rfl
theorem cO{h:aA}(w:WF h){id k:Nat}{o:DO}(eE:id<h.n):(h.set id o).get k=if k=id then some o else h.get k:=by
 unfold WF at w
 by_cases e:k=id
 ·subst e
  rw[if_pos rfl]
  simp only[aA.get,aA.set,if_pos eE]
  rw[List.getElem?_set,if_pos rfl,if_pos (by omega)]
  exact if_pos eE
 ·rw[if_neg e];exact aR eE e
theorem aC{h:aA}{id:Nat}{o:DO}(hg:h.get id=some o):id<h.n:=cY hg
def FG(c a b:DV):Option DV:=match c with|.bool t=>some (if t then a else b)|_=>none
theorem Yf(t:Bool)(a b:DV):FG (.bool t) a b=some (if t then a else b):=rfl
def vM:DV→Option DV
 | .ptr id sz idx off=>some (.ptr id sz idx off)
 | .iptr l cs off=>some (.iptr l cs off)
 | _=>none
theorem Ia(id sz idx off:Nat):vM (.ptr id sz idx off)=some (.ptr id sz idx off):=rfl
theorem Fg(l:Bool)(cs:List DV)(off:Nat):vM (.iptr l cs off)=some (.iptr l cs off):=rfl
def TD(neq:Bool):DV→DV→Option DV
 | .bool a,.bool b=>some (.bool (if neq then !(a == b)else a == b))
 | _,_=>none
theorem AH(neq a b:Bool):TD neq (.bool a) (.bool b)=some (.bool (if neq then !(a == b)else a == b)):=rfl
def zK(neq:Bool):Option Bool→Option DV
 | some r=>some (.bool (if neq then !r else r))
 | none=>none
theorem Zv(neq r:Bool):zK neq (some r)=some (.bool (if neq then !r else r)):=rfl
def HW(k:IntKind):DV→Option DV|.int _ n=>some (.int k (k.wrap n))|_=>none
theorem AR(k k':IntKind)(n:Int):HW k (.int k' n)=some (.int k (k.wrap n)):=rfl
def D2:DV→Option DV|.str s=>some (.str s)|_=>none
theorem D1(s:List UInt8):D2 (.str s)=some (.str s):=rfl
def sM(off:Nat):DV→Option DV
 | .ptr id sz idx o=>some (.ptr id sz idx (o+off))
 | .iptr l cs o=>some (.iptr l cs (o+off))
 | _=>none
theorem Gk(off id sz idx o:Nat):sM off (.ptr id sz idx o)=some (.ptr id sz idx (o+off)):=rfl
theorem Dc(off:Nat)(l:Bool)(cs:List DV)(o:Nat):sM off (.iptr l cs o)=some (.iptr l cs (o+off)):=rfl
def Gj(off:Nat)(n:Option Nat):DV→Option DV|.agg cs=>cS n cs off|_=>none
theorem Zz(off:Nat)(n:Option Nat)(cs:List DV):Gj off n (.agg cs)=cS n cs off:=rfl
def aS(sz:Nat)(x i:DV):Option DV :=
 match asI i with
 | some i =>
  match x with
  | .sl id dK off len=>if sz=dK∧0≤i∧i<(len:Int)then some (.ptr id sz (off+i.toNat) 0)else none
  | .isl l dK xs=>if sz=dK∧0≤i then(match xs[i.toNat]? with|some e=>some (.iptr l (aF sz e) 0)|none=>none)else none
  | _=>none
 | none=>none
def iZ(len esz:Nat)(x i:DV):Option DV :=
 match asI i with
 | some i =>
  if 0≤i∧i<(len:Int)then
   match x with
   | .ptr id sz idx o=>some (.ptr id sz idx (o+i.toNat*esz))
   | .iptr l cs o=>some (.iptr l cs (o+i.toNat*esz))
   | _=>none
  else none
 | none=>none
def Zf(len esz:Nat)(n:Option Nat)(x i:DV):Option DV :=
 match asI i,x with
 | some i,.agg cs=>if 0≤i∧i<(len:Int)then cS n cs (i.toNat*esz)else none
 | _,_=>none
def Ay(x i:DV):Option DV :=
 match asI i,x with
 | some i,.str s=>if 0≤i then(match s[i.toNat]? with|some b=>some (.int .u8 b.toNat)|none=>none)else none
 | _,_=>none
def cG(o:Option DV)(dflt lim:Nat):Option Nat :=
 match o with
 | none=>some dflt
 | some x=>match asI x with
  | some n=>if 0≤n∧n≤(lim:Int)then some n.toNat else none
  | none=>none
theorem Ha(env:Env)(o:Option Opd)(d l:Nat):bound env o d l=cG (o.map (Opd.eval env)) d l:=by
 cases o<;>rfl
theorem uV(d l:Nat):cG none d l=some d:=rfl
theorem sT(k:IntKind)(n:Int)(d l:Nat)(h0:0≤n)(h1:n≤(l:Int)):cG (some (.int k n)) d l=some n.toNat:=by
 simp[cG,asI,h0,h1]
def Ak(x:DV)(lo hi:Option DV):Option DV :=
 match x with
 | .str s=>match cG hi s.length s.length with
  | some b=>match cG lo 0 b with
   | some a=>some (.str ((s.drop a).take (b-a)))
   | none=>none
  | none=>none
 | _=>none
def fC(h:aA)(sz:Nat)(x:DV)(lo hi:Option DV):Option DV :=
 match x with
 | .nsl=>match cG hi 0 0 with
  | some b=>match cG lo 0 b with
   | some _=>some .nsl
   | none=>none
  | none=>none
 | .isl l dK xs=>if sz=dK∨xs=[]then match cG hi xs.length xs.length with
   | some b=>match cG lo 0 b with
    | some a=>some (.isl l sz ((xs.drop a).take (b-a)))
    | none=>none
   | none=>none
  else none
 | .sl id dK off len=>match h.get id with
  | some (.arr _ jH xs _)=>if sz=dK∧sz=jH∧off+len≤xs.length then match cG hi len (xs.length-off)with
    | some b=>match cG lo 0 b with
     | some a=>some (.sl id sz (off+a) (b-a))
     | none=>none
    | none=>none
   else none
  | _=>none
 | _=>none
def lenV(h:aA)(k:Nat):DV→Option DV
 | .str s=>if k=0 then some (.int .i64 s.length)else none
 | .nsl=>if k=1 then some (.int .i64 0)else none
 | .sl _ _ _ len=>if k=1 then some (.int .i64 len)else none
 | .isl _ _ xs=>if k=1 then some (.int .i64 xs.length)else none
 | .nmap=>if k=2 then some (.int .i64 0)else none
 | .map id=>match h.get id with|some (.mp es)=>if k=2 then some (.int .i64 es.length)else none|_=>none
 | _=>none
theorem GI(h:aA)(s:List UInt8):lenV h 0 (.str s)=some (.int .i64 s.length):=rfl
theorem GJ(h:aA):lenV h 1 .nsl=some (.int .i64 0):=rfl
theorem LJ(h:aA)(id sz off len:Nat):lenV h 1 (.sl id sz off len)=some (.int .i64 len):=rfl
theorem GL(h:aA)(t:Bool)(sz:Nat)(xs:List DV):lenV h 1 (.isl t sz xs)=some (.int .i64 xs.length):=rfl
def Pe(h:aA)(ety sz bytes:Nat)(s:DV):Option (List DV)→Option (DV×aA)
 | some ys=>bB h ety sz bytes s ys
 | none=>none
theorem Pd(h:aA)(ety sz bytes:Nat)(s:DV)(ys:List DV):Pe h ety sz bytes s (some ys)=bB h ety sz bytes s ys:=rfl
def HT(h:aA)(sz:Nat)(d:DV):Option (List DV)→Option (DV×aA)
 | some ys=>uR h sz d ys
 | none=>none
theorem B7(h:aA)(sz:Nat)(d:DV)(ys:List DV):HT h sz d (some ys)=uR h sz d ys:=rfl
def No(mx:Bool):DV→DV→Option DV
 | .int k a,.int _ b=>some (.int k (if mx then(if a<b then b else a)else(if b<a then b else a)))
 | _,_=>none
theorem Sp(mx:Bool)(k k':IntKind)(a b:Int):No mx (.int k a) (.int k' b)=some (.int k (if mx then(if a<b then b else a)else(if b<a then b else a))):=rfl
def zN(i:Nat):DV→Option DV|.tup vs=>vs[i]?|_=>none
theorem Ol(i:Nat)(vs:List DV):zN i (.tup vs)=vs[i]?:=rfl
def Ec:Option aA→Option (DV×aA)
 | some h=>some (.tup [],h)
 | none=>none
theorem Qh(h:aA):Ec (some h)=some (.tup [],h):=rfl
def TP(h:aA)(ety sz:Nat)(x:DV):Option (DV×aA):=if aO sz x then some (.ptr h.n sz 0 0,h.push (.arr ety sz [x] (some 1)))else none
theorem NI{h:aA}{ety sz:Nat}{x:DV}(hs:aO sz x=true):TP h ety sz x=some (.ptr h.n sz 0 0,h.push (.arr ety sz [x] (some 1))):=if_pos hs
def TT(h:aA):Option (List DV)→Option (DV×aA)
 | some cs=>some (.agg cs,h)
 | none=>none
theorem BL(h:aA)(cs:List DV):TT h (some cs)=some (.agg cs,h):=rfl
def Ej(h:aA)(ety sz len:Nat):Option (List DV)→Option (DV×aA)
 | some xs=>some (.sl h.n sz 0 len,h.push (.arr ety sz xs (some len)))
 | none=>none
theorem Hq(h:aA)(ety sz len:Nat)(xs:List DV):Ej h ety sz len (some xs)=some (.sl h.n sz 0 len,h.push (.arr ety sz xs (some len))):=rfl
section
variable (h:aA) (env:Env)
theorem JQ(x:Opd):aB h env (.move x)=some (x.eval env,h):=rfl
theorem I8(c a b:Opd):aB h env (.pick c a b)=cT h (FG (c.eval env) (a.eval env) (b.eval env)):=by simp only[aB];cases c.eval env<;>rfl
theorem DL(ety sz:Nat)(z:DV):aB h env (.alloc ety sz z)=some (.ptr h.n sz 0 0,h.push (.arr ety sz [z] (some 1))):=rfl
theorem QY(ety sz:Nat)(x:Opd):aB h env (.box ety sz x)=TP h ety sz (x.eval env):=rfl
theorem Qq(zero:List DV)(parts:List (Nat×Nat×Opd)):aB h env (.build zero parts)=TT h (fN zero (parts.map fun p=>(p.1,p.2.1,p.2.2.eval env))):=by
 simp only[aB];cases fN zero (parts.map fun p=>(p.1,p.2.1,p.2.2.eval env))<;>rfl
theorem wN(ety sz:Nat)(z:DV)(len:Nat)(parts:List (Nat×Opd)):aB h env (.buildSlice ety sz z len parts)=Ej h ety sz len (cU sz (List.replicate len z) (parts.map fun p=>(p.1,p.2.eval env))):=by
 simp only[aB];cases cU sz (List.replicate len z) (parts.map fun p=>(p.1,p.2.eval env))<;>rfl
theorem I9(n:Option Nat)(a:Opd):aB h env (.load n a)=cT h (jF h n (a.eval env)):=by simp only[aB];cases jF h n (a.eval env)<;>rfl
theorem Qm(n:Nat)(a x:Opd):aB h env (.store n a x)=Ec (jZ h n (a.eval env) (x.eval env)):=by simp only[aB];cases jZ h n (a.eval env) (x.eval env)<;>rfl
theorem Bu(x:Opd):aB h env (.nilCheck x)=cT h (vM (x.eval env)):=by simp only[aB];cases x.eval env<;>rfl
theorem Qs(op:BinOp)(x y:Opd):aB h env (.arith op x y)=cT h (bS op (x.eval env) (y.eval env)):=by simp only[aB];cases bS op (x.eval env) (y.eval env)<;>rfl
theorem DI(neq:Bool)(x y:Opd):aB h env (.eqb neq x y)=cT h (TD neq (x.eval env) (y.eval env)):=by simp only[aB];cases x.eval env<;>cases y.eval env<;>rfl
theorem DJ(neq:Bool)(ks:List Nat)(x y:Opd):aB h env (.eqa neq ks x y)=cT h (zK neq (fA (.agg ks) (x.eval env) (y.eval env))):=by simp only[aB];cases fA (.agg ks) (x.eval env) (y.eval env)<;>rfl
theorem DH(k:Nat)(neq:Bool)(x y:Opd):aB h env (.eqn k neq x y)=cT h (zK neq (oC k (x.eval env) (y.eval env))):=by simp only[aB];cases oC k (x.eval env) (y.eval env)<;>rfl
theorem NV(op:UnOp)(x:Opd):aB h env (.un op x)=cT h (unD op (x.eval env)):=by simp only[aB];cases unD op (x.eval env)<;>rfl
theorem J1(k:IntKind)(x:Opd):aB h env (.conv k x)=cT h (HW k (x.eval env)):=by simp only[aB];cases x.eval env<;>rfl
theorem Qr(x:Opd):aB h env (.asStr x)=cT h (D2 (x.eval env)):=by simp only[aB];cases x.eval env<;>rfl
theorem yM(off:Nat)(x:Opd):aB h env (.fieldAddr off x)=cT h (sM off (x.eval env)):=by simp only[aB];cases x.eval env<;>rfl
theorem Qp(off:Nat)(n:Option Nat)(x:Opd):aB h env (.field off n x)=cT h (Gj off n (x.eval env)):=by
 simp only[aB]
 cases x.eval env with
 | agg cs=>simp only[Gj];cases cS n cs off<;>rfl
 | _=>rfl
theorem yL(sz:Nat)(x i:Opd):aB h env (.indexAddr sz x i)=cT h (aS sz (x.eval env) (i.eval env)):=by
 simp only[aB,aS]
 cases asI (i.eval env)with
 | none=>rfl
 | some n =>
  simp only
  cases x.eval env with
  | sl id dK off len=>simp only;split<;>rfl
  | isl l dK xs =>
   simp only
   split
   ·cases xs[n.toNat]?<;>rfl
   ·rfl
  | _=>rfl
theorem Bw(len esz:Nat)(x i:Opd):aB h env (.indexArr len esz x i)=cT h (iZ len esz (x.eval env) (i.eval env)):=by
 simp only[aB,iZ]
 cases asI (i.eval env)with
 | none=>rfl
 | some n =>
  simp only
  split
  ·cases x.eval env<;>rfl
  ·rfl
theorem Qo(len esz:Nat)(n:Option Nat)(x i:Opd):aB h env (.index len esz n x i)=cT h (Zf len esz n (x.eval env) (i.eval env)):=by
 simp only[aB,Zf]
 cases asI (i.eval env)with
 | none=>rfl
 | some m =>
  cases x.eval env with
  | agg cs =>
   simp only
   split
   ·cases cS n cs (m.toNat*esz)<;>rfl
   ·rfl
  | _=>rfl
theorem Bv(x i:Opd):aB h env (.indexStr x i)=cT h (Ay (x.eval env) (i.eval env)):=by
 simp only[aB,Ay]
 cases asI (i.eval env)with
 | none=>rfl
 | some m =>
  cases x.eval env with
  | str s =>
   simp only
   split
   ·cases s[m.toNat]?<;>rfl
   ·rfl
  | _=>rfl
theorem Bt(x:Opd)(lo hi:Option Opd):aB h env (.sliceStr x lo hi)=cT h (Ak (x.eval env) (lo.map (Opd.eval env)) (hi.map (Opd.eval env))):=by
 simp only[aB,Ak,Ha]
 cases x.eval env with
 | str s =>
  simp only
  cases cG (hi.map (Opd.eval env)) s.length s.length with
  | none=>rfl
  | some b=>simp only;cases cG (lo.map (Opd.eval env)) 0 b<;>rfl
 | _=>rfl
theorem Ef(sz:Nat)(x:Opd)(lo hi:Option Opd):aB h env (.sliceSl sz x lo hi)=cT h (fC h sz (x.eval env) (lo.map (Opd.eval env)) (hi.map (Opd.eval env))):=by
 simp only[aB,fC,Ha]
 cases x.eval env with
 | nsl =>
  simp only
  cases cG (hi.map (Opd.eval env)) 0 0 with
  | none=>rfl
  | some b=>simp only;cases cG (lo.map (Opd.eval env)) 0 b<;>rfl
 | isl l dK xs =>
  simp only
  split
  ·cases cG (hi.map (Opd.eval env)) xs.length xs.length with
   | none=>rfl
   | some b=>simp only;cases cG (lo.map (Opd.eval env)) 0 b<;>rfl
  ·rfl
 | sl id dK off len =>
  simp only
  cases h.get id with
  | none=>rfl
  | some o =>
   cases o with
   | arr e s xs c =>
    simp only
    split
    ·cases cG (hi.map (Opd.eval env)) len (xs.length-off)with
     | none=>rfl
     | some b=>simp only;cases cG (lo.map (Opd.eval env)) 0 b<;>rfl
    ·rfl
   | _=>rfl
 | _=>rfl
theorem DG(k:Nat)(x:Opd):aB h env (.len k x)=cT h (lenV h k (x.eval env)):=by
 simp only[aB,lenV]
 cases x.eval env with
 | map id =>
  simp only
  cases h.get id with
  | none=>rfl
  | some o=>cases o<;>simp only<;>first|rfl|(split<;>rfl)
 | _=>first|rfl|(simp only;split<;>rfl)
theorem Jm(ety sz bytes:Nat)(s x:Opd):aB h env (.append ety sz bytes s x)=Pe h ety sz bytes (s.eval env) (elems h sz (x.eval env)):=by
 simp only[aB];cases elems h sz (x.eval env)<;>rfl
theorem J0(sz:Nat)(d s:Opd):aB h env (.copy sz d s)=HT h sz (d.eval env) (elems h sz (s.eval env)):=by
 simp only[aB];cases elems h sz (s.eval env)<;>rfl
theorem Jk(mx:Bool)(x y:Opd):aB h env (.minmax mx x y)=cT h (No mx (x.eval env) (y.eval env)):=by
 simp only[aB];cases x.eval env<;>cases y.eval env<;>rfl
theorem Qn(f:FuncId)(cap:List Opd):aB h env (.makeFunc f cap)=some (.func f (cap.map (Opd.eval env)),h):=rfl
theorem Wq:aB h env .makeMap=some (.map h.n,h.push (.mp [])):=rfl
theorem Eg(x:Opd)(i:Nat):aB h env (.extract x i)=cT h (zN i (x.eval env)):=by
 simp only[aB]
 cases x.eval env with
 | tup vs=>simp only[zN];cases vs[i]?<;>rfl
 | _=>rfl
theorem Mh(t:TypeId)(x:Opd):aB h env (.makeIface t x)=some (.iface t (x.eval env),h):=rfl
end
def uO(h:aA):DV→Option (List (DV×DV))
 | .nmap=>some []
 | .map id=>match h.get id with|some (.mp es)=>some es|_=>none
 | _=>none
def fW(q:EqT)(z:DV)(ok:Bool)(k:DV):Option (List (DV×DV))→Option DV
 | some es=>if(fA q k k).isSome then
   match kZ q k es with
   | some (some (_,v))=>some (if ok then .tup [v,.bool true]else v)
   | some none=>some (if ok then .tup [z,.bool false]else z)
   | none=>none
  else none
 | none=>none
theorem Jl(h:aA)(env:Env)(q:EqT)(z:DV)(ok:Bool)(m k:Opd):aB h env (.lookup q z ok m k)=cT h (fW q z ok (k.eval env) (uO h (m.eval env))):=by
 have key:∀r:Option (List (DV×DV)),(match r with
   | some es=>if(fA q (k.eval env) (k.eval env)).isSome then
     match kZ q (k.eval env) es with
     | some (some (_,v))=>some (if ok then DV.tup [v,.bool true]else v,h)
     | some none=>some (if ok then DV.tup [z,.bool false]else z,h)
     | none=>none
    else none
   | none=>none)=cT h (fW q z ok (k.eval env) r):=by
  intro r
  cases r with
  | none=>rfl
  | some es =>
   simp only[fW]
   split
   ·cases kZ q (k.eval env) es with
    | none=>rfl
    | some x=>cases x<;>rfl
   ·rfl
 simp only[aB]
 rw[←key]
 cases m.eval env with
 | map id=>simp only[uO];cases h.get id with
  | none=>rfl
  | some o=>cases o<;>rfl
 | _=>rfl
def yE(h:aA)(q:EqT)(m k x:DV):Option aA :=
 match m with
 | .map id=>match h.get id with
  | some (.mp es) =>
   if h.lim≤id∧(fA q k k).isSome=true then
    match kZ q k es with
    | some (some (i,_))=>some (h.set id (.mp (es.set i (k,x))))
    | some none=>some (h.set id (.mp (es++[(k,x)])))
    | none=>none
   else none
  | _=>none
 | _=>none
theorem yK(h:aA)(env:Env)(q:EqT)(m k x:Opd):aB h env (.mapUpdate q m k x)=Ec (yE h q (m.eval env) (k.eval env) (x.eval env)):=by
 simp only[aB,yE]
 cases m.eval env with
 | map id =>
  simp only
  cases h.get id with
  | none=>rfl
  | some o =>
   cases o with
   | mp es =>
    simp only
    split
    ·cases kZ q (k.eval env) es with
     | none=>rfl
     | some y=>cases y with
      | none=>rfl
      | some p=>rfl
    ·rfl
   | _=>rfl
 | _=>rfl
section
variable (c:Nat→List DV→aA→Option (DV×aA)) (h:aA) (env:Env)
end
theorem bJ{n:Int}(h1:-9223372036854775808≤n)(h2:n≤9223372036854775807):IntKind.i64.wrap n=n:=by
 exact Go.IntWalk.i64_in n ⟨h1,h2⟩
end Go.Dm
/-
Part 2 of "De": rows of data that are plain lists; rows that a call makes itself; what calls answer.
-/
namespace Go.Dm
def eL{α:Type}(t:Bool)(sz:Nat)(e:α→DV)(xs:List α):DV:=mkIsl t sz (xs.map e)
section eL
variable {α:Type} (t:Bool) (sz:Nat) (e:α→DV) (xs:List α)
theorem sP:eL t sz e []=.isl false 0 []:=rfl
theorem qA(x:α):eL t sz e (x::xs)=.isl t sz (e x::xs.map e):=rfl
theorem OV{xs:List α}(h:xs≠[]):eL t sz e xs=.isl t sz (xs.map e):=by
 cases xs with
 | nil=>exact absurd rfl h
 | cons x xs=>rfl
theorem LK(h:aA):lenV h 1 (eL t sz e xs)=some (.int .i64 xs.length):=by cases xs<;>simp[sP,qA,lenV]
theorem Br:aO 1 (eL t sz e xs)=true:=by cases xs<;>rfl
theorem vU:aF 1 (eL t sz e xs)=[eL t sz e xs]:=by cases xs<;>rfl
theorem fX(h:aA):elems h sz (eL t sz e xs)=some (xs.map e):=by cases xs<;>simp[sP,qA,elems]
theorem Ie{xs:List α}(k:IntKind){i:Nat}{a:α}(ha:xs[i]?=some a):aS sz (eL t sz e xs) (.int k (i:Int))=some (.iptr t (aF sz (e a)) 0):=by
 have cQ:xs≠[]:=by intro h0;subst h0;simp at ha
 rw[OV t sz e cQ]
 simp[aS,asI,ha]
theorem Fq{xs:List α}(k:IntKind){i:Int}{a:α}(h0:0≤i)(ha:xs[i.toNat]?=some a):aS sz (eL t sz e xs) (.int k i)=some (.iptr t (aF sz (e a)) 0):=by
 obtain⟨n,rfl⟩:=Int.eq_ofNat_of_zero_le h0
 exact Ie t sz e k ha
end eL
def jU(k:Nat)(d:DV):Prop:=∀tag h n,k≤n→resolve tag h n d=some d
def Unl(k:Nat)(d:DV):Prop:=∀n,k≤n→bA n d=true
theorem jU.mono{k m:Nat}{d:DV}(h:jU k d)(hk:k≤m):jU m d:=fun t hp n hn=>h t hp n (Nat.le_trans hk hn)
theorem Unl.mono{k m:Nat}{d:DV}(h:Unl k d)(hk:k≤m):Unl m d:=fun n hn=>h n (Nat.le_trans hk hn)
theorem cI{k n:Nat}(h:k+1≤n):∃ m,n=m+1∧k≤m:=⟨n-1,by omega,by omega⟩
theorem iA(k:IntKind)(n:Int):jU 1 (.int k n):=fun t h m hm=>by obtain⟨q,rfl,_⟩:=cI hm;rfl
theorem Be(b:Bool):jU 1 (.bool b):=fun t h m hm=>by obtain⟨q,rfl,_⟩:=cI hm;rfl
theorem HA(s:List UInt8):jU 1 (.str s):=fun t h m hm=>by obtain⟨q,rfl,_⟩:=cI hm;rfl
theorem eF{α:Type}(t:Bool)(sz:Nat)(e:α→DV)(xs:List α):jU 1 (eL t sz e xs):=fun tg h m hm=>by
 obtain⟨q,rfl,_⟩:=cI hm
 cases xs<;>rfl
theorem qY{f:DV→Option DV}:∀{cs:List DV},(∀x∈cs,f x=some x)→cs.mapM f=some cs:=by
 intro cs
 induction cs with
 | nil=>intro _;rfl
 | cons x r ih =>
  intro h
  rw[List.mapM_cons,h x (List.mem_cons_self ..),ih (fun y hy=>h y (List.mem_cons_of_mem _ hy))];rfl
theorem uI{k:Nat}{cs:List DV}(h:∀x∈cs,jU k x):jU (k+1) (.agg cs):=fun t hp m hm=>by
 obtain⟨q,rfl,hq⟩:=cI hm
 have:cs.mapM (resolve t hp q)=some cs:=qY fun x hx=>h x hx t hp q hq
 simp only[resolve,this]
theorem iX(k:IntKind)(n:Int):Unl 1 (.int k n):=fun m hm=>by obtain⟨q,rfl,_⟩:=cI hm;rfl
theorem Pu(b:Bool):Unl 1 (.bool b):=fun m hm=>by obtain⟨q,rfl,_⟩:=cI hm;rfl
theorem E4(s:List UInt8):Unl 1 (.str s):=fun m hm=>by obtain⟨q,rfl,_⟩:=cI hm;rfl
theorem Dg{k:Nat}{cs:List DV}(h:∀x∈cs,Unl k x):Unl (k+1) (.agg cs):=fun m hm=>by
 obtain⟨q,rfl,hq⟩:=cI hm
 simp only[bA,List.all_eq_true]
 exact fun x hx=>h x hx q hq
theorem kP{α:Type}{k sz:Nat}{e:α→DV}{xs:List α}(h:∀x∈xs,Unl k (e x)):Unl (k+1) (eL false sz e xs):=fun m hm=>by
 obtain⟨q,rfl,hq⟩:=cI hm
 cases xs with
 | nil=>rfl
 | cons x r =>
  simp only[qA,bA,Bool.not_false,Bool.true_and,List.all_eq_true]
  intro y hy
  rw[←List.map_cons (f:=e)]at hy
  obtain⟨z,hz,rfl⟩:=List.mem_map.1 hy
  exact h z hz q hq
class Plain {α:Type} (e:α→DV):Prop where
 flat:∀x,jU 20 (e x)
 unl:∀x,Unl 20 (e x)
inductive Own(lo:Nat)(h:aA)(v:DV)(ety sz:Nat)(xs:List DV):Prop where
 | nil (hv:v=.nsl) (hx:xs=[])
 | arr (id:Nat) (hv:v=.sl id sz 0 xs.length) (hg:h.get id=some (.arr ety sz xs none)) (bE:h.lim≤id) (eN:lo≤id)
structure Ext(lo:Nat)(h h':aA):Prop where
 le:lo≤h'.n
 lim:h'.lim=h.lim
 get:∀id,id<lo→h'.get id=h.get id
 wf:WF h'
theorem Ext.refl{lo:Nat}{h:aA}(cD:lo≤h.n)(w:WF h):Ext lo h h:=⟨cD,rfl,fun _ _=>rfl,w⟩
theorem Ext.trans{lo:Nat}{a b c:aA}(x:Ext lo a b)(y:Ext lo b c):Ext lo a c:=⟨y.le,y.lim.trans x.lim,fun id eE=>(y.get id eE).trans (x.get id eE),y.wf⟩
theorem Ext.push{lo:Nat}{h h':aA}{o:DO}(x:Ext lo h h'):Ext lo h (h'.push o) :=
 ⟨Nat.le_succ_of_le x.le,x.lim,fun id eE=>by rw[cK,if_neg (by have:=x.le;omega)];exact x.get id eE,x.wf.push⟩
theorem Ext.set{lo:Nat}{h h':aA}{id:Nat}{o:DO}(x:Ext lo h h')(eE:lo≤id)(aZ:id<h'.n):Ext lo h (h'.set id o) :=
 ⟨x.le,x.lim,fun k hk=>by rw[cO x.wf aZ,if_neg (by omega)];exact x.get k hk,x.wf.set⟩
theorem Own.push{lo:Nat}{h:aA}{o:DO}{v:DV}{ety sz:Nat}{xs:List DV}(w:Own lo h v ety sz xs):Own lo (h.push o) v ety sz xs:=by
 cases w with
 | nil hv hx=>exact .nil hv hx
 | arr id hv hg bE eN =>
  refine .arr id hv ?_ bE eN
  rw[cK,if_neg (by have:=aC hg;omega)];exact hg
theorem Own.start(lo:Nat)(h:aA)(ety sz:Nat):Own lo h .nsl ety sz []:=.nil rfl rfl
theorem Own.append{lo:Nat}{h:aA}{v:DV}{ety sz bytes:Nat}{xs ys:List DV}{A:Option (DV×aA)}(w:Own lo h v ety sz xs)(wf:WF h)(eN:lo≤h.n)(bE:h.lim≤h.n)(hA:bB h ety sz bytes v ys=A)
  (hb:(xs.length+ys.length)*bytes≤140737488355328) (vT:1≤bytes):∃ v' h',A=some (v',h')∧Own lo h' v' ety sz (xs++ys)∧Ext lo h h':=by
 have hm:xs.length+ys.length≤140737488355328:=Nat.le_trans (Nat.le_mul_of_pos_right _ vT) hb
 by_cases hy:ys=[]
 ·subst hy
  refine⟨v,h,?_,by simpa using w,.refl eN wf⟩
  rw[←hA]
  cases w with
  | nil hv hx=>subst hv;rfl
  | arr id hv hg _ _=>subst hv;rfl
 ·have Ii:ys.isEmpty=false:=by cases ys<;>simp_all
  have OC:0<ys.length:=List.length_pos_iff.2 hy
  cases w with
  | nil hv hx =>
   subst hv;subst hx
   simp only[List.length_nil,Nat.zero_add]at hb hm
   refine⟨.sl h.n sz 0 ys.length,h.push (.arr ety sz ys none),?_,.arr h.n rfl cV (by exact bE) eN,(Ext.refl eN wf).push⟩
   rw[←hA]
   simp only[bB,Ii]
   rw[if_neg (by simp),if_pos ⟨hb,by omega⟩]
  | arr id hv hg hl hi =>
   subst hv
   have aZ:=aC hg
   have e2:(h.set id DO.dead).n=h.n:=rfl
   refine⟨.sl h.n sz 0 (xs.length+ys.length),(h.set id .dead).push (.arr ety sz (xs++ys) none),?_,.arr h.n (by simp) ?_ (by exact bE) eN,(((Ext.refl eN wf).set hi aZ).push)⟩
   ·rw[←hA]
    simp only[bB,Ii,hg]
    simp only[Bool.false_eq_true,if_false,true_and,Nat.zero_add,Nat.le_refl]
    rw[if_pos ⟨hb,by omega⟩,if_neg (by omega),if_pos hl]
    simp
   ·exact cV
end Go.Dm
/-
Part 3 of "De": what own rows show; what a pure call hands back; the program's data by plain structures.
-/
namespace Go.Dm
section Own
variable {lo:Nat} {h:aA} {v:DV} {ety sz:Nat} {xs:List DV}
theorem Own.lenV(w:Own lo h v ety sz xs):lenV h 1 v=some (.int .i64 xs.length):=by
 cases w with
 | nil hv hx=>subst hv;subst hx;rfl
 | arr id hv hg hl hi=>subst hv;rfl
theorem Own.elems(w:Own lo h v ety sz xs):elems h sz v=some xs:=by
 cases w with
 | nil hv hx=>subst hv;subst hx;rfl
 | arr id hv hg hl hi=>subst hv;simp[Dm.elems,hg]
theorem Own.ext{lo:Nat}{h h':aA}(w:Own lo h v ety sz xs)(x:Ext h.n h h'):Own lo h' v ety sz xs:=by
 cases w with
 | nil hv hx=>exact .nil hv hx
 | arr id hv hg hl hi=>exact .arr id hv ((x.get id (aC hg)).trans hg) (by rw[x.lim];exact hl) hi
theorem Own.resolve{α:Type}{e:α→DV}{ys:List α}{k n:Nat}(tag:Bool)(w:Own lo h v ety sz (ys.map e))(hf:∀y∈ys,jU k (e y))(hn:k+1≤n):resolve tag h n v=some (eL tag sz e ys):=by
 obtain⟨m,rfl,hm⟩:=cI hn
 cases w with
 | nil hv hx =>
  subst hv
  cases ys with
  | nil=>rfl
  | cons y r=>simp at hx
 | arr id hv hg hl hi =>
  subst hv
  have wI:(ys.map e).mapM (Dm.resolve tag h m)=some (ys.map e):=qY fun x hx=>by
   obtain⟨y,hy,rfl⟩:=List.mem_map.1 hx
   exact hf y hy tag h m hm
  simp only[Dm.resolve,hg,true_and,Nat.zero_add,Nat.le_refl,if_true,List.drop_zero,List.take_length,wI]
  rfl
end Own
theorem Sa{v d:DV}{h:aA}{k:Nat}(hr:resolve false h bU v=some d)(hu:Unl k d)(hk:k≤200):iK (some (v,h))=some d:=by
 simp only[iK,hr,hu bU hk,if_true]
theorem Own.out{lo:Nat}{h:aA}{v:DV}{ety sz:Nat}{α:Type}{e:α→DV}{ys:List α}{k:Nat}(w:Own lo h v ety sz (ys.map e))(hf:∀y∈ys,jU k (e y))(hu:∀y∈ys,Unl k (e y))(hk:k≤198) :
  iK (some (v,h))=some (eL false sz e ys) :=
 Sa (k:=k+1) (w.resolve false hf (by show k+1≤200;omega)) (kP hu) (by omega)
theorem M9{D:bX}{f:Nat}{df:aK}(hh:D.hook f=none)(hf:D.fn f=some df)(args:List DV)(h:aA):fc D f args h=dI (ev D) df args h:=by
 rw[Tq,hh,hf]
theorem AO{α:Type}{xs:List α}{i:Nat}{a:α}{r:List α}(h:xs.drop i=a::r):i<xs.length∧xs[i]?=some a∧xs.drop (i+1)=r:=by
 have h1:i<xs.length:=by
  by_cases aZ:i<xs.length
  ·exact aZ
  ·rw[List.drop_eq_nil_of_le (by omega)]at h;cases h
 rw[List.drop_eq_getElem_cons h1]at h
 injection h with h2 h3
 exact⟨h1,by rw[List.getElem?_eq_getElem h1,h2],h3⟩
theorem lB{α:Type}{xs:List α}{i:Nat}{a:α}{r:List α}(h:xs.drop i=a::r):∃ hi:i<xs.length,xs[i]=a∧xs.drop (i+1)=r:=by
 obtain⟨h1,h2,h3⟩:=AO h
 exact⟨h1,by rw[List.getElem?_eq_getElem h1]at h2;injection h2,h3⟩
theorem jT{α:Type}{xs:List α}{i:Nat}(h:xs.drop i=[]):xs.length≤i:=List.drop_eq_nil_iff.1 h
structure ID where
 bI:Int
 seq:Int
 deriving DecidableEq,Inhabited
structure Val where
 isText:Bool
 n:Int
 text:List UInt8
 deriving DecidableEq,Inhabited
structure Att where
 name:List UInt8
 val:Val
 deriving DecidableEq,Inhabited
structure Vk where
 name:List UInt8
 kind:Int
 lo:Int
 hi:Int
 text:List UInt8
 deriving DecidableEq,Inhabited
abbrev eD:=List Vk
structure cP where
 id:ID
 pred:eD
 eH:Int
 deriving DecidableEq,Inhabited
structure bM where
 tree:ID
 sub:ID
 pred:eD
 lI:Int
 up:Bool
 deriving DecidableEq,Inhabited
structure Vg where
 id:ID
 pred:eD
 deriving DecidableEq,Inhabited
structure aL where
 me:Int
 bC:List Int
 aX:List cP
 seen:List ID
 entries:List bM
 kC:List Vg
 deriving DecidableEq,Inhabited
structure Msg where
 kind:Int
 tree:ID
 id:ID
 pred:eD
 HZ:List Att
 deriving DecidableEq,Inhabited
structure Out where
 to:Int
 m:Msg
 deriving DecidableEq,Inhabited
def bF(n:Int):DV:=.int .i64 n
def NB(a:Att):DV:=.agg [.str a.name,.bool a.val.isText,.int .i64 a.val.n,.str a.val.text]
def wW(c:Vk):DV:=.agg [.str c.name,.int .i64 c.kind,.int .i64 c.lo,.int .i64 c.hi,.str c.text]
def fG(p:eD):DV:=eL false 5 wW p
def eID(x:ID):DV:=.agg [.int .i64 x.bI,.int .i64 x.seq]
def aH(a:cP):DV:=.agg [.int .i64 a.id.bI,.int .i64 a.id.seq,fG a.pred,.int .i64 a.eH]
def bQ(e:bM):DV:=.agg [.int .i64 e.tree.bI,.int .i64 e.tree.seq,.int .i64 e.sub.bI,.int .i64 e.sub.seq,fG e.pred,.int .i64 e.lI,.bool e.up]
def oY(o:Vg):DV:=.agg [.int .i64 o.id.bI,.int .i64 o.id.seq,fG o.pred]
structure iB where
 bC:Bool
 aX:Bool
 seen:Bool
 entries:Bool
 kC:Bool
def iB.none:iB:=⟨false,false,false,false,false⟩
def aW(t:iB)(b:aL):DV:=.agg [.int .i64 b.me,eL t.bC 1 bF b.bC,eL t.aX 4 aH b.aX,eL t.seen 2 eID b.seen,eL t.entries 7 bQ b.entries,eL t.kC 3 oY b.kC]
def kD(m:Msg):DV:=.agg [.int .i64 m.kind,.int .i64 m.tree.bI,.int .i64 m.tree.seq,.int .i64 m.id.bI,.int .i64 m.id.seq,fG m.pred,eL false 4 NB m.HZ]
def mZ(o:Out):DV:=.agg [.int .i64 o.to,.int .i64 o.m.kind,.int .i64 o.m.tree.bI,.int .i64 o.m.tree.seq,.int .i64 o.m.id.bI,.int .i64 o.m.id.seq,fG o.m.pred,eL false 4 NB o.m.HZ]
theorem Yd:Plain wW:=⟨fun c=>(uI (k:=1) (by
  intro x hx;simp only[List.mem_cons,List.not_mem_nil,or_false]at hx
  rcases hx with rfl|rfl|rfl|rfl|rfl<;>first|exact iA _ _|exact HA _)).mono (by decide),fun c=>(Dg (k:=1) (by
  intro x hx;simp only[List.mem_cons,List.not_mem_nil,or_false]at hx
  rcases hx with rfl|rfl|rfl|rfl|rfl<;>first|exact iX _ _|exact E4 _)).mono (by decide)⟩
theorem qQ(p:eD):Unl 21 (fG p):=kP fun x _=>Yd.unl x
theorem Bd(p:eD):jU 1 (fG p):=eF false 5 wW p
end Go.Dm
/-
Part 4 of "De": the words by which 'simp' walks.
-/
namespace Go.Dm
theorem Sb(D:bX)(g:Opd)(args:List Opd)(env:Env)(h:aA):bD (fc D) (.call g args) env h=N6 D (args.map (Opd.eval env)) h (g.eval env):=Yj D h g args env
section
variable (c:Nat→List DV→aA→Option (DV×aA)) (h:aA) (env:Env)
theorem KV(x:Opd):bD c (.move x) env h=some (x.eval env,h):=rfl
theorem KU(x a b:Opd):bD c (.pick x a b) env h=cT h (FG (x.eval env) (a.eval env) (b.eval env)):=I8 ..
theorem FN(ety sz:Nat)(z:DV):bD c (.alloc ety sz z) env h=some (.ptr h.n sz 0 0,h.push (.arr ety sz [z] (some 1))):=rfl
theorem RO(ety sz:Nat)(x:Opd):bD c (.box ety sz x) env h=TP h ety sz (x.eval env):=rfl
theorem FK(zero:List DV)(parts:List (Nat×Nat×Opd)):bD c (.build zero parts) env h=TT h (fN zero (parts.map fun p=>(p.1,p.2.1,p.2.2.eval env))):=Qq ..
theorem Hz(ety sz:Nat)(z:DV)(len:Nat)(parts:List (Nat×Opd)):bD c (.buildSlice ety sz z len parts) env h=Ej h ety sz len (cU sz (List.replicate len z) (parts.map fun p=>(p.1,p.2.eval env))):=wN ..
theorem KW(n:Option Nat)(a:Opd):bD c (.load n a) env h=cT h (jF h n (a.eval env)):=I9 ..
theorem FH(n:Nat)(a x:Opd):bD c (.store n a x) env h=Ec (jZ h n (a.eval env) (x.eval env)):=Qm ..
theorem Sd(x:Opd):bD c (.nilCheck x) env h=cT h (vM (x.eval env)):=Bu ..
theorem FM(op:BinOp)(x y:Opd):bD c (.arith op x y) env h=cT h (bS op (x.eval env) (y.eval env)):=Qs ..
theorem RL(neq:Bool)(x y:Opd):bD c (.eqb neq x y) env h=cT h (TD neq (x.eval env) (y.eval env)):=DI ..
theorem RM(neq:Bool)(ks:List Nat)(x y:Opd):bD c (.eqa neq ks x y) env h=cT h (zK neq (fA (.agg ks) (x.eval env) (y.eval env))):=DJ ..
theorem RK(k:Nat)(neq:Bool)(x y:Opd):bD c (.eqn k neq x y) env h=cT h (zK neq (oC k (x.eval env) (y.eval env))):=DH ..
theorem WP(op:UnOp)(x:Opd):bD c (.un op x) env h=cT h (unD op (x.eval env)):=NV ..
theorem KY(k:IntKind)(x:Opd):bD c (.conv k x) env h=cT h (HW k (x.eval env)):=J1 ..
theorem FL(x:Opd):bD c (.asStr x) env h=cT h (D2 (x.eval env)):=Qr ..
theorem Nh(off:Nat)(x:Opd):bD c (.fieldAddr off x) env h=cT h (sM off (x.eval env)):=yM ..
theorem FJ(off:Nat)(n:Option Nat)(x:Opd):bD c (.field off n x) env h=cT h (Gj off n (x.eval env)):=Qp ..
theorem Ng(sz:Nat)(x i:Opd):bD c (.indexAddr sz x i) env h=cT h (aS sz (x.eval env) (i.eval env)):=yL ..
theorem Sg(len esz:Nat)(x i:Opd):bD c (.indexArr len esz x i) env h=cT h (iZ len esz (x.eval env) (i.eval env)):=Bw ..
theorem FI(len esz:Nat)(n:Option Nat)(x i:Opd):bD c (.index len esz n x i) env h=cT h (Zf len esz n (x.eval env) (i.eval env)):=Qo ..
theorem Sf(x i:Opd):bD c (.indexStr x i) env h=cT h (Ay (x.eval env) (i.eval env)):=Bv ..
theorem Sc(x:Opd)(lo hi:Option Opd):bD c (.sliceStr x lo hi) env h=cT h (Ak (x.eval env) (lo.map (Opd.eval env)) (hi.map (Opd.eval env))):=Bt ..
theorem Yk(sz:Nat)(x:Opd)(lo hi:Option Opd):bD c (.sliceSl sz x lo hi) env h=cT h (fC h sz (x.eval env) (lo.map (Opd.eval env)) (hi.map (Opd.eval env))):=Ef ..
theorem RJ(k:Nat)(x:Opd):bD c (.len k x) env h=cT h (lenV h k (x.eval env)):=DG ..
theorem V6(ety sz bytes:Nat)(s x:Opd):bD c (.append ety sz bytes s x) env h=Pe h ety sz bytes (s.eval env) (elems h sz (x.eval env)):=Jm ..
theorem KX(sz:Nat)(d s:Opd):bD c (.copy sz d s) env h=HT h sz (d.eval env) (elems h sz (s.eval env)):=J0 ..
theorem V4(mx:Bool)(x y:Opd):bD c (.minmax mx x y) env h=cT h (No mx (x.eval env) (y.eval env)):=Jk ..
theorem Se(f:FuncId)(cap:List Opd):bD c (.makeFunc f cap) env h=some (.func f (cap.map (Opd.eval env)),h):=rfl
theorem Yl:bD c .makeMap env h=some (.map h.n,h.push (.mp [])):=rfl
theorem Ym(x:Opd)(i:Nat):bD c (.extract x i) env h=cT h (zN i (x.eval env)):=Eg ..
theorem Nf(t:TypeId)(x:Opd):bD c (.makeIface t x) env h=some (.iface t (x.eval env),h):=rfl
theorem V5(q:EqT)(z:DV)(ok:Bool)(m k:Opd):bD c (.lookup q z ok m k) env h=cT h (fW q z ok (k.eval env) (uO h (m.eval env))):=Jl ..
theorem Nd(q:EqT)(m k x:Opd):bD c (.mapUpdate q m k x) env h=Ec (yE h q (m.eval env) (k.eval env) (x.eval env)):=yK ..
end
theorem IY(f:dX)(d i:Nat)(v:DV):upd f d v i=if i=d then v else f i:=rfl
theorem IA(args:List DV)(i:Nat):IB args i=args.getD i bK:=rfl
theorem U5(f:dX)(d:Nat)(v:DV):qV f (some d) v=upd f d v:=rfl
theorem U6(f:dX)(v:DV):qV f none v=f:=rfl
theorem WD(N:Nat)(f:dX)(i:Nat):rd N f i=if i<N then f i else .unk:=rfl
theorem Yy(h:aA)(n:Option Nat)(l:Bool)(cs:List DV)(off:Nat):jF h n (.iptr l cs off)=cS n cs off:=rfl
theorem WN(cs:List DV)(off:Nat):cS none cs off=cs[off]?:=rfl
theorem WM(n:Nat)(cs:List DV)(off:Nat):cS (some n) cs off=if off+n≤cs.length then some (.agg ((cs.drop off).take n))else none:=rfl
theorem Mf(n:Nat)(cs:List DV):aO n (.agg cs)=(cs.length == n):=rfl
theorem Me(n:Nat)(k:IntKind)(m:Int):aO n (.int k m)=(n == 1):=rfl
theorem Ho(n:Nat)(b:Bool):aO n (.bool b)=(n == 1):=rfl
theorem Lz(n:Nat)(s:List UInt8):aO n (.str s)=(n == 1):=rfl
theorem Ma(n a b c d:Nat):aO n (.ptr a b c d)=(n == 1):=rfl
theorem Qk(n a b c d:Nat):aO n (.sl a b c d)=(n == 1):=rfl
theorem Mb(n:Nat):aO n .nsl=(n == 1):=rfl
theorem Md(n:Nat)(t:Bool)(s:Nat)(xs:List DV):aO n (.isl t s xs)=(n == 1):=rfl
theorem Hn(n:Nat)(f:Nat)(cs:List DV):aO n (.func f cs)=(n == 1):=rfl
theorem Mc(n:Nat)(i:Nat):aO n (.map i)=(n == 1):=rfl
theorem Ed(n:Nat)(t:Nat)(d:DV):aO n (.iface t d)=(n == 1):=rfl
theorem Hm(n:Nat):aO n .nili=(n == 1):=rfl
theorem Hl(n:Nat):aO n .nilp=(n == 1):=rfl
theorem Hk(p:eD):aO 1 (fG p)=true:=Br ..
theorem CI(sz n:Nat)(e x:DV)(h:n=sz):turn sz 0 n e x=x:=by simp[turn,h]
theorem Uy(a b:Int):bS .add (.int .i64 a) (.int .i64 b)=some (.int .i64 (IntKind.i64.wrap (a+b))):=by simp[bS]
theorem Uw(a b:Int):bS .sub (.int .i64 a) (.int .i64 b)=some (.int .i64 (IntKind.i64.wrap (a-b))):=by simp[bS]
theorem Ux(a b:Int):bS .mul (.int .i64 a) (.int .i64 b)=some (.int .i64 (IntKind.i64.wrap (a*b))):=by simp[bS]
theorem BI(k:IntKind)(a b:Int):bS .eql (.int k a) (.int k b)=some (.bool (a == b)):=by simp[bS]
theorem BD(k:IntKind)(a b:Int):bS .neq (.int k a) (.int k b)=some (.bool (a != b)):=by simp[bS]
theorem BE(k:IntKind)(a b:Int):bS .lss (.int k a) (.int k b)=some (.bool (decide (a<b))):=by simp[bS]
theorem BF(k:IntKind)(a b:Int):bS .leq (.int k a) (.int k b)=some (.bool (decide (a≤b))):=by simp[bS]
theorem BG(k:IntKind)(a b:Int):bS .gtr (.int k a) (.int k b)=some (.bool (decide (b<a))):=by simp[bS]
theorem BH(k:IntKind)(a b:Int):bS .geq (.int k a) (.int k b)=some (.bool (decide (b≤a))):=by simp[bS]
theorem BC(a b:List UInt8):bS .eql (.str a) (.str b)=some (.bool (a == b)):=rfl
theorem AX(a b:List UInt8):bS .neq (.str a) (.str b)=some (.bool (!(a == b))):=rfl
theorem AY(a b:List UInt8):bS .lss (.str a) (.str b)=some (.bool (Go.Op.bytesLess a b)):=rfl
theorem AZ(a b:List UInt8):bS .leq (.str a) (.str b)=some (.bool (Go.Op.bytesLess a b || a == b)):=rfl
theorem BA(a b:List UInt8):bS .gtr (.str a) (.str b)=some (.bool (!(Go.Op.bytesLess a b || a == b))):=rfl
theorem BB(a b:List UInt8):bS .geq (.str a) (.str b)=some (.bool (!Go.Op.bytesLess a b)):=rfl
theorem PE(b:Bool):unD .not (.bool b)=some (.bool (!b)):=rfl
theorem PF(k:IntKind)(n:Int):unD .neg (.int k n)=some (.int k (k.wrap (0-n))):=rfl
theorem HG(ks:List Nat)(xs ys:List DV):fA (.agg ks) (.agg xs) (.agg ys)=bW ks xs ys:=rfl
theorem AI(k:Nat)(x y:DV):fA (.prim k) x y=fI k x y:=rfl
theorem Un:bW [] [] []=some true:=rfl
theorem Uo(ks:List Nat)(a b:Int)(k:IntKind)(xs ys:List DV):bW (1::ks) (.int k a::xs) (.int k b::ys)=(bW ks xs ys).map ((a == b) && ·):=by
 simp only[bW,fI,and_self,if_true];cases bW ks xs ys<;>rfl
theorem Um(ks:List Nat)(a b:List UInt8)(xs ys:List DV):bW (2::ks) (.str a::xs) (.str b::ys)=(bW ks xs ys).map ((a == b) && ·):=by
 simp only[bW,fI,if_true];cases bW ks xs ys<;>rfl
theorem Ox(ks:List Nat)(a b:Bool)(xs ys:List DV):bW (0::ks) (.bool a::xs) (.bool b::ys)=(bW ks xs ys).map ((a == b) && ·):=by
 simp only[bW,fI,if_true];cases bW ks xs ys<;>rfl
theorem Yb(k:IntKind)(a b:Int):fI 1 (.int k a) (.int k b)=some (a == b):=by simp[fI]
theorem Ya(a b:List UInt8):fI 2 (.str a) (.str b)=some (a == b):=by simp[fI]
theorem Ru(a b:Bool):fI 0 (.bool a) (.bool b)=some (a == b):=by simp[fI]
theorem HC(cs:List DV):fN cs []=some cs:=rfl
theorem AB(cs:List DV)(off n:Nat)(v:DV)(r:List (Nat×Nat×DV))(hs:aO n v=true)(ho:off+n≤cs.length):fN cs ((off,n,v)::r)=fN (cs.take off++aF n v++cs.drop (off+n)) r:=by
 simp[fN,hs,ho]
theorem AC(sz:Nat)(xs:List DV):cU sz xs []=some xs:=rfl
theorem Zy(sz:Nat)(xs:List DV)(i:Nat)(v:DV)(r:List (Nat×DV))(hs:aO sz v=true)(hi:i<xs.length):cU sz xs ((i,v)::r)=cU sz (xs.set i v) r:=by
 simp[cU,hs,hi]
theorem Uf(sz:Nat)(cs:List DV):aF sz (.agg cs)=cs:=rfl
theorem B2(sz:Nat)(k:IntKind)(n:Int):aF sz (.int k n)=[.int k n]:=rfl
theorem Ue(sz:Nat)(n:Bool):aF sz (.bool n)=[.bool n]:=rfl
theorem A7(sz:Nat)(n:List UInt8):aF sz (.str n)=[.str n]:=rfl
theorem A9(sz:Nat):aF sz .nsl=[.nsl]:=rfl
theorem AM(sz a b c d:Nat):aF sz (.sl a b c d)=[.sl a b c d]:=rfl
theorem A8(sz a b c d:Nat):aF sz (.ptr a b c d)=[.ptr a b c d]:=rfl
theorem B1(sz:Nat)(t:Bool)(s:Nat)(xs:List DV):aF sz (.isl t s xs)=[.isl t s xs]:=rfl
theorem Ud(sz:Nat)(f:Nat)(cs:List DV):aF sz (.func f cs)=[.func f cs]:=rfl
theorem B0(sz:Nat)(i:Nat):aF sz (.map i)=[.map i]:=rfl
theorem Oo(sz t:Nat)(d:DV):aF sz (.iface t d)=[.iface t d]:=rfl
theorem Uc(sz:Nat):aF sz .nili=[.nili]:=rfl
theorem Ub(sz:Nat):aF sz .nilp=[.nilp]:=rfl
theorem Tz(p:eD):aF 1 (fG p)=[fG p]:=vU ..
theorem AK(h:aA)(sz:Nat):elems h sz .nsl=some []:=rfl
def GH(n:Option Nat)(sz off:Nat):Option DV→Option DV|some e=>cS n (aF sz e) off|none=>none
theorem Za(n:Option Nat)(sz off:Nat)(e:DV):GH n sz off (some e)=cS n (aF sz e) off:=rfl
def GG(n:Option Nat)(sz idx off:Nat):Option DO→Option DV
 | some (.arr _ dK xs _)=>if sz=dK then GH n sz off xs[idx]? else none
 | _=>none
theorem Yz(n:Option Nat)(sz idx off ety dK:Nat)(xs:List DV)(cap:Option Nat):GG n sz idx off (some (.arr ety dK xs cap))=if sz=dK then GH n sz off xs[idx]? else none:=rfl
theorem GF(h:aA)(n:Option Nat)(id sz idx off:Nat):jF h n (.ptr id sz idx off)=GG n sz idx off (h.get id):=by
 simp only[jF,GG]
 cases h.get id with
 | none=>rfl
 | some o=>cases o with
  | arr e s xs c =>
   simp only
   split
   ·cases xs[idx]?<;>rfl
   ·rfl
  | _=>rfl
def Wo(h:aA)(n id sz idx off ety:Nat)(xs:List DV)(cap:Option Nat)(x:DV):Option DV→Option aA
 | some e=>if(aF sz e).length=sz then some (h.set id (.arr ety sz (xs.set idx (turn sz off n e x)) cap))else none
 | none=>none
theorem Qj(h:aA)(n id sz idx off ety:Nat)(xs:List DV)(cap:Option Nat)(x e:DV):Wo h n id sz idx off ety xs cap x (some e)=if(aF sz e).length=sz then some (h.set id (.arr ety sz (xs.set idx (turn sz off n e x)) cap))else none:=rfl
def Wn(h:aA)(n id sz idx off:Nat)(x:DV):Option DO→Option aA
 | some (.arr ety dK xs cap)=>if sz=dK∧h.lim≤id∧aO n x=true∧off+n≤sz then Wo h n id sz idx off ety xs cap x xs[idx]? else none
 | _=>none
theorem Qi(h:aA)(n id sz idx off:Nat)(x:DV)(ety dK:Nat)(xs:List DV)(cap:Option Nat):Wn h n id sz idx off x (some (.arr ety dK xs cap))=if sz=dK∧h.lim≤id∧aO n x=true∧off+n≤sz then Wo h n id sz idx off ety xs cap x xs[idx]? else none:=rfl
theorem Q6(h:aA)(n id sz idx off:Nat)(x:DV):jZ h n (.ptr id sz idx off) x=Wn h n id sz idx off x (h.get id):=by
 simp only[jZ,Wn]
 cases h.get id with
 | none=>rfl
 | some o=>cases o with
  | arr e s xs c =>
   simp only
   split
   ·cases xs[idx]?<;>rfl
   ·rfl
  | _=>rfl
def A6(sz dK off len:Nat):Option DO→Option (List DV)
 | some (.arr _ jH xs _)=>if sz=dK∧sz=jH∧off+len≤xs.length then some ((xs.drop off).take len)else none
 | _=>none
theorem Tx(sz dK off len ety jH:Nat)(xs:List DV)(cap:Option Nat):A6 sz dK off len (some (.arr ety jH xs cap))=if sz=dK∧sz=jH∧off+len≤xs.length then some ((xs.drop off).take len)else none:=rfl
theorem HI(h:aA)(sz id dK off len:Nat):elems h sz (.sl id dK off len)=A6 sz dK off len (h.get id):=by
 simp only[elems,A6]
 cases h.get id with
 | none=>rfl
 | some o=>cases o<;>rfl
def Aj(sz id off:Nat)(lo:Option DV):Option Nat→Option DV
 | some b=>match cG lo 0 b with
  | some a=>some (.sl id sz (off+a) (b-a))
  | none=>none
 | none=>none
def Mk(sz dK id off len:Nat)(lo hi:Option DV):Option DO→Option DV
 | some (.arr _ jH xs _)=>if sz=dK∧sz=jH∧off+len≤xs.length then Aj sz id off lo (cG hi len (xs.length-off))else none
 | _=>none
theorem Bz(sz dK id off len:Nat)(lo hi:Option DV)(ety jH:Nat)(xs:List DV)(cap:Option Nat):Mk sz dK id off len lo hi (some (.arr ety jH xs cap))=if sz=dK∧sz=jH∧off+len≤xs.length then Aj sz id off lo (cG hi len (xs.length-off))else none:=rfl
theorem R0(h:aA)(sz id dK off len:Nat)(lo hi:Option DV):fC h sz (.sl id dK off len) lo hi=Mk sz dK id off len lo hi (h.get id):=by
 simp only[fC,Mk]
 cases h.get id with
 | none=>rfl
 | some o=>cases o with
  | arr e s xs c =>
   simp only
   split
   ·cases cG hi len (xs.length-off)with
    | none=>rfl
    | some b=>first|(simp only[Aj];done)|(simp only[Aj];cases cG lo 0 b<;>rfl)
   ·rfl
  | _=>rfl
def RA(sz id off b:Nat):Option Nat→Option DV
 | some a=>some (.sl id sz (off+a) (b-a))
 | none=>none
theorem Jn(sz id off b a:Nat):RA sz id off b (some a)=some (.sl id sz (off+a) (b-a)):=rfl
theorem By(sz id off:Nat)(lo:Option DV)(b:Nat):Aj sz id off lo (some b)=RA sz id off b (cG lo 0 b):=by
 simp only[Aj,RA]
def HU(h:aA)(sz dK id off len:Nat)(ys:List DV):Option DO→Option (DV×aA)
 | some (.arr ety jH xs cap)=>if sz=dK∧sz=jH∧off+len≤xs.length∧h.lim≤id then some (.int .i64 (ys.take len).length,h.set id (.arr ety sz (cF xs (ys.take len) off) cap))else none
 | _=>none
theorem B8(h:aA)(sz dK id off len:Nat)(ys:List DV)(ety jH:Nat)(xs:List DV)(cap:Option Nat):HU h sz dK id off len ys (some (.arr ety jH xs cap))=if sz=dK∧sz=jH∧off+len≤xs.length∧h.lim≤id then some (.int .i64 (ys.take len).length,h.set id (.arr ety sz (cF xs (ys.take len) off) cap))else none:=rfl
theorem HV(h:aA)(sz id dK off len:Nat)(ys:List DV):uR h sz (.sl id dK off len) ys=HU h sz dK id off len ys (h.get id):=by
 simp only[uR,HU]
 cases h.get id with
 | none=>rfl
 | some o=>cases o<;>rfl
def C1(h:aA):DV→Option DV
 | .nsl=>some (.int .i64 0)
 | .sl id sz off _=>match h.get id with
  | some (.arr _ dK _ (some c))=>if sz=dK then some (.int .i64 (c-off:Nat))else none
  | some (.arr _ dK xs none)=>if sz=dK then some (.atl (xs.length-off))else none
  | _=>none
 | _=>none
theorem DK(h:aA)(env:Env)(x:Opd):aB h env (.cap x)=cT h (C1 h (x.eval env)):=by
 simp only[aB,C1]
 cases x.eval env with
 | sl id sz off len =>
  simp only
  cases h.get id with
  | none=>rfl
  | some o=>cases o with
   | arr e s xs c=>cases c<;>simp only<;>split<;>rfl
   | _=>rfl
 | _=>rfl
theorem RN(c:Nat→List DV→aA→Option (DV×aA))(h:aA)(env:Env)(x:Opd):bD c (.cap x) env h=cT h (C1 h (x.eval env)):=DK h env x
def NE(sz off:Nat):Option DO→Option DV
 | some (.arr _ dK _ (some c))=>if sz=dK then some (.int .i64 (c-off:Nat))else none
 | some (.arr _ dK xs none)=>if sz=dK then some (.atl (xs.length-off))else none
 | _=>none
theorem ND(h:aA)(id sz off len:Nat):C1 h (.sl id sz off len)=NE sz off (h.get id):=by
 simp only[C1,NE]
theorem AU(sz off ety dK:Nat)(xs:List DV):NE sz off (some (.arr ety dK xs none))=if sz=dK then some (.atl (xs.length-off))else none:=rfl
theorem AT(sz off ety dK:Nat)(xs:List DV)(c:Nat):NE sz off (some (.arr ety dK xs (some c)))=if sz=dK then some (.int .i64 (c-off:Nat))else none:=rfl
theorem D4(a:Int)(n:Nat)(h:a≤(n:Int)):bS .gtr (.int .i64 a) (.atl n)=some (.bool false):=by simp[bS,h]
def Vb(h:aA)(ety sz bytes:Nat)(z s:DV)(x:DV):Option (DV×aA):=match asI x with
  | some n=>if 0≤n∧n≤140737488355328 then bB h ety sz bytes s (List.replicate n.toNat z)else none
  | none=>none
theorem Yn(c:Nat→List DV→aA→Option (DV×aA))(h:aA)(env:Env)(ety sz bytes:Nat)(z:DV)(s x:Opd):bD c (.appendZ ety sz bytes z s x) env h=Vb h ety sz bytes z (s.eval env) (x.eval env):=rfl
theorem Pc(h:aA)(ety sz bytes:Nat)(z s:DV)(k:IntKind)(n:Int):Vb h ety sz bytes z s (.int k n)=if 0≤n∧n≤140737488355328 then bB h ety sz bytes s (List.replicate n.toNat z)else none:=rfl
theorem JV{h:aA}{id:Nat}{o o':DO}:(h.set id o).set id o'=h.set id o':=by
 simp[aA.set]
theorem Pq{h:aA}{o:DO}:WF (h.push o)↔WF h:=⟨fun w=>by unfold WF at *;simpa[aA.push]using w,fun w=>w.push⟩
theorem Vu{h:aA}{id:Nat}{o:DO}:WF (h.set id o)↔WF h:=⟨fun w=>by unfold WF at *;simpa[aA.set]using w,fun w=>w.set⟩
theorem Gc{h:aA}{id k:Nat}{o:DO}(w:WF h)(eE:id<h.n):(h.set id o).get k=if k=id then some o else h.get k:=cO w eE
def wl(h:aA)(l:Nat):aA:={h with lim:=l}
theorem PC(h:aA)(l id:Nat):(wl h l).get id=h.get id:=rfl
theorem O7{h:aA}{l:Nat}:WF (wl h l)↔WF h:=Iff.rfl
theorem WF.wl{h:aA}(w:WF h)(l:Nat):WF (Dm.wl h l):=w
def crV(h:aA)(L:cC):Option (DV×aA)→Option (DV×aA×cC)
 | some (v,h')=>some (v,wl h' h.lim,L)
 | none=>none
theorem HP(h:aA)(L:cC)(v:DV)(h':aA):crV h L (some (v,h'))=some (v,wl h' h.lim,L):=rfl
theorem fM(c:fF)(l r:Nat)(L:cC)(o:DOp)(env:Env)(h:aA)(hp:kB L env o=none)(hq:yW env o=false):cL c l r L o env h=crV h L (bD c o env (wl h (max l h.lim))):=by
 unfold cL
 rw[hp,hq]
 simp only[kY,wl]
 cases bD c o env {h with lim:=max l h.lim} with
 | some p=>rfl
 | none=>rfl
def Na:DV→Bool|.func g _=>K6 g|_=>false
theorem Rw(g:FuncId)(cap:List DV):Na (.func g cap)=K6 g:=rfl
def pkC(r:Nat)(L:cC)(h:aA):Option (DV×aA)→Option (DV×aA×cC)
 | some (v,h')=>if(vY h h').all (fun id=>L.rds.all fun x=>!(Nat.beq x.1 id))=true then some (v,h',{L with pks:=(vY h h').map (fun id=>(r,id))++L.pks})else none
 | none=>none
theorem Iu(c:fF)(l r:Nat)(L:cC)(g:Opd)(as:List Opd)(env:Env)(h:aA):cL c l r L (.call g as) env h=if Na (g.eval env)=true then pkC r L h (bD c (.call g as) env h)else crV h L (bD c (.call g as) env (wl h (max l h.lim))):=by
 have hq:yW env (.call g as)=Na (g.eval env):=by simp only[yW,Na];cases g.eval env<;>rfl
 split
 ·rename_i ht
  unfold cL
  rw[show kB L env (.call g as)=none from rfl,hq,ht]
  simp only[kU,pkC]
  cases bD c (.call g as) env h<;>rfl
 ·rename_i hf
  exact fM _ _ _ _ _ _ _ rfl (by rw[hq];simpa using hf)
theorem Gu(c:fF)(l r:Nat)(L:cC)(e s:Nat)(z:DV)(env:Env)(h:aA):cL c l r L (.alloc e s z) env h=crV h L (bD c (.alloc e s z) env (wl h (max l h.lim))):=fM _ _ _ _ _ _ _ rfl rfl
theorem Oq(c:fF)(l r:Nat)(L:cC)(e s:Nat)(z:Opd)(env:Env)(h:aA):cL c l r L (.box e s z) env h=crV h L (bD c (.box e s z) env (wl h (max l h.lim))):=fM _ _ _ _ _ _ _ rfl rfl
theorem wJ(c:fF)(l r:Nat)(L:cC)(e s:Nat)(z:DV)(n:Nat)(ps:List (Nat×Opd))(env:Env)(h:aA):cL c l r L (.buildSlice e s z n ps) env h=crV h L (bD c (.buildSlice e s z n ps) env (wl h (max l h.lim))):=fM _ _ _ _ _ _ _ rfl rfl
theorem It(c:fF)(l r:Nat)(L:cC)(s:Nat)(d x:Opd)(env:Env)(h:aA):cL c l r L (.copy s d x) env h=crV h L (bD c (.copy s d x) env (wl h (max l h.lim))):=fM _ _ _ _ _ _ _ rfl rfl
theorem Bj(c:fF)(l r:Nat)(L:cC)(env:Env)(h:aA):cL c l r L .makeMap env h=crV h L (bD c .makeMap env (wl h (max l h.lim))):=fM _ _ _ _ _ _ _ rfl rfl
def EZ:DV→Option Nat|.ptr id ..=>some id|_=>none
def Ek:DV→Option Nat|.sl id ..=>some id|_=>none
def mapId:DV→Option Nat|.map id=>some id|_=>none
section
variable (env:Env)
theorem JK(n:Option Nat)(a:Opd):bN env (.load n a)=EZ (a.eval env):=by simp only[bN];cases a.eval env<;>rfl
theorem Px(sz:Nat)(x:Opd)(lo hi:Option Opd):bN env (.sliceSl sz x lo hi)=Ek (x.eval env):=by simp only[bN];cases x.eval env<;>rfl
theorem CN(x:Opd):bN env (.cap x)=Ek (x.eval env):=by simp only[bN];cases x.eval env<;>rfl
theorem CK(k:Nat)(x:Opd):bN env (.len k x)=mapId (x.eval env):=by simp only[bN];cases x.eval env<;>rfl
theorem Jh(q:EqT)(z:DV)(ok:Bool)(m k:Opd):bN env (.lookup q z ok m k)=mapId (m.eval env):=by simp only[bN];cases m.eval env<;>rfl
theorem JJ(x:Opd):bN env (.move x)=none:=_root_.id rfl
theorem JI(c a b:Opd):bN env (.pick c a b)=none:=_root_.id rfl
theorem CO(z:List DV)(ps:List (Nat×Nat×Opd)):bN env (.build z ps)=none:=_root_.id rfl
theorem CQ(op:BinOp)(x y:Opd):bN env (.arith op x y)=none:=_root_.id rfl
theorem PN(n:Bool)(x y:Opd):bN env (.eqb n x y)=none:=_root_.id rfl
theorem PO(n:Bool)(ks:List Nat)(x y:Opd):bN env (.eqa n ks x y)=none:=_root_.id rfl
theorem PM(k:Nat)(n:Bool)(x y:Opd):bN env (.eqn k n x y)=none:=_root_.id rfl
theorem UB(op:UnOp)(x:Opd):bN env (.un op x)=none:=_root_.id rfl
theorem JL(k:IntKind)(x:Opd):bN env (.conv k x)=none:=_root_.id rfl
theorem CP(x:Opd):bN env (.asStr x)=none:=_root_.id rfl
theorem Py(x:Opd):bN env (.nilCheck x)=none:=_root_.id rfl
theorem Lm(o:Nat)(x:Opd):bN env (.fieldAddr o x)=none:=_root_.id rfl
theorem CM(o:Nat)(n:Option Nat)(x:Opd):bN env (.field o n x)=none:=_root_.id rfl
theorem Ll(s:Nat)(x i:Opd):bN env (.indexAddr s x i)=none:=_root_.id rfl
theorem Qb(l e:Nat)(x i:Opd):bN env (.indexArr l e x i)=none:=_root_.id rfl
theorem CL(l e:Nat)(n:Option Nat)(x i:Opd):bN env (.index l e n x i)=none:=_root_.id rfl
theorem Qa(x i:Opd):bN env (.indexStr x i)=none:=_root_.id rfl
theorem Pw(x:Opd)(lo hi:Option Opd):bN env (.sliceStr x lo hi)=none:=_root_.id rfl
theorem P0(b:Bool)(x y:Opd):bN env (.minmax b x y)=none:=_root_.id rfl
theorem Pz(f:FuncId)(c:List Opd):bN env (.makeFunc f c)=none:=_root_.id rfl
theorem Wb(x:Opd)(i:Nat):bN env (.extract x i)=none:=_root_.id rfl
theorem Lk(t:TypeId)(x:Opd):bN env (.makeIface t x)=none:=_root_.id rfl
def W2:Option Nat→Option (Nat×jG)
 | some id=>some (id,none)
 | none=>none
theorem V8(id:Nat):W2 (some id)=some (id,none):=_root_.id rfl
theorem V9:W2 none=none:=_root_.id rfl
def EY(n:Option Nat):DV→Option (Nat×jG)
 | .ptr id sz i o=>some (id,some (n,sz,i,o))
 | _=>none
theorem U8(n:Option Nat)(id sz i o:Nat):EY n (.ptr id sz i o)=some (id,some (n,sz,i,o)):=_root_.id rfl
theorem Xy(n:Option Nat)(l:Bool)(cs:List DV)(o:Nat):EY n (.iptr l cs o)=none:=_root_.id rfl
theorem LC(n:Option Nat)(a:Opd):mark env (.load n a)=EY n (a.eval env):=by simp only[mark];cases a.eval env<;>rfl
theorem FQ(sz:Nat)(x:Opd)(lo hi:Option Opd):mark env (.sliceSl sz x lo hi)=W2 (Ek (x.eval env)):=by rw[←Px env];simp only[mark];cases bN env (.sliceSl sz x lo hi)<;>rfl
theorem RW(x:Opd):mark env (.cap x)=W2 (Ek (x.eval env)):=by rw[←CN env];simp only[mark];cases bN env (.cap x)<;>rfl
theorem RR(k:Nat)(x:Opd):mark env (.len k x)=W2 (mapId (x.eval env)):=by rw[←CK env];simp only[mark];cases bN env (.len k x)<;>rfl
theorem W7(q:EqT)(z:DV)(ok:Bool)(m k:Opd):mark env (.lookup q z ok m k)=W2 (mapId (m.eval env)):=by rw[←Jh env];simp only[mark];cases bN env (.lookup q z ok m k)<;>rfl
theorem LB(x:Opd):mark env (.move x)=none:=_root_.id rfl
theorem LA(c a b:Opd):mark env (.pick c a b)=none:=_root_.id rfl
theorem FU(z:List DV)(ps:List (Nat×Nat×Opd)):mark env (.build z ps)=none:=_root_.id rfl
theorem FW(op:BinOp)(x y:Opd):mark env (.arith op x y)=none:=_root_.id rfl
theorem RU(n:Bool)(x y:Opd):mark env (.eqb n x y)=none:=_root_.id rfl
theorem RV(n:Bool)(ks:List Nat)(x y:Opd):mark env (.eqa n ks x y)=none:=_root_.id rfl
theorem RT(k:Nat)(n:Bool)(x y:Opd):mark env (.eqn k n x y)=none:=_root_.id rfl
theorem WS(op:UnOp)(x:Opd):mark env (.un op x)=none:=_root_.id rfl
theorem LD(k:IntKind)(x:Opd):mark env (.conv k x)=none:=_root_.id rfl
theorem FV(x:Opd):mark env (.asStr x)=none:=_root_.id rfl
theorem Sl(x:Opd):mark env (.nilCheck x)=none:=_root_.id rfl
theorem Nm(o:Nat)(x:Opd):mark env (.fieldAddr o x)=none:=_root_.id rfl
theorem FT(o:Nat)(n:Option Nat)(x:Opd):mark env (.field o n x)=none:=_root_.id rfl
theorem Nl(s:Nat)(x i:Opd):mark env (.indexAddr s x i)=none:=_root_.id rfl
theorem So(l e:Nat)(x i:Opd):mark env (.indexArr l e x i)=none:=_root_.id rfl
theorem FR(l e:Nat)(n:Option Nat)(x i:Opd):mark env (.index l e n x i)=none:=_root_.id rfl
theorem Sn(x i:Opd):mark env (.indexStr x i)=none:=_root_.id rfl
theorem Sk(x:Opd)(lo hi:Option Opd):mark env (.sliceStr x lo hi)=none:=_root_.id rfl
theorem W6(b:Bool)(x y:Opd):mark env (.minmax b x y)=none:=_root_.id rfl
theorem Sm(f:FuncId)(c:List Opd):mark env (.makeFunc f c)=none:=_root_.id rfl
theorem Ys(x:Opd)(i:Nat):mark env (.extract x i)=none:=_root_.id rfl
theorem Nk(t:TypeId)(x:Opd):mark env (.makeIface t x)=none:=_root_.id rfl
end
theorem U9(a b c d:Nat):EZ (.ptr a b c d)=some a:=_root_.id rfl
theorem Xz(l:Bool)(cs:List DV)(o:Nat):EZ (.iptr l cs o)=none:=_root_.id rfl
theorem JS(a b c d:Nat):Ek (.sl a b c d)=some a:=_root_.id rfl
theorem DP:Ek .nsl=none:=_root_.id rfl
theorem JT{α:Type}(t:Bool)(sz:Nat)(e:α→DV)(xs:List α):Ek (eL t sz e xs)=none:=by cases xs<;>rfl
theorem X1(i:Nat):mapId (.map i)=some i:=_root_.id rfl
theorem GA{α:Type}(t:Bool)(sz:Nat)(e:α→DV)(xs:List α):mapId (eL t sz e xs)=none:=by cases xs<;>rfl
theorem FZ(a b c d:Nat):mapId (.sl a b c d)=none:=_root_.id rfl
theorem W9:mapId .nsl=none:=_root_.id rfl
theorem W8(s:List UInt8):mapId (.str s)=none:=_root_.id rfl
theorem X4:cC.start=⟨[],[]⟩:=_root_.id rfl
theorem GE(L:cC)(t:Option (Nat×jG)):cC.see L true t=L:=_root_.id rfl
theorem LH(L:cC)(t:Option (Nat×jG)):cC.see L false t=cC.read L t:=_root_.id rfl
theorem GC(r:List (Nat×jG))(p:List (Nat×Nat))(x:Nat×jG):cC.read ⟨r,p⟩ (some x)=⟨x::r,p⟩:=_root_.id rfl
theorem X5(L:cC):cC.read L none=L:=_root_.id rfl
theorem X7(r:List (Nat×jG))(s:Nat)(t:Option Nat):cC.free ⟨r,[]⟩ s t=true:=by cases t<;>rfl
theorem X6(L:cC)(s:Nat):cC.free L s none=true:=_root_.id rfl
theorem GD(r:List (Nat×jG))(p:Nat×Nat)(ps:List (Nat×Nat))(s id:Nat):cC.free ⟨r,p::ps⟩ s (some id)=((decide (p.1<s) || !decide (p.2=id)) && cC.free ⟨r,ps⟩ s (some id)):=by
 have e1:Nat.blt p.1 s=decide (p.1<s):=by rw[Bool.eq_iff_iff];simp[Nat.blt_eq]
 have e2:Nat.beq p.2 id=decide (p.2=id):=by rw[Bool.eq_iff_iff];simp
 simp only[cC.free,List.all_cons,e1,e2]
theorem D5(m:Option Nat)(z i o n idx off:Nat):nF (some (m,z,i,o)) n idx off=(!decide (i=idx) || decide (o+Dt m≤off) || decide (off+n≤o)):=by
 have e2:Nat.beq i idx=decide (i=idx):=by rw[Bool.eq_iff_iff];simp
 have e3:Nat.ble (o+Dt m) off=decide (o+Dt m≤off):=by rw[Bool.eq_iff_iff];simp
 have e4:Nat.ble (off+n) o=decide (off+n≤o):=by rw[Bool.eq_iff_iff];simp
 simp only[nF,e2,e3,e4]
theorem D6(n idx off:Nat):nF none n idx off=false:=_root_.id rfl
theorem Vt:Dt none=1:=_root_.id rfl
theorem Vs(n:Nat):Dt (some n)=n:=_root_.id rfl
def pkA(L:cC):Option Nat→Option Nat
 | some id=>if L.rds.all (fun x=>!decide (x.1=id))=true then some id else none
 | none=>none
theorem FE(r:List (Nat×jG))(p:List (Nat×Nat))(id:Nat):pkA ⟨r,p⟩ (some id)=if r.all (fun x=>!decide (x.1=id))=true then some id else none:=_root_.id rfl
theorem FF(L:cC):pkA L none=none:=_root_.id rfl
theorem WL(L:cC)(id:Nat):(L.rds.all fun x=>!(Nat.beq x.1 id))=(L.rds.all fun x=>!decide (x.1=id)):=by
 congr 1;funext x
 have e2:Nat.beq x.1 id=decide (x.1=id):=by rw[Bool.eq_iff_iff];simp
 rw[e2]
def pkS(L:cC)(n:Nat):DV→Option Nat
 | .ptr id _ idx off=>if L.rds.all (fun x=>!decide (x.1=id) || nF x.2 n idx off)=true then some id else none
 | _=>none
theorem KR(r:List (Nat×jG))(p:List (Nat×Nat))(n id sz idx off:Nat):pkS ⟨r,p⟩ n (.ptr id sz idx off)=if r.all (fun x=>!decide (x.1=id) || nF x.2 n idx off)=true then some id else none:=_root_.id rfl
theorem FD(L:cC)(n:Nat)(l:Bool)(cs:List DV)(o:Nat):pkS L n (.iptr l cs o)=none:=_root_.id rfl
theorem FB(L:cC)(env:Env)(n:Nat)(a x:Opd):kB L env (.store n a x)=pkS L n (a.eval env):=by
 simp only[kB]
 cases a.eval env<;>try rfl
 rename_i id sz idx off
 have:(L.rds.all fun x=>!(Nat.beq x.1 id) || nF x.2 n idx off)=(L.rds.all fun x=>!decide (x.1=id) || nF x.2 n idx off):=by
  congr 1;funext x
  have e2:Nat.beq x.1 id=decide (x.1=id):=by rw[Bool.eq_iff_iff];simp
  rw[e2]
 simp only[this];rfl
theorem V1(L:cC)(env:Env)(e s b:Nat)(a x:Opd):kB L env (.append e s b a x)=pkA L (Ek (a.eval env)):=by
 simp only[kB,pkA,Ek,WL];cases a.eval env<;>rfl
def pkV(L:cC)(r id:Nat):Option (DV×aA)→Option (DV×aA×cC)
 | some (v,h')=>some (v,h',⟨L.rds,(r,id)::L.pks⟩)
 | none=>none
theorem FC(rs:List (Nat×jG))(ps:List (Nat×Nat))(r id:Nat)(v:DV)(h':aA):pkV ⟨rs,ps⟩ r id (some (v,h'))=some (v,h',⟨rs,(r,id)::ps⟩):=_root_.id rfl
def crP(c:fF)(l r:Nat)(L:cC)(o:DOp)(env:Env)(h:aA):Option Nat→Option (DV×aA×cC)
 | some id=>pkV L r id (aB h env o)
 | none=>crV h L (bD c o env (wl h (max l h.lim)))
theorem HQ(c:fF)(l r:Nat)(L:cC)(o:DOp)(env:Env)(h:aA)(id:Nat):crP c l r L o env h (some id)=pkV L r id (aB h env o):=_root_.id rfl
theorem HR(c:fF)(l r:Nat)(L:cC)(o:DOp)(env:Env)(h:aA):crP c l r L o env h none=crV h L (bD c o env (wl h (max l h.lim))):=_root_.id rfl
theorem Cn(c:fF)(l r:Nat)(L:cC)(o:DOp)(env:Env)(h:aA)(hq:yW env o=false):cL c l r L o env h=crP c l r L o env h (kB L env o):=by
 cases hp:kB L env o with
 | none=>rw[fM _ _ _ _ _ _ _ hp hq];rfl
 | some id =>
  unfold cL
  rw[hp]
  simp only[crP,pkV]
  cases aB h env o with
  | none=>rfl
  | some q=>rfl
theorem Gr(c:fF)(l r:Nat)(L:cC)(n:Nat)(a x:Opd)(env:Env)(h:aA):cL c l r L (.store n a x) env h=crP c l r L (.store n a x) env h (pkS L n (a.eval env)):=by rw[Cn _ _ _ _ _ _ _ rfl,FB]
theorem De(c:fF)(l r:Nat)(L:cC)(e s b:Nat)(a x:Opd)(env:Env)(h:aA):cL c l r L (.append e s b a x) env h=crP c l r L (.append e s b a x) env h (pkA L (Ek (a.eval env))):=by rw[Cn _ _ _ _ _ _ _ rfl,V1]
theorem xS(c:fF)(l r:Nat)(L:cC)(q:EqT)(m k x:Opd)(env:Env)(h:aA):cL c l r L (.mapUpdate q m k x) env h=crV h L (bD c (.mapUpdate q m k x) env (wl h (max l h.lim))):=fM _ _ _ _ _ _ _ rfl rfl
theorem KM(t:Bool)(h:aA)(n:Nat)(k:IntKind)(m:Int):resolve t h (n+1) (.int k m)=some (.int k m):=rfl
theorem ES(t:Bool)(h:aA)(n:Nat)(m:Bool):resolve t h (n+1) (.bool m)=some (.bool m):=rfl
theorem KK(t:Bool)(h:aA)(n:Nat)(m:List UInt8):resolve t h (n+1) (.str m)=some (.str m):=rfl
theorem KL(t:Bool)(h:aA)(n:Nat):resolve t h (n+1) .nsl=some (.isl false 0 []):=rfl
theorem EQ(t:Bool)(h:aA)(n:Nat)(l:Bool)(cs:List DV)(o:Nat):resolve t h (n+1) (.iptr l cs o)=some (.iptr l cs o):=rfl
theorem ER{α:Type}(t:Bool)(h:aA)(n:Nat)(t':Bool)(sz:Nat)(e:α→DV)(xs:List α):resolve t h (n+1) (eL t' sz e xs)=some (eL t' sz e xs):=eF t' sz e xs t h (n+1) (by omega)
theorem Ro(t:Bool)(h:aA)(n:Nat)(p:eD):resolve t h (n+1) (fG p)=some (fG p):=ER ..
theorem EP(t:Bool)(h:aA)(n:Nat):resolve t h (n+1) .nili=some .nili:=rfl
theorem EO(t:Bool)(h:aA)(n:Nat):resolve t h (n+1) .nilp=some .nilp:=rfl
theorem NC(t:Bool)(h:aA)(v:DV):resolve t h bU v=resolve t h (199+1) v:=rfl
def tP(t:Bool)(h:aA)(n:Nat)(vs:List DV):Option (List DV):=vs.mapM (resolve t h n)
theorem KN(t:Bool)(h:aA)(n:Nat)(vs:List DV):vs.mapM (resolve t h n)=tP t h n vs:=rfl
theorem ET(t:Bool)(h:aA)(n:Nat):tP t h n []=some []:=rfl
def OW:Option DV→Option (List DV)→Option (List DV)
 | some x,some l=>some (x::l)
 | _,_=>none
theorem B9(x:DV)(l:List DV):OW (some x) (some l)=some (x::l):=rfl
theorem T6(t:Bool)(h:aA)(n:Nat)(v:DV)(vs:List DV):tP t h n (v::vs)=OW (resolve t h n v) (tP t h n vs):=by
 unfold tP
 rw[List.mapM_cons]
 cases resolve t h n v<;>cases vs.mapM (resolve t h n)<;>rfl
def XN:Option (List DV)→Option DV|some c=>some (.agg c)|none=>none
def TZ:Option (List DV)→Option DV|some c=>some (.tup c)|none=>none
def WV(f:Nat):Option (List DV)→Option DV|some c=>some (.func f c)|none=>none
theorem BM(c:List DV):XN (some c)=some (.agg c):=rfl
theorem O9(c:List DV):TZ (some c)=some (.tup c):=rfl
theorem Z6(f:Nat)(c:List DV):WV f (some c)=some (.func f c):=rfl
theorem J8(t:Bool)(h:aA)(n:Nat)(cs:List DV):resolve t h (n+1) (.agg cs)=XN (tP t h n cs):=by
 simp only[resolve];unfold tP;cases cs.mapM (resolve t h n)<;>rfl
theorem KJ(t:Bool)(h:aA)(n:Nat)(cs:List DV):resolve t h (n+1) (.tup cs)=TZ (tP t h n cs):=by
 simp only[resolve];unfold tP;cases cs.mapM (resolve t h n)<;>rfl
theorem Eu(t:Bool)(h:aA)(n:Nat)(f:Nat)(cs:List DV):resolve t h (n+1) (.func f cs)=WV f (tP t h n cs):=by
 simp only[resolve];unfold tP;cases cs.mapM (resolve t h n)<;>rfl
def GP(t:Bool)(off:Nat):Option (List DV)→Option DV|some c=>some (.iptr t c off)|none=>none
theorem Zd(t:Bool)(off:Nat)(c:List DV):GP t off (some c)=some (.iptr t c off):=rfl
def KO(t:Bool)(h:aA)(n sz off:Nat):Option DV→Option DV|some e=>GP t off (tP t h n (aF sz e))|none=>none
theorem T7(t:Bool)(h:aA)(n sz off:Nat)(e:DV):KO t h n sz off (some e)=GP t off (tP t h n (aF sz e)):=rfl
def My(t:Bool)(h:aA)(n sz idx off:Nat):Option DO→Option DV
 | some (.arr _ dK xs _)=>if sz=dK then KO t h n sz off xs[idx]? else none
 | _=>none
theorem Mx(t:Bool)(h:aA)(n sz idx off ety dK:Nat)(xs:List DV)(cap:Option Nat):My t h n sz idx off (some (.arr ety dK xs cap))=if sz=dK then KO t h n sz off xs[idx]? else none:=rfl
theorem Xr(t:Bool)(h:aA)(n id sz idx off:Nat):resolve t h (n+1) (.ptr id sz idx off)=My t h n sz idx off (h.get id):=by
 simp only[resolve,My]
 cases h.get id with
 | none=>rfl
 | some o=>cases o with
  | arr e s xs c =>
   simp only
   split
   ·cases xs[idx]? with
    | none=>rfl
    | some x=>simp only[KO,tP];cases(aF sz x).mapM (resolve t h n)<;>rfl
   ·rfl
  | _=>rfl
def SA(t:Bool)(sz:Nat):Option (List DV)→Option DV|some ys=>some (mkIsl t sz ys)|none=>none
theorem Y1(t:Bool)(sz:Nat)(ys:List DV):SA t sz (some ys)=some (mkIsl t sz ys):=rfl
def Xs(t:Bool)(h:aA)(n sz off len:Nat):Option DO→Option DV
 | some (.arr _ dK xs _)=>if sz=dK∧off+len≤xs.length then SA t sz (tP t h n ((xs.drop off).take len))else none
 | _=>none
theorem Rp(t:Bool)(h:aA)(n sz off len ety dK:Nat)(xs:List DV)(cap:Option Nat):Xs t h n sz off len (some (.arr ety dK xs cap))=if sz=dK∧off+len≤xs.length then SA t sz (tP t h n ((xs.drop off).take len))else none:=rfl
theorem Js(t:Bool)(h:aA)(n id sz off len:Nat):resolve t h (n+1) (.sl id sz off len)=Xs t h n sz off len (h.get id):=by
 simp only[resolve,Xs]
 cases h.get id with
 | none=>rfl
 | some o=>cases o with
  | arr e s xs c =>
   simp only
   split
   ·simp only[tP];cases((xs.drop off).take len).mapM (resolve t h n)<;>rfl
   ·rfl
  | _=>rfl
def WO(h:aA)(v:DV):Option DV :=
 match resolve false h (199+1) v with
 | some d=>if bA (199+1) d then some d else none
 | none=>none
theorem fO(v:DV)(h:aA):iK (some (v,h))=WO h v:=rfl
def CH:Option DV→Option DV
 | some d=>if bA (199+1) d then some d else none
 | none=>none
theorem KS(h:aA)(v:DV):WO h v=CH (resolve false h (199+1) v):=rfl
theorem CG(k:IntKind)(n:Int):CH (some (.int k n))=some (.int k n):=rfl
theorem O8(b:Bool):CH (some (.bool b))=some (.bool b):=rfl
theorem CF(b:List UInt8):CH (some (.str b))=some (.str b):=rfl
theorem JA(d:DV):CH (some d)=if bA 200 d=true then some d else none:=rfl
theorem PI(n:Nat)(k:IntKind)(m:Int):bA (n+1) (.int k m)=true:=rfl
theorem JH(n:Nat)(m:Bool):bA (n+1) (.bool m)=true:=rfl
theorem PH(n:Nat)(m:List UInt8):bA (n+1) (.str m)=true:=rfl
theorem PL(n:Nat)(cs:List DV):bA (n+1) (.agg cs)=cs.all (bA n):=rfl
theorem PG(n:Nat)(cs:List DV):bA (n+1) (.tup cs)=cs.all (bA n):=rfl
theorem JB(n:Nat)(p:eD):bA (n+21) (fG p)=true:=qQ p (n+21) (by omega)
theorem JF(n:Nat)(sz:Nat):bA (n+1) (.isl false sz [])=true:=by simp[bA]
theorem JE(n:Nat):bA (n+1) .nili=true:=rfl
theorem JD(n:Nat):bA (n+1) .nilp=true:=rfl
theorem Rg(D:bX)(N:Nat)(S:List Fr)(f:dX)(hs:List aA)(L:cC)(dst:Option Nat)(op:DOp)(s:Nat)(cm:Bool)(r:List aJ)(hf:L.free s (bN (tab N f) op)=true) :
  yU D N S dst op s cm r f hs L .read=Rh D N S dst op cm r f hs L (gY hs s):=by rw[Xk,if_pos hf]
theorem oH{α:Type}(t:Bool)(sz:Nat)(e:α→DV)(xs:List α)(k:IntKind)(i:Int)(h0:0≤i):aS sz (eL t sz e xs) (.int k i)=(xs[i.toNat]?).map fun a=>.iptr t (aF sz (e a)) 0:=by
 cases hx:xs[i.toNat]? with
 | some a=>rw[Fq t sz e k h0 hx];rfl
 | none =>
  cases xs with
  | nil=>simp[sP,aS,asI]
  | cons x xs =>
   have hy:(List.map e (x::xs))[i.toNat]?=none:=by rw[List.getElem?_map,hx];rfl
   rw[qA,←List.map_cons]
   simp only[aS,asI,h0,and_self,if_true,hy,Option.map_none]
theorem uB{α:Type}(t:Bool)(sz:Nat)(e:α→DV)(xs:List α)(k:IntKind)(i:Nat):aS sz (eL t sz e xs) (.int k (i:Int))=(xs[i]?).map fun a=>.iptr t (aF sz (e a)) 0:=by
 rw[oH _ _ _ _ _ _ (Int.natCast_nonneg i)];simp
theorem Cx{α:Type}(t:Bool)(sz:Nat)(e:α→DV)(xs:List α)(k:IntKind)(i:Nat):aS sz (eL t sz e xs) (.int k ((i:Int)+1))=(xs[i+1]?).map fun a=>.iptr t (aF sz (e a)) 0:=by
 have:=uB t sz e xs k (i+1)
 rwa[Int.natCast_add]at this
theorem Lg{n:Int}(h1:0≤n)(h2:n≤18446744073709551615):IntKind.u64.wrap n=n:=by
 exact Go.IntWalk.u64_in n ⟨h1,h2⟩
theorem D3(a:Int):bS .shr (.int .u64 a) (.int .u64 1)=some (.int .u64 (a.fdiv 2)):=by
 simp[bS,IntKind.bits]
theorem ZD(i j:Nat):((i:Int)+j).fdiv 2=((i+j) / 2:Nat):=by
 rw[Int.fdiv_eq_ediv_of_nonneg _ (by decide)];omega
theorem mE(k:IntKind)(n d l:Nat)(h:n≤l):cG (some (.int k (n:Int))) d l=some n:=by
 rw[sT _ _ _ _ (by omega) (by omega)];simp
theorem Us(k:IntKind)(n d l:Nat)(h:n+1≤l):cG (some (.int k ((n:Int)+1))) d l=some (n+1):=by
 rw[sT _ _ _ _ (by omega) (by omega)];simp
theorem Ur(k:IntKind)(d l:Nat):cG (some (.int k 0)) d l=some 0:=by
 rw[sT _ _ _ _ (by omega) (by omega)];simp
theorem Xe(D:bX)(N:Nat)(S:List Fr)(f:dX)(h:aA)(o:aJ)(w:Bool)(r:List aJ):S4 D N S o w r f h bK=yT D N S r (qV f o.dst bK) h:=rfl
theorem Ri(D:bX)(N:Nat)(S:List Fr)(f:dX)(hs:List aA)(L:cC)(o:aJ)(w:Bool)(r:List aJ):Rj D N S o w r f hs L bK=wQ D N S o.dst o.kind r f L hs:=rfl
theorem aG{b c:aI}(hb:b=c)(D:bX)(N:Nat)(S:List Fr)(f:dX)(h:aA):run D N S (.loop b) f h=run D N (.loop b::S) c f h:=by
 rw[ED];rw[←hb]
theorem IT(h:aA)(o:DO):(h.push o).n=h.n+1:=_root_.id rfl
theorem O6(h:aA)(o:DO):(h.push o).lim=h.lim:=_root_.id rfl
theorem PB(h:aA)(id':Nat)(o:DO):(h.set id' o).n=h.n:=_root_.id rfl
theorem CC(h:aA)(id':Nat)(o:DO):(h.set id' o).lim=h.lim:=_root_.id rfl
theorem TV(h:aA)(l:Nat):(wl h l).n=h.n:=_root_.id rfl
theorem IU(h:aA)(l:Nat):(wl h l).lim=l:=_root_.id rfl
theorem IV(h:aA)(l i:Nat):(wl h l).get i=h.get i:=_root_.id rfl
theorem CA(h:aA)(l:Nat)(o:DO):(wl h l).push o=wl (h.push o) l:=_root_.id rfl
theorem IS(h:aA)(l i:Nat)(o:DO):(wl h l).set i o=wl (h.set i o) l:=_root_.id rfl
theorem PA(h:aA)(a b:Nat):wl (wl h a) b=wl h b:=_root_.id rfl
theorem BZ(h:aA):wl h h.lim=h:=_root_.id rfl
theorem Lf(h:aA)(o:DO):wl (h.push o) h.lim=h.push o:=_root_.id rfl
theorem IW(h:aA)(l:Nat)(hl:l=h.lim):wl h l=h:=by subst hl;rfl
theorem CB:sX.n=0:=_root_.id rfl
theorem Vq:sX.lim=0:=_root_.id rfl
abbrev eU8(b:UInt8):DV:=.int .u8 b.toNat
def JP(h:aA):Option (List UInt8)→Option (DV×aA)
 | some s=>some (.str s,h)
 | none=>none
def Bm(h:aA):Option (List DV)→Option (DV×aA)
 | some ys=>JP h (ys.mapM Oz)
 | none=>none
def Vc(h:aA)(ety sz bytes:Nat)(s:DV):DV→Option (DV×aA)
 | .str t=>bB h ety sz bytes s (t.map eU8)
 | _=>none
theorem Sh(c:Nat→List DV→aA→Option (DV×aA))(h:aA)(env:Env)(x:Opd):bD c (.bytesStr x) env h=Bm h (elems h 1 (x.eval env)):=by
 simp only[bD,aB]
 cases elems h 1 (x.eval env)with
 | none=>rfl
 | some ys=>cases hm:ys.mapM Oz<;>simp only[Bm,JP,hm]
theorem Gz(h:aA)(ys:List DV):Bm h (some ys)=JP h (ys.mapM Oz):=rfl
theorem Q5(h:aA)(s:List UInt8):JP h (some s)=some (.str s,h):=rfl
theorem FY(xs:List UInt8):(xs.map eU8).mapM Oz=some xs:=by
 induction xs with
 | nil=>rfl
 | cons b xs ih =>
  have hb:Oz (eU8 b)=some b:=by simp[Oz,eU8]
  simp only[List.map_cons,List.mapM_cons,hb,ih]
  rfl
theorem Yo(c:Nat→List DV→aA→Option (DV×aA))(h:aA)(env:Env)(ety sz bytes:Nat)(s x:Opd):bD c (.appendS ety sz bytes s x) env h=Vc h ety sz bytes (s.eval env) (x.eval env):=by
 simp only[bD,aB]
 cases x.eval env<;>rfl
theorem Pf(h:aA)(ety sz bytes:Nat)(s:DV)(t:List UInt8):Vc h ety sz bytes s (.str t)=bB h ety sz bytes s (t.map eU8):=rfl
theorem FA(f:Nat):K6 f=([]:List Nat).contains f:=rfl
attribute [simp] Rw FA
attribute [simp] Sh Gz Q5 FY Yo Pf
attribute [simp] KF Xc S2 EH S0 KH R9 EC KG EE T4 Hv Es Mv Rm KI Hu Mw EM
 EG S7 Xo EK SZ TA WD IA U5 U6 IY
 KV KU FN RO FK Hz KW FH Sd FM RL RM RK WP KY FL Nh FJ Ng Sg FI Sf Sc Yk RJ V6 KX V4 Se Yl Ym Nf V5 Nd
 xX NI Mf Me Ho Lz Ma Qk Mb Md Hn Mc Ed Hm Hl Br Hk
 PB CC cK IT CB Vq O6 Yy GF Yz Za Q6 Qi Qj HI Tx Qh CI JV Pq Vu O7 Gc CD TV IU IV CA IS PA BZ Lf IW HP Iu Gu Oq wJ It Bj R0 Bz By Jn B7 HV B8 RN DK ND AU AT D4 Yn Pc WN WM Rs Uf B2 Ue A7 A9 AM A8 B1 Ud B0 Oo Uc Ub vU Tz
 Gk Dc Zz LK GI GJ LJ GL Uy Uw Ux BI BD BE BF BG BH BC AX AY AZ BA BB PE PF
 HG AI Un Uo Um Ox Yb Ya Ru Zv AH Yf AR D1 Ol BL Hq HC AB AC Zy Pd AK fX Ia Fg Sp
 Sb C7 sS
 KN ET T6 B9 BM O9 Z6 Zd KM ES KK KL EQ ER Ro EP EO J8 KJ Eu NC Xr Mx T7 Js Rp Y1
 MT Zx Z9 Hx Xp Hy fO KS CG O8 CF JA PI JH PH PL PG JB JF JE JD
 EF EJ S5 Xf Xm S6 Xj Re Mp Rg Rf Mq Xl Xn Xi Xh Xg JK Px CN CK Jh JJ JI CO CQ PN PO PM UB JL CP Py Lm CM Ll Qb CL Qa Pw P0 Pz Wb Lk
 U9 Xz JS DP JT X1 GA FZ W9 W8 X4 GE LH GC D5 D6 Vt Vs KR FD V8 V9 U8 Xy LC FQ RW RR W7 LB LA FU FW RU RV RT WS LD FV Sl Nm FT Nl So FR Sn Sk W6 Sm Ys Nk X5 X7 X6 GD FE FF FC HQ HR Gr De xS Q9 Xd S3 EI Xe Ri
 JQ I8 DL QY Qq wN I9 Qm Bu Qs DI DJ DH NV J1 Qr yM Qp yL Bw Qo Bv Bt Ef DG Jm J0 Jk Qn Wq Eg Mh Jl yK
 uV mE Us Ur sT uB Cx oH bJ Lg D3 ZD
end Go.Dm
/-
Part 5 of "De": copies of rows; rows with room left over behind a deletion.
-/
namespace Go.Dm
theorem vW{lo:Nat}{h:aA}{v:DV}{ety sz bytes:Nat}{ys:List DV}{A:Option (DV×aA)}(he:elems h sz v=some ys)(wf:WF h)(eN:lo≤h.n)(bE:h.lim≤h.n)(hb:ys.length*bytes≤140737488355328)(vT:1≤bytes)(hA:bO ety sz bytes h [v]=A) :
  ∃ v' h',A=some (v',h')∧Own lo h' v' ety sz ys∧Ext lo h h'∧Ext h.n h h':=by
 have hm:ys.length≤140737488355328:=Nat.le_trans (Nat.le_mul_of_pos_right _ vT) hb
 subst hA
 by_cases hy:ys=[]
 ·subst hy
  refine⟨.nsl,h.push .dead,?_,.nil rfl rfl,(Ext.refl eN wf).push,(Ext.refl (Nat.le_refl _) wf).push⟩
  simp[bO,he]
 ·have Ii:ys.isEmpty=false:=by cases ys<;>simp_all
  refine⟨.sl (h.n+1) sz 0 ys.length,(h.push (.arr ety sz [] (some 0))).push (.arr ety sz ys none),?_,.arr (h.n+1) rfl ?_ ?_ (by omega),((Ext.refl eN wf).push).push,((Ext.refl (Nat.le_refl _) wf).push).push⟩
  ·simp only[bO,he,Ii]
   rw[if_neg (by simp),if_pos ⟨hb,by omega⟩]
  ·exact cV
  ·show h.lim≤h.n+1
   omega
inductive OwnR(lo:Nat)(h:aA)(v:DV)(ety sz:Nat)(xs:List DV):Prop where
 | nil (hv:v=.nsl) (hx:xs=[])
 | arr (id:Nat) (sp:List DV) (cap:Option Nat) (hv:v=.sl id sz 0 xs.length) (hg:h.get id=some (.arr ety sz (xs++sp) cap)) (bE:h.lim≤id) (eN:lo≤id)
theorem Own.toR{lo:Nat}{h:aA}{v:DV}{ety sz:Nat}{xs:List DV}(w:Own lo h v ety sz xs):OwnR lo h v ety sz xs:=by
 cases w with
 | nil hv hx=>exact .nil hv hx
 | arr id hv hg hl hi=>exact .arr id [] none hv (by simpa using hg) hl hi
section OwnR
variable {lo:Nat} {h:aA} {v:DV} {ety sz:Nat} {xs:List DV}
theorem OwnR.push{o:DO}(w:OwnR lo h v ety sz xs):OwnR lo (h.push o) v ety sz xs:=by
 cases w with
 | nil hv hx=>exact .nil hv hx
 | arr id sp cap hv hg bE eN =>
  refine .arr id sp cap hv ?_ bE eN
  rw[cK,if_neg (by have:=aC hg;omega)];exact hg
theorem OwnR.ext{h':aA}(w:OwnR lo h v ety sz xs)(x:Ext h.n h h'):OwnR lo h' v ety sz xs:=by
 cases w with
 | nil hv hx=>exact .nil hv hx
 | arr id sp cap hv hg hl hi=>exact .arr id sp cap hv ((x.get id (aC hg)).trans hg) (by rw[x.lim];exact hl) hi
theorem OwnR.lenV(w:OwnR lo h v ety sz xs):lenV h 1 v=some (.int .i64 xs.length):=by
 cases w with
 | nil hv hx=>subst hv;subst hx;rfl
 | arr id sp cap hv hg hl hi=>subst hv;rfl
theorem OwnR.elems(w:OwnR lo h v ety sz xs):elems h sz v=some xs:=by
 cases w with
 | nil hv hx=>subst hv;subst hx;rfl
 | arr id sp cap hv hg hl hi=>subst hv;simp[Dm.elems,hg]
theorem OwnR.resolve{α:Type}{e:α→DV}{ys:List α}{k n:Nat}(tag:Bool)(w:OwnR lo h v ety sz (ys.map e))(hf:∀y∈ys,jU k (e y))(hn:k+1≤n):resolve tag h n v=some (eL tag sz e ys):=by
 obtain⟨m,rfl,hm⟩:=cI hn
 cases w with
 | nil hv hx =>
  subst hv
  cases ys with
  | nil=>rfl
  | cons y r=>simp at hx
 | arr id sp cap hv hg hl hi =>
  subst hv
  have wI:(ys.map e).mapM (Dm.resolve tag h m)=some (ys.map e):=qY fun x hx=>by
   obtain⟨y,hy,rfl⟩:=List.mem_map.1 hx
   exact hf y hy tag h m hm
  simp only[Dm.resolve,hg,true_and,Nat.zero_add,List.length_append,Nat.le_add_right,if_true,List.drop_zero,List.take_left,wI]
  rfl
theorem OwnR.aO(w:OwnR lo h v ety sz xs):aO 1 v=true:=by
 cases w with
 | nil hv hx=>subst hv;rfl
 | arr id sp cap hv hg hl hi=>subst hv;rfl
theorem OwnR.aF(w:OwnR lo h v ety sz xs):aF 1 v=[v]:=by
 cases w with
 | nil hv hx=>subst hv;rfl
 | arr id sp cap hv hg hl hi=>subst hv;rfl
theorem OwnR.out{α:Type}{e:α→DV}{ys:List α}{k:Nat}(w:OwnR lo h v ety sz (ys.map e))(hf:∀y∈ys,jU k (e y))(hu:∀y∈ys,Unl k (e y))(hk:k≤198) :
  iK (some (v,h))=some (eL false sz e ys) :=
 Sa (k:=k+1) (w.resolve false hf (by show k+1≤200;omega)) (kP hu) (by omega)
theorem OwnR.index(w:OwnR lo h v ety sz xs){i:Nat}{x:DV}(hx:xs[i]?=some x)(k:IntKind) :
  ∃ id sp cap,v=.sl id sz 0 xs.length∧h.get id=some (.arr ety sz (xs++sp) cap)∧h.lim≤id∧lo≤id∧aS sz v (.int k (i:Int))=some (.ptr id sz i 0)∧(xs++sp)[i]?=some x:=by
 have hi:i<xs.length:=by
  by_cases aZ:i<xs.length
  ·exact aZ
  ·rw[List.getElem?_eq_none (by omega)]at hx;cases hx
 cases w with
 | nil hv oJ=>subst oJ;simp at hi
 | arr id sp cap hv hg hl eN =>
  refine⟨id,sp,cap,hv,hg,hl,eN,?_,by rw[List.getElem?_append_left hi];exact hx⟩
  subst hv
  simp[aS,asI,hi]
end OwnR
theorem Own.aO{lo:Nat}{h:aA}{v:DV}{ety sz:Nat}{xs:List DV}(w:Own lo h v ety sz xs):aO 1 v=true:=w.toR.aO
theorem Own.aF{lo:Nat}{h:aA}{v:DV}{ety sz:Nat}{xs:List DV}(w:Own lo h v ety sz xs):aF 1 v=[v]:=w.toR.aF
theorem Own.wl{lo:Nat}{h:aA}{v:DV}{ety sz:Nat}{xs:List DV}(w:Own lo h v ety sz xs){m:Nat}(hm:m≤lo):Own lo (Dm.wl h m) v ety sz xs:=by
 cases w with
 | nil hv hx=>exact .nil hv hx
 | arr id hv hg hl hi=>exact .arr id hv hg (Nat.le_trans hm hi) hi
theorem Own.aQ{lo:Nat}{h:aA}{v:DV}{ety sz:Nat}{xs:List DV}(w:Own lo h v ety sz xs)(wf:WF h){id:Nat}{o:DO}(eE:id<lo)(hn:id<h.n):Own lo (h.set id o) v ety sz xs:=by
 cases w with
 | nil hv hx=>exact .nil hv hx
 | arr k hv hg hl hi=>exact .arr k hv (by rw[cO wf hn,if_neg (by omega)];exact hg) hl hi
theorem Own.lower{lo lo':Nat}{h:aA}{v:DV}{ety sz:Nat}{xs:List DV}(w:Own lo h v ety sz xs)(hl:lo'≤lo):Own lo' h v ety sz xs:=by
 cases w with
 | nil hv hx=>exact .nil hv hx
 | arr k hv hg bE hi=>exact .arr k hv hg bE (Nat.le_trans hl hi)
theorem Ext.wl{lo:Nat}{h h':aA}(x:Ext lo h h')(m:Nat)(hm:m=h.lim):Ext lo h (Dm.wl h' m):=⟨x.le,hm,x.get,x.wf⟩
theorem Ext.lower{lo lo':Nat}{h h':aA}(x:Ext lo h h')(hl:lo'≤lo):Ext lo' h h':=⟨Nat.le_trans hl x.le,x.lim,fun id eE=>x.get id (by omega),x.wf⟩
theorem mU{lo m:Nat}{h:aA}{v:DV}{ety sz bytes:Nat}{ys:List DV}{A:Option (DV×aA)}(hA:bO ety sz bytes (Dm.wl h m) [v]=A)(he:elems h sz v=some ys)(wf:WF h)(eN:lo≤h.n)(hm:m≤h.n)(bE:h.lim≤h.n)(hb:ys.length*bytes≤140737488355328)(vT:1≤bytes) :
  ∃ v' h',A=some (v',h')∧Own lo (Dm.wl h' h.lim) v' ety sz ys∧Ext lo h (Dm.wl h' h.lim)∧Ext h.n h (Dm.wl h' h.lim):=by
 have OR:elems (Dm.wl h m) sz v=some ys:=he
 obtain⟨v',h',e,o,x,y⟩:=vW (lo:=h.n) (h:=Dm.wl h m) OR (wf.wl m) (Nat.le_refl _) hm hb vT hA
 exact⟨v',h',e,(o.wl bE).lower eN,⟨Nat.le_trans eN x.le,rfl,fun id eE=>x.get id (by omega),x.wf⟩,⟨x.le,rfl,x.get,x.wf⟩⟩
def jE(ety:Nat)(h h':aA):Prop:=∀k o,h.get k=some o→(∀s xs c,o≠.arr ety s xs c)→h'.get k=some o
theorem jE.refl(ety:Nat)(h:aA):jE ety h h:=fun _ _ h _=>h
theorem jE.push{ety:Nat}{h h':aA}{o:DO}(x:jE ety h h'):jE ety h (h'.push o):=fun k ob hg cQ=>by
 have:=x k ob hg cQ
 rw[cK,if_neg (by have:=aC this;omega)];exact this
theorem jE.set{ety:Nat}{h h':aA}{id s:Nat}{xs:List DV}{c:Option Nat}{o:DO}(x:jE ety h h')(w:WF h')(hg:h.get id=some (.arr ety s xs c))(eE:id<h'.n):jE ety h (h'.set id o):=fun k ob hk cQ=>by
 have hki:k≠id:=by
  intro e
  subst e
  rw[hg]at hk
  injection hk with hk
  exact cQ _ _ _ hk.symm
 rw[cO w eE,if_neg hki]
 exact x k ob hk cQ
theorem Own.keep{lo:Nat}{h h':aA}{v:DV}{ety e2 sz:Nat}{xs:List DV}(w:Own lo h v e2 sz xs)(x:jE ety h h')(hl:h'.lim=h.lim)(cQ:e2≠ety):Own lo h' v e2 sz xs:=by
 cases w with
 | nil hv hx=>exact .nil hv hx
 | arr id hv hg bE eN =>
  exact .arr id hv (x _ _ hg (fun s ys c e=>by injection e with e1;exact cQ e1)) (by rw[hl];exact bE) eN
theorem OwnR.keep{lo:Nat}{h h':aA}{v:DV}{ety e2 sz:Nat}{xs:List DV}(w:OwnR lo h v e2 sz xs)(x:jE ety h h')(hl:h'.lim=h.lim)(cQ:e2≠ety):OwnR lo h' v e2 sz xs:=by
 cases w with
 | nil hv hx=>exact .nil hv hx
 | arr id sp cap hv hg bE eN =>
  exact .arr id sp cap hv (x _ _ hg (fun s ys c e=>by injection e with e1;exact cQ e1)) (by rw[hl];exact bE) eN
theorem OwnR.aQ{lo:Nat}{h:aA}{v:DV}{ety sz:Nat}{xs:List DV}(w:OwnR lo h v ety sz xs)(wf:WF h){id:Nat}{o:DO}(eE:id<lo)(hn:id<h.n):OwnR lo (h.set id o) v ety sz xs:=by
 cases w with
 | nil hv hx=>exact .nil hv hx
 | arr k sp cap hv hg hl hi=>exact .arr k sp cap hv (by rw[cO wf hn,if_neg (by omega)];exact hg) hl hi
theorem OwnR.lower{lo lo':Nat}{h:aA}{v:DV}{ety sz:Nat}{xs:List DV}(w:OwnR lo h v ety sz xs)(hl:lo'≤lo):OwnR lo' h v ety sz xs:=by
 cases w with
 | nil hv hx=>exact .nil hv hx
 | arr k sp cap hv hg bE hi=>exact .arr k sp cap hv hg bE (Nat.le_trans hl hi)
theorem mF{h:aA}{id ety sz bytes len:Nat}{xs ys:List DV}{cap:Option Nat}(hg:h.get id=some (.arr ety sz xs cap))(bY:len+ys.length≤xs.length)(bE:h.lim≤id)(hb:(len+ys.length)*bytes≤140737488355328)(vT:1≤bytes)(hy:ys≠[]) :
  bB h ety sz bytes (.sl id sz 0 len) ys=some (.sl id sz 0 (len+ys.length),h.set id (.arr ety sz (cF xs ys len) cap)):=by
 have hm:len+ys.length≤140737488355328:=Nat.le_trans (Nat.le_mul_of_pos_right _ vT) hb
 have Ii:ys.isEmpty=false:=by cases ys<;>simp_all
 simp only[bB,Ii,hg,Bool.false_eq_true,if_false,true_and,Nat.zero_add]
 rw[if_pos ⟨by omega,hb,by omega⟩,if_pos bY,if_pos bE]
theorem iV{h:aA}{id ety sz bytes len c:Nat}{xs ys:List DV}(hg:h.get id=some (.arr ety sz xs (some c)))(hl:len≤xs.length)(bY:xs.length<len+ys.length)(hb:(len+ys.length)*bytes≤140737488355328)(vT:1≤bytes)(hy:ys≠[]) :
  bB h ety sz bytes (.sl id sz 0 len) ys=some (.sl h.n sz 0 (len+ys.length),h.push (.arr ety sz (xs.take len++ys) none)):=by
 have hm:len+ys.length≤140737488355328:=Nat.le_trans (Nat.le_mul_of_pos_right _ vT) hb
 have Ii:ys.isEmpty=false:=by cases ys<;>simp_all
 simp only[bB,Ii,hg,Bool.false_eq_true,if_false,true_and,Nat.zero_add,List.drop_zero]
 rw[if_pos ⟨hl,hb,by omega⟩,if_neg (by omega)]
theorem Kg(X:List DV)(u:DV)(i:Nat)(hi:i<X.length):cF (X++[u]) (List.take (X.length-i) (List.take (X.length+1-i) (List.drop i (X++[u])))) (i+1)=X.take (i+1)++X.drop i:=by
 have e1:List.take (X.length-i) (List.take (X.length+1-i) (List.drop i (X++[u])))=X.drop i:=by
  rw[List.take_take,Nat.min_eq_left (by omega),List.drop_append_of_le_length (by omega),List.take_left' (by simp)]
 rw[e1]
 unfold cF
 have e2:List.drop (i+1+(X.drop i).length) (X++[u])=[]:=List.drop_eq_nil_of_le (by simp only[List.length_append,List.length_drop,List.length_cons,List.length_nil];omega)
 rw[e2,List.take_append_of_le_length (by omega),List.append_nil]
theorem L5(X:List DV)(x:DV)(i:Nat)(hi:i<X.length):cF (X.take (i+1)++X.drop i) [x] i=X.take i++x::X.drop i:=by
 unfold cF
 have h1:(X.take (i+1)).length=i+1:=by simp;omega
 rw[List.take_append_of_le_length (by omega),List.take_take,Nat.min_eq_left (by omega)]
 have:List.drop (i+[x].length) (X.take (i+1)++X.drop i)=X.drop i:=by
  rw[List.drop_left' (by simpa using h1)]
 rw[this];simp
theorem Sw(X:List DV)(z x:DV)(i:Nat)(hi:i<X.length):cF (X.take i++List.replicate (X.length+1-i) z) [x] i=X.take i++x::List.replicate (X.length-i) z:=by
 unfold cF
 have h1:(X.take i).length=i:=by simp;omega
 rw[List.take_left' h1]
 have h2:List.replicate (X.length+1-i) z=z::List.replicate (X.length-i) z:=by
  rw[show X.length+1-i=(X.length-i)+1 by omega,List.replicate_succ]
 rw[h2]
 have:List.drop (i+[x].length) (X.take i++z::List.replicate (X.length-i) z)=List.replicate (X.length-i) z:=by
  rw[List.drop_append,h1,List.drop_eq_nil_of_le (by simp;omega)]
  simp
 rw[this];simp
theorem Sv(X:List DV)(z x:DV)(i:Nat)(hi:i<X.length):cF (X.take i++x::List.replicate (X.length-i) z) (X.drop i) (i+1)=X.take i++x::X.drop i:=by
 unfold cF
 have h1:(X.take i).length=i:=by simp;omega
 have h2:List.take (i+1) (X.take i++x::List.replicate (X.length-i) z)=X.take i++[x]:=by
  rw[List.take_append,h1,List.take_of_length_le (by omega)]
  simp
 have h3:List.drop (i+1+(X.drop i).length) (X.take i++x::List.replicate (X.length-i) z)=[]:=by
  apply List.drop_eq_nil_of_le
  simp;omega
 rw[h2,h3];simp
theorem OwnR.start(lo:Nat)(h:aA)(ety sz:Nat):OwnR lo h .nsl ety sz []:=.nil rfl rfl
theorem OwnR.fresh{lo:Nat}{h:aA}{ety sz:Nat}{xs:List DV}{cap:Option Nat}(bE:h.lim≤h.n)(eN:lo≤h.n):OwnR lo (h.push (.arr ety sz xs cap)) (.sl h.n sz 0 xs.length) ety sz xs:=.arr h.n [] cap rfl (by simp[cK]) bE eN
theorem OwnR.append{lo:Nat}{h:aA}{v:DV}{ety sz bytes:Nat}{xs ys:List DV}{A:Option (DV×aA)}(w:OwnR lo h v ety sz xs)(wf:WF h)(eN:lo≤h.n)(bE:h.lim≤h.n)(hA:bB h ety sz bytes v ys=A)
  (hb:(xs.length+ys.length)*bytes≤140737488355328) (vT:1≤bytes):∃ v' h',A=some (v',h')∧OwnR lo h' v' ety sz (xs++ys)∧Ext lo h h'∧jE ety h h':=by
 have hm:xs.length+ys.length≤140737488355328:=Nat.le_trans (Nat.le_mul_of_pos_right _ vT) hb
 by_cases hy:ys=[]
 ·subst hy
  refine⟨v,h,?_,by simpa using w,.refl eN wf,.refl _ _⟩
  rw[←hA]
  cases w with
  | nil hv hx=>subst hv;rfl
  | arr id sp cap hv hg _ _=>subst hv;rfl
 ·have Ii:ys.isEmpty=false:=by cases ys<;>simp_all
  have OC:0<ys.length:=List.length_pos_iff.2 hy
  cases w with
  | nil hv hx =>
   subst hv;subst hx
   simp only[List.length_nil,Nat.zero_add]at hb hm
   refine⟨.sl h.n sz 0 ys.length,h.push (.arr ety sz ys none),?_,.arr h.n [] none rfl (by simp[cK]) (by exact bE) eN,(Ext.refl eN wf).push,(jE.refl _ _).push⟩
   rw[←hA]
   simp only[bB,Ii]
   rw[if_neg (by simp),if_pos ⟨hb,by omega⟩]
  | arr id sp cap hv hg hl hi =>
   subst hv
   have aZ:=aC hg
   by_cases Od:xs.length+ys.length≤(xs++sp).length
   ·refine⟨.sl id sz 0 (xs.length+ys.length),h.set id (.arr ety sz (cF (xs++sp) ys xs.length) cap),?_,.arr id (sp.drop ys.length) cap (by simp) ?_ (by exact hl) hi,(Ext.refl eN wf).set hi aZ,(jE.refl _ _).set wf hg aZ⟩
    ·rw[←hA];exact mF hg Od hl hb vT hy
    ·rw[cO wf aZ,if_pos rfl]
     simp only[cF,List.take_left',List.append_assoc]
     congr 3
     rw[List.drop_append]
     simp
   ·cases cap with
    | none =>
     refine⟨.sl h.n sz 0 (xs.length+ys.length),(h.set id .dead).push (.arr ety sz (xs++ys) none),?_,.arr h.n [] none (by simp) ?_ (by exact bE) eN,((Ext.refl eN wf).set hi aZ).push,((jE.refl _ _).set wf hg aZ).push⟩
     ·rw[←hA]
      simp only[bB,Ii,hg]
      simp only[Bool.false_eq_true,if_false,true_and,Nat.zero_add,List.drop_zero]
      rw[if_pos ⟨by simp,hb,by omega⟩,if_neg Od,if_pos hl]
      simp
     ·simp
    | some c =>
     refine⟨.sl h.n sz 0 (xs.length+ys.length),h.push (.arr ety sz (xs++ys) none),?_,.arr h.n [] none (by simp) ?_ (by exact bE) eN,(Ext.refl eN wf).push,(jE.refl _ _).push⟩
     ·rw[←hA]
      rw[iV hg (by simp) (by omega) hb vT hy]
      simp
     ·simp
structure nO(lo:Nat)(h:aA)(id ety sz:Nat)(xs:List DV):Prop where
 get:∃ sp cap,h.get id=some (.arr ety sz (xs++sp) cap)
 lim:h.lim≤id
 lo:lo≤id
theorem nO.toR{lo:Nat}{h:aA}{id ety sz:Nat}{xs:List DV}(w:nO lo h id ety sz xs):OwnR lo h (.sl id sz 0 xs.length) ety sz xs:=by
 obtain⟨⟨sp,cap,hg⟩,hl,hi⟩:=w
 exact .arr id sp cap rfl hg hl hi
theorem nO.lt{lo:Nat}{h:aA}{id ety sz:Nat}{xs:List DV}(w:nO lo h id ety sz xs):id<h.n:=by
 obtain⟨⟨sp,cap,hg⟩,_,_⟩:=w
 exact aC hg
theorem nO.fresh{lo:Nat}{h:aA}{ety sz:Nat}{xs:List DV}{cap:Option Nat}(bE:h.lim≤h.n)(eN:lo≤h.n):nO lo (h.push (.arr ety sz xs cap)) h.n ety sz xs:=⟨⟨[],cap,by simp[cK]⟩,bE,eN⟩
theorem nO.push{lo:Nat}{h:aA}{id ety sz:Nat}{xs:List DV}{o:DO}(w:nO lo h id ety sz xs):nO lo (h.push o) id ety sz xs:=by
 obtain⟨⟨sp,cap,hg⟩,hl,hi⟩:=w
 exact⟨⟨sp,cap,by rw[cK,if_neg (by have:=aC hg;omega)];exact hg⟩,hl,hi⟩
theorem nO.keep{lo:Nat}{h h':aA}{id ety e2 sz:Nat}{xs:List DV}(w:nO lo h id e2 sz xs)(x:jE ety h h')(hl:h'.lim=h.lim)(cQ:e2≠ety):nO lo h' id e2 sz xs:=by
 obtain⟨⟨sp,cap,hg⟩,bE,hi⟩:=w
 exact⟨⟨sp,cap,x _ _ hg (fun s ys c e=>by injection e with e1;exact cQ e1)⟩,by rw[hl];exact bE,hi⟩
theorem nO.aQ{lo:Nat}{h:aA}{id ety sz:Nat}{xs:List DV}(w:nO lo h id ety sz xs)(wf:WF h){k:Nat}{o:DO}(eE:k<lo)(hn:k<h.n):nO lo (h.set k o) id ety sz xs:=by
 obtain⟨⟨sp,cap,hg⟩,hl,hi⟩:=w
 exact⟨⟨sp,cap,by rw[cO wf hn,if_neg (by omega)];exact hg⟩,hl,hi⟩
theorem nO.wl{lo:Nat}{h:aA}{id ety sz:Nat}{xs:List DV}(w:nO lo h id ety sz xs){m:Nat}(hm:m≤lo):nO lo (Dm.wl h m) id ety sz xs:=by
 obtain⟨⟨sp,cap,hg⟩,hl,hi⟩:=w
 exact⟨⟨sp,cap,hg⟩,Nat.le_trans hm hi,hi⟩
theorem nO.ext{lo:Nat}{h h':aA}{id ety sz:Nat}{xs:List DV}(w:nO lo h id ety sz xs)(x:Ext h.n h h'):nO lo h' id ety sz xs:=by
 have:=w.lt
 obtain⟨⟨sp,cap,hg⟩,hl,hi⟩:=w
 exact⟨⟨sp,cap,(x.get id this).trans hg⟩,by rw[x.lim];exact hl,hi⟩
theorem nO.append{lo:Nat}{h:aA}{id ety sz bytes:Nat}{xs ys:List DV}{A:Option (DV×aA)}{n:Nat}(w:nO lo h id ety sz xs)(hn:n=xs.length)(wf:WF h)(eN:lo≤h.n)(bE:h.lim≤h.n)(hA:bB h ety sz bytes (.sl id sz 0 n) ys=A)
  (hb:(xs.length+ys.length)*bytes≤140737488355328) (vT:1≤bytes):∃ id' h',A=some (.sl id' sz 0 (xs.length+ys.length),h')∧nO lo h' id' ety sz (xs++ys)∧Ext lo h h'∧jE ety h h'∧(id'=id∨h.n≤id'):=by
 subst hn
 have hm:xs.length+ys.length≤140737488355328:=Nat.le_trans (Nat.le_mul_of_pos_right _ vT) hb
 by_cases hy:ys=[]
 ·subst hy
  refine⟨id,h,?_,by simpa using w,.refl eN wf,.refl _ _,.inl rfl⟩
  rw[←hA];rfl
 ·have Ii:ys.isEmpty=false:=by cases ys<;>simp_all
  obtain⟨⟨sp,cap,hg⟩,hl,hi⟩:=w
  have aZ:=aC hg
  by_cases Od:xs.length+ys.length≤(xs++sp).length
  ·refine⟨id,h.set id (.arr ety sz (cF (xs++sp) ys xs.length) cap),?_,⟨⟨sp.drop ys.length,cap,?_⟩,hl,hi⟩,(Ext.refl eN wf).set hi aZ,(jE.refl _ _).set wf hg aZ,.inl rfl⟩
   ·rw[←hA];exact mF hg Od hl hb vT hy
   ·rw[cO wf aZ,if_pos rfl]
    simp only[cF,List.take_left',List.append_assoc]
    congr 3
    rw[List.drop_append]
    simp
  ·cases cap with
   | none =>
    refine⟨h.n,(h.set id .dead).push (.arr ety sz (xs++ys) none),?_,⟨⟨[],none,?_⟩,bE,eN⟩,((Ext.refl eN wf).set hi aZ).push,((jE.refl _ _).set wf hg aZ).push,.inr (Nat.le_refl _)⟩
    ·rw[←hA]
     simp only[bB,Ii,hg]
     simp only[Bool.false_eq_true,if_false,true_and,Nat.zero_add,List.drop_zero]
     rw[if_pos ⟨by simp,hb,by omega⟩,if_neg Od,if_pos hl]
     simp
    ·simp
   | some c =>
    refine⟨h.n,h.push (.arr ety sz (xs++ys) none),?_,⟨⟨[],none,?_⟩,bE,eN⟩,(Ext.refl eN wf).push,(jE.refl _ _).push,.inr (Nat.le_refl _)⟩
    ·rw[←hA]
     rw[iV hg (by simp) (by omega) hb vT hy]
     simp
    ·simp
theorem AL(h:aA)(t:Bool)(sz:Nat)(xs:List DV):elems h sz (.isl t sz xs)=some xs:=by simp[elems]
theorem DQ(t:Bool)(sz:Nat)(xs:List DV):Ek (.isl t sz xs)=none:=_root_.id rfl
theorem X2(t:Bool)(sz:Nat)(xs:List DV):mapId (.isl t sz xs)=none:=_root_.id rfl
theorem Qv{α:Type}(h:aA)(t:Bool)(sz:Nat)(e:α→DV)(xs:List α)(k:IntKind)(i:Nat)(hi:i≤xs.length):fC h sz (eL t sz e xs) none (some (.int k (i:Int)))=some (.isl (t && !xs.isEmpty) sz ((xs.take i).map e)):=by
 cases xs with
 | nil =>
  have h0:i=0:=by simpa using hi
  subst h0
  simp[sP,fC,cG,asI]
 | cons x xs =>
  have h2:(i:Int)≤((xs.length+1:Nat):Int):=by simp at hi;omega
  rw[qA]
  simp only[fC,List.length_cons,List.length_map,cG,asI]
  simp only[List.isEmpty_cons,Bool.not_false,Bool.and_true,true_or,if_true,Int.natCast_nonneg,h2,and_self,Int.toNat_natCast,List.drop_zero,Nat.sub_zero]
  rw[←List.map_cons,←List.map_take]
theorem yN{α:Type}(h:aA)(t:Bool)(sz:Nat)(e:α→DV)(xs:List α)(k:IntKind)(i:Nat)(hi:i≤xs.length):fC h sz (eL t sz e xs) (some (.int k (i:Int))) none=some (.isl (t && !xs.isEmpty) sz ((xs.drop i).map e)):=by
 cases xs with
 | nil =>
  have h0:i=0:=by simpa using hi
  subst h0
  simp[sP,fC,cG,asI]
 | cons x xs =>
  have h2:(i:Int)≤((xs.length+1:Nat):Int):=by simp at hi;omega
  rw[qA]
  simp only[fC,List.length_cons,List.length_map,cG,asI]
  simp only[List.isEmpty_cons,Bool.not_false,Bool.and_true,true_or,if_true,Int.natCast_nonneg,h2,and_self,Int.toNat_natCast]
  rw[←List.map_cons,←List.map_drop,List.take_of_length_le (by simp)]
theorem Mj{α:Type}(h:aA)(t:Bool)(sz:Nat)(e:α→DV)(xs:List α)(k:IntKind)(i:Nat)(hi:i+1≤xs.length):fC h sz (eL t sz e xs) (some (.int k ((i:Int)+1))) none=some (.isl (t && !xs.isEmpty) sz ((xs.drop (i+1)).map e)):=by
 have:=yN h t sz e xs k (i+1) hi
 rwa[Int.natCast_add]at this
attribute [simp] AL DQ X2 Qv yN Mj
mutual
theorem DV.beq_refl:∀v:DV,DV.beq v v=true
 | .unk|.nilp|.nsl|.nmap|.nilf|.nili=>rfl
 | .bool _|.int _ _|.str _|.ptr ..|.sl ..|.map _|.tok _|.atl _=>by simp[DV.beq]
 | .iptr l xs o=>by simp[DV.beq,kO xs]
 | .isl l s xs=>by simp[DV.beq,kO xs]
 | .func f xs=>by simp[DV.beq,kO xs]
 | .iface t v=>by simp[DV.beq,DV.beq_refl v]
 | .agg xs=>by simp[DV.beq,kO xs]
 | .tup xs=>by simp[DV.beq,kO xs]
theorem kO:∀l:List DV,tA l l=true
 | []=>rfl
 | x::xs=>by simp[tA,DV.beq_refl x,kO xs]
end
inductive Dep:Nat→DV→Prop where
 | int (k:IntKind) (n:Int) {d:Nat}:Dep (d+1) (.int k n)
 | bool (b:Bool) {d:Nat}:Dep (d+1) (.bool b)
 | str (s:List UInt8) {d:Nat}:Dep (d+1) (.str s)
 | isl (t:Bool) (sz:Nat) (xs:List DV) {d:Nat} (h:∀x∈xs,Dep d x):Dep (d+1) (.isl t sz xs)
 | agg (xs:List DV) {d:Nat} (h:∀x∈xs,Dep d x):Dep (d+1) (.agg xs)
theorem Dep.belowN{d:Nat}{v:DV}(h:Dep d v):∀{n N:Nat},d≤n→Dm.dQ n N v=true:=by
 induction h with
 | int k n=>intro m N hm;obtain⟨q,rfl,_⟩:=cI hm;rfl
 | bool b=>intro m N hm;obtain⟨q,rfl,_⟩:=cI hm;rfl
 | str s=>intro m N hm;obtain⟨q,rfl,_⟩:=cI hm;rfl
 | isl t sz xs h ih=>intro m N hm;obtain⟨q,rfl,hq⟩:=cI hm;rfl
 | agg xs h ih =>
  intro m N hm;obtain⟨q,rfl,hq⟩:=cI hm
  simp only[Dm.dQ,List.all_eq_true]
  exact fun x hx=>ih x hx hq
theorem Dep.eL{α:Type}{d:Nat}(t:Bool)(sz:Nat){e:α→DV}{xs:List α}(h:∀x∈xs,Dep d (e x)):Dep (d+1) (eL t sz e xs):=by
 cases xs with
 | nil=>exact .isl _ _ _ (fun x hx=>by cases hx)
 | cons x r =>
  rw[qA,←List.map_cons]
  refine .isl _ _ _ fun y hy=>?_
  obtain⟨z,hz,rfl⟩:=List.mem_map.1 hy
  exact h z hz
theorem HM(c:Vk):Dep 2 (wW c):=.agg _ (by
 intro x hx;simp only[List.mem_cons,List.not_mem_nil,or_false]at hx
 rcases hx with rfl|rfl|rfl|rfl|rfl<;>first|exact .int _ _|exact .str _)
theorem HL(p:eD):Dep 3 (fG p):=.eL _ _ fun c _=>HM c
theorem Dep.mono{d:Nat}{v:DV}(h:Dep d v):∀{e:Nat},d≤e→Dep e v:=by
 induction h with
 | int k n=>intro e he;obtain⟨q,rfl,_⟩:=cI he;exact .int _ _
 | bool b=>intro e he;obtain⟨q,rfl,_⟩:=cI he;exact .bool _
 | str s=>intro e he;obtain⟨q,rfl,_⟩:=cI he;exact .str _
 | isl t sz xs h ih=>intro e he;obtain⟨q,rfl,hq⟩:=cI he;exact .isl _ _ _ fun x hx=>ih x hx hq
 | agg xs h ih=>intro e he;obtain⟨q,rfl,hq⟩:=cI he;exact .agg _ fun x hx=>ih x hx hq
theorem TH(x:ID):Dep 4 (eID x):=.agg _ (by
 intro x hx;simp only[List.mem_cons,List.not_mem_nil,or_false]at hx
 rcases hx with rfl|rfl<;>exact .int _ _)
theorem B6(a:cP):Dep 4 (aH a):=.agg _ (by
 intro x hx;simp only[List.mem_cons,List.not_mem_nil,or_false]at hx
 rcases hx with rfl|rfl|rfl|rfl<;>first|exact .int _ _|exact HL _)
theorem oV{cs:List DV}(h:∀x∈cs,jU 1 x):jU 20 (.agg cs):=(uI h).mono (by decide)
theorem qR{cs:List DV}(h:∀x∈cs,Unl 21 x):Unl 22 (.agg cs):=Dg h
theorem jN(x:ID):jU 20 (eID x)∧Unl 22 (eID x):=⟨oV (by
 intro x hx;simp only[List.mem_cons,List.not_mem_nil,or_false]at hx
 rcases hx with rfl|rfl<;>exact iA _ _),qR (by
 intro x hx;simp only[List.mem_cons,List.not_mem_nil,or_false]at hx
 rcases hx with rfl|rfl<;>exact(iX _ _).mono (by decide))⟩
theorem fJ(a:cP):jU 20 (aH a)∧Unl 22 (aH a):=⟨oV (by
 intro x hx;simp only[List.mem_cons,List.not_mem_nil,or_false]at hx
 rcases hx with rfl|rfl|rfl|rfl<;>first|exact iA _ _|exact Bd _),qR (by
 intro x hx;simp only[List.mem_cons,List.not_mem_nil,or_false]at hx
 rcases hx with rfl|rfl|rfl|rfl<;>first|exact(iX _ _).mono (by decide)|exact qQ _)⟩
theorem fL(a:bM):jU 20 (bQ a)∧Unl 22 (bQ a):=⟨oV (by
 intro x hx;simp only[List.mem_cons,List.not_mem_nil,or_false]at hx
 rcases hx with rfl|rfl|rfl|rfl|rfl|rfl|rfl<;>first|exact iA _ _|exact Bd _|exact Be _),qR (by
 intro x hx;simp only[List.mem_cons,List.not_mem_nil,or_false]at hx
 rcases hx with rfl|rfl|rfl|rfl|rfl|rfl|rfl<;>first|exact(iX _ _).mono (by decide)|exact qQ _|exact(Pu _).mono (by decide))⟩
theorem iY(a:Vg):jU 20 (oY a)∧Unl 22 (oY a):=⟨oV (by
 intro x hx;simp only[List.mem_cons,List.not_mem_nil,or_false]at hx
 rcases hx with rfl|rfl|rfl<;>first|exact iA _ _|exact Bd _),qR (by
 intro x hx;simp only[List.mem_cons,List.not_mem_nil,or_false]at hx
 rcases hx with rfl|rfl|rfl<;>first|exact(iX _ _).mono (by decide)|exact qQ _)⟩
theorem dD(n:Int):jU 20 (bF n)∧Unl 22 (bF n):=⟨(iA _ _).mono (by decide),(iX _ _).mono (by decide)⟩
theorem JG(n:Nat)(xs:List Int):bA (n+23) (eL false 1 bF xs)=true:=kP (fun x _=>(dD x).2) _ (by omega)
theorem PJ(n:Nat)(xs:List ID):bA (n+23) (eL false 2 eID xs)=true:=kP (fun x _=>(jN x).2) _ (by omega)
theorem Vy(n:Nat)(xs:List cP):bA (n+23) (eL false 4 aH xs)=true:=kP (fun x _=>(fJ x).2) _ (by omega)
theorem Vx(n:Nat)(xs:List bM):bA (n+23) (eL false 7 bQ xs)=true:=kP (fun x _=>(fL x).2) _ (by omega)
theorem JC(n:Nat)(xs:List Vg):bA (n+23) (eL false 3 oY xs)=true:=kP (fun x _=>(iY x).2) _ (by omega)
attribute [simp] JG PJ Vy Vx JC
end Go.Dm
/-
Arguments of a call from outside: what the frame tells of them,in the machine's form;a function with arguments that answers true.
-/
namespace Go.Dm
open Go.RowKit
theorem BK {P : Program} {D : bX} (G : Jc P D) {f : Nat} {fn : Func} {body : Code} (hf : P.funcs[f]? = some fn) (hb : fn.body = some body) (hn : fn.name ≠ "runtime.NumGoroutine") {ds : List DV} {vs : List Value} {h' : aA} (hr : fc D f ds iH = some (.bool true, h')) (w : World) (hg : Vi w) (hv : VRs (Ir w) ds vs) :
  Calls P f vs.toArray w fun e w'=>e=.returned (.bool true)∧IK w w'∧∀b,b<w.heap.size→w'.heap[b]?=w.heap[b]?:=by
 obtain⟨n,he⟩:=Ds.1 hr
 have hc:=Gx G n f ds iH _ h' (Ir w) vs he (WC w hg) hv
 have hen:=lC hf hb hn vs.toArray w
 rcases hc with⟨v,w',gJ,_⟩|⟨f',vals',gJ,hcalls⟩
 ·have:(callFunc f vs.toArray).run P w=.ok (.value v) w':=gJ
  rw[hen]at this
  cases this
 ·have h2:(callFunc f vs.toArray).run P w=.ok (.enter f' vals') w:=gJ
  rw[hen]at h2
  cases h2
  refine hcalls.mono fun e w' hp=>?_
  obtain⟨v,e1,ρ',k1,k2,k3⟩:=hp
  exact⟨by rw[e1,k3.bool_inv],Tg k2,fun b hb=>k2.frame b hb fun h=>h⟩
structure Je(c:Ctx)(w:World):Prop where
 w:c.w=w
 O:∀b,¬c.O b
 X:∀b,¬c.X b
theorem Je.zero(w:World):Je (Ir w) w:=⟨rfl,fun _ h=>h,fun _ h=>h⟩
theorem Je.still{c:Ctx}{w:World}(h:Je c w):Je c.still w:=⟨h.w,h.O,h.X⟩
theorem L4{α:Type}{p:Nat→α→Prop}:∀n,(∀i,i<n→∃ a,p i a)→∃ l:List α,l.length=n∧∀i (hi:i<l.length),p i l[i]
 | 0,_=>⟨[],rfl,fun i hi=>absurd hi (Nat.not_lt_zero _)⟩
 | n+1,h=>by
  obtain⟨l,hl,hp⟩:=L4 n fun i hi=>h i (Nat.lt_succ_of_lt hi)
  obtain⟨a,ha⟩:=h n (Nat.lt_succ_self n)
  refine⟨l++[a],by simp[hl],fun i hi=>?_⟩
  by_cases aZ:i<l.length
  ·rw[List.getElem_append_left aZ];exact hp i aZ
  ·have:i=n:=by simp at hi;omega
   subst this
   rw[List.getElem_append_right (by omega)]
   simpa[hl]using ha
theorem Ve(b o n:Nat):(⟨b,o,none⟩:Addr).add n=⟨b,o+n,none⟩:=by
 unfold Addr.add
 split
 ·rename_i h;subst h;rfl
 ·rfl
theorem JR{w:World}{a:Addr}{v:Value}(h:w.cell? a=some v):a.spot=none∧a.block<w.heap.size:=by
 unfold World.cell? at h
 split at h
 ·rename_i hb
  refine⟨?_,?_⟩
  ·split at h
   ·cases h
   ·rename_i hs;cases OI:a.spot with|none=>rfl|some x=>simp[OI]at hs
  ·by_cases aZ:a.block<w.heap.size
   ·exact aZ
   ·rw[Array.getElem?_eq_none (by omega)]at hb;cases hb
 ·cases h
def jK(c:Ctx)(ds:List DV)(cs:List Value):Prop:=ds.length=cs.length∧∀i (h1:i<ds.length) (h2:i<cs.length),VR c ds[i] cs[i]∧(cs[i]).oneCell'=true
theorem jK.append{c:Ctx}{ds ds':List DV}{cs cs':List Value}(h:jK c ds cs)(h':jK c ds' cs'):jK c (ds++ds') (cs++cs'):=by
 refine⟨by rw[List.length_append,List.length_append,h.1,h'.1],fun i h1 h2=>?_⟩
 by_cases aZ:i<ds.length
 ·rw[List.getElem_append_left aZ,List.getElem_append_left (by rw[←h.1];exact aZ)]
  exact h.2 i aZ _
 ·rw[List.getElem_append_right (by omega),List.getElem_append_right (by rw[←h.1];omega)]
  have:i-cs.length=i-ds.length:=by rw[h.1]
  simp only[this]
  exact h'.2 (i-ds.length) (by rw[List.length_append]at h1;omega) _
theorem jK.one{c:Ctx}{d:DV}{v:Value}(h:VR c d v)(h1:v.oneCell'=true):jK c [d] [v]:=by
 refine⟨rfl,fun i h2 h3=>?_⟩
 have:i=0:=by simp at h2;omega
 subst this
 exact⟨h,h1⟩
theorem jK.nil{c:Ctx}:jK c [] []:=⟨rfl,fun i h=>absurd h (Nat.not_lt_zero _)⟩
section
variable {H:Type} {enc:TypeId×Value→H} {P:Program} {w:World} {sp:Nat→Bool} {uH:Bool}
theorem Ev{t:TypeId}{cs:List Value}{fuel:Nat}{x:DataW H×List MemPlace}(ht:P.underlying t=some (.int .i64))(h:DataW.trod enc P w 0 sp uH fuel t cs=some x)(c:Ctx):∃ n:Int,jK c [.int .i64 n] cs:=by
 obtain⟨n,rfl,_,_⟩:=DataW.trod_int ht h
 exact⟨n,.one (.int _ _) rfl⟩
theorem T8{t:TypeId}{cs:List Value}{fuel:Nat}{x:DataW H×List MemPlace}(ht:P.underlying t=some .bool)(h:DataW.trod enc P w 0 sp uH fuel t cs=some x)(c:Ctx):∃ b:Bool,jK c [.bool b] cs:=by
 obtain⟨n,rfl,_⟩:=DataW.trod_bool ht h
 exact⟨n,.one (.bool _) rfl⟩
theorem Xu{α:Type}{t e:TypeId}{cs:List Value}{fuel sz:Nat}{x:DataW H×List MemPlace}(ht:P.underlying t=some (.slice e))(hz:P.cellsOf e=sz)(SF:0<sz)(h:DataW.trod enc P w 0 sp uH fuel t cs=some x){c:Ctx}(hc:Je c w)
  (en:α→DV) (good:α→Prop) (nL:∀ecs y n,DataW.trod enc P w 0 sp uH n e ecs=some y→∃ a,good a∧jK c.still (aF sz (en a)) ecs) :
  ∃ l:List α,(∀a∈l,good a)∧l.length≤maxLen∧jK c [eL false sz en l] cs:=by
 rcases DataW.trod_slice ht h with⟨rfl,_⟩|⟨a,len,cap,elems,rest,n,_,rfl,_,hb,hl,gP,hel1,hel2,_⟩
 ·exact⟨[],fun a h=>(by cases h),Nat.zero_le _,.one (.isl0 _ _) rfl⟩
 ·rw[hz]at hel2
  have BW:∀i,i<len→∃ p:α×List Value,good p.1∧w.cells? 0 (a.add (i*sz)) sz=some p.2∧jK c.still (aF sz (en p.1)) p.2:=fun i hi=>by
   have h1:=hel2 i hi
   rw[List.getElem?_eq_getElem (by omega)]at h1
   simp only[Option.bind_eq_some_iff]at h1
   obtain⟨ecs,h2,h3⟩:=h1
   obtain⟨b,h4,h5⟩:=nL _ _ _ h3
   exact⟨(b,ecs),h4,h2,h5⟩
  obtain⟨l,Km,hlp⟩:=L4 len BW
  refine⟨l.map (·.1),?_,by rw[List.length_map,Km];omega,.one ?_ rfl⟩
  ·intro b hb
   obtain⟨p,hp,rfl⟩:=List.mem_map.1 hb
   obtain⟨i,hi,rfl⟩:=List.mem_iff_getElem.1 hp
   exact(hlp i hi).1
  ·by_cases h0:len=0
   ·have:l=[]:=List.eq_nil_of_length_eq_zero (by omega)
    subst this
    subst h0
    exact .isl0 _ _
   ·have cQ:l≠[]:=fun e=>h0 (by rw[←Km,e];rfl)
    have hne':l.map (·.1)≠[]:=by simpa using cQ
    have wU:∀i (hi:i<l.length) j,j<sz→w.cell? ((a.add (i*sz)).add j)=(l[i]).2[j]?∧(l[i]).2.length=sz:=fun i hi j hj=>by
     obtain⟨_,k2,k3⟩:=World.cells?_some (hlp i hi).2.1
     exact⟨k3 j hj,k2⟩
    have sG:0<l.length:=by omega
    have h00:=wU 0 sG 0 SF
    have ha0:(a.add (0*sz)).add 0=a:=by simp[Addr.add]
    rw[ha0,List.getElem?_eq_getElem (by rw[h00.2];exact SF)]at h00
    obtain⟨hs,hbk⟩:=JR h00.1
    obtain⟨b,o,s⟩:=a
    simp only at hs hbk
    subst hs
    rw[OV false sz en hne']
    have vS:∀i (hi:i<l.length) j (hj:j<sz),w.cell? ⟨b,o+i*sz+j,none⟩=some ((l[i]).2[j]'(by rw[(wU i hi j hj).2];exact hj)):=fun i hi j hj=>by
     have k1:=(wU i hi j hj).1
     rw[Ve,Ve]at k1
     exact k1.trans (List.getElem?_eq_getElem _)
    refine .isl (fun i j=>(w.cell? ⟨b,o+i*sz+j,none⟩).getD undef) (by simp[Km]) hl (by rw[hc.w];exact hbk) (hc.O b) (fun _=>hc.X b) ?_ ?_ ?_
    ·intro i hi
     simp only[List.length_map]at hi
     simp only[List.getElem_map]
     have:=(hlp i hi).2.2.1
     rw[this]
     exact(wU i hi 0 SF).2
    ·intro i j hi hj
     simp only[List.length_map]at hi
     rw[hc.w,vS i hi j hj]
     have h5:=(hlp i hi).2.2
     have h6:=(wU i hi j hj).2
     exact⟨rfl,(h5.2 j (by rw[h5.1,h6];exact hj) (by rw[h6];exact hj)).2⟩
    ·intro i hi j hj
     simp only[List.length_map]at hi
     simp only[List.getElem_map]at hj ⊢
     have h5:=(hlp i hi).2.2
     have h6:=(wU i hi 0 SF).2
     have rO:j<sz:=by rw[h5.1,h6]at hj;exact hj
     have h7:=(h5.2 j hj (by rw[h6];exact rO)).1
     have h8:(w.cell? ⟨b,o+i*sz+j,none⟩).getD undef=(l[i]).2[j]'(by rw[h6];exact rO):=by rw[vS i hi j rO];rfl
     simp only[h8]
     exact h7
theorem JW{w':World}(hg:∀b,b<w.heap.size→w'.heap[b]?=w.heap[b]?){p:MemPlace}(hp:p.block<w.heap.size):w.sameAt w' p:=by
 cases p with
 | cell b off =>
  show w'.cell? ⟨b,off,none⟩=w.cell? ⟨b,off,none⟩
  unfold World.cell?
  rw[hg b hp]
 | map b=>exact hg b hp
theorem yF{w':World}(hg:∀b,b<w.heap.size→w'.heap[b]?=w.heap[b]?)(sp':Nat→Bool):∀{ts:List TypeId} {vs:List Value} {ds:List (DataW H)} {ps:List MemPlace},DataW.TrodAll enc P w 0 sp' uH ts vs ds ps→(∀p∈ps,p.block<w.heap.size)→DataW.TrodAll enc P w' 0 sp' uH ts vs ds ps
 | [],[],[],_,h,_=>h
 | t::ts,v::vs,d::ds,ps,h,hl=>by
  obtain⟨p,q,⟨fuel,h1⟩,h2,rfl⟩:=h
  exact⟨p,q,⟨fuel,DataW.trod_carry _ _ _ _ h1 fun x hx=>JW hg (hl x (List.mem_append.2 (.inl hx)))⟩,yF hg sp' h2 fun x hx=>hl x (List.mem_append.2 (.inr hx)),rfl⟩
end
end Go.Dm
