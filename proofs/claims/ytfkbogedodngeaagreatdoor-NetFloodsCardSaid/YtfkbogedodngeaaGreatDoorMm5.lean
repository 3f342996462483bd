/- A part of the proof. -/
import Derived.Test.YtfkbogedodngeaaGreatDoorMm4
import Derived.IntWalk
set_option linter.all false
namespace Go.Dm
abbrev eI:=Nat→DV
def tab(N:Nat)(f:eI):Env:=(List.range N).map f
def upd(f:eI)(d:Nat)(v:DV):eI:=fun i=>if i=d then v else f i
def rS(f:eI)(dst:Option Nat)(v:DV):eI:=match dst with|some d=>upd f d v|none=>f
def rd(N:Nat)(f:eI)(i:Nat):DV:=if i<N then f i else .unk
def KY(args:List DV):eI:=fun i=>args.getD i bH
theorem vZ(N:Nat)(f:eI)(i:Nat):(tab N f)[i]?=if i<N then some (f i)else none:=by
 by_cases h:i<N
 ·simp[tab,h]
 ·simp only[tab,List.getElem?_map,if_neg h]
  rw[List.getElem?_eq_none (by simp;omega)];rfl
theorem Fi(N:Nat)(f:eI)(i:Nat):((tab N f)[i]?).getD .unk=rd N f i:=by
 rw[vZ];unfold rd;split<;>rfl
theorem MP(N:Nat)(f:eI)(d:Nat)(v:DV):(tab N f).set d v=tab N (upd f d v):=by
 apply List.ext_getElem?
 intro i
 rw[List.getElem?_set,vZ,vZ]
 simp only[tab,List.length_map,List.length_range,upd]
 by_cases e:d=i
 ·subst e
  by_cases h:d<N<;>simp[h]
 ·have e':¬i=d:=fun q=>e q.symm
  simp only[if_neg e,if_neg e']
theorem qE(N:Nat)(f:eI)(dst:Option Nat)(v:DV):put (tab N f) dst v=tab N (rS f dst v):=by
 cases dst with
 | none=>rfl
 | some d=>exact MP N f d v
theorem EY(N:Nat)(args:List DV)(h:args.length≤N):args++List.replicate (N-args.length) bH=tab N (KY args):=by
 apply List.ext_getElem?
 intro i
 rw[vZ,List.getElem?_append]
 unfold KY
 by_cases h1:i<args.length
 ·rw[if_pos h1,if_pos (by omega)]
  simp[h1]
 ·rw[if_neg h1]
  by_cases h2:i<N
  ·rw[if_pos h2,List.getElem?_replicate,if_pos (by omega),List.getD_eq_getElem?_getD,List.getElem?_eq_none (by omega)];rfl
  ·rw[if_neg h2,List.getElem?_replicate,if_neg (by omega)]
theorem WG(N:Nat)(f:eI)(i:Nat):Opd.eval (tab N f) (.t i)=rd N f i:=Fi N f i
theorem WH(env:Env)(v:DV):Opd.eval env (.c v)=v:=rfl
inductive Fr where
 | seq (b:aI)
 | block (id:Nat)
 | loop (b:aI)
noncomputable def xV(D:bX):List Fr→Ex→Env→aA→Res
 | [],e,env,h=>.ok e env h
 | .seq b::S,e,env,h=>match e with
  | .normal=>match ev D b env h with
   | .ok e env h=>xV D S e env h
   | .fail=>.fail
  | e=>xV D S e env h
 | .block id::S,e,env,h=>xV D S (match e with|.exit i=>if i=id then .normal else .exit i|e=>e) env h
 | .loop b::S,e,env,h=>match e with
  | .normal=>match ev D (.loop b) env h with
   | .ok e env h=>xV D S e env h
   | .fail=>.fail
  | e=>xV D S e env h
noncomputable def after(D:bX)(S:List Fr):Res→Res
 | .ok e env h=>xV D S e env h
 | .fail=>.fail
noncomputable def run(D:bX)(N:Nat)(S:List Fr)(c:aI)(f:eI)(h:aA):Res:=after D S (ev D c (tab N f) h)
noncomputable def ret(D:bX)(N:Nat)(S:List Fr)(e:Ex)(f:eI)(h:aA):Res:=xV D S e (tab N f) h
noncomputable def GP(D:bX)(N:Nat)(S:List Fr)(a b:aI)(f:eI)(h:aA):DV→Res
 | .bool true=>run D N S a f h
 | .bool false=>run D N S b f h
 | _=>.fail
noncomputable def zR(D:bX)(N:Nat)(S:List Fr)(ops:List aH)(f:eI)(h:aA):Res :=
 match eM (fc D) ops (tab N f) h with
 | some (env,h)=>xV D S .normal env h
 | none=>.fail
noncomputable def Y5(D:bX)(N:Nat)(S:List Fr)(dst:Option Nat)(r:List aH)(f:eI):Option (DV×aA)→Res
 | some (v,h)=>zR D N S r (rS f dst v) h
 | none=>.fail
noncomputable def Y8(D:bX)(N:Nat)(S:List Fr)(o:aH)(w:Bool)(r:List aH)(f:eI)(h:aA):DV→Res
 | .bool b=>if b=w then Y5 D N S o.dst r f (bC (fc D) o.op (tab N f) h)else zR D N S r (rS f o.dst bH) h
 | .tup _=>zR D N S r (rS f o.dst bH) h
 | _=>.fail
noncomputable def uL(D:bX)(N:Nat)(S:List Fr)(ops:List aH)(f:eI)(hs:List aA)(L:cD):Res :=
 match dG (fc D) ops (tab N f) hs L with
 | some (env,h)=>xV D S .normal env h
 | none=>.fail
noncomputable def P1(D:bX)(N:Nat)(S:List Fr)(dst:Option Nat)(r:List aH)(f:eI)(hs:List aA)(L:cD):Option (DV×aA)→Res
 | some (v,_)=>uL D N S r (rS f dst v) hs L
 | none=>.fail
noncomputable def P0(D:bX)(N:Nat)(S:List Fr)(dst:Option Nat)(r:List aH)(f:eI)(hs:List aA)(L:cD):Option (DV×aA)→Res
 | some (v,h)=>uL D N S r (rS f dst v) (h::hs) L
 | none=>.fail
noncomputable def O9(D:bX)(N:Nat)(S:List Fr)(dst:Option Nat)(r:List aH)(f:eI)(hs:List aA):Option (DV×aA×cD)→Res
 | some (v,h,L)=>uL D N S r (rS f dst v) (h::hs) L
 | none=>.fail
noncomputable def Td(D:bX)(N:Nat)(S:List Fr)(dst:Option Nat)(op:DOp)(cm:Bool)(r:List aH)(f:eI)(hs:List aA)(L:cD):Option aA→Res
 | some h0=>P1 D N S dst r f hs (L.see cm (mark (tab N f) op)) (aB h0 (tab N f) op)
 | none=>.fail
noncomputable def P2(D:bX)(N:Nat)(S:List Fr)(dst:Option Nat)(op:DOp)(r:List aH)(f:eI)(h:aA)(gs:List aA)(L:cD):Option aA→Res
 | some h0=>O9 D N S dst r f (h::gs) (cK (fc D) h0.n gs.length L op (tab N f) h)
 | none=>.fail
noncomputable def zS(D:bX)(N:Nat)(S:List Fr)(dst:Option Nat)(op:DOp)(snap:Nat)(cm:Bool)(r:List aH)(f:eI)(hs:List aA)(L:cD):sI→Res
 | .read=>if L.free snap (bN (tab N f) op)=true then Td D N S dst op cm r f hs L (hI hs snap)else .fail
 | .write=>match hs with
  | h::_=>P0 D N S dst r f hs L (bC (fc D) op (tab N f) h)
  | []=>.fail
 | .create=>match hs with
  | h::gs=>P2 D N S dst op r f h gs L (hI hs snap)
  | []=>.fail
noncomputable def xF(D:bX)(N:Nat)(S:List Fr)(dst:Option Nat)(k:sI)(r:List aH)(f:eI)(L:cD):List aA→Res
 | h::hs=>uL D N S r (rS f dst bH) (if k=.read then h::hs else h::h::hs) L
 | []=>.fail
noncomputable def Tf(D:bX)(N:Nat)(S:List Fr)(o:aH)(w:Bool)(r:List aH)(f:eI)(hs:List aA)(L:cD):DV→Res
 | .bool b=>if b=w then zS D N S o.dst o.op o.snap o.calm r f hs L o.kind else xF D N S o.dst o.kind r f L hs
 | .tup _=>xF D N S o.dst o.kind r f L hs
 | _=>.fail
noncomputable def S4(D:bX)(as:List DV)(h:aA):DV→Option (DV×aA)
 | .func g cap=>fc D g (as++cap) h
 | _=>none
section
variable (D:bX) (N:Nat) (S:List Fr) (f:eI) (h:aA)
theorem GG:run D N S .skip f h=ret D N S .normal f h:=by unfold run;rw[PY];rfl
theorem GI(id:Nat):run D N S (.exit id) f h=ret D N S (.exit id) f h:=by unfold run;rw[QA];rfl
theorem NM:run D N S .ret f h=ret D N S .ret f h:=by unfold run;rw[WJ];rfl
theorem NL(a b:aI):run D N S (.seq a b) f h=run D N (.seq b::S) a f h:=by
 unfold run
 rw[WI]
 cases ev D a (tab N f) h with
 | fail=>rfl
 | ok e env h1 =>
  cases e<;>simp only[after,xV]
theorem GK(c:Opd)(a b:aI):run D N S (.cond c a b) f h=GP D N S a b f h (c.eval (tab N f)):=by
 unfold run
 rw[QC]
 unfold GP
 split<;>simp_all[run,after]
theorem Y3(id:Nat)(b:aI):run D N S (.block id b) f h=run D N (.block id::S) b f h:=by
 unfold run
 rw[JS]
 cases ev D b (tab N f) h with
 | fail=>rfl
 | ok e env h1 =>
  cases e with
  | exit i =>
   by_cases e:i=id
   ·simp only[after,xV,if_pos e]
   ·simp only[after,xV,if_neg e]
  | _=>rfl
theorem GH(b:aI):run D N S (.loop b) f h=run D N (.loop b::S) b f h:=by
 unfold run
 rw[PZ]
 cases ev D b (tab N f) h with
 | fail=>rfl
 | ok e env h1 =>
  cases e<;>simp only[after,xV]
theorem Yx(ops:List aH):run D N S (.region ops) f h=zR D N S ops f h:=by
 unfold run zR
 rw[CB]
 cases eM (fc D) ops (tab N f) h<;>rfl
theorem GJ(ops:List aH):run D N S (.draw ops) f h=uL D N S ops f [h] .start:=by
 unfold run uL
 rw[QB]
 cases dG (fc D) ops (tab N f) [h] .start<;>rfl
theorem Z1(a b:aI):GP D N S a b f h (.bool true)=run D N S a f h:=rfl
theorem Zj(a b:aI):GP D N S a b f h (.bool false)=run D N S b f h:=rfl
theorem GO(a b:aI)(t:Bool):GP D N S a b f h (.bool t)=if t=true then run D N S a f h else run D N S b f h:=by cases t<;>rfl
theorem NO(e:Ex):ret D N [] e f h=.ok e (tab N f) h:=rfl
theorem NN(b:aI):ret D N (.seq b::S) .normal f h=run D N S b f h:=by
 unfold ret run;simp only[xV];cases ev D b (tab N f) h<;>rfl
theorem On(b:aI)(i:Nat):ret D N (.seq b::S) (.exit i) f h=ret D N S (.exit i) f h:=rfl
theorem Th(b:aI):ret D N (.seq b::S) .ret f h=ret D N S .ret f h:=rfl
theorem Z4(id:Nat):ret D N (.block id::S) .normal f h=ret D N S .normal f h:=rfl
theorem Jl(id:Nat):ret D N (.block id::S) .ret f h=ret D N S .ret f h:=rfl
theorem Gb(id i:Nat):ret D N (.block id::S) (.exit i) f h=ret D N S (if i=id then .normal else .exit i) f h:=rfl
theorem GR(b:aI):ret D N (.loop b::S) .normal f h=run D N S (.loop b) f h:=by
 unfold ret run;simp only[xV];cases ev D (.loop b) (tab N f) h<;>rfl
theorem Jk(b:aI)(i:Nat):ret D N (.loop b::S) (.exit i) f h=ret D N S (.exit i) f h:=rfl
theorem Oo(b:aI):ret D N (.loop b::S) .ret f h=ret D N S .ret f h:=rfl
theorem GL:zR D N S [] f h=ret D N S .normal f h:=rfl
theorem Y6(dst:Option Nat)(op:DOp)(k:sI)(s:Nat)(cm:Bool)(r:List aH) :
  zR D N S (⟨dst,op,none,k,s,cm⟩::r) f h=Y5 D N S dst r f (bC (fc D) op (tab N f) h):=by
 unfold zR
 simp only[eM,fX]
 cases bC (fc D) op (tab N f) h with
 | none=>rfl
 | some p=>simp only[Y5,qE];rfl
theorem Yy(dst:Option Nat)(op:DOp)(t:Nat)(w:Bool)(k:sI)(s:Nat)(cm:Bool)(r:List aH) :
  zR D N S (⟨dst,op,some (t,w),k,s,cm⟩::r) f h=Y8 D N S ⟨dst,op,some (t,w),k,s,cm⟩ w r f h (rd N f t):=by
 unfold zR
 simp only[eM,fX,vZ]
 unfold rd
 by_cases aZ:t<N
 ·simp only[if_pos aZ]
  cases hv:f t with
  | bool b =>
   simp only[Y8]
   by_cases e:b=w
   ·subst e
    simp only[beq_self_eq_true,if_true]
    cases bC (fc D) op (tab N f) h with
    | none=>rfl
    | some p=>simp only[Y5,qE];rfl
   ·have:(b == w)=false:=by simpa using e
    simp only[this,if_neg e,qE];rfl
  | tup l=>simp only[Y8,qE];rfl
  | _=>rfl
 ·simp only[if_neg aZ];rfl
theorem Y4(dst:Option Nat)(r:List aH)(v:DV):Y5 D N S dst r f (some (v,h))=zR D N S r (rS f dst v) h:=rfl
theorem Y7(o:aH)(w:Bool)(r:List aH)(b:Bool):Y8 D N S o w r f h (.bool b)=if b=w then Y5 D N S o.dst r f (bC (fc D) o.op (tab N f) h)else zR D N S r (rS f o.dst bH) h:=rfl
theorem GM(o:aH)(w:Bool)(r:List aH)(l:List DV):Y8 D N S o w r f h (.tup l)=zR D N S r (rS f o.dst bH) h:=rfl
variable (hs:List aA) (L:cD)
theorem GN:uL D N S [] f (h::hs) L=ret D N S .normal f h:=rfl
theorem Lh(dst:Option Nat)(op:DOp)(k:sI)(s:Nat)(cm:Bool)(r:List aH)(g:Option (Nat×Bool)) :
  uL D N S (⟨dst,op,g,k,s,cm⟩::r) f (h::hs) L=(match fX (tab N f) g with
   | none=>.fail
   | some true=>zS D N S dst op s cm r f (h::hs) L k
   | some false=>xF D N S dst k r f L (h::hs)):=by
 unfold uL
 simp only[dG]
 cases fX (tab N f) g with
 | none=>rfl
 | some t =>
  cases t with
  | false=>simp only[xF,qE];rfl
  | true =>
   simp only[zS]
   cases k with
   | read =>
    simp only
    by_cases Eu:L.free s (bN (tab N f) op)=true
    ·simp only[if_pos Eu,Td]
     cases hI (h::hs) s with
     | none=>rfl
     | some h0 =>
      simp only
      cases aB h0 (tab N f) op with
      | none=>rfl
      | some p=>simp only[P1,qE];rfl
    ·simp only[if_neg Eu]
   | write =>
    simp only
    cases bC (fc D) op (tab N f) h with
    | none=>rfl
    | some p=>simp only[P0,qE];rfl
   | create =>
    simp only[P2]
    cases hI (h::hs) s with
    | none=>rfl
    | some h0 =>
     simp only
     cases cK (fc D) h0.n hs.length L op (tab N f) h with
     | none=>rfl
     | some p=>simp only[O9,qE];rfl
theorem Y9(dst:Option Nat)(op:DOp)(k:sI)(s:Nat)(cm:Bool)(r:List aH) :
  uL D N S (⟨dst,op,none,k,s,cm⟩::r) f (h::hs) L=zS D N S dst op s cm r f (h::hs) L k:=by rw[Lh];rfl
theorem Za(dst:Option Nat)(op:DOp)(t:Nat)(w:Bool)(k:sI)(s:Nat)(cm:Bool)(r:List aH) :
  uL D N S (⟨dst,op,some (t,w),k,s,cm⟩::r) f (h::hs) L=Tf D N S ⟨dst,op,some (t,w),k,s,cm⟩ w r f (h::hs) L (rd N f t):=by
 rw[Lh]
 simp only[fX,vZ]
 unfold rd
 by_cases aZ:t<N
 ·simp only[if_pos aZ]
  cases hv:f t with
  | bool b =>
   simp only[Tf]
   by_cases e:b=w
   ·subst e;simp
   ·have:(b == w)=false:=by simpa using e
    simp only[this,if_neg e]
  | _=>rfl
 ·simp only[if_neg aZ];rfl
theorem Zh(o:aH)(w:Bool)(r:List aH)(b:Bool):Tf D N S o w r f hs L (.bool b)=if b=w then zS D N S o.dst o.op o.snap o.calm r f hs L o.kind else xF D N S o.dst o.kind r f L hs:=rfl
theorem Z0(o:aH)(w:Bool)(r:List aH)(l:List DV):Tf D N S o w r f hs L (.tup l)=xF D N S o.dst o.kind r f L hs:=rfl
theorem Ze(dst:Option Nat)(r:List aH):xF D N S dst .read r f L (h::hs)=uL D N S r (rS f dst bH) (h::hs) L:=rfl
theorem Sz(dst:Option Nat)(r:List aH):xF D N S dst .write r f L (h::hs)=uL D N S r (rS f dst bH) (h::h::hs) L:=rfl
theorem Oi(dst:Option Nat)(r:List aH):xF D N S dst .create r f L (h::hs)=uL D N S r (rS f dst bH) (h::h::hs) L:=rfl
theorem Zf(dst:Option Nat)(op:DOp)(s:Nat)(cm:Bool)(r:List aH):zS D N S dst op s cm r f hs L .read=if L.free s (bN (tab N f) op)=true then Td D N S dst op cm r f hs L (hI hs s)else .fail:=rfl
theorem Ta(dst:Option Nat)(op:DOp)(s:Nat)(cm:Bool)(r:List aH):zS D N S dst op s cm r f (h::hs) L .write=P0 D N S dst r f (h::hs) L (bC (fc D) op (tab N f) h):=rfl
theorem Oj(dst:Option Nat)(op:DOp)(s:Nat)(cm:Bool)(r:List aH):zS D N S dst op s cm r f (h::hs) L .create=P2 D N S dst op r f h hs L (hI (h::hs) s):=rfl
theorem Zg(dst:Option Nat)(op:DOp)(cm:Bool)(r:List aH)(h0:aA):Td D N S dst op cm r f hs L (some h0)=P1 D N S dst r f hs (L.see cm (mark (tab N f) op)) (aB h0 (tab N f) op):=rfl
theorem Zi(dst:Option Nat)(op:DOp)(r:List aH)(h0:aA):P2 D N S dst op r f h hs L (some h0)=O9 D N S dst r f (h::hs) (cK (fc D) h0.n hs.length L op (tab N f) h):=rfl
theorem Zd(dst:Option Nat)(r:List aH)(v:DV):P1 D N S dst r f hs L (some (v,h))=uL D N S r (rS f dst v) hs L:=rfl
theorem Zc(dst:Option Nat)(r:List aH)(v:DV):P0 D N S dst r f hs L (some (v,h))=uL D N S r (rS f dst v) (h::hs) L:=rfl
theorem Zb(dst:Option Nat)(r:List aH)(v:DV):O9 D N S dst r f hs (some (v,h,L))=uL D N S r (rS f dst v) (h::hs) L:=rfl
theorem X4(k:Nat):hI hs k=hs.reverse[k]?:=by
 unfold hI
 split
 ·rename_i hk;rw[List.getElem?_reverse hk]
 ·rename_i hk;rw[List.getElem?_eq_none (by simp;omega)]
theorem A5(g:Opd)(args:List Opd)(env:Env):bC (fc D) (.call g args) env h=S4 D (args.map (Opd.eval env)) h (g.eval env):=by
 simp only[bC,S4]
 split<;>simp_all
theorem J8(as:List DV)(g:Nat)(cap:List DV):S4 D as h (.func g cap)=fc D g (as++cap) h:=rfl
def fin(rs:List Kt):Res→Option (DV×aA)
 | .ok (.exit _) _ _=>none
 | .ok _ env h'=>match aU h' env rs with
  | some v=>some (v,h')
  | none=>none
 | .fail=>none
def BW(h:aA):Option DV→Option (DV×aA)
 | some v=>some (v,h)
 | none=>none
theorem PX(rs:List Kt)(env:Env):fin rs (.ok .ret env h)=BW h (aU h env rs):=by
 unfold fin BW;rfl
theorem F7(rs:List Kt)(env:Env):fin rs (.ok .normal env h)=BW h (aU h env rs):=by
 unfold fin BW;rfl
theorem BV(v:DV):BW h (some v)=some (v,h):=rfl
theorem aM(df:aK)(args:List DV)(hl:args.length≤df.ntmps):gT (ev D) df args h=fin df.results (run D df.ntmps [] df.body (KY args) h):=by
 unfold gT run
 rw[EY _ _ hl]
 cases ev D df.body (tab df.ntmps (KY args)) h with
 | fail=>rfl
 | ok e env h1=>cases e<;>rfl
theorem Jn(env:Env)(r:Kt):aU h env [r]=iT h env r:=rfl
theorem Zk(n:Nat):iT h (tab N f) (.t n)=some (rd N f n):=by simp only[iT,Fi]
theorem Jo(a:Nat)(n:Option Nat):iT h (tab N f) (.cell a n)=iW h n (rd N f a):=by simp only[iT,Fi]
end
def tY:aA:={objs:=[],n:=0,lim:=0}
noncomputable def jS(o:Option (DV×aA)):Option DV :=
 match o with
 | some (v,h')=>match resolve false h' bT v with
  | some d=>if bA bT d then some d else none
  | none=>none
 | none=>none
noncomputable def pcF(D:bX)(df:aK)(ds:List DV):Option DV:=jS (gT (ev D) df ds tY)
def cV(h:aA):Option DV→Option (DV×aA)
 | some d=>some (d,h)
 | none=>none
theorem yT(h:aA)(d:DV):cV h (some d)=some (d,h):=rfl
noncomputable def sG(D:bX)(df:aK)(h:aA):Option (List DV)→Option (DV×aA)
 | some ds=>cV h (pcF D df ds)
 | none=>none
theorem tP(D:bX)(df:aK)(h:aA)(ds:List DV):sG D df h (some ds)=cV h (pcF D df ds):=rfl
theorem cG{D:bX}{f:Nat}{df:aK}(hh:D.hook f=none)(hf:D.fn f=some df)(hm:df.mode=.pure)(args:List DV)(h:aA) :
  fc D f args h=sG D df h (args.mapM (resolve true h bT)):=by
 rw[Vp,hh,hf]
 simp only
 unfold dH
 rw[hm]
 simp only
 cases args.mapM (resolve true h bT)with
 | none=>rfl
 | some ds =>
  simp only[sG,pcF,jS,tY,cV]
  cases gT (ev D) df ds {objs:=[],n:=0,lim:=0} with
  | none=>rfl
  | some p =>
   obtain⟨v,h'⟩:=p
   simp only
   cases resolve false h' bT v with
   | none=>rfl
   | some d =>
    simp only
    split<;>rfl
noncomputable def S3(D:bX)(df:aK):Option (List DV×aA)→Option (DV×aA)
 | some (as,h)=>sG D df h (as.mapM (resolve true h bT))
 | none=>none
theorem J7(D:bX)(df:aK)(as:List DV)(h:aA):S3 D df (some (as,h))=sG D df h (as.mapM (resolve true h bT)):=rfl
theorem Hs{D:bX}{f:Nat}{df:aK}(hh:D.hook f=none)(hf:D.fn f=some df)(hm:df.mode=.frz)(args:List DV)(h:aA) :
  fc D f args h=S3 D df (sX fQ h args):=by
 rw[Vp,hh,hf]
 simp only
 unfold dH
 rw[hm]
 simp only
 cases sX fQ h args with
 | none=>rfl
 | some p =>
  obtain⟨as,h1⟩:=p
  simp only[S3]
  cases as.mapM (resolve true h1 bT)with
  | none=>rfl
  | some ds =>
   simp only[sG,pcF,jS,tY,cV]
   cases gT (ev D) df ds {objs:=[],n:=0,lim:=0} with
   | none=>rfl
   | some p =>
    obtain⟨v,h'⟩:=p
    simp only
    cases resolve false h' bT v with
    | none=>rfl
    | some d =>
     simp only
     split<;>rfl
theorem dS{D:bX}{f:Nat}{df:aK}(hh:D.hook f=none)(hf:D.fn f=some df)(hm:df.mode=.full)(args:List DV)(h:aA) :
  fc D f args h=gT (ev D) df args h:=by
 rw[Vp,hh,hf]
 simp only
 unfold dH
 rw[hm]
theorem gO{D:bX}{f:Nat}{hk:qA}(hh:D.hook f=some hk)(args:List DV)(h:aA):fc D f args h=hk h args:=by
 rw[Vp,hh]
end Go.Dm
/-
Part 1 of "De": equations by which 'simp' runs the machine's code over data that are partly unknown.
-/
namespace Go.Dm
def WF(h:aA):Prop:=h.objs.length=h.n
theorem EF:WF tY:=rfl
theorem WF.push{h:aA}{o:DO}(w:WF h):WF (h.push o):=by unfold WF at *;simp[aA.push,w]
theorem WF.set{h:aA}{id:Nat}{o:DO}(w:WF h):WF (h.set id o):=by unfold WF at *;simp[aA.set,w]
theorem WF.lim{h:aA}{l:Nat}(w:WF h):WF {h with lim:=l}:=w
theorem Ou{h:aA}{o o':DO}{id:Nat}(eB:id<h.n):(h.push o).set id o'=(h.set id o').push o:=by
 have e:h.n-id=(h.n-1-id)+1:=by omega
 simp[aA.push,aA.set]
 rw[e];rfl
theorem To{h:aA}{o o':DO}{id:Nat}:(h.push o).set id o'=if id<h.n then(h.set id o').push o else h.push o':=by
 split
 ·rename_i eB;exact Ou eB
 ·rename_i eB
  have e:h.n-id=0:=by omega
  simp[aA.push,aA.set]
  rw[e];rfl
theorem RC{h:aA}{id:Nat}{o:DO}:(h.set id o).n=h.n:=rfl
theorem cO{h:aA}(w:WF h){id k:Nat}{o:DO}(eB:id<h.n):(h.set id o).get k=if k=id then some o else h.get k:=by
 unfold WF at w
 by_cases e:k=id
 ·subst e
  rw[if_pos rfl]
  simp only[aA.get,aA.set,if_pos eB]
  rw[List.getElem?_set,if_pos rfl,if_pos (by omega)]
  exact if_pos eB
 ·rw[if_neg e];exact aS eB e
theorem aC{h:aA}{id:Nat}{o:DO}(hg:h.get id=some o):id<h.n:=cY hg
def HL(c a b:DV):Option DV:=match c with|.bool t=>some (if t then a else b)|_=>none
theorem Zz(t:Bool)(a b:DV):HL (.bool t) a b=some (if t then a else b):=rfl
def wF:DV→Option DV
 | .ptr id sz idx off=>some (.ptr id sz idx off)
 | .iptr l cs off=>some (.iptr l cs off)
 | _=>none
theorem Jq(id sz idx off:Nat):wF (.ptr id sz idx off)=some (.ptr id sz idx off):=rfl
theorem Gn(l:Bool)(cs:List DV)(off:Nat):wF (.iptr l cs off)=some (.iptr l cs off):=rfl
def WK(neq:Bool):DV→DV→Option DV
 | .bool a,.bool b=>some (.bool (if neq then !(a == b)else a == b))
 | _,_=>none
theorem CD(neq a b:Bool):WK neq (.bool a) (.bool b)=some (.bool (if neq then !(a == b)else a == b)):=rfl
def Aj(neq:Bool):Option Bool→Option DV
 | some r=>some (.bool (if neq then !r else r))
 | none=>none
theorem F0(neq r:Bool):Aj neq (some r)=some (.bool (if neq then !r else r)):=rfl
def KL(k:IntKind):DV→Option DV|.int _ n=>some (.int k (k.wrap n))|_=>none
theorem CO(k k':IntKind)(n:Int):KL k (.int k' n)=some (.int k (k.wrap n)):=rfl
def K8:DV→Option DV|.str s=>some (.str s)|_=>none
theorem K7(s:List UInt8):K8 (.str s)=some (.str s):=rfl
def tK(off:Nat):DV→Option DV
 | .ptr id sz idx o=>some (.ptr id sz idx (o+off))
 | .iptr l cs o=>some (.iptr l cs (o+off))
 | _=>none
theorem Hr(off id sz idx o:Nat):tK off (.ptr id sz idx o)=some (.ptr id sz idx (o+off)):=rfl
theorem Eh(off:Nat)(l:Bool)(cs:List DV)(o:Nat):tK off (.iptr l cs o)=some (.iptr l cs (o+off)):=rfl
def Hq(off:Nat)(n:Option Nat):DV→Option DV|.agg cs=>cQ n cs off|_=>none
theorem F9(off:Nat)(n:Option Nat)(cs:List DV):Hq off n (.agg cs)=cQ n cs off:=rfl
def aQ(sz:Nat)(x i:DV):Option DV :=
 match asI i with
 | some i =>
  match x with
  | .sl id dI off len=>if sz=dI∧0≤i∧i<(len:Int)then some (.ptr id sz (off+i.toNat) 0)else none
  | .isl l dI xs=>if sz=dI∧0≤i then(match xs[i.toNat]? with|some e=>some (.iptr l (aF sz e) 0)|none=>none)else none
  | _=>none
 | none=>none
def jJ(len esz:Nat)(x i:DV):Option DV :=
 match asI i with
 | some i =>
  if 0≤i∧i<(len:Int)then
   match x with
   | .ptr id sz idx o=>some (.ptr id sz idx (o+i.toNat*esz))
   | .iptr l cs o=>some (.iptr l cs (o+i.toNat*esz))
   | _=>none
  else none
 | none=>none
def D2(len esz:Nat)(n:Option Nat)(x i:DV):Option DV :=
 match asI i,x with
 | some i,.agg cs=>if 0≤i∧i<(len:Int)then cQ n cs (i.toNat*esz)else none
 | _,_=>none
def Bx(x i:DV):Option DV :=
 match asI i,x with
 | some i,.str s=>if 0≤i then(match s[i.toNat]? with|some b=>some (.int .u8 b.toNat)|none=>none)else none
 | _,_=>none
def cH(o:Option DV)(dflt lim:Nat):Option Nat :=
 match o with
 | none=>some dflt
 | some x=>match asI x with
  | some n=>if 0≤n∧n≤(lim:Int)then some n.toNat else none
  | none=>none
theorem Ii(env:Env)(o:Option Opd)(d l:Nat):bound env o d l=cH (o.map (Opd.eval env)) d l:=by
 cases o<;>rfl
theorem vR(d l:Nat):cH none d l=some d:=rfl
theorem tQ(k:IntKind)(n:Int)(d l:Nat)(h0:0≤n)(h1:n≤(l:Int)):cH (some (.int k n)) d l=some n.toNat:=by
 simp[cH,asI,h0,h1]
def Bj(x:DV)(lo hi:Option DV):Option DV :=
 match x with
 | .str s=>match cH hi s.length s.length with
  | some b=>match cH lo 0 b with
   | some a=>some (.str ((s.drop a).take (b-a)))
   | none=>none
  | none=>none
 | _=>none
def fC(h:aA)(sz:Nat)(x:DV)(lo hi:Option DV):Option DV :=
 match x with
 | .nsl=>match cH hi 0 0 with
  | some b=>match cH lo 0 b with
   | some _=>some .nsl
   | none=>none
  | none=>none
 | .isl l dI xs=>if sz=dI∨xs=[]then match cH hi xs.length xs.length with
   | some b=>match cH lo 0 b with
    | some a=>some (.isl l sz ((xs.drop a).take (b-a)))
    | none=>none
   | none=>none
  else none
 | .sl id dI off len=>match h.get id with
  | some (.arr _ jU xs _)=>if sz=dI∧sz=jU∧off+len≤xs.length then match cH hi len (xs.length-off)with
    | some b=>match cH lo 0 b with
     | some a=>some (.sl id sz (off+a) (b-a))
     | none=>none
    | none=>none
   else none
  | _=>none
 | _=>none
def lenV(h:aA)(k:Nat):DV→Option DV
 | .str s=>if k=0 then some (.int .i64 s.length)else none
 | .nsl=>if k=1 then some (.int .i64 0)else none
 | .sl _ _ _ len=>if k=1 then some (.int .i64 len)else none
 | .isl _ _ xs=>if k=1 then some (.int .i64 xs.length)else none
 | .nmap=>if k=2 then some (.int .i64 0)else none
 | .map id=>match h.get id with|some (.mp es)=>if k=2 then some (.int .i64 es.length)else none|_=>none
 | _=>none
theorem IS(h:aA)(s:List UInt8):lenV h 0 (.str s)=some (.int .i64 s.length):=rfl
theorem IT(h:aA):lenV h 1 .nsl=some (.int .i64 0):=rfl
theorem OP(h:aA)(id sz off len:Nat):lenV h 1 (.sl id sz off len)=some (.int .i64 len):=rfl
theorem IV(h:aA)(t:Bool)(sz:Nat)(xs:List DV):lenV h 1 (.isl t sz xs)=some (.int .i64 xs.length):=rfl
def Qy(h:aA)(ety sz bytes:Nat)(s:DV):Option (List DV)→Option (DV×aA)
 | some ys=>bF h ety sz bytes s ys
 | none=>none
theorem Qx(h:aA)(ety sz bytes:Nat)(s:DV)(ys:List DV):Qy h ety sz bytes s (some ys)=bF h ety sz bytes s ys:=rfl
def KI(h:aA)(sz:Nat)(d:DV):Option (List DV)→Option (DV×aA)
 | some ys=>vN h sz d ys
 | none=>none
theorem J1(h:aA)(sz:Nat)(d:DV)(ys:List DV):KI h sz d (some ys)=vN h sz d ys:=rfl
def Pj(mx:Bool):DV→DV→Option DV
 | .int k a,.int _ b=>some (.int k (if mx then(if a<b then b else a)else(if b<a then b else a)))
 | _,_=>none
theorem Um(mx:Bool)(k k':IntKind)(a b:Int):Pj mx (.int k a) (.int k' b)=some (.int k (if mx then(if a<b then b else a)else(if b<a then b else a))):=rfl
def Am(i:Nat):DV→Option DV|.tup vs=>vs[i]?|_=>none
theorem Qg(i:Nat)(vs:List DV):Am i (.tup vs)=vs[i]?:=rfl
def Fl:Option aA→Option (DV×aA)
 | some h=>some (.tup [],h)
 | none=>none
theorem Sa(h:aA):Fl (some h)=some (.tup [],h):=rfl
def WZ(h:aA)(ety sz:Nat)(x:DV):Option (DV×aA):=if aO sz x then some (.ptr h.n sz 0 0,h.push (.arr ety sz [x] (some 1)))else none
theorem QN{h:aA}{ety sz:Nat}{x:DV}(hs:aO sz x=true):WZ h ety sz x=some (.ptr h.n sz 0 0,h.push (.arr ety sz [x] (some 1))):=if_pos hs
def XF(h:aA):Option (List DV)→Option (DV×aA)
 | some cs=>some (.agg cs,h)
 | none=>none
theorem DJ(h:aA)(cs:List DV):XF h (some cs)=some (.agg cs,h):=rfl
def Ft(h:aA)(ety sz len:Nat):Option (List DV)→Option (DV×aA)
 | some xs=>some (.sl h.n sz 0 len,h.push (.arr ety sz xs (some len)))
 | none=>none
theorem Jg(h:aA)(ety sz len:Nat)(xs:List DV):Ft h ety sz len (some xs)=some (.sl h.n sz 0 len,h.push (.arr ety sz xs (some len))):=rfl
section
variable (h:aA) (env:Env)
theorem MU(x:Opd):aB h env (.move x)=some (x.eval env,h):=rfl
theorem O3(c a b:Opd):aB h env (.pick c a b)=cV h (HL (c.eval env) (a.eval env) (b.eval env)):=by simp only[aB];cases c.eval env<;>rfl
theorem FR(ety sz:Nat)(z:DV):aB h env (.alloc ety sz z)=some (.ptr h.n sz 0 0,h.push (.arr ety sz [z] (some 1))):=rfl
theorem UC(ety sz:Nat)(x:Opd):aB h env (.box ety sz x)=WZ h ety sz (x.eval env):=rfl
theorem Sj(zero:List DV)(parts:List (Nat×Nat×Opd)):aB h env (.build zero parts)=XF h (fN zero (parts.map fun p=>(p.1,p.2.1,p.2.2.eval env))):=by
 simp only[aB];cases fN zero (parts.map fun p=>(p.1,p.2.1,p.2.2.eval env))<;>rfl
theorem xC(ety sz:Nat)(z:DV)(len:Nat)(parts:List (Nat×Opd)):aB h env (.buildSlice ety sz z len parts)=Ft h ety sz len (cW sz (List.replicate len z) (parts.map fun p=>(p.1,p.2.eval env))):=by
 simp only[aB];cases cW sz (List.replicate len z) (parts.map fun p=>(p.1,p.2.eval env))<;>rfl
theorem O4(n:Option Nat)(a:Opd):aB h env (.load n a)=cV h (iW h n (a.eval env)):=by simp only[aB];cases iW h n (a.eval env)<;>rfl
theorem Sf(n:Nat)(a x:Opd):aB h env (.store n a x)=Fl (gZ h n (a.eval env) (x.eval env)):=by simp only[aB];cases gZ h n (a.eval env) (x.eval env)<;>rfl
theorem Cv(x:Opd):aB h env (.nilCheck x)=cV h (wF (x.eval env)):=by simp only[aB];cases x.eval env<;>rfl
theorem Sl(op:BinOp)(x y:Opd):aB h env (.arith op x y)=cV h (bQ op (x.eval env) (y.eval env)):=by simp only[aB];cases bQ op (x.eval env) (y.eval env)<;>rfl
theorem FO(neq:Bool)(x y:Opd):aB h env (.eqb neq x y)=cV h (WK neq (x.eval env) (y.eval env)):=by simp only[aB];cases x.eval env<;>cases y.eval env<;>rfl
theorem FP(neq:Bool)(ks:List Nat)(x y:Opd):aB h env (.eqa neq ks x y)=cV h (Aj neq (fA (.agg ks) (x.eval env) (y.eval env))):=by simp only[aB];cases fA (.agg ks) (x.eval env) (y.eval env)<;>rfl
theorem FN(k:Nat)(neq:Bool)(x y:Opd):aB h env (.eqn k neq x y)=cV h (Aj neq (rY k (x.eval env) (y.eval env))):=by simp only[aB];cases rY k (x.eval env) (y.eval env)<;>rfl
theorem RB(op:UnOp)(x:Opd):aB h env (.un op x)=cV h (unD op (x.eval env)):=by simp only[aB];cases unD op (x.eval env)<;>rfl
theorem O6(k:IntKind)(x:Opd):aB h env (.conv k x)=cV h (KL k (x.eval env)):=by simp only[aB];cases x.eval env<;>rfl
theorem Sk(x:Opd):aB h env (.asStr x)=cV h (K8 (x.eval env)):=by simp only[aB];cases x.eval env<;>rfl
theorem zJ(off:Nat)(x:Opd):aB h env (.fieldAddr off x)=cV h (tK off (x.eval env)):=by simp only[aB];cases x.eval env<;>rfl
theorem Si(off:Nat)(n:Option Nat)(x:Opd):aB h env (.field off n x)=cV h (Hq off n (x.eval env)):=by
 simp only[aB]
 cases x.eval env with
 | agg cs=>simp only[Hq];cases cQ n cs off<;>rfl
 | _=>rfl
theorem zI(sz:Nat)(x i:Opd):aB h env (.indexAddr sz x i)=cV h (aQ sz (x.eval env) (i.eval env)):=by
 simp only[aB,aQ]
 cases asI (i.eval env)with
 | none=>rfl
 | some n =>
  simp only
  cases x.eval env with
  | sl id dI off len=>simp only;split<;>rfl
  | isl l dI xs =>
   simp only
   split
   ·cases xs[n.toNat]?<;>rfl
   ·rfl
  | _=>rfl
theorem Cx(len esz:Nat)(x i:Opd):aB h env (.indexArr len esz x i)=cV h (jJ len esz (x.eval env) (i.eval env)):=by
 simp only[aB,jJ]
 cases asI (i.eval env)with
 | none=>rfl
 | some n =>
  simp only
  split
  ·cases x.eval env<;>rfl
  ·rfl
theorem Sh(len esz:Nat)(n:Option Nat)(x i:Opd):aB h env (.index len esz n x i)=cV h (D2 len esz n (x.eval env) (i.eval env)):=by
 simp only[aB,D2]
 cases asI (i.eval env)with
 | none=>rfl
 | some m =>
  cases x.eval env with
  | agg cs =>
   simp only
   split
   ·cases cQ n cs (m.toNat*esz)<;>rfl
   ·rfl
  | _=>rfl
theorem Cw(x i:Opd):aB h env (.indexStr x i)=cV h (Bx (x.eval env) (i.eval env)):=by
 simp only[aB,Bx]
 cases asI (i.eval env)with
 | none=>rfl
 | some m =>
  cases x.eval env with
  | str s =>
   simp only
   split
   ·cases s[m.toNat]?<;>rfl
   ·rfl
  | _=>rfl
theorem Cu(x:Opd)(lo hi:Option Opd):aB h env (.sliceStr x lo hi)=cV h (Bj (x.eval env) (lo.map (Opd.eval env)) (hi.map (Opd.eval env))):=by
 simp only[aB,Bj,Ii]
 cases x.eval env with
 | str s =>
  simp only
  cases cH (hi.map (Opd.eval env)) s.length s.length with
  | none=>rfl
  | some b=>simp only;cases cH (lo.map (Opd.eval env)) 0 b<;>rfl
 | _=>rfl
theorem Fo(sz:Nat)(x:Opd)(lo hi:Option Opd):aB h env (.sliceSl sz x lo hi)=cV h (fC h sz (x.eval env) (lo.map (Opd.eval env)) (hi.map (Opd.eval env))):=by
 simp only[aB,fC,Ii]
 cases x.eval env with
 | nsl =>
  simp only
  cases cH (hi.map (Opd.eval env)) 0 0 with
  | none=>rfl
  | some b=>simp only;cases cH (lo.map (Opd.eval env)) 0 b<;>rfl
 | isl l dI xs =>
  simp only
  split
  ·cases cH (hi.map (Opd.eval env)) xs.length xs.length with
   | none=>rfl
   | some b=>simp only;cases cH (lo.map (Opd.eval env)) 0 b<;>rfl
  ·rfl
 | sl id dI off len =>
  simp only
  cases h.get id with
  | none=>rfl
  | some o =>
   cases o with
   | arr e s xs c =>
    simp only
    split
    ·cases cH (hi.map (Opd.eval env)) len (xs.length-off)with
     | none=>rfl
     | some b=>simp only;cases cH (lo.map (Opd.eval env)) 0 b<;>rfl
    ·rfl
   | _=>rfl
 | _=>rfl
theorem FM(k:Nat)(x:Opd):aB h env (.len k x)=cV h (lenV h k (x.eval env)):=by
 simp only[aB,lenV]
 cases x.eval env with
 | map id =>
  simp only
  cases h.get id with
  | none=>rfl
  | some o=>cases o<;>simp only<;>first|rfl|(split<;>rfl)
 | _=>first|rfl|(simp only;split<;>rfl)
theorem Lc(ety sz bytes:Nat)(s x:Opd):aB h env (.append ety sz bytes s x)=Qy h ety sz bytes (s.eval env) (elems h sz (x.eval env)):=by
 simp only[aB];cases elems h sz (x.eval env)<;>rfl
theorem O5(sz:Nat)(d s:Opd):aB h env (.copy sz d s)=KI h sz (d.eval env) (elems h sz (s.eval env)):=by
 simp only[aB];cases elems h sz (s.eval env)<;>rfl
theorem La(mx:Bool)(x y:Opd):aB h env (.minmax mx x y)=cV h (Pj mx (x.eval env) (y.eval env)):=by
 simp only[aB];cases x.eval env<;>cases y.eval env<;>rfl
theorem Sg(f:FuncId)(cap:List Opd):aB h env (.makeFunc f cap)=some (.func f (cap.map (Opd.eval env)),h):=rfl
theorem Yl:aB h env .makeMap=some (.map h.n,h.push (.mp [])):=rfl
theorem Fp(x:Opd)(i:Nat):aB h env (.extract x i)=cV h (Am i (x.eval env)):=by
 simp only[aB]
 cases x.eval env with
 | tup vs=>simp only[Am];cases vs[i]?<;>rfl
 | _=>rfl
theorem Nz(t:TypeId)(x:Opd):aB h env (.makeIface t x)=some (.iface t (x.eval env),h):=rfl
end
def vK(h:aA):DV→Option (List (DV×DV))
 | .nmap=>some []
 | .map id=>match h.get id with|some (.mp es)=>some es|_=>none
 | _=>none
def fP(q:EqT)(z:DV)(ok:Bool)(k:DV):Option (List (DV×DV))→Option DV
 | some es=>if(fA q k k).isSome then
   match lR q k es with
   | some (some (_,v))=>some (if ok then .tup [v,.bool true]else v)
   | some none=>some (if ok then .tup [z,.bool false]else z)
   | none=>none
  else none
 | none=>none
theorem Lb(h:aA)(env:Env)(q:EqT)(z:DV)(ok:Bool)(m k:Opd):aB h env (.lookup q z ok m k)=cV h (fP q z ok (k.eval env) (vK h (m.eval env))):=by
 have key:∀r:Option (List (DV×DV)),(match r with
   | some es=>if(fA q (k.eval env) (k.eval env)).isSome then
     match lR q (k.eval env) es with
     | some (some (_,v))=>some (if ok then DV.tup [v,.bool true]else v,h)
     | some none=>some (if ok then DV.tup [z,.bool false]else z,h)
     | none=>none
    else none
   | none=>none)=cV h (fP q z ok (k.eval env) r):=by
  intro r
  cases r with
  | none=>rfl
  | some es =>
   simp only[fP]
   split
   ·cases lR q (k.eval env) es with
    | none=>rfl
    | some x=>cases x<;>rfl
   ·rfl
 simp only[aB]
 rw[←key]
 cases m.eval env with
 | map id=>simp only[vK];cases h.get id with
  | none=>rfl
  | some o=>cases o<;>rfl
 | _=>rfl
def zA(h:aA)(q:EqT)(m k x:DV):Option aA :=
 match m with
 | .map id=>match h.get id with
  | some (.mp es) =>
   if h.lim≤id∧(fA q k k).isSome=true then
    match lR q k es with
    | some (some (i,_))=>some (h.set id (.mp (es.set i (k,x))))
    | some none=>some (h.set id (.mp (es++[(k,x)])))
    | none=>none
   else none
  | _=>none
 | _=>none
theorem zH(h:aA)(env:Env)(q:EqT)(m k x:Opd):aB h env (.mapUpdate q m k x)=Fl (zA h q (m.eval env) (k.eval env) (x.eval env)):=by
 simp only[aB,zA]
 cases m.eval env with
 | map id =>
  simp only
  cases h.get id with
  | none=>rfl
  | some o =>
   cases o with
   | mp es =>
    simp only
    split
    ·cases lR q (k.eval env) es with
     | none=>rfl
     | some y=>cases y with
      | none=>rfl
      | some p=>rfl
    ·rfl
   | _=>rfl
 | _=>rfl
section
variable (c:Nat→List DV→aA→Option (DV×aA)) (h:aA) (env:Env)
end
theorem bG{n:Int}(h1:-9223372036854775808≤n)(h2:n≤9223372036854775807):IntKind.i64.wrap n=n:=by
 exact Go.IntWalk.i64_in n ⟨h1,h2⟩
end Go.Dm
/-
Part 2 of "De": rows of data that are plain lists; rows that a call makes itself; what calls answer.
-/
namespace Go.Dm
def eL{α:Type}(t:Bool)(sz:Nat)(e:α→DV)(xs:List α):DV:=mkIsl t sz (xs.map e)
section eL
variable {α:Type} (t:Bool) (sz:Nat) (e:α→DV) (xs:List α)
theorem tM:eL t sz e []=.isl false 0 []:=rfl
theorem qR(x:α):eL t sz e (x::xs)=.isl t sz (e x::xs.map e):=rfl
theorem RY{xs:List α}(h:xs≠[]):eL t sz e xs=.isl t sz (xs.map e):=by
 cases xs with
 | nil=>exact absurd rfl h
 | cons x xs=>rfl
theorem OQ(h:aA):lenV h 1 (eL t sz e xs)=some (.int .i64 xs.length):=by cases xs<;>simp[tM,qR,lenV]
theorem Cs:aO 1 (eL t sz e xs)=true:=by cases xs<;>rfl
theorem wO:aF 1 (eL t sz e xs)=[eL t sz e xs]:=by cases xs<;>rfl
theorem fY(h:aA):elems h sz (eL t sz e xs)=some (xs.map e):=by cases xs<;>simp[tM,qR,elems]
theorem Ju{xs:List α}(k:IntKind){i:Nat}{a:α}(ha:xs[i]?=some a):aQ sz (eL t sz e xs) (.int k (i:Int))=some (.iptr t (aF sz (e a)) 0):=by
 have cT:xs≠[]:=by intro h0;subst h0;simp at ha
 rw[RY t sz e cT]
 simp[aQ,asI,ha]
theorem Gy{xs:List α}(k:IntKind){i:Int}{a:α}(h0:0≤i)(ha:xs[i.toNat]?=some a):aQ sz (eL t sz e xs) (.int k i)=some (.iptr t (aF sz (e a)) 0):=by
 obtain⟨n,rfl⟩:=Int.eq_ofNat_of_zero_le h0
 exact Ju t sz e k ha
end eL
def kJ(k:Nat)(d:DV):Prop:=∀tag h n,k≤n→resolve tag h n d=some d
def Unl(k:Nat)(d:DV):Prop:=∀n,k≤n→bA n d=true
theorem kJ.mono{k m:Nat}{d:DV}(h:kJ k d)(hk:k≤m):kJ m d:=fun t hp n hn=>h t hp n (Nat.le_trans hk hn)
theorem Unl.mono{k m:Nat}{d:DV}(h:Unl k d)(hk:k≤m):Unl m d:=fun n hn=>h n (Nat.le_trans hk hn)
theorem cL{k n:Nat}(h:k+1≤n):∃ m,n=m+1∧k≤m:=⟨n-1,by omega,by omega⟩
theorem gU(k:IntKind)(n:Int):kJ 1 (.int k n):=fun t h m hm=>by obtain⟨q,rfl,_⟩:=cL hm;rfl
theorem Ce(b:Bool):kJ 1 (.bool b):=fun t h m hm=>by obtain⟨q,rfl,_⟩:=cL hm;rfl
theorem JP(s:List UInt8):kJ 1 (.str s):=fun t h m hm=>by obtain⟨q,rfl,_⟩:=cL hm;rfl
theorem eX{α:Type}(t:Bool)(sz:Nat)(e:α→DV)(xs:List α):kJ 1 (eL t sz e xs):=fun tg h m hm=>by
 obtain⟨q,rfl,_⟩:=cL hm
 cases xs<;>rfl
theorem wI{f:DV→Option DV}:∀{cs:List DV},(∀x∈cs,f x=some x)→cs.mapM f=some cs:=by
 intro cs
 induction cs with
 | nil=>intro _;rfl
 | cons x r ih =>
  intro h
  rw[List.mapM_cons,h x (List.mem_cons_self ..),ih (fun y hy=>h y (List.mem_cons_of_mem _ hy))];rfl
theorem sB{k:Nat}{cs:List DV}(h:∀x∈cs,kJ k x):kJ (k+1) (.agg cs):=fun t hp m hm=>by
 obtain⟨q,rfl,hq⟩:=cL hm
 have:cs.mapM (resolve t hp q)=some cs:=wI fun x hx=>h x hx t hp q hq
 simp only[resolve,this]
theorem jG(k:IntKind)(n:Int):Unl 1 (.int k n):=fun m hm=>by obtain⟨q,rfl,_⟩:=cL hm;rfl
theorem Rm(b:Bool):Unl 1 (.bool b):=fun m hm=>by obtain⟨q,rfl,_⟩:=cL hm;rfl
theorem M4(s:List UInt8):Unl 1 (.str s):=fun m hm=>by obtain⟨q,rfl,_⟩:=cL hm;rfl
theorem Em{k:Nat}{cs:List DV}(h:∀x∈cs,Unl k x):Unl (k+1) (.agg cs):=fun m hm=>by
 obtain⟨q,rfl,hq⟩:=cL hm
 simp only[bA,List.all_eq_true]
 exact fun x hx=>h x hx q hq
theorem lG{α:Type}{k sz:Nat}{e:α→DV}{xs:List α}(h:∀x∈xs,Unl k (e x)):Unl (k+1) (eL false sz e xs):=fun m hm=>by
 obtain⟨q,rfl,hq⟩:=cL hm
 cases xs with
 | nil=>rfl
 | cons x r =>
  simp only[qR,bA,Bool.not_false,Bool.true_and,List.all_eq_true]
  intro y hy
  rw[←List.map_cons (f:=e)]at hy
  obtain⟨z,hz,rfl⟩:=List.mem_map.1 hy
  exact h z hz q hq
class Plain {α:Type} (e:α→DV):Prop where
 flat:∀x,kJ 20 (e x)
 unl:∀x,Unl 20 (e x)
inductive Own(lo:Nat)(h:aA)(v:DV)(ety sz:Nat)(xs:List DV):Prop where
 | nil (hv:v=.nsl) (hx:xs=[])
 | arr (id:Nat) (hv:v=.sl id sz 0 xs.length) (hg:h.get id=some (.arr ety sz xs none)) (bI:h.lim≤id) (eN:lo≤id)
structure Ext(lo:Nat)(h h':aA):Prop where
 le:lo≤h'.n
 lim:h'.lim=h.lim
 get:∀id,id<lo→h'.get id=h.get id
 wf:WF h'
theorem Ext.refl{lo:Nat}{h:aA}(cB:lo≤h.n)(w:WF h):Ext lo h h:=⟨cB,rfl,fun _ _=>rfl,w⟩
theorem Ext.trans{lo:Nat}{a b c:aA}(x:Ext lo a b)(y:Ext lo b c):Ext lo a c:=⟨y.le,y.lim.trans x.lim,fun id eB=>(y.get id eB).trans (x.get id eB),y.wf⟩
theorem Ext.push{lo:Nat}{h h':aA}{o:DO}(x:Ext lo h h'):Ext lo h (h'.push o) :=
 ⟨Nat.le_succ_of_le x.le,x.lim,fun id eB=>by rw[cJ,if_neg (by have:=x.le;omega)];exact x.get id eB,x.wf.push⟩
theorem Ext.set{lo:Nat}{h h':aA}{id:Nat}{o:DO}(x:Ext lo h h')(eB:lo≤id)(aZ:id<h'.n):Ext lo h (h'.set id o) :=
 ⟨x.le,x.lim,fun k hk=>by rw[cO x.wf aZ,if_neg (by omega)];exact x.get k hk,x.wf.set⟩
theorem Own.push{lo:Nat}{h:aA}{o:DO}{v:DV}{ety sz:Nat}{xs:List DV}(w:Own lo h v ety sz xs):Own lo (h.push o) v ety sz xs:=by
 cases w with
 | nil hv hx=>exact .nil hv hx
 | arr id hv hg bI eN =>
  refine .arr id hv ?_ bI eN
  rw[cJ,if_neg (by have:=aC hg;omega)];exact hg
theorem Own.start(lo:Nat)(h:aA)(ety sz:Nat):Own lo h .nsl ety sz []:=.nil rfl rfl
theorem Own.append{lo:Nat}{h:aA}{v:DV}{ety sz bytes:Nat}{xs ys:List DV}{A:Option (DV×aA)}(w:Own lo h v ety sz xs)(wf:WF h)(eN:lo≤h.n)(bI:h.lim≤h.n)(hA:bF h ety sz bytes v ys=A)
  (hb:(xs.length+ys.length)*bytes≤140737488355328) (Bz:1≤bytes):∃ v' h',A=some (v',h')∧Own lo h' v' ety sz (xs++ys)∧Ext lo h h':=by
 have hm:xs.length+ys.length≤140737488355328:=Nat.le_trans (Nat.le_mul_of_pos_right _ Bz) hb
 by_cases hy:ys=[]
 ·subst hy
  refine⟨v,h,?_,by simpa using w,.refl eN wf⟩
  rw[←hA]
  cases w with
  | nil hv hx=>subst hv;rfl
  | arr id hv hg _ _=>subst hv;rfl
 ·have Jx:ys.isEmpty=false:=by cases ys<;>simp_all
  have RH:0<ys.length:=List.length_pos_iff.2 hy
  cases w with
  | nil hv hx =>
   subst hv;subst hx
   simp only[List.length_nil,Nat.zero_add]at hb hm
   refine⟨.sl h.n sz 0 ys.length,h.push (.arr ety sz ys none),?_,.arr h.n rfl cX (by exact bI) eN,(Ext.refl eN wf).push⟩
   rw[←hA]
   simp only[bF,Jx]
   rw[if_neg (by simp),if_pos ⟨hb,by omega⟩]
  | arr id hv hg hl hi =>
   subst hv
   have aZ:=aC hg
   have e2:(h.set id DO.dead).n=h.n:=rfl
   refine⟨.sl h.n sz 0 (xs.length+ys.length),(h.set id .dead).push (.arr ety sz (xs++ys) none),?_,.arr h.n (by simp) ?_ (by exact bI) eN,(((Ext.refl eN wf).set hi aZ).push)⟩
   ·rw[←hA]
    simp only[bF,Jx,hg]
    simp only[Bool.false_eq_true,if_false,true_and,Nat.zero_add,Nat.le_refl]
    rw[if_pos ⟨hb,by omega⟩,if_neg (by omega),if_pos hl]
    simp
   ·exact cX
end Go.Dm
/-
Part 3 of "De": what own rows show; what a pure call hands back; the program's data by plain structures.
-/
namespace Go.Dm
section Own
variable {lo:Nat} {h:aA} {v:DV} {ety sz:Nat} {xs:List DV}
theorem Own.lenV(w:Own lo h v ety sz xs):lenV h 1 v=some (.int .i64 xs.length):=by
 cases w with
 | nil hv hx=>subst hv;subst hx;rfl
 | arr id hv hg hl hi=>subst hv;rfl
theorem Own.elems(w:Own lo h v ety sz xs):elems h sz v=some xs:=by
 cases w with
 | nil hv hx=>subst hv;subst hx;rfl
 | arr id hv hg hl hi=>subst hv;simp[Dm.elems,hg]
theorem Own.ext{lo:Nat}{h h':aA}(w:Own lo h v ety sz xs)(x:Ext h.n h h'):Own lo h' v ety sz xs:=by
 cases w with
 | nil hv hx=>exact .nil hv hx
 | arr id hv hg hl hi=>exact .arr id hv ((x.get id (aC hg)).trans hg) (by rw[x.lim];exact hl) hi
theorem Own.resolve{α:Type}{e:α→DV}{ys:List α}{k n:Nat}(tag:Bool)(w:Own lo h v ety sz (ys.map e))(hf:∀y∈ys,kJ k (e y))(hn:k+1≤n):resolve tag h n v=some (eL tag sz e ys):=by
 obtain⟨m,rfl,hm⟩:=cL hn
 cases w with
 | nil hv hx =>
  subst hv
  cases ys with
  | nil=>rfl
  | cons y r=>simp at hx
 | arr id hv hg hl hi =>
  subst hv
  have yG:(ys.map e).mapM (Dm.resolve tag h m)=some (ys.map e):=wI fun x hx=>by
   obtain⟨y,hy,rfl⟩:=List.mem_map.1 hx
   exact hf y hy tag h m hm
  simp only[Dm.resolve,hg,true_and,Nat.zero_add,Nat.le_refl,if_true,List.drop_zero,List.take_length,yG]
  rfl
end Own
theorem Tx{v d:DV}{h:aA}{k:Nat}(hr:resolve false h bT v=some d)(hu:Unl k d)(hk:k≤200):jS (some (v,h))=some d:=by
 simp only[jS,hr,hu bT hk,if_true]
theorem Own.out{lo:Nat}{h:aA}{v:DV}{ety sz:Nat}{α:Type}{e:α→DV}{ys:List α}{k:Nat}(w:Own lo h v ety sz (ys.map e))(hf:∀y∈ys,kJ k (e y))(hu:∀y∈ys,Unl k (e y))(hk:k≤198) :
  jS (some (v,h))=some (eL false sz e ys) :=
 Tx (k:=k+1) (w.resolve false hf (by show k+1≤200;omega)) (lG hu) (by omega)
theorem R8{D:bX}{f:Nat}{df:aK}(hh:D.hook f=none)(hf:D.fn f=some df)(args:List DV)(h:aA):fc D f args h=dH (ev D) df args h:=by
 rw[Vp,hh,hf]
theorem CL{α:Type}{xs:List α}{i:Nat}{a:α}{r:List α}(h:xs.drop i=a::r):i<xs.length∧xs[i]?=some a∧xs.drop (i+1)=r:=by
 have h1:i<xs.length:=by
  by_cases aZ:i<xs.length
  ·exact aZ
  ·rw[List.drop_eq_nil_of_le (by omega)]at h;cases h
 rw[List.drop_eq_getElem_cons h1]at h
 injection h with h2 h3
 exact⟨h1,by rw[List.getElem?_eq_getElem h1,h2],h3⟩
theorem jO{α:Type}{xs:List α}{i:Nat}{a:α}{r:List α}(h:xs.drop i=a::r):∃ hi:i<xs.length,xs[i]=a∧xs.drop (i+1)=r:=by
 obtain⟨h1,h2,h3⟩:=CL h
 exact⟨h1,by rw[List.getElem?_eq_getElem h1]at h2;injection h2,h3⟩
theorem iD{α:Type}{xs:List α}{i:Nat}(h:xs.drop i=[]):xs.length≤i:=List.drop_eq_nil_iff.1 h
structure ID where
 bK:Int
 seq:Int
 deriving DecidableEq,Inhabited
structure Val where
 isText:Bool
 n:Int
 text:List UInt8
 deriving DecidableEq,Inhabited
structure Att where
 name:List UInt8
 val:Val
 deriving DecidableEq,Inhabited
structure yX where
 name:List UInt8
 kind:Int
 lo:Int
 hi:Int
 text:List UInt8
 deriving DecidableEq,Inhabited
abbrev dR:=List yX
structure cP where
 id:ID
 pred:dR
 eQ:Int
 deriving DecidableEq,Inhabited
structure bM where
 tree:ID
 sub:ID
 pred:dR
 lW:Int
 up:Bool
 deriving DecidableEq,Inhabited
structure Xa where
 id:ID
 pred:dR
 deriving DecidableEq,Inhabited
structure aL where
 me:Int
 bB:List Int
 aY:List cP
 seen:List ID
 entries:List bM
 kR:List Xa
 deriving DecidableEq,Inhabited
structure Msg where
 kind:Int
 tree:ID
 id:ID
 pred:dR
 KQ:List Att
 deriving DecidableEq,Inhabited
structure Out where
 to:Int
 m:Msg
 deriving DecidableEq,Inhabited
def bW(n:Int):DV:=.int .i64 n
def Qk(s:List UInt8):DV:=.str s
def QI(a:Att):DV:=.agg [.str a.name,.bool a.val.isText,.int .i64 a.val.n,.str a.val.text]
def fZ(c:yX):DV:=.agg [.str c.name,.int .i64 c.kind,.int .i64 c.lo,.int .i64 c.hi,.str c.text]
def dY(p:dR):DV:=eL false 5 fZ p
def eID(x:ID):DV:=.agg [.int .i64 x.bK,.int .i64 x.seq]
def aG(a:cP):DV:=.agg [.int .i64 a.id.bK,.int .i64 a.id.seq,dY a.pred,.int .i64 a.eQ]
def bO(e:bM):DV:=.agg [.int .i64 e.tree.bK,.int .i64 e.tree.seq,.int .i64 e.sub.bK,.int .i64 e.sub.seq,dY e.pred,.int .i64 e.lW,.bool e.up]
def pQ(o:Xa):DV:=.agg [.int .i64 o.id.bK,.int .i64 o.id.seq,dY o.pred]
structure iE where
 bB:Bool
 aY:Bool
 seen:Bool
 entries:Bool
 kR:Bool
def iE.none:iE:=⟨false,false,false,false,false⟩
def aW(t:iE)(b:aL):DV:=.agg [.int .i64 b.me,eL t.bB 1 bW b.bB,eL t.aY 4 aG b.aY,eL t.seen 2 eID b.seen,eL t.entries 7 bO b.entries,eL t.kR 3 pQ b.kR]
def jN(m:Msg):DV:=.agg [.int .i64 m.kind,.int .i64 m.tree.bK,.int .i64 m.tree.seq,.int .i64 m.id.bK,.int .i64 m.id.seq,dY m.pred,eL false 4 QI m.KQ]
def oJ(o:Out):DV:=.agg [.int .i64 o.to,.int .i64 o.m.kind,.int .i64 o.m.tree.bK,.int .i64 o.m.tree.seq,.int .i64 o.m.id.bK,.int .i64 o.m.id.seq,dY o.m.pred,eL false 4 QI o.m.KQ]
theorem yA:Plain fZ:=⟨fun c=>(sB (k:=1) (by
  intro x hx;simp only[List.mem_cons,List.not_mem_nil,or_false]at hx
  rcases hx with rfl|rfl|rfl|rfl|rfl<;>first|exact gU _ _|exact JP _)).mono (by decide),fun c=>(Em (k:=1) (by
  intro x hx;simp only[List.mem_cons,List.not_mem_nil,or_false]at hx
  rcases hx with rfl|rfl|rfl|rfl|rfl<;>first|exact jG _ _|exact M4 _)).mono (by decide)⟩
theorem rJ(p:dR):Unl 21 (dY p):=lG fun x _=>yA.unl x
theorem Cd(p:dR):kJ 1 (dY p):=eX false 5 fZ p
end Go.Dm
/-
Part 4 of "De": the words by which 'simp' walks.
-/
namespace Go.Dm
theorem Ty(D:bX)(g:Opd)(args:List Opd)(env:Env)(h:aA):bC (fc D) (.call g args) env h=S4 D (args.map (Opd.eval env)) h (g.eval env):=A5 D h g args env
section
variable (c:Nat→List DV→aA→Option (DV×aA)) (h:aA) (env:Env)
theorem OC(x:Opd):bC c (.move x) env h=some (x.eval env,h):=rfl
theorem OB(x a b:Opd):bC c (.pick x a b) env h=cV h (HL (x.eval env) (a.eval env) (b.eval env)):=O3 ..
theorem HU(ety sz:Nat)(z:DV):bC c (.alloc ety sz z) env h=some (.ptr h.n sz 0 0,h.push (.arr ety sz [z] (some 1))):=rfl
theorem UW(ety sz:Nat)(x:Opd):bC c (.box ety sz x) env h=WZ h ety sz (x.eval env):=rfl
theorem HQ(zero:List DV)(parts:List (Nat×Nat×Opd)):bC c (.build zero parts) env h=XF h (fN zero (parts.map fun p=>(p.1,p.2.1,p.2.2.eval env))):=Sj ..
theorem Jp(ety sz:Nat)(z:DV)(len:Nat)(parts:List (Nat×Opd)):bC c (.buildSlice ety sz z len parts) env h=Ft h ety sz len (cW sz (List.replicate len z) (parts.map fun p=>(p.1,p.2.eval env))):=xC ..
theorem OD(n:Option Nat)(a:Opd):bC c (.load n a) env h=cV h (iW h n (a.eval env)):=O4 ..
theorem HN(n:Nat)(a x:Opd):bC c (.store n a x) env h=Fl (gZ h n (a.eval env) (x.eval env)):=Sf ..
theorem Ua(x:Opd):bC c (.nilCheck x) env h=cV h (wF (x.eval env)):=Cv ..
theorem HT(op:BinOp)(x y:Opd):bC c (.arith op x y) env h=cV h (bQ op (x.eval env) (y.eval env)):=Sl ..
theorem UT(neq:Bool)(x y:Opd):bC c (.eqb neq x y) env h=cV h (WK neq (x.eval env) (y.eval env)):=FO ..
theorem UU(neq:Bool)(ks:List Nat)(x y:Opd):bC c (.eqa neq ks x y) env h=cV h (Aj neq (fA (.agg ks) (x.eval env) (y.eval env))):=FP ..
theorem US(k:Nat)(neq:Bool)(x y:Opd):bC c (.eqn k neq x y) env h=cV h (Aj neq (rY k (x.eval env) (y.eval env))):=FN ..
theorem j7(op:UnOp)(x:Opd):bC c (.un op x) env h=cV h (unD op (x.eval env)):=RB ..
theorem OF(k:IntKind)(x:Opd):bC c (.conv k x) env h=cV h (KL k (x.eval env)):=O6 ..
theorem HR(x:Opd):bC c (.asStr x) env h=cV h (K8 (x.eval env)):=Sk ..
theorem Pb(off:Nat)(x:Opd):bC c (.fieldAddr off x) env h=cV h (tK off (x.eval env)):=zJ ..
theorem HP(off:Nat)(n:Option Nat)(x:Opd):bC c (.field off n x) env h=cV h (Hq off n (x.eval env)):=Si ..
theorem Pa(sz:Nat)(x i:Opd):bC c (.indexAddr sz x i) env h=cV h (aQ sz (x.eval env) (i.eval env)):=zI ..
theorem Ud(len esz:Nat)(x i:Opd):bC c (.indexArr len esz x i) env h=cV h (jJ len esz (x.eval env) (i.eval env)):=Cx ..
theorem HO(len esz:Nat)(n:Option Nat)(x i:Opd):bC c (.index len esz n x i) env h=cV h (D2 len esz n (x.eval env) (i.eval env)):=Sh ..
theorem Uc(x i:Opd):bC c (.indexStr x i) env h=cV h (Bx (x.eval env) (i.eval env)):=Cw ..
theorem Tz(x:Opd)(lo hi:Option Opd):bC c (.sliceStr x lo hi) env h=cV h (Bj (x.eval env) (lo.map (Opd.eval env)) (hi.map (Opd.eval env))):=Cu ..
theorem A6(sz:Nat)(x:Opd)(lo hi:Option Opd):bC c (.sliceSl sz x lo hi) env h=cV h (fC h sz (x.eval env) (lo.map (Opd.eval env)) (hi.map (Opd.eval env))):=Fo ..
theorem UR(k:Nat)(x:Opd):bC c (.len k x) env h=cV h (lenV h k (x.eval env)):=FM ..
theorem AL(ety sz bytes:Nat)(s x:Opd):bC c (.append ety sz bytes s x) env h=Qy h ety sz bytes (s.eval env) (elems h sz (x.eval env)):=Lc ..
theorem OE(sz:Nat)(d s:Opd):bC c (.copy sz d s) env h=KI h sz (d.eval env) (elems h sz (s.eval env)):=O5 ..
theorem AJ(mx:Bool)(x y:Opd):bC c (.minmax mx x y) env h=cV h (Pj mx (x.eval env) (y.eval env)):=La ..
theorem Ub(f:FuncId)(cap:List Opd):bC c (.makeFunc f cap) env h=some (.func f (cap.map (Opd.eval env)),h):=rfl
theorem A7:bC c .makeMap env h=some (.map h.n,h.push (.mp [])):=rfl
theorem A8(x:Opd)(i:Nat):bC c (.extract x i) env h=cV h (Am i (x.eval env)):=Fp ..
theorem Oz(t:TypeId)(x:Opd):bC c (.makeIface t x) env h=some (.iface t (x.eval env),h):=rfl
theorem AK(q:EqT)(z:DV)(ok:Bool)(m k:Opd):bC c (.lookup q z ok m k) env h=cV h (fP q z ok (k.eval env) (vK h (m.eval env))):=Lb ..
theorem Oy(q:EqT)(m k x:Opd):bC c (.mapUpdate q m k x) env h=Fl (zA h q (m.eval env) (k.eval env) (x.eval env)):=zH ..
end
theorem LZ(f:eI)(d i:Nat)(v:DV):upd f d v i=if i=d then v else f i:=rfl
theorem KX(args:List DV)(i:Nat):KY args i=args.getD i bH:=rfl
theorem AA(f:eI)(d:Nat)(v:DV):rS f (some d) v=upd f d v:=rfl
theorem AB(f:eI)(v:DV):rS f none v=f:=rfl
theorem d6(N:Nat)(f:eI)(i:Nat):rd N f i=if i<N then f i else .unk:=rfl
theorem C1(h:aA)(n:Option Nat)(l:Bool)(cs:List DV)(off:Nat):iW h n (.iptr l cs off)=cQ n cs off:=rfl
theorem j5(cs:List DV)(off:Nat):cQ none cs off=cs[off]?:=rfl
theorem i9(n:Nat)(cs:List DV)(off:Nat):cQ (some n) cs off=if off+n≤cs.length then some (.agg ((cs.drop off).take n))else none:=rfl
theorem Nx(n:Nat)(cs:List DV):aO n (.agg cs)=(cs.length == n):=rfl
theorem Nw(n:Nat)(k:IntKind)(m:Int):aO n (.int k m)=(n == 1):=rfl
theorem Je(n:Nat)(b:Bool):aO n (.bool b)=(n == 1):=rfl
theorem Nr(n:Nat)(s:List UInt8):aO n (.str s)=(n == 1):=rfl
theorem Ns(n a b c d:Nat):aO n (.ptr a b c d)=(n == 1):=rfl
theorem Sd(n a b c d:Nat):aO n (.sl a b c d)=(n == 1):=rfl
theorem Nt(n:Nat):aO n .nsl=(n == 1):=rfl
theorem Nv(n:Nat)(t:Bool)(s:Nat)(xs:List DV):aO n (.isl t s xs)=(n == 1):=rfl
theorem Jd(n:Nat)(f:Nat)(cs:List DV):aO n (.func f cs)=(n == 1):=rfl
theorem Nu(n:Nat)(i:Nat):aO n (.map i)=(n == 1):=rfl
theorem Fm(n:Nat)(t:Nat)(d:DV):aO n (.iface t d)=(n == 1):=rfl
theorem Jc(n:Nat):aO n .nili=(n == 1):=rfl
theorem Jb(n:Nat):aO n .nilp=(n == 1):=rfl
theorem Ja(p:dR):aO 1 (dY p)=true:=Cs ..
theorem EO(sz n:Nat)(e x:DV)(h:n=sz):turn sz 0 n e x=x:=by simp[turn,h]
theorem Ws(a b:Int):bQ .add (.int .i64 a) (.int .i64 b)=some (.int .i64 (IntKind.i64.wrap (a+b))):=by simp[bQ]
theorem Wq(a b:Int):bQ .sub (.int .i64 a) (.int .i64 b)=some (.int .i64 (IntKind.i64.wrap (a-b))):=by simp[bQ]
theorem Wr(a b:Int):bQ .mul (.int .i64 a) (.int .i64 b)=some (.int .i64 (IntKind.i64.wrap (a*b))):=by simp[bQ]
theorem DG(k:IntKind)(a b:Int):bQ .eql (.int k a) (.int k b)=some (.bool (a == b)):=by simp[bQ]
theorem DB(k:IntKind)(a b:Int):bQ .neq (.int k a) (.int k b)=some (.bool (a != b)):=by simp[bQ]
theorem DC(k:IntKind)(a b:Int):bQ .lss (.int k a) (.int k b)=some (.bool (decide (a<b))):=by simp[bQ]
theorem DD(k:IntKind)(a b:Int):bQ .leq (.int k a) (.int k b)=some (.bool (decide (a≤b))):=by simp[bQ]
theorem DE(k:IntKind)(a b:Int):bQ .gtr (.int k a) (.int k b)=some (.bool (decide (b<a))):=by simp[bQ]
theorem DF(k:IntKind)(a b:Int):bQ .geq (.int k a) (.int k b)=some (.bool (decide (b≤a))):=by simp[bQ]
theorem DA(a b:List UInt8):bQ .eql (.str a) (.str b)=some (.bool (a == b)):=rfl
theorem CV(a b:List UInt8):bQ .neq (.str a) (.str b)=some (.bool (!(a == b))):=rfl
theorem CW(a b:List UInt8):bQ .lss (.str a) (.str b)=some (.bool (Go.Op.bytesLess a b)):=rfl
theorem CX(a b:List UInt8):bQ .leq (.str a) (.str b)=some (.bool (Go.Op.bytesLess a b || a == b)):=rfl
theorem CY(a b:List UInt8):bQ .gtr (.str a) (.str b)=some (.bool (!(Go.Op.bytesLess a b || a == b))):=rfl
theorem CZ(a b:List UInt8):bQ .geq (.str a) (.str b)=some (.bool (!Go.Op.bytesLess a b)):=rfl
theorem SG(b:Bool):unD .not (.bool b)=some (.bool (!b)):=rfl
theorem SH(k:IntKind)(n:Int):unD .neg (.int k n)=some (.int k (k.wrap (0-n))):=rfl
theorem JV(ks:List Nat)(xs ys:List DV):fA (.agg ks) (.agg xs) (.agg ys)=bV ks xs ys:=rfl
theorem CE(k:Nat)(x y:DV):fA (.prim k) x y=fH k x y:=rfl
theorem Wk:bV [] [] []=some true:=rfl
theorem Wl(ks:List Nat)(a b:Int)(k:IntKind)(xs ys:List DV):bV (1::ks) (.int k a::xs) (.int k b::ys)=(bV ks xs ys).map ((a == b) && ·):=by
 simp only[bV,fH,and_self,if_true];cases bV ks xs ys<;>rfl
theorem Wj(ks:List Nat)(a b:List UInt8)(xs ys:List DV):bV (2::ks) (.str a::xs) (.str b::ys)=(bV ks xs ys).map ((a == b) && ·):=by
 simp only[bV,fH,if_true];cases bV ks xs ys<;>rfl
theorem Qs(ks:List Nat)(a b:Bool)(xs ys:List DV):bV (0::ks) (.bool a::xs) (.bool b::ys)=(bV ks xs ys).map ((a == b) && ·):=by
 simp only[bV,fH,if_true];cases bV ks xs ys<;>rfl
theorem Zw(k:IntKind)(a b:Int):fH 1 (.int k a) (.int k b)=some (a == b):=by simp[fH]
theorem Zv(a b:List UInt8):fH 2 (.str a) (.str b)=some (a == b):=by simp[fH]
theorem Tq(a b:Bool):fH 0 (.bool a) (.bool b)=some (a == b):=by simp[fH]
theorem JR(cs:List DV):fN cs []=some cs:=rfl
theorem BX(cs:List DV)(off n:Nat)(v:DV)(r:List (Nat×Nat×DV))(hs:aO n v=true)(ho:off+n≤cs.length):fN cs ((off,n,v)::r)=fN (cs.take off++aF n v++cs.drop (off+n)) r:=by
 simp[fN,hs,ho]
theorem BY(sz:Nat)(xs:List DV):cW sz xs []=some xs:=rfl
theorem F8(sz:Nat)(xs:List DV)(i:Nat)(v:DV)(r:List (Nat×DV))(hs:aO sz v=true)(hi:i<xs.length):cW sz xs ((i,v)::r)=cW sz (xs.set i v) r:=by
 simp[cW,hs,hi]
theorem Wc(sz:Nat)(cs:List DV):aF sz (.agg cs)=cs:=rfl
theorem I7(sz:Nat)(k:IntKind)(n:Int):aF sz (.int k n)=[.int k n]:=rfl
theorem Wb(sz:Nat)(n:Bool):aF sz (.bool n)=[.bool n]:=rfl
theorem G8(sz:Nat)(n:List UInt8):aF sz (.str n)=[.str n]:=rfl
theorem H8(sz:Nat):aF sz .nsl=[.nsl]:=rfl
theorem CI(sz a b c d:Nat):aF sz (.sl a b c d)=[.sl a b c d]:=rfl
theorem G9(sz a b c d:Nat):aF sz (.ptr a b c d)=[.ptr a b c d]:=rfl
theorem I6(sz:Nat)(t:Bool)(s:Nat)(xs:List DV):aF sz (.isl t s xs)=[.isl t s xs]:=rfl
theorem Wa(sz:Nat)(f:Nat)(cs:List DV):aF sz (.func f cs)=[.func f cs]:=rfl
theorem H9(sz:Nat)(i:Nat):aF sz (.map i)=[.map i]:=rfl
theorem Qj(sz t:Nat)(d:DV):aF sz (.iface t d)=[.iface t d]:=rfl
theorem Vz(sz:Nat):aF sz .nili=[.nili]:=rfl
theorem Vy(sz:Nat):aF sz .nilp=[.nilp]:=rfl
theorem Vw(p:dR):aF 1 (dY p)=[dY p]:=wO ..
theorem CG(h:aA)(sz:Nat):elems h sz .nsl=some []:=rfl
def IR(n:Option Nat)(sz off:Nat):Option DV→Option DV|some e=>cQ n (aF sz e) off|none=>none
theorem C7(n:Option Nat)(sz off:Nat)(e:DV):IR n sz off (some e)=cQ n (aF sz e) off:=rfl
def IQ(n:Option Nat)(sz idx off:Nat):Option DO→Option DV
 | some (.arr _ dI xs _)=>if sz=dI then IR n sz off xs[idx]? else none
 | _=>none
theorem C6(n:Option Nat)(sz idx off ety dI:Nat)(xs:List DV)(cap:Option Nat):IQ n sz idx off (some (.arr ety dI xs cap))=if sz=dI then IR n sz off xs[idx]? else none:=rfl
theorem IP(h:aA)(n:Option Nat)(id sz idx off:Nat):iW h n (.ptr id sz idx off)=IQ n sz idx off (h.get id):=by
 simp only[iW,IQ]
 cases h.get id with
 | none=>rfl
 | some o=>cases o with
  | arr e s xs c =>
   simp only
   split
   ·cases xs[idx]?<;>rfl
   ·rfl
  | _=>rfl
def Yj(h:aA)(n id sz idx off ety:Nat)(xs:List DV)(cap:Option Nat)(x:DV):Option DV→Option aA
 | some e=>if(aF sz e).length=sz then some (h.set id (.arr ety sz (xs.set idx (turn sz off n e x)) cap))else none
 | none=>none
theorem Sc(h:aA)(n id sz idx off ety:Nat)(xs:List DV)(cap:Option Nat)(x e:DV):Yj h n id sz idx off ety xs cap x (some e)=if(aF sz e).length=sz then some (h.set id (.arr ety sz (xs.set idx (turn sz off n e x)) cap))else none:=rfl
def Yi(h:aA)(n id sz idx off:Nat)(x:DV):Option DO→Option aA
 | some (.arr ety dI xs cap)=>if sz=dI∧h.lim≤id∧aO n x=true∧off+n≤sz then Yj h n id sz idx off ety xs cap x xs[idx]? else none
 | _=>none
theorem Sb(h:aA)(n id sz idx off:Nat)(x:DV)(ety dI:Nat)(xs:List DV)(cap:Option Nat):Yi h n id sz idx off x (some (.arr ety dI xs cap))=if sz=dI∧h.lim≤id∧aO n x=true∧off+n≤sz then Yj h n id sz idx off ety xs cap x xs[idx]? else none:=rfl
theorem X2(h:aA)(n id sz idx off:Nat)(x:DV):gZ h n (.ptr id sz idx off) x=Yi h n id sz idx off x (h.get id):=by
 simp only[gZ,Yi]
 cases h.get id with
 | none=>rfl
 | some o=>cases o with
  | arr e s xs c =>
   simp only
   split
   ·cases xs[idx]?<;>rfl
   ·rfl
  | _=>rfl
def G7(sz dI off len:Nat):Option DO→Option (List DV)
 | some (.arr _ jU xs _)=>if sz=dI∧sz=jU∧off+len≤xs.length then some ((xs.drop off).take len)else none
 | _=>none
theorem Vu(sz dI off len ety jU:Nat)(xs:List DV)(cap:Option Nat):G7 sz dI off len (some (.arr ety jU xs cap))=if sz=dI∧sz=jU∧off+len≤xs.length then some ((xs.drop off).take len)else none:=rfl
theorem JX(h:aA)(sz id dI off len:Nat):elems h sz (.sl id dI off len)=G7 sz dI off len (h.get id):=by
 simp only[elems,G7]
 cases h.get id with
 | none=>rfl
 | some o=>cases o<;>rfl
def Bi(sz id off:Nat)(lo:Option DV):Option Nat→Option DV
 | some b=>match cH lo 0 b with
  | some a=>some (.sl id sz (off+a) (b-a))
  | none=>none
 | none=>none
def Oc(sz dI id off len:Nat)(lo hi:Option DV):Option DO→Option DV
 | some (.arr _ jU xs _)=>if sz=dI∧sz=jU∧off+len≤xs.length then Bi sz id off lo (cH hi len (xs.length-off))else none
 | _=>none
theorem Da(sz dI id off len:Nat)(lo hi:Option DV)(ety jU:Nat)(xs:List DV)(cap:Option Nat):Oc sz dI id off len lo hi (some (.arr ety jU xs cap))=if sz=dI∧sz=jU∧off+len≤xs.length then Bi sz id off lo (cH hi len (xs.length-off))else none:=rfl
theorem X5(h:aA)(sz id dI off len:Nat)(lo hi:Option DV):fC h sz (.sl id dI off len) lo hi=Oc sz dI id off len lo hi (h.get id):=by
 simp only[fC,Oc]
 cases h.get id with
 | none=>rfl
 | some o=>cases o with
  | arr e s xs c =>
   simp only
   split
   ·cases cH hi len (xs.length-off)with
    | none=>rfl
    | some b=>first|(simp only[Bi];done)|(simp only[Bi];cases cH lo 0 b<;>rfl)
   ·rfl
  | _=>rfl
def UE(sz id off b:Nat):Option Nat→Option DV
 | some a=>some (.sl id sz (off+a) (b-a))
 | none=>none
theorem Ld(sz id off b a:Nat):UE sz id off b (some a)=some (.sl id sz (off+a) (b-a)):=rfl
theorem Cz(sz id off:Nat)(lo:Option DV)(b:Nat):Bi sz id off lo (some b)=UE sz id off b (cH lo 0 b):=by
 simp only[Bi,UE]
def KJ(h:aA)(sz dI id off len:Nat)(ys:List DV):Option DO→Option (DV×aA)
 | some (.arr ety jU xs cap)=>if sz=dI∧sz=jU∧off+len≤xs.length∧h.lim≤id then some (.int .i64 (ys.take len).length,h.set id (.arr ety sz (cF xs (ys.take len) off) cap))else none
 | _=>none
theorem J2(h:aA)(sz dI id off len:Nat)(ys:List DV)(ety jU:Nat)(xs:List DV)(cap:Option Nat):KJ h sz dI id off len ys (some (.arr ety jU xs cap))=if sz=dI∧sz=jU∧off+len≤xs.length∧h.lim≤id then some (.int .i64 (ys.take len).length,h.set id (.arr ety sz (cF xs (ys.take len) off) cap))else none:=rfl
theorem KK(h:aA)(sz id dI off len:Nat)(ys:List DV):vN h sz (.sl id dI off len) ys=KJ h sz dI id off len ys (h.get id):=by
 simp only[vN,KJ]
 cases h.get id with
 | none=>rfl
 | some o=>cases o<;>rfl
def J6(h:aA):DV→Option DV
 | .nsl=>some (.int .i64 0)
 | .sl id sz off _=>match h.get id with
  | some (.arr _ dI _ (some c))=>if sz=dI then some (.int .i64 (c-off:Nat))else none
  | some (.arr _ dI xs none)=>if sz=dI then some (.atl (xs.length-off))else none
  | _=>none
 | _=>none
theorem FQ(h:aA)(env:Env)(x:Opd):aB h env (.cap x)=cV h (J6 h (x.eval env)):=by
 simp only[aB,J6]
 cases x.eval env with
 | sl id sz off len =>
  simp only
  cases h.get id with
  | none=>rfl
  | some o=>cases o with
   | arr e s xs c=>cases c<;>simp only<;>split<;>rfl
   | _=>rfl
 | _=>rfl
theorem UV(c:Nat→List DV→aA→Option (DV×aA))(h:aA)(env:Env)(x:Opd):bC c (.cap x) env h=cV h (J6 h (x.eval env)):=FQ h env x
def QM(sz off:Nat):Option DO→Option DV
 | some (.arr _ dI _ (some c))=>if sz=dI then some (.int .i64 (c-off:Nat))else none
 | some (.arr _ dI xs none)=>if sz=dI then some (.atl (xs.length-off))else none
 | _=>none
theorem QL(h:aA)(id sz off len:Nat):J6 h (.sl id sz off len)=QM sz off (h.get id):=by
 simp only[J6,QM]
theorem CR(sz off ety dI:Nat)(xs:List DV):QM sz off (some (.arr ety dI xs none))=if sz=dI then some (.atl (xs.length-off))else none:=rfl
theorem CQ(sz off ety dI:Nat)(xs:List DV)(c:Nat):QM sz off (some (.arr ety dI xs (some c)))=if sz=dI then some (.int .i64 (c-off:Nat))else none:=rfl
theorem L3(a:Int)(n:Nat)(h:a≤(n:Int)):bQ .gtr (.int .i64 a) (.atl n)=some (.bool false):=by simp[bQ,h]
def Wv(h:aA)(ety sz bytes:Nat)(z s:DV)(x:DV):Option (DV×aA):=match asI x with
  | some n=>if 0≤n∧n≤140737488355328 then bF h ety sz bytes s (List.replicate n.toNat z)else none
  | none=>none
theorem A9(c:Nat→List DV→aA→Option (DV×aA))(h:aA)(env:Env)(ety sz bytes:Nat)(z:DV)(s x:Opd):bC c (.appendZ ety sz bytes z s x) env h=Wv h ety sz bytes z (s.eval env) (x.eval env):=rfl
theorem Qw(h:aA)(ety sz bytes:Nat)(z s:DV)(k:IntKind)(n:Int):Wv h ety sz bytes z s (.int k n)=if 0≤n∧n≤140737488355328 then bF h ety sz bytes s (List.replicate n.toNat z)else none:=rfl
theorem NA{h:aA}{id:Nat}{o o':DO}:(h.set id o).set id o'=h.set id o':=by
 simp[aA.set]
theorem Rj{h:aA}{o:DO}:WF (h.push o)↔WF h:=⟨fun w=>by unfold WF at *;simpa[aA.push]using w,fun w=>w.push⟩
theorem Xk{h:aA}{id:Nat}{o:DO}:WF (h.set id o)↔WF h:=⟨fun w=>by unfold WF at *;simpa[aA.set]using w,fun w=>w.set⟩
theorem Hj{h:aA}{id k:Nat}{o:DO}(w:WF h)(eB:id<h.n):(h.set id o).get k=if k=id then some o else h.get k:=cO w eB
def wl(h:aA)(l:Nat):aA:={h with lim:=l}
theorem U4{h:aA}{l:Nat}:WF (wl h l)↔WF h:=Iff.rfl
theorem WF.wl{h:aA}(w:WF h)(l:Nat):WF (Dm.wl h l):=w
def crV(h:aA)(L:cD):Option (DV×aA)→Option (DV×aA×cD)
 | some (v,h')=>some (v,wl h' h.lim,L)
 | none=>none
theorem KF(h:aA)(L:cD)(v:DV)(h':aA):crV h L (some (v,h'))=some (v,wl h' h.lim,L):=rfl
theorem fM(c:fG)(l r:Nat)(L:cD)(o:DOp)(env:Env)(h:aA)(hp:kQ L env o=none)(hq:zV env o=false):cK c l r L o env h=crV h L (bC c o env (wl h (max l h.lim))):=by
 unfold cK
 rw[hp,hq]
 simp only[lQ,wl]
 cases bC c o env {h with lim:=max l h.lim} with
 | some p=>rfl
 | none=>rfl
def Ov:DV→Bool|.func g _=>P4 g|_=>false
theorem Ts(g:FuncId)(cap:List DV):Ov (.func g cap)=P4 g:=rfl
def pkC(r:Nat)(L:cD)(h:aA):Option (DV×aA)→Option (DV×aA×cD)
 | some (v,h')=>if(wR h h').all (fun id=>L.rds.all fun x=>!(Nat.beq x.1 id))=true then some (v,h',{L with pks:=(wR h h').map (fun id=>(r,id))++L.pks})else none
 | none=>none
theorem Kh(c:fG)(l r:Nat)(L:cD)(g:Opd)(as:List Opd)(env:Env)(h:aA):cK c l r L (.call g as) env h=if Ov (g.eval env)=true then pkC r L h (bC c (.call g as) env h)else crV h L (bC c (.call g as) env (wl h (max l h.lim))):=by
 have hq:zV env (.call g as)=Ov (g.eval env):=by simp only[zV,Ov];cases g.eval env<;>rfl
 split
 ·rename_i ht
  unfold cK
  rw[show kQ L env (.call g as)=none from rfl,hq,ht]
  simp only[lM,pkC]
  cases bC c (.call g as) env h<;>rfl
 ·rename_i hf
  exact fM _ _ _ _ _ _ _ rfl (by rw[hq];simpa using hf)
theorem Ia(c:fG)(l r:Nat)(L:cD)(e s:Nat)(z:DV)(env:Env)(h:aA):cK c l r L (.alloc e s z) env h=crV h L (bC c (.alloc e s z) env (wl h (max l h.lim))):=fM _ _ _ _ _ _ _ rfl rfl
theorem Qm(c:fG)(l r:Nat)(L:cD)(e s:Nat)(z:Opd)(env:Env)(h:aA):cK c l r L (.box e s z) env h=crV h L (bC c (.box e s z) env (wl h (max l h.lim))):=fM _ _ _ _ _ _ _ rfl rfl
theorem wY(c:fG)(l r:Nat)(L:cD)(e s:Nat)(z:DV)(n:Nat)(ps:List (Nat×Opd))(env:Env)(h:aA):cK c l r L (.buildSlice e s z n ps) env h=crV h L (bC c (.buildSlice e s z n ps) env (wl h (max l h.lim))):=fM _ _ _ _ _ _ _ rfl rfl
theorem Kg(c:fG)(l r:Nat)(L:cD)(s:Nat)(d x:Opd)(env:Env)(h:aA):cK c l r L (.copy s d x) env h=crV h L (bC c (.copy s d x) env (wl h (max l h.lim))):=fM _ _ _ _ _ _ _ rfl rfl
theorem Cj(c:fG)(l r:Nat)(L:cD)(env:Env)(h:aA):cK c l r L .makeMap env h=crV h L (bC c .makeMap env (wl h (max l h.lim))):=fM _ _ _ _ _ _ _ rfl rfl
def HE:DV→Option Nat|.ptr id ..=>some id|_=>none
def Fu:DV→Option Nat|.sl id ..=>some id|_=>none
def mapId:DV→Option Nat|.map id=>some id|_=>none
section
variable (env:Env)
theorem ML(n:Option Nat)(a:Opd):bN env (.load n a)=HE (a.eval env):=by simp only[bN];cases a.eval env<;>rfl
theorem Rq(sz:Nat)(x:Opd)(lo hi:Option Opd):bN env (.sliceSl sz x lo hi)=Fu (x.eval env):=by simp only[bN];cases x.eval env<;>rfl
theorem ET(x:Opd):bN env (.cap x)=Fu (x.eval env):=by simp only[bN];cases x.eval env<;>rfl
theorem EQ(k:Nat)(x:Opd):bN env (.len k x)=mapId (x.eval env):=by simp only[bN];cases x.eval env<;>rfl
theorem Kx(q:EqT)(z:DV)(ok:Bool)(m k:Opd):bN env (.lookup q z ok m k)=mapId (m.eval env):=by simp only[bN];cases m.eval env<;>rfl
theorem MK(x:Opd):bN env (.move x)=none:=_root_.id rfl
theorem MJ(c a b:Opd):bN env (.pick c a b)=none:=_root_.id rfl
theorem EU(z:List DV)(ps:List (Nat×Nat×Opd)):bN env (.build z ps)=none:=_root_.id rfl
theorem EW(op:BinOp)(x y:Opd):bN env (.arith op x y)=none:=_root_.id rfl
theorem SO(n:Bool)(x y:Opd):bN env (.eqb n x y)=none:=_root_.id rfl
theorem SP(n:Bool)(ks:List Nat)(x y:Opd):bN env (.eqa n ks x y)=none:=_root_.id rfl
theorem SN(k:Nat)(n:Bool)(x y:Opd):bN env (.eqn k n x y)=none:=_root_.id rfl
theorem XO(op:UnOp)(x:Opd):bN env (.un op x)=none:=_root_.id rfl
theorem MM(k:IntKind)(x:Opd):bN env (.conv k x)=none:=_root_.id rfl
theorem EV(x:Opd):bN env (.asStr x)=none:=_root_.id rfl
theorem Rr(x:Opd):bN env (.nilCheck x)=none:=_root_.id rfl
theorem My(o:Nat)(x:Opd):bN env (.fieldAddr o x)=none:=_root_.id rfl
theorem ES(o:Nat)(n:Option Nat)(x:Opd):bN env (.field o n x)=none:=_root_.id rfl
theorem Mx(s:Nat)(x i:Opd):bN env (.indexAddr s x i)=none:=_root_.id rfl
theorem Ru(l e:Nat)(x i:Opd):bN env (.indexArr l e x i)=none:=_root_.id rfl
theorem ER(l e:Nat)(n:Option Nat)(x i:Opd):bN env (.index l e n x i)=none:=_root_.id rfl
theorem Rt(x i:Opd):bN env (.indexStr x i)=none:=_root_.id rfl
theorem Rp(x:Opd)(lo hi:Option Opd):bN env (.sliceStr x lo hi)=none:=_root_.id rfl
theorem U7(b:Bool)(x y:Opd):bN env (.minmax b x y)=none:=_root_.id rfl
theorem Rs(f:FuncId)(c:List Opd):bN env (.makeFunc f c)=none:=_root_.id rfl
theorem Xr(x:Opd)(i:Nat):bN env (.extract x i)=none:=_root_.id rfl
theorem Mw(t:TypeId)(x:Opd):bN env (.makeIface t x)=none:=_root_.id rfl
def AP:Option Nat→Option (Nat×jT)
 | some id=>some (id,none)
 | none=>none
theorem AN(id:Nat):AP (some id)=some (id,none):=_root_.id rfl
theorem AO:AP none=none:=_root_.id rfl
def HD(n:Option Nat):DV→Option (Nat×jT)
 | .ptr id sz i o=>some (id,some (n,sz,i,o))
 | _=>none
theorem AD(n:Option Nat)(id sz i o:Nat):HD n (.ptr id sz i o)=some (id,some (n,sz,i,o)):=_root_.id rfl
theorem Zt(n:Option Nat)(l:Bool)(cs:List DV)(o:Nat):HD n (.iptr l cs o)=none:=_root_.id rfl
theorem OI(n:Option Nat)(a:Opd):mark env (.load n a)=HD n (a.eval env):=by simp only[mark];cases a.eval env<;>rfl
theorem HX(sz:Nat)(x:Opd)(lo hi:Option Opd):mark env (.sliceSl sz x lo hi)=AP (Fu (x.eval env)):=by rw[←Rq env];simp only[mark];cases bN env (.sliceSl sz x lo hi)<;>rfl
theorem VD(x:Opd):mark env (.cap x)=AP (Fu (x.eval env)):=by rw[←ET env];simp only[mark];cases bN env (.cap x)<;>rfl
theorem UZ(k:Nat)(x:Opd):mark env (.len k x)=AP (mapId (x.eval env)):=by rw[←EQ env];simp only[mark];cases bN env (.len k x)<;>rfl
theorem AT(q:EqT)(z:DV)(ok:Bool)(m k:Opd):mark env (.lookup q z ok m k)=AP (mapId (m.eval env)):=by rw[←Kx env];simp only[mark];cases bN env (.lookup q z ok m k)<;>rfl
theorem OH(x:Opd):mark env (.move x)=none:=_root_.id rfl
theorem OG(c a b:Opd):mark env (.pick c a b)=none:=_root_.id rfl
theorem IA(z:List DV)(ps:List (Nat×Nat×Opd)):mark env (.build z ps)=none:=_root_.id rfl
theorem IE(op:BinOp)(x y:Opd):mark env (.arith op x y)=none:=_root_.id rfl
theorem VB(n:Bool)(x y:Opd):mark env (.eqb n x y)=none:=_root_.id rfl
theorem VC(n:Bool)(ks:List Nat)(x y:Opd):mark env (.eqa n ks x y)=none:=_root_.id rfl
theorem VA(k:Nat)(n:Bool)(x y:Opd):mark env (.eqn k n x y)=none:=_root_.id rfl
theorem k9(op:UnOp)(x:Opd):mark env (.un op x)=none:=_root_.id rfl
theorem OJ(k:IntKind)(x:Opd):mark env (.conv k x)=none:=_root_.id rfl
theorem IB(x:Opd):mark env (.asStr x)=none:=_root_.id rfl
theorem Ui(x:Opd):mark env (.nilCheck x)=none:=_root_.id rfl
theorem Ph(o:Nat)(x:Opd):mark env (.fieldAddr o x)=none:=_root_.id rfl
theorem HZ(o:Nat)(n:Option Nat)(x:Opd):mark env (.field o n x)=none:=_root_.id rfl
theorem Pg(s:Nat)(x i:Opd):mark env (.indexAddr s x i)=none:=_root_.id rfl
theorem Ul(l e:Nat)(x i:Opd):mark env (.indexArr l e x i)=none:=_root_.id rfl
theorem HY(l e:Nat)(n:Option Nat)(x i:Opd):mark env (.index l e n x i)=none:=_root_.id rfl
theorem Uk(x i:Opd):mark env (.indexStr x i)=none:=_root_.id rfl
theorem Uh(x:Opd)(lo hi:Option Opd):mark env (.sliceStr x lo hi)=none:=_root_.id rfl
theorem AS(b:Bool)(x y:Opd):mark env (.minmax b x y)=none:=_root_.id rfl
theorem Uj(f:FuncId)(c:List Opd):mark env (.makeFunc f c)=none:=_root_.id rfl
theorem B5(x:Opd)(i:Nat):mark env (.extract x i)=none:=_root_.id rfl
theorem Pf(t:TypeId)(x:Opd):mark env (.makeIface t x)=none:=_root_.id rfl
end
theorem AE(a b c d:Nat):HE (.ptr a b c d)=some a:=_root_.id rfl
theorem Zu(l:Bool)(cs:List DV)(o:Nat):HE (.iptr l cs o)=none:=_root_.id rfl
theorem MX(a b c d:Nat):Fu (.sl a b c d)=some a:=_root_.id rfl
theorem FV:Fu .nsl=none:=_root_.id rfl
theorem MY{α:Type}(t:Bool)(sz:Nat)(e:α→DV)(xs:List α):Fu (eL t sz e xs)=none:=by cases xs<;>rfl
theorem AX(i:Nat):mapId (.map i)=some i:=_root_.id rfl
theorem IJ{α:Type}(t:Bool)(sz:Nat)(e:α→DV)(xs:List α):mapId (eL t sz e xs)=none:=by cases xs<;>rfl
theorem II(a b c d:Nat):mapId (.sl a b c d)=none:=_root_.id rfl
theorem AW:mapId .nsl=none:=_root_.id rfl
theorem AV(s:List UInt8):mapId (.str s)=none:=_root_.id rfl
theorem BA:cD.start=⟨[],[]⟩:=_root_.id rfl
theorem IN(L:cD)(t:Option (Nat×jT)):cD.see L true t=L:=_root_.id rfl
theorem ON(L:cD)(t:Option (Nat×jT)):cD.see L false t=cD.read L t:=_root_.id rfl
theorem IL(r:List (Nat×jT))(p:List (Nat×Nat))(x:Nat×jT):cD.read ⟨r,p⟩ (some x)=⟨x::r,p⟩:=_root_.id rfl
theorem BB(L:cD):cD.read L none=L:=_root_.id rfl
theorem BD(r:List (Nat×jT))(s:Nat)(t:Option Nat):cD.free ⟨r,[]⟩ s t=true:=by cases t<;>rfl
theorem BC(L:cD)(s:Nat):cD.free L s none=true:=_root_.id rfl
theorem IM(r:List (Nat×jT))(p:Nat×Nat)(ps:List (Nat×Nat))(s id:Nat):cD.free ⟨r,p::ps⟩ s (some id)=((decide (p.1<s) || !decide (p.2=id)) && cD.free ⟨r,ps⟩ s (some id)):=by
 have e1:Nat.blt p.1 s=decide (p.1<s):=by rw[Bool.eq_iff_iff];simp[Nat.blt_eq]
 have e2:Nat.beq p.2 id=decide (p.2=id):=by rw[Bool.eq_iff_iff];simp
 simp only[cD.free,List.all_cons,e1,e2]
theorem L4(m:Option Nat)(z i o n idx off:Nat):oC (some (m,z,i,o)) n idx off=(!decide (i=idx) || decide (o+Fd m≤off) || decide (off+n≤o)):=by
 have e2:Nat.beq i idx=decide (i=idx):=by rw[Bool.eq_iff_iff];simp
 have e3:Nat.ble (o+Fd m) off=decide (o+Fd m≤off):=by rw[Bool.eq_iff_iff];simp
 have e4:Nat.ble (off+n) o=decide (off+n≤o):=by rw[Bool.eq_iff_iff];simp
 simp only[oC,e2,e3,e4]
theorem L5(n idx off:Nat):oC none n idx off=false:=_root_.id rfl
theorem Xj:Fd none=1:=_root_.id rfl
theorem Xi(n:Nat):Fd (some n)=n:=_root_.id rfl
def pkA(L:cD):Option Nat→Option Nat
 | some id=>if L.rds.all (fun x=>!decide (x.1=id))=true then some id else none
 | none=>none
theorem HJ(r:List (Nat×jT))(p:List (Nat×Nat))(id:Nat):pkA ⟨r,p⟩ (some id)=if r.all (fun x=>!decide (x.1=id))=true then some id else none:=_root_.id rfl
theorem HK(L:cD):pkA L none=none:=_root_.id rfl
theorem i8(L:cD)(id:Nat):(L.rds.all fun x=>!(Nat.beq x.1 id))=(L.rds.all fun x=>!decide (x.1=id)):=by
 congr 1;funext x
 have e2:Nat.beq x.1 id=decide (x.1=id):=by rw[Bool.eq_iff_iff];simp
 rw[e2]
def pkS(L:cD)(n:Nat):DV→Option Nat
 | .ptr id _ idx off=>if L.rds.all (fun x=>!decide (x.1=id) || oC x.2 n idx off)=true then some id else none
 | _=>none
theorem NW(r:List (Nat×jT))(p:List (Nat×Nat))(n id sz idx off:Nat):pkS ⟨r,p⟩ n (.ptr id sz idx off)=if r.all (fun x=>!decide (x.1=id) || oC x.2 n idx off)=true then some id else none:=_root_.id rfl
theorem HI(L:cD)(n:Nat)(l:Bool)(cs:List DV)(o:Nat):pkS L n (.iptr l cs o)=none:=_root_.id rfl
theorem HG(L:cD)(env:Env)(n:Nat)(a x:Opd):kQ L env (.store n a x)=pkS L n (a.eval env):=by
 simp only[kQ]
 cases a.eval env<;>try rfl
 rename_i id sz idx off
 have:(L.rds.all fun x=>!(Nat.beq x.1 id) || oC x.2 n idx off)=(L.rds.all fun x=>!decide (x.1=id) || oC x.2 n idx off):=by
  congr 1;funext x
  have e2:Nat.beq x.1 id=decide (x.1=id):=by rw[Bool.eq_iff_iff];simp
  rw[e2]
 simp only[this];rfl
theorem AG(L:cD)(env:Env)(e s b:Nat)(a x:Opd):kQ L env (.append e s b a x)=pkA L (Fu (a.eval env)):=by
 simp only[kQ,pkA,Fu,i8];cases a.eval env<;>rfl
def pkV(L:cD)(r id:Nat):Option (DV×aA)→Option (DV×aA×cD)
 | some (v,h')=>some (v,h',⟨L.rds,(r,id)::L.pks⟩)
 | none=>none
theorem HH(rs:List (Nat×jT))(ps:List (Nat×Nat))(r id:Nat)(v:DV)(h':aA):pkV ⟨rs,ps⟩ r id (some (v,h'))=some (v,h',⟨rs,(r,id)::ps⟩):=_root_.id rfl
def crP(c:fG)(l r:Nat)(L:cD)(o:DOp)(env:Env)(h:aA):Option Nat→Option (DV×aA×cD)
 | some id=>pkV L r id (aB h env o)
 | none=>crV h L (bC c o env (wl h (max l h.lim)))
theorem KG(c:fG)(l r:Nat)(L:cD)(o:DOp)(env:Env)(h:aA)(id:Nat):crP c l r L o env h (some id)=pkV L r id (aB h env o):=_root_.id rfl
theorem KH(c:fG)(l r:Nat)(L:cD)(o:DOp)(env:Env)(h:aA):crP c l r L o env h none=crV h L (bC c o env (wl h (max l h.lim))):=_root_.id rfl
theorem Ds(c:fG)(l r:Nat)(L:cD)(o:DOp)(env:Env)(h:aA)(hq:zV env o=false):cK c l r L o env h=crP c l r L o env h (kQ L env o):=by
 cases hp:kQ L env o with
 | none=>rw[fM _ _ _ _ _ _ _ hp hq];rfl
 | some id =>
  unfold cK
  rw[hp]
  simp only[crP,pkV]
  cases aB h env o with
  | none=>rfl
  | some q=>rfl
theorem Hx(c:fG)(l r:Nat)(L:cD)(n:Nat)(a x:Opd)(env:Env)(h:aA):cK c l r L (.store n a x) env h=crP c l r L (.store n a x) env h (pkS L n (a.eval env)):=by rw[Ds _ _ _ _ _ _ _ rfl,HG]
theorem Ej(c:fG)(l r:Nat)(L:cD)(e s b:Nat)(a x:Opd)(env:Env)(h:aA):cK c l r L (.append e s b a x) env h=crP c l r L (.append e s b a x) env h (pkA L (Fu (a.eval env))):=by rw[Ds _ _ _ _ _ _ _ rfl,AG]
theorem yO(c:fG)(l r:Nat)(L:cD)(q:EqT)(m k x:Opd)(env:Env)(h:aA):cK c l r L (.mapUpdate q m k x) env h=crV h L (bC c (.mapUpdate q m k x) env (wl h (max l h.lim))):=fM _ _ _ _ _ _ _ rfl rfl
theorem NS(t:Bool)(h:aA)(n:Nat)(k:IntKind)(m:Int):resolve t h (n+1) (.int k m)=some (.int k m):=rfl
theorem GW(t:Bool)(h:aA)(n:Nat)(m:Bool):resolve t h (n+1) (.bool m)=some (.bool m):=rfl
theorem NQ(t:Bool)(h:aA)(n:Nat)(m:List UInt8):resolve t h (n+1) (.str m)=some (.str m):=rfl
theorem NR(t:Bool)(h:aA)(n:Nat):resolve t h (n+1) .nsl=some (.isl false 0 []):=rfl
theorem GU(t:Bool)(h:aA)(n:Nat)(l:Bool)(cs:List DV)(o:Nat):resolve t h (n+1) (.iptr l cs o)=some (.iptr l cs o):=rfl
theorem GV{α:Type}(t:Bool)(h:aA)(n:Nat)(t':Bool)(sz:Nat)(e:α→DV)(xs:List α):resolve t h (n+1) (eL t' sz e xs)=some (eL t' sz e xs):=eX t' sz e xs t h (n+1) (by omega)
theorem Tj(t:Bool)(h:aA)(n:Nat)(p:dR):resolve t h (n+1) (dY p)=some (dY p):=GV ..
theorem GT(t:Bool)(h:aA)(n:Nat):resolve t h (n+1) .nili=some .nili:=rfl
theorem GS(t:Bool)(h:aA)(n:Nat):resolve t h (n+1) .nilp=some .nilp:=rfl
theorem Fb(t:Bool)(h:aA)(v:DV):resolve t h bT v=resolve t h (199+1) v:=rfl
def uP(t:Bool)(h:aA)(n:Nat)(vs:List DV):Option (List DV):=vs.mapM (resolve t h n)
theorem NT(t:Bool)(h:aA)(n:Nat)(vs:List DV):vs.mapM (resolve t h n)=uP t h n vs:=rfl
theorem GX(t:Bool)(h:aA)(n:Nat):uP t h n []=some []:=rfl
def RZ:Option DV→Option (List DV)→Option (List DV)
 | some x,some l=>some (x::l)
 | _,_=>none
theorem J3(x:DV)(l:List DV):RZ (some x) (some l)=some (x::l):=rfl
theorem Z6(t:Bool)(h:aA)(n:Nat)(v:DV)(vs:List DV):uP t h n (v::vs)=RZ (resolve t h n v) (uP t h n vs):=by
 unfold uP
 rw[List.mapM_cons]
 cases resolve t h n v<;>cases vs.mapM (resolve t h n)<;>rfl
def x8:Option (List DV)→Option DV|some c=>some (.agg c)|none=>none
def XM:Option (List DV)→Option DV|some c=>some (.tup c)|none=>none
def n7(f:Nat):Option (List DV)→Option DV|some c=>some (.func f c)|none=>none
theorem DK(c:List DV):x8 (some c)=some (.agg c):=rfl
theorem U6(c:List DV):XM (some c)=some (.tup c):=rfl
theorem BS(f:Nat)(c:List DV):n7 f (some c)=some (.func f c):=rfl
theorem P3(t:Bool)(h:aA)(n:Nat)(cs:List DV):resolve t h (n+1) (.agg cs)=x8 (uP t h n cs):=by
 simp only[resolve];unfold uP;cases cs.mapM (resolve t h n)<;>rfl
theorem NP(t:Bool)(h:aA)(n:Nat)(cs:List DV):resolve t h (n+1) (.tup cs)=XM (uP t h n cs):=by
 simp only[resolve];unfold uP;cases cs.mapM (resolve t h n)<;>rfl
theorem Gd(t:Bool)(h:aA)(n:Nat)(f:Nat)(cs:List DV):resolve t h (n+1) (.func f cs)=n7 f (uP t h n cs):=by
 simp only[resolve];unfold uP;cases cs.mapM (resolve t h n)<;>rfl
def IZ(t:Bool)(off:Nat):Option (List DV)→Option DV|some c=>some (.iptr t c off)|none=>none
theorem D0(t:Bool)(off:Nat)(c:List DV):IZ t off (some c)=some (.iptr t c off):=rfl
def NU(t:Bool)(h:aA)(n sz off:Nat):Option DV→Option DV|some e=>IZ t off (uP t h n (aF sz e))|none=>none
theorem Z7(t:Bool)(h:aA)(n sz off:Nat)(e:DV):NU t h n sz off (some e)=IZ t off (uP t h n (aF sz e)):=rfl
def Ot(t:Bool)(h:aA)(n sz idx off:Nat):Option DO→Option DV
 | some (.arr _ dI xs _)=>if sz=dI then NU t h n sz off xs[idx]? else none
 | _=>none
theorem Oq(t:Bool)(h:aA)(n sz idx off ety dI:Nat)(xs:List DV)(cap:Option Nat):Ot t h n sz idx off (some (.arr ety dI xs cap))=if sz=dI then NU t h n sz off xs[idx]? else none:=rfl
theorem Zm(t:Bool)(h:aA)(n id sz idx off:Nat):resolve t h (n+1) (.ptr id sz idx off)=Ot t h n sz idx off (h.get id):=by
 simp only[resolve,Ot]
 cases h.get id with
 | none=>rfl
 | some o=>cases o with
  | arr e s xs c =>
   simp only
   split
   ·cases xs[idx]? with
    | none=>rfl
    | some x=>simp only[NU,uP];cases(aF sz x).mapM (resolve t h n)<;>rfl
   ·rfl
  | _=>rfl
def VH(t:Bool)(sz:Nat):Option (List DV)→Option DV|some ys=>some (mkIsl t sz ys)|none=>none
theorem BG(t:Bool)(sz:Nat)(ys:List DV):VH t sz (some ys)=some (mkIsl t sz ys):=rfl
def Zn(t:Bool)(h:aA)(n sz off len:Nat):Option DO→Option DV
 | some (.arr _ dI xs _)=>if sz=dI∧off+len≤xs.length then VH t sz (uP t h n ((xs.drop off).take len))else none
 | _=>none
theorem Tk(t:Bool)(h:aA)(n sz off len ety dI:Nat)(xs:List DV)(cap:Option Nat):Zn t h n sz off len (some (.arr ety dI xs cap))=if sz=dI∧off+len≤xs.length then VH t sz (uP t h n ((xs.drop off).take len))else none:=rfl
theorem Lj(t:Bool)(h:aA)(n id sz off len:Nat):resolve t h (n+1) (.sl id sz off len)=Zn t h n sz off len (h.get id):=by
 simp only[resolve,Zn]
 cases h.get id with
 | none=>rfl
 | some o=>cases o with
  | arr e s xs c =>
   simp only
   split
   ·simp only[uP];cases((xs.drop off).take len).mapM (resolve t h n)<;>rfl
   ·rfl
  | _=>rfl
def j6(h:aA)(v:DV):Option DV :=
 match resolve false h (199+1) v with
 | some d=>if bA (199+1) d then some d else none
 | none=>none
theorem mL(v:DV)(h:aA):jS (some (v,h))=j6 h v:=rfl
def EM:Option DV→Option DV
 | some d=>if bA (199+1) d then some d else none
 | none=>none
theorem NZ(h:aA)(v:DV):j6 h v=EM (resolve false h (199+1) v):=rfl
theorem EL(k:IntKind)(n:Int):EM (some (.int k n))=some (.int k n):=rfl
theorem U5(b:Bool):EM (some (.bool b))=some (.bool b):=rfl
theorem EK(b:List UInt8):EM (some (.str b))=some (.str b):=rfl
theorem MB(d:DV):EM (some d)=if bA 200 d=true then some d else none:=rfl
theorem SK(n:Nat)(k:IntKind)(m:Int):bA (n+1) (.int k m)=true:=rfl
theorem MI(n:Nat)(m:Bool):bA (n+1) (.bool m)=true:=rfl
theorem SJ(n:Nat)(m:List UInt8):bA (n+1) (.str m)=true:=rfl
theorem SM(n:Nat)(cs:List DV):bA (n+1) (.agg cs)=cs.all (bA n):=rfl
theorem SI(n:Nat)(cs:List DV):bA (n+1) (.tup cs)=cs.all (bA n):=rfl
theorem MC(n:Nat)(p:dR):bA (n+21) (dY p)=true:=rJ p (n+21) (by omega)
theorem MG(n:Nat)(sz:Nat):bA (n+1) (.isl false sz [])=true:=by simp[bA]
theorem MF(n:Nat):bA (n+1) .nili=true:=rfl
theorem ME(n:Nat):bA (n+1) .nilp=true:=rfl
theorem Tb(D:bX)(N:Nat)(S:List Fr)(f:eI)(hs:List aA)(L:cD)(dst:Option Nat)(op:DOp)(s:Nat)(cm:Bool)(r:List aH)(hf:L.free s (bN (tab N f) op)=true) :
  zS D N S dst op s cm r f hs L .read=Td D N S dst op cm r f hs L (hI hs s):=by rw[Zf,if_pos hf]
theorem uY{α:Type}(t:Bool)(sz:Nat)(e:α→DV)(xs:List α)(k:IntKind)(i:Int)(h0:0≤i):aQ sz (eL t sz e xs) (.int k i)=(xs[i.toNat]?).map fun a=>.iptr t (aF sz (e a)) 0:=by
 cases hx:xs[i.toNat]? with
 | some a=>rw[Gy t sz e k h0 hx];rfl
 | none =>
  cases xs with
  | nil=>simp[tM,aQ,asI]
  | cons x xs =>
   have hy:(List.map e (x::xs))[i.toNat]?=none:=by rw[List.getElem?_map,hx];rfl
   rw[qR,←List.map_cons]
   simp only[aQ,asI,h0,and_self,if_true,hy,Option.map_none]
theorem uX{α:Type}(t:Bool)(sz:Nat)(e:α→DV)(xs:List α)(k:IntKind)(i:Nat):aQ sz (eL t sz e xs) (.int k (i:Int))=(xs[i]?).map fun a=>.iptr t (aF sz (e a)) 0:=by
 rw[uY _ _ _ _ _ _ (Int.natCast_nonneg i)];simp
theorem Ed{α:Type}(t:Bool)(sz:Nat)(e:α→DV)(xs:List α)(k:IntKind)(i:Nat):aQ sz (eL t sz e xs) (.int k ((i:Int)+1))=(xs[i+1]?).map fun a=>.iptr t (aF sz (e a)) 0:=by
 have:=uX t sz e xs k (i+1)
 rwa[Int.natCast_add]at this
theorem Mt{n:Int}(h1:0≤n)(h2:n≤18446744073709551615):IntKind.u64.wrap n=n:=by
 exact Go.IntWalk.u64_in n ⟨h1,h2⟩
theorem K9(a:Int):bQ .shr (.int .u64 a) (.int .u64 1)=some (.int .u64 (a.fdiv 2)):=by
 simp[bQ,IntKind.bits]
theorem half(i j:Nat):((i:Int)+j).fdiv 2=((i+j) / 2:Nat):=by
 rw[Int.fdiv_eq_ediv_of_nonneg _ (by decide)];omega
theorem mR(k:IntKind)(n d l:Nat)(h:n≤l):cH (some (.int k (n:Int))) d l=some n:=by
 rw[tQ _ _ _ _ (by omega) (by omega)];simp
theorem Wo(k:IntKind)(n d l:Nat)(h:n+1≤l):cH (some (.int k ((n:Int)+1))) d l=some (n+1):=by
 rw[tQ _ _ _ _ (by omega) (by omega)];simp
theorem Wn(k:IntKind)(d l:Nat):cH (some (.int k 0)) d l=some 0:=by
 rw[tQ _ _ _ _ (by omega) (by omega)];simp
theorem Yz(D:bX)(N:Nat)(S:List Fr)(f:eI)(h:aA)(o:aH)(w:Bool)(r:List aH):Y8 D N S o w r f h bH=zR D N S r (rS f o.dst bH) h:=rfl
theorem Te(D:bX)(N:Nat)(S:List Fr)(f:eI)(hs:List aA)(L:cD)(o:aH)(w:Bool)(r:List aH):Tf D N S o w r f hs L bH=xF D N S o.dst o.kind r f L hs:=rfl
theorem aJ{b c:aI}(hb:b=c)(D:bX)(N:Nat)(S:List Fr)(f:eI)(h:aA):run D N S (.loop b) f h=run D N (.loop b::S) c f h:=by
 rw[GH];rw[←hb]
theorem LU(h:aA)(o:DO):(h.push o).n=h.n+1:=_root_.id rfl
theorem U0(h:aA)(o:DO):(h.push o).lim=h.lim:=_root_.id rfl
theorem SE(h:aA)(id':Nat)(o:DO):(h.set id' o).n=h.n:=_root_.id rfl
theorem EE(h:aA)(id':Nat)(o:DO):(h.set id' o).lim=h.lim:=_root_.id rfl
theorem XH(h:aA)(l:Nat):(wl h l).n=h.n:=_root_.id rfl
theorem LV(h:aA)(l:Nat):(wl h l).lim=l:=_root_.id rfl
theorem LW(h:aA)(l i:Nat):(wl h l).get i=h.get i:=_root_.id rfl
theorem EC(h:aA)(l:Nat)(o:DO):(wl h l).push o=wl (h.push o) l:=_root_.id rfl
theorem LT(h:aA)(l i:Nat)(o:DO):(wl h l).set i o=wl (h.set i o) l:=_root_.id rfl
theorem SD(h:aA)(a b:Nat):wl (wl h a) b=wl h b:=_root_.id rfl
theorem EB(h:aA):wl h h.lim=h:=_root_.id rfl
theorem Ms(h:aA)(o:DO):wl (h.push o) h.lim=h.push o:=_root_.id rfl
theorem LX(h:aA)(l:Nat)(hl:l=h.lim):wl h l=h:=by subst hl;rfl
theorem ED:tY.n=0:=_root_.id rfl
theorem Xg:tY.lim=0:=_root_.id rfl
abbrev eU8(b:UInt8):DV:=.int .u8 b.toNat
def MT(h:aA):Option (List UInt8)→Option (DV×aA)
 | some s=>some (.str s,h)
 | none=>none
def Cm(h:aA):Option (List DV)→Option (DV×aA)
 | some ys=>MT h (ys.mapM Qt)
 | none=>none
def Ww(h:aA)(ety sz bytes:Nat)(s:DV):DV→Option (DV×aA)
 | .str t=>bF h ety sz bytes s (t.map eU8)
 | _=>none
theorem Ue(c:Nat→List DV→aA→Option (DV×aA))(h:aA)(env:Env)(x:Opd):bC c (.bytesStr x) env h=Cm h (elems h 1 (x.eval env)):=by
 simp only[bC,aB]
 cases elems h 1 (x.eval env)with
 | none=>rfl
 | some ys=>cases hm:ys.mapM Qt<;>simp only[Cm,MT,hm]
theorem Ih(h:aA)(ys:List DV):Cm h (some ys)=MT h (ys.mapM Qt):=rfl
theorem W9(h:aA)(s:List UInt8):MT h (some s)=some (.str s,h):=rfl
theorem IG(xs:List UInt8):(xs.map eU8).mapM Qt=some xs:=by
 induction xs with
 | nil=>rfl
 | cons b xs ih =>
  have hb:Qt (eU8 b)=some b:=by simp[Qt,eU8]
  simp only[List.map_cons,List.mapM_cons,hb,ih]
  rfl
theorem B0(c:Nat→List DV→aA→Option (DV×aA))(h:aA)(env:Env)(ety sz bytes:Nat)(s x:Opd):bC c (.appendS ety sz bytes s x) env h=Ww h ety sz bytes (s.eval env) (x.eval env):=by
 simp only[bC,aB]
 cases x.eval env<;>rfl
theorem Qz(h:aA)(ety sz bytes:Nat)(s:DV)(t:List UInt8):Ww h ety sz bytes s (.str t)=bF h ety sz bytes s (t.map eU8):=rfl
theorem HF(f:Nat):P4 f=([]:List Nat).contains f:=rfl
attribute [simp] Ts HF
attribute [simp] Ue Ih W9 IG B0 Qz
attribute [simp] NL Yx Y6 GL Y4 NN Y3 GG NM GI Z4 Jl Gb On Th NO Jk Oo GR
 GK Z1 Zj GO WG WH d6 KX AA AB LZ
 OC OB HU UW HQ Jp OD HN Ua HT UT UU US j7 OF HR Pb HP Pa Ud HO Uc Tz A6 UR AL OE AJ Ub A7 A8 Oz AK Oy
 yT QN Nx Nw Je Nr Ns Sd Nt Nv Jd Nu Fm Jc Jb Cs Ja
 SE EE cJ LU ED Xg U0 C1 IP C6 C7 X2 Sb Sc JX Vu Sa EO NA Rj Xk U4 Hj EF XH LV LW EC LT SD EB Ms LX KF Kh Ia Qm wY Kg Cj X5 Da Cz Ld J1 KK J2 UV FQ QL CR CQ L3 A9 Qw j5 i9 To Wc I7 Wb G8 H8 CI G9 I6 Wa H9 Qj Vz Vy wO Vw
 Hr Eh F9 OQ IS IT OP IV Ws Wq Wr DG DB DC DD DE DF DA CV CW CX CY CZ SG SH
 JV CE Wk Wl Wj Qs Zw Zv Tq F0 CD Zz CO K7 Qg DJ Jg JR BX BY F8 Qx CG fY Jq Gn Um
 Ty J8 tP
 NT GX Z6 J3 DK U6 BS D0 NS GW NQ NR GU GV Tj GT GS P3 NP Gd Fb Zm Oq Z7 Lj Tk BG
 PX F7 BV Jn Zk Jo mL NZ EL U5 EK MB SK MI SJ SM SI MC MG MF ME
 GJ GN Y9 Za Zh Z0 Ze Sz Oi Tb Ta Oj Zg Zi Zd Zc Zb ML Rq ET EQ Kx MK MJ EU EW SO SP SN XO MM EV Rr My ES Mx Ru ER Rt Rp U7 Rs Xr Mw
 AE Zu MX FV MY AX IJ II AW AV BA IN ON IL L4 L5 Xj Xi NW HI AN AO AD Zt OI HX VD UZ AT OH OG IA IE VB VC VA k9 OJ IB Ui Ph HZ Pg Ul HY Uk Uh AS Uj B5 Pf BB BD BC IM HJ HK HH KG KH Hx Ej yO X4 Yy Y7 GM Yz Te
 MU O3 FR UC Sj xC O4 Sf Cv Sl FO FP FN RB O6 Sk zJ Si zI Cx Sh Cw Cu Fo FM Lc O5 La Sg Yl Fp Nz Lb zH
 vR mR Wo Wn tQ uX Ed uY bG Mt K9 half
end Go.Dm
/-
Part 5 of "De": copies of rows; rows with room left over behind a deletion.
-/
namespace Go.Dm
theorem sF{lo:Nat}{h:aA}{v:DV}{ety sz bytes:Nat}{ys:List DV}{A:Option (DV×aA)}(he:elems h sz v=some ys)(wf:WF h)(eN:lo≤h.n)(bI:h.lim≤h.n)(hb:ys.length*bytes≤140737488355328)(Bz:1≤bytes)(hA:bJ ety sz bytes h [v]=A) :
  ∃ v' h',A=some (v',h')∧Own lo h' v' ety sz ys∧Ext lo h h'∧Ext h.n h h':=by
 have hm:ys.length≤140737488355328:=Nat.le_trans (Nat.le_mul_of_pos_right _ Bz) hb
 subst hA
 by_cases hy:ys=[]
 ·subst hy
  refine⟨.nsl,h.push .dead,?_,.nil rfl rfl,(Ext.refl eN wf).push,(Ext.refl (Nat.le_refl _) wf).push⟩
  simp[bJ,he]
 ·have Jx:ys.isEmpty=false:=by cases ys<;>simp_all
  refine⟨.sl (h.n+1) sz 0 ys.length,(h.push (.arr ety sz [] (some 0))).push (.arr ety sz ys none),?_,.arr (h.n+1) rfl ?_ ?_ (by omega),((Ext.refl eN wf).push).push,((Ext.refl (Nat.le_refl _) wf).push).push⟩
  ·simp only[bJ,he,Jx]
   rw[if_neg (by simp),if_pos ⟨hb,by omega⟩]
  ·exact cX
  ·show h.lim≤h.n+1
   omega
inductive OwnR(lo:Nat)(h:aA)(v:DV)(ety sz:Nat)(xs:List DV):Prop where
 | nil (hv:v=.nsl) (hx:xs=[])
 | arr (id:Nat) (sp:List DV) (cap:Option Nat) (hv:v=.sl id sz 0 xs.length) (hg:h.get id=some (.arr ety sz (xs++sp) cap)) (bI:h.lim≤id) (eN:lo≤id)
theorem Own.toR{lo:Nat}{h:aA}{v:DV}{ety sz:Nat}{xs:List DV}(w:Own lo h v ety sz xs):OwnR lo h v ety sz xs:=by
 cases w with
 | nil hv hx=>exact .nil hv hx
 | arr id hv hg hl hi=>exact .arr id [] none hv (by simpa using hg) hl hi
section OwnR
variable {lo:Nat} {h:aA} {v:DV} {ety sz:Nat} {xs:List DV}
theorem OwnR.push{o:DO}(w:OwnR lo h v ety sz xs):OwnR lo (h.push o) v ety sz xs:=by
 cases w with
 | nil hv hx=>exact .nil hv hx
 | arr id sp cap hv hg bI eN =>
  refine .arr id sp cap hv ?_ bI eN
  rw[cJ,if_neg (by have:=aC hg;omega)];exact hg
theorem OwnR.ext{h':aA}(w:OwnR lo h v ety sz xs)(x:Ext h.n h h'):OwnR lo h' v ety sz xs:=by
 cases w with
 | nil hv hx=>exact .nil hv hx
 | arr id sp cap hv hg hl hi=>exact .arr id sp cap hv ((x.get id (aC hg)).trans hg) (by rw[x.lim];exact hl) hi
theorem OwnR.lenV(w:OwnR lo h v ety sz xs):lenV h 1 v=some (.int .i64 xs.length):=by
 cases w with
 | nil hv hx=>subst hv;subst hx;rfl
 | arr id sp cap hv hg hl hi=>subst hv;rfl
theorem OwnR.elems(w:OwnR lo h v ety sz xs):elems h sz v=some xs:=by
 cases w with
 | nil hv hx=>subst hv;subst hx;rfl
 | arr id sp cap hv hg hl hi=>subst hv;simp[Dm.elems,hg]
theorem OwnR.resolve{α:Type}{e:α→DV}{ys:List α}{k n:Nat}(tag:Bool)(w:OwnR lo h v ety sz (ys.map e))(hf:∀y∈ys,kJ k (e y))(hn:k+1≤n):resolve tag h n v=some (eL tag sz e ys):=by
 obtain⟨m,rfl,hm⟩:=cL hn
 cases w with
 | nil hv hx =>
  subst hv
  cases ys with
  | nil=>rfl
  | cons y r=>simp at hx
 | arr id sp cap hv hg hl hi =>
  subst hv
  have yG:(ys.map e).mapM (Dm.resolve tag h m)=some (ys.map e):=wI fun x hx=>by
   obtain⟨y,hy,rfl⟩:=List.mem_map.1 hx
   exact hf y hy tag h m hm
  simp only[Dm.resolve,hg,true_and,Nat.zero_add,List.length_append,Nat.le_add_right,if_true,List.drop_zero,List.take_left,yG]
  rfl
theorem OwnR.aO(w:OwnR lo h v ety sz xs):aO 1 v=true:=by
 cases w with
 | nil hv hx=>subst hv;rfl
 | arr id sp cap hv hg hl hi=>subst hv;rfl
theorem OwnR.aF(w:OwnR lo h v ety sz xs):aF 1 v=[v]:=by
 cases w with
 | nil hv hx=>subst hv;rfl
 | arr id sp cap hv hg hl hi=>subst hv;rfl
theorem OwnR.out{α:Type}{e:α→DV}{ys:List α}{k:Nat}(w:OwnR lo h v ety sz (ys.map e))(hf:∀y∈ys,kJ k (e y))(hu:∀y∈ys,Unl k (e y))(hk:k≤198) :
  jS (some (v,h))=some (eL false sz e ys) :=
 Tx (k:=k+1) (w.resolve false hf (by show k+1≤200;omega)) (lG hu) (by omega)
theorem OwnR.index(w:OwnR lo h v ety sz xs){i:Nat}{x:DV}(hx:xs[i]?=some x)(k:IntKind) :
  ∃ id sp cap,v=.sl id sz 0 xs.length∧h.get id=some (.arr ety sz (xs++sp) cap)∧h.lim≤id∧lo≤id∧aQ sz v (.int k (i:Int))=some (.ptr id sz i 0)∧(xs++sp)[i]?=some x:=by
 have hi:i<xs.length:=by
  by_cases aZ:i<xs.length
  ·exact aZ
  ·rw[List.getElem?_eq_none (by omega)]at hx;cases hx
 cases w with
 | nil hv tA=>subst tA;simp at hi
 | arr id sp cap hv hg hl eN =>
  refine⟨id,sp,cap,hv,hg,hl,eN,?_,by rw[List.getElem?_append_left hi];exact hx⟩
  subst hv
  simp[aQ,asI,hi]
end OwnR
theorem Own.aO{lo:Nat}{h:aA}{v:DV}{ety sz:Nat}{xs:List DV}(w:Own lo h v ety sz xs):aO 1 v=true:=w.toR.aO
theorem Own.aF{lo:Nat}{h:aA}{v:DV}{ety sz:Nat}{xs:List DV}(w:Own lo h v ety sz xs):aF 1 v=[v]:=w.toR.aF
theorem Own.wl{lo:Nat}{h:aA}{v:DV}{ety sz:Nat}{xs:List DV}(w:Own lo h v ety sz xs){m:Nat}(hm:m≤lo):Own lo (Dm.wl h m) v ety sz xs:=by
 cases w with
 | nil hv hx=>exact .nil hv hx
 | arr id hv hg hl hi=>exact .arr id hv hg (Nat.le_trans hm hi) hi
theorem Own.aR{lo:Nat}{h:aA}{v:DV}{ety sz:Nat}{xs:List DV}(w:Own lo h v ety sz xs)(wf:WF h){id:Nat}{o:DO}(eB:id<lo)(hn:id<h.n):Own lo (h.set id o) v ety sz xs:=by
 cases w with
 | nil hv hx=>exact .nil hv hx
 | arr k hv hg hl hi=>exact .arr k hv (by rw[cO wf hn,if_neg (by omega)];exact hg) hl hi
theorem Own.lower{lo lo':Nat}{h:aA}{v:DV}{ety sz:Nat}{xs:List DV}(w:Own lo h v ety sz xs)(hl:lo'≤lo):Own lo' h v ety sz xs:=by
 cases w with
 | nil hv hx=>exact .nil hv hx
 | arr k hv hg bI hi=>exact .arr k hv hg bI (Nat.le_trans hl hi)
theorem Ext.wl{lo:Nat}{h h':aA}(x:Ext lo h h')(m:Nat)(hm:m=h.lim):Ext lo h (Dm.wl h' m):=⟨x.le,hm,x.get,x.wf⟩
theorem Ext.lower{lo lo':Nat}{h h':aA}(x:Ext lo h h')(hl:lo'≤lo):Ext lo' h h':=⟨Nat.le_trans hl x.le,x.lim,fun id eB=>x.get id (by omega),x.wf⟩
theorem nM{lo m:Nat}{h:aA}{v:DV}{ety sz bytes:Nat}{ys:List DV}{A:Option (DV×aA)}(hA:bJ ety sz bytes (Dm.wl h m) [v]=A)(he:elems h sz v=some ys)(wf:WF h)(eN:lo≤h.n)(hm:m≤h.n)(bI:h.lim≤h.n)(hb:ys.length*bytes≤140737488355328)(Bz:1≤bytes) :
  ∃ v' h',A=some (v',h')∧Own lo (Dm.wl h' h.lim) v' ety sz ys∧Ext lo h (Dm.wl h' h.lim)∧Ext h.n h (Dm.wl h' h.lim):=by
 have JI:elems (Dm.wl h m) sz v=some ys:=he
 obtain⟨v',h',e,o,x,y⟩:=sF (lo:=h.n) (h:=Dm.wl h m) JI (wf.wl m) (Nat.le_refl _) hm hb Bz hA
 exact⟨v',h',e,(o.wl bI).lower eN,⟨Nat.le_trans eN x.le,rfl,fun id eB=>x.get id (by omega),x.wf⟩,⟨x.le,rfl,x.get,x.wf⟩⟩
def jQ(ety:Nat)(h h':aA):Prop:=∀k o,h.get k=some o→(∀s xs c,o≠.arr ety s xs c)→h'.get k=some o
theorem jQ.refl(ety:Nat)(h:aA):jQ ety h h:=fun _ _ h _=>h
theorem jQ.push{ety:Nat}{h h':aA}{o:DO}(x:jQ ety h h'):jQ ety h (h'.push o):=fun k ob hg cT=>by
 have:=x k ob hg cT
 rw[cJ,if_neg (by have:=aC this;omega)];exact this
theorem jQ.set{ety:Nat}{h h':aA}{id s:Nat}{xs:List DV}{c:Option Nat}{o:DO}(x:jQ ety h h')(w:WF h')(hg:h.get id=some (.arr ety s xs c))(eB:id<h'.n):jQ ety h (h'.set id o):=fun k ob hk cT=>by
 have PG:k≠id:=by
  intro e
  subst e
  rw[hg]at hk
  injection hk with hk
  exact cT _ _ _ hk.symm
 rw[cO w eB,if_neg PG]
 exact x k ob hk cT
theorem Own.keep{lo:Nat}{h h':aA}{v:DV}{ety e2 sz:Nat}{xs:List DV}(w:Own lo h v e2 sz xs)(x:jQ ety h h')(hl:h'.lim=h.lim)(cT:e2≠ety):Own lo h' v e2 sz xs:=by
 cases w with
 | nil hv hx=>exact .nil hv hx
 | arr id hv hg bI eN =>
  exact .arr id hv (x _ _ hg (fun s ys c e=>by injection e with e1;exact cT e1)) (by rw[hl];exact bI) eN
theorem OwnR.keep{lo:Nat}{h h':aA}{v:DV}{ety e2 sz:Nat}{xs:List DV}(w:OwnR lo h v e2 sz xs)(x:jQ ety h h')(hl:h'.lim=h.lim)(cT:e2≠ety):OwnR lo h' v e2 sz xs:=by
 cases w with
 | nil hv hx=>exact .nil hv hx
 | arr id sp cap hv hg bI eN =>
  exact .arr id sp cap hv (x _ _ hg (fun s ys c e=>by injection e with e1;exact cT e1)) (by rw[hl];exact bI) eN
theorem OwnR.aR{lo:Nat}{h:aA}{v:DV}{ety sz:Nat}{xs:List DV}(w:OwnR lo h v ety sz xs)(wf:WF h){id:Nat}{o:DO}(eB:id<lo)(hn:id<h.n):OwnR lo (h.set id o) v ety sz xs:=by
 cases w with
 | nil hv hx=>exact .nil hv hx
 | arr k sp cap hv hg hl hi=>exact .arr k sp cap hv (by rw[cO wf hn,if_neg (by omega)];exact hg) hl hi
theorem OwnR.lower{lo lo':Nat}{h:aA}{v:DV}{ety sz:Nat}{xs:List DV}(w:OwnR lo h v ety sz xs)(hl:lo'≤lo):OwnR lo' h v ety sz xs:=by
 cases w with
 | nil hv hx=>exact .nil hv hx
 | arr k sp cap hv hg bI hi=>exact .arr k sp cap hv hg bI (Nat.le_trans hl hi)
theorem mS{h:aA}{id ety sz bytes len:Nat}{xs ys:List DV}{cap:Option Nat}(hg:h.get id=some (.arr ety sz xs cap))(bZ:len+ys.length≤xs.length)(bI:h.lim≤id)(hb:(len+ys.length)*bytes≤140737488355328)(Bz:1≤bytes)(hy:ys≠[]) :
  bF h ety sz bytes (.sl id sz 0 len) ys=some (.sl id sz 0 (len+ys.length),h.set id (.arr ety sz (cF xs ys len) cap)):=by
 have hm:len+ys.length≤140737488355328:=Nat.le_trans (Nat.le_mul_of_pos_right _ Bz) hb
 have Jx:ys.isEmpty=false:=by cases ys<;>simp_all
 simp only[bF,Jx,hg,Bool.false_eq_true,if_false,true_and,Nat.zero_add]
 rw[if_pos ⟨by omega,hb,by omega⟩,if_pos bZ,if_pos bI]
theorem jE{h:aA}{id ety sz bytes len c:Nat}{xs ys:List DV}(hg:h.get id=some (.arr ety sz xs (some c)))(hl:len≤xs.length)(bZ:xs.length<len+ys.length)(hb:(len+ys.length)*bytes≤140737488355328)(Bz:1≤bytes)(hy:ys≠[]) :
  bF h ety sz bytes (.sl id sz 0 len) ys=some (.sl h.n sz 0 (len+ys.length),h.push (.arr ety sz (xs.take len++ys) none)):=by
 have hm:len+ys.length≤140737488355328:=Nat.le_trans (Nat.le_mul_of_pos_right _ Bz) hb
 have Jx:ys.isEmpty=false:=by cases ys<;>simp_all
 simp only[bF,Jx,hg,Bool.false_eq_true,if_false,true_and,Nat.zero_add,List.drop_zero]
 rw[if_pos ⟨hl,hb,by omega⟩,if_neg (by omega)]
theorem Ly(X:List DV)(u:DV)(i:Nat)(hi:i<X.length):cF (X++[u]) (List.take (X.length-i) (List.take (X.length+1-i) (List.drop i (X++[u])))) (i+1)=X.take (i+1)++X.drop i:=by
 have e1:List.take (X.length-i) (List.take (X.length+1-i) (List.drop i (X++[u])))=X.drop i:=by
  rw[List.take_take,Nat.min_eq_left (by omega),List.drop_append_of_le_length (by omega),List.take_left' (by simp)]
 rw[e1]
 unfold cF
 have e2:List.drop (i+1+(X.drop i).length) (X++[u])=[]:=List.drop_eq_nil_of_le (by simp only[List.length_append,List.length_drop,List.length_cons,List.length_nil];omega)
 rw[e2,List.take_append_of_le_length (by omega),List.append_nil]
theorem Q5(X:List DV)(x:DV)(i:Nat)(hi:i<X.length):cF (X.take (i+1)++X.drop i) [x] i=X.take i++x::X.drop i:=by
 unfold cF
 have h1:(X.take (i+1)).length=i+1:=by simp;omega
 rw[List.take_append_of_le_length (by omega),List.take_take,Nat.min_eq_left (by omega)]
 have:List.drop (i+[x].length) (X.take (i+1)++X.drop i)=X.drop i:=by
  rw[List.drop_left' (by simpa using h1)]
 rw[this];simp
theorem Ut(X:List DV)(z x:DV)(i:Nat)(hi:i<X.length):cF (X.take i++List.replicate (X.length+1-i) z) [x] i=X.take i++x::List.replicate (X.length-i) z:=by
 unfold cF
 have h1:(X.take i).length=i:=by simp;omega
 rw[List.take_left' h1]
 have h2:List.replicate (X.length+1-i) z=z::List.replicate (X.length-i) z:=by
  rw[show X.length+1-i=(X.length-i)+1 by omega,List.replicate_succ]
 rw[h2]
 have:List.drop (i+[x].length) (X.take i++z::List.replicate (X.length-i) z)=List.replicate (X.length-i) z:=by
  rw[List.drop_append,h1,List.drop_eq_nil_of_le (by simp;omega)]
  simp
 rw[this];simp
theorem Us(X:List DV)(z x:DV)(i:Nat)(hi:i<X.length):cF (X.take i++x::List.replicate (X.length-i) z) (X.drop i) (i+1)=X.take i++x::X.drop i:=by
 unfold cF
 have h1:(X.take i).length=i:=by simp;omega
 have h2:List.take (i+1) (X.take i++x::List.replicate (X.length-i) z)=X.take i++[x]:=by
  rw[List.take_append,h1,List.take_of_length_le (by omega)]
  simp
 have h3:List.drop (i+1+(X.drop i).length) (X.take i++x::List.replicate (X.length-i) z)=[]:=by
  apply List.drop_eq_nil_of_le
  simp;omega
 rw[h2,h3];simp
theorem OwnR.start(lo:Nat)(h:aA)(ety sz:Nat):OwnR lo h .nsl ety sz []:=.nil rfl rfl
theorem OwnR.fresh{lo:Nat}{h:aA}{ety sz:Nat}{xs:List DV}{cap:Option Nat}(bI:h.lim≤h.n)(eN:lo≤h.n):OwnR lo (h.push (.arr ety sz xs cap)) (.sl h.n sz 0 xs.length) ety sz xs:=.arr h.n [] cap rfl (by simp[cJ]) bI eN
theorem OwnR.append{lo:Nat}{h:aA}{v:DV}{ety sz bytes:Nat}{xs ys:List DV}{A:Option (DV×aA)}(w:OwnR lo h v ety sz xs)(wf:WF h)(eN:lo≤h.n)(bI:h.lim≤h.n)(hA:bF h ety sz bytes v ys=A)
  (hb:(xs.length+ys.length)*bytes≤140737488355328) (Bz:1≤bytes):∃ v' h',A=some (v',h')∧OwnR lo h' v' ety sz (xs++ys)∧Ext lo h h'∧jQ ety h h':=by
 have hm:xs.length+ys.length≤140737488355328:=Nat.le_trans (Nat.le_mul_of_pos_right _ Bz) hb
 by_cases hy:ys=[]
 ·subst hy
  refine⟨v,h,?_,by simpa using w,.refl eN wf,.refl _ _⟩
  rw[←hA]
  cases w with
  | nil hv hx=>subst hv;rfl
  | arr id sp cap hv hg _ _=>subst hv;rfl
 ·have Jx:ys.isEmpty=false:=by cases ys<;>simp_all
  have RH:0<ys.length:=List.length_pos_iff.2 hy
  cases w with
  | nil hv hx =>
   subst hv;subst hx
   simp only[List.length_nil,Nat.zero_add]at hb hm
   refine⟨.sl h.n sz 0 ys.length,h.push (.arr ety sz ys none),?_,.arr h.n [] none rfl (by simp[cJ]) (by exact bI) eN,(Ext.refl eN wf).push,(jQ.refl _ _).push⟩
   rw[←hA]
   simp only[bF,Jx]
   rw[if_neg (by simp),if_pos ⟨hb,by omega⟩]
  | arr id sp cap hv hg hl hi =>
   subst hv
   have aZ:=aC hg
   by_cases Py:xs.length+ys.length≤(xs++sp).length
   ·refine⟨.sl id sz 0 (xs.length+ys.length),h.set id (.arr ety sz (cF (xs++sp) ys xs.length) cap),?_,.arr id (sp.drop ys.length) cap (by simp) ?_ (by exact hl) hi,(Ext.refl eN wf).set hi aZ,(jQ.refl _ _).set wf hg aZ⟩
    ·rw[←hA];exact mS hg Py hl hb Bz hy
    ·rw[cO wf aZ,if_pos rfl]
     simp only[cF,List.take_left',List.append_assoc]
     congr 3
     rw[List.drop_append]
     simp
   ·cases cap with
    | none =>
     refine⟨.sl h.n sz 0 (xs.length+ys.length),(h.set id .dead).push (.arr ety sz (xs++ys) none),?_,.arr h.n [] none (by simp) ?_ (by exact bI) eN,((Ext.refl eN wf).set hi aZ).push,((jQ.refl _ _).set wf hg aZ).push⟩
     ·rw[←hA]
      simp only[bF,Jx,hg]
      simp only[Bool.false_eq_true,if_false,true_and,Nat.zero_add,List.drop_zero]
      rw[if_pos ⟨by simp,hb,by omega⟩,if_neg Py,if_pos hl]
      simp
     ·simp
    | some c =>
     refine⟨.sl h.n sz 0 (xs.length+ys.length),h.push (.arr ety sz (xs++ys) none),?_,.arr h.n [] none (by simp) ?_ (by exact bI) eN,(Ext.refl eN wf).push,(jQ.refl _ _).push⟩
     ·rw[←hA]
      rw[jE hg (by simp) (by omega) hb Bz hy]
      simp
     ·simp
structure oP(lo:Nat)(h:aA)(id ety sz:Nat)(xs:List DV):Prop where
 get:∃ sp cap,h.get id=some (.arr ety sz (xs++sp) cap)
 lim:h.lim≤id
 lo:lo≤id
theorem oP.toR{lo:Nat}{h:aA}{id ety sz:Nat}{xs:List DV}(w:oP lo h id ety sz xs):OwnR lo h (.sl id sz 0 xs.length) ety sz xs:=by
 obtain⟨⟨sp,cap,hg⟩,hl,hi⟩:=w
 exact .arr id sp cap rfl hg hl hi
theorem oP.lt{lo:Nat}{h:aA}{id ety sz:Nat}{xs:List DV}(w:oP lo h id ety sz xs):id<h.n:=by
 obtain⟨⟨sp,cap,hg⟩,_,_⟩:=w
 exact aC hg
theorem oP.fresh{lo:Nat}{h:aA}{ety sz:Nat}{xs:List DV}{cap:Option Nat}(bI:h.lim≤h.n)(eN:lo≤h.n):oP lo (h.push (.arr ety sz xs cap)) h.n ety sz xs:=⟨⟨[],cap,by simp[cJ]⟩,bI,eN⟩
theorem oP.push{lo:Nat}{h:aA}{id ety sz:Nat}{xs:List DV}{o:DO}(w:oP lo h id ety sz xs):oP lo (h.push o) id ety sz xs:=by
 obtain⟨⟨sp,cap,hg⟩,hl,hi⟩:=w
 exact⟨⟨sp,cap,by rw[cJ,if_neg (by have:=aC hg;omega)];exact hg⟩,hl,hi⟩
theorem oP.keep{lo:Nat}{h h':aA}{id ety e2 sz:Nat}{xs:List DV}(w:oP lo h id e2 sz xs)(x:jQ ety h h')(hl:h'.lim=h.lim)(cT:e2≠ety):oP lo h' id e2 sz xs:=by
 obtain⟨⟨sp,cap,hg⟩,bI,hi⟩:=w
 exact⟨⟨sp,cap,x _ _ hg (fun s ys c e=>by injection e with e1;exact cT e1)⟩,by rw[hl];exact bI,hi⟩
theorem oP.aR{lo:Nat}{h:aA}{id ety sz:Nat}{xs:List DV}(w:oP lo h id ety sz xs)(wf:WF h){k:Nat}{o:DO}(eB:k<lo)(hn:k<h.n):oP lo (h.set k o) id ety sz xs:=by
 obtain⟨⟨sp,cap,hg⟩,hl,hi⟩:=w
 exact⟨⟨sp,cap,by rw[cO wf hn,if_neg (by omega)];exact hg⟩,hl,hi⟩
theorem oP.wl{lo:Nat}{h:aA}{id ety sz:Nat}{xs:List DV}(w:oP lo h id ety sz xs){m:Nat}(hm:m≤lo):oP lo (Dm.wl h m) id ety sz xs:=by
 obtain⟨⟨sp,cap,hg⟩,hl,hi⟩:=w
 exact⟨⟨sp,cap,hg⟩,Nat.le_trans hm hi,hi⟩
theorem oP.ext{lo:Nat}{h h':aA}{id ety sz:Nat}{xs:List DV}(w:oP lo h id ety sz xs)(x:Ext h.n h h'):oP lo h' id ety sz xs:=by
 have:=w.lt
 obtain⟨⟨sp,cap,hg⟩,hl,hi⟩:=w
 exact⟨⟨sp,cap,(x.get id this).trans hg⟩,by rw[x.lim];exact hl,hi⟩
theorem oP.append{lo:Nat}{h:aA}{id ety sz bytes:Nat}{xs ys:List DV}{A:Option (DV×aA)}{n:Nat}(w:oP lo h id ety sz xs)(hn:n=xs.length)(wf:WF h)(eN:lo≤h.n)(bI:h.lim≤h.n)(hA:bF h ety sz bytes (.sl id sz 0 n) ys=A)
  (hb:(xs.length+ys.length)*bytes≤140737488355328) (Bz:1≤bytes):∃ id' h',A=some (.sl id' sz 0 (xs.length+ys.length),h')∧oP lo h' id' ety sz (xs++ys)∧Ext lo h h'∧jQ ety h h'∧(id'=id∨h.n≤id'):=by
 subst hn
 have hm:xs.length+ys.length≤140737488355328:=Nat.le_trans (Nat.le_mul_of_pos_right _ Bz) hb
 by_cases hy:ys=[]
 ·subst hy
  refine⟨id,h,?_,by simpa using w,.refl eN wf,.refl _ _,.inl rfl⟩
  rw[←hA];rfl
 ·have Jx:ys.isEmpty=false:=by cases ys<;>simp_all
  obtain⟨⟨sp,cap,hg⟩,hl,hi⟩:=w
  have aZ:=aC hg
  by_cases Py:xs.length+ys.length≤(xs++sp).length
  ·refine⟨id,h.set id (.arr ety sz (cF (xs++sp) ys xs.length) cap),?_,⟨⟨sp.drop ys.length,cap,?_⟩,hl,hi⟩,(Ext.refl eN wf).set hi aZ,(jQ.refl _ _).set wf hg aZ,.inl rfl⟩
   ·rw[←hA];exact mS hg Py hl hb Bz hy
   ·rw[cO wf aZ,if_pos rfl]
    simp only[cF,List.take_left',List.append_assoc]
    congr 3
    rw[List.drop_append]
    simp
  ·cases cap with
   | none =>
    refine⟨h.n,(h.set id .dead).push (.arr ety sz (xs++ys) none),?_,⟨⟨[],none,?_⟩,bI,eN⟩,((Ext.refl eN wf).set hi aZ).push,((jQ.refl _ _).set wf hg aZ).push,.inr (Nat.le_refl _)⟩
    ·rw[←hA]
     simp only[bF,Jx,hg]
     simp only[Bool.false_eq_true,if_false,true_and,Nat.zero_add,List.drop_zero]
     rw[if_pos ⟨by simp,hb,by omega⟩,if_neg Py,if_pos hl]
     simp
    ·simp
   | some c =>
    refine⟨h.n,h.push (.arr ety sz (xs++ys) none),?_,⟨⟨[],none,?_⟩,bI,eN⟩,(Ext.refl eN wf).push,(jQ.refl _ _).push,.inr (Nat.le_refl _)⟩
    ·rw[←hA]
     rw[jE hg (by simp) (by omega) hb Bz hy]
     simp
    ·simp
theorem CH(h:aA)(t:Bool)(sz:Nat)(xs:List DV):elems h sz (.isl t sz xs)=some xs:=by simp[elems]
theorem FW(t:Bool)(sz:Nat)(xs:List DV):Fu (.isl t sz xs)=none:=_root_.id rfl
theorem AY(t:Bool)(sz:Nat)(xs:List DV):mapId (.isl t sz xs)=none:=_root_.id rfl
theorem So{α:Type}(h:aA)(t:Bool)(sz:Nat)(e:α→DV)(xs:List α)(k:IntKind)(i:Nat)(hi:i≤xs.length):fC h sz (eL t sz e xs) none (some (.int k (i:Int)))=some (.isl (t && !xs.isEmpty) sz ((xs.take i).map e)):=by
 cases xs with
 | nil =>
  have h0:i=0:=by simpa using hi
  subst h0
  simp[tM,fC,cH,asI]
 | cons x xs =>
  have h2:(i:Int)≤((xs.length+1:Nat):Int):=by simp at hi;omega
  rw[qR]
  simp only[fC,List.length_cons,List.length_map,cH,asI]
  simp only[List.isEmpty_cons,Bool.not_false,Bool.and_true,true_or,if_true,Int.natCast_nonneg,h2,and_self,Int.toNat_natCast,List.drop_zero,Nat.sub_zero]
  rw[←List.map_cons,←List.map_take]
theorem zK{α:Type}(h:aA)(t:Bool)(sz:Nat)(e:α→DV)(xs:List α)(k:IntKind)(i:Nat)(hi:i≤xs.length):fC h sz (eL t sz e xs) (some (.int k (i:Int))) none=some (.isl (t && !xs.isEmpty) sz ((xs.drop i).map e)):=by
 cases xs with
 | nil =>
  have h0:i=0:=by simpa using hi
  subst h0
  simp[tM,fC,cH,asI]
 | cons x xs =>
  have h2:(i:Int)≤((xs.length+1:Nat):Int):=by simp at hi;omega
  rw[qR]
  simp only[fC,List.length_cons,List.length_map,cH,asI]
  simp only[List.isEmpty_cons,Bool.not_false,Bool.and_true,true_or,if_true,Int.natCast_nonneg,h2,and_self,Int.toNat_natCast]
  rw[←List.map_cons,←List.map_drop,List.take_of_length_le (by simp)]
theorem Ob{α:Type}(h:aA)(t:Bool)(sz:Nat)(e:α→DV)(xs:List α)(k:IntKind)(i:Nat)(hi:i+1≤xs.length):fC h sz (eL t sz e xs) (some (.int k ((i:Int)+1))) none=some (.isl (t && !xs.isEmpty) sz ((xs.drop (i+1)).map e)):=by
 have:=zK h t sz e xs k (i+1) hi
 rwa[Int.natCast_add]at this
attribute [simp] CH FW AY So zK Ob
mutual
theorem DV.beq_refl:∀v:DV,DV.beq v v=true
 | .unk|.nilp|.nsl|.nmap|.nilf|.nili=>rfl
 | .bool _|.int _ _|.str _|.ptr ..|.sl ..|.map _|.tok _|.atl _=>by simp[DV.beq]
 | .iptr l xs o=>by simp[DV.beq,lF xs]
 | .isl l s xs=>by simp[DV.beq,lF xs]
 | .func f xs=>by simp[DV.beq,lF xs]
 | .iface t v=>by simp[DV.beq,DV.beq_refl v]
 | .agg xs=>by simp[DV.beq,lF xs]
 | .tup xs=>by simp[DV.beq,lF xs]
theorem lF:∀l:List DV,uC l l=true
 | []=>rfl
 | x::xs=>by simp[uC,DV.beq_refl x,lF xs]
end
inductive Dep:Nat→DV→Prop where
 | int (k:IntKind) (n:Int) {d:Nat}:Dep (d+1) (.int k n)
 | bool (b:Bool) {d:Nat}:Dep (d+1) (.bool b)
 | str (s:List UInt8) {d:Nat}:Dep (d+1) (.str s)
 | isl (t:Bool) (sz:Nat) (xs:List DV) {d:Nat} (h:∀x∈xs,Dep d x):Dep (d+1) (.isl t sz xs)
 | agg (xs:List DV) {d:Nat} (h:∀x∈xs,Dep d x):Dep (d+1) (.agg xs)
theorem Dep.belowN{d:Nat}{v:DV}(h:Dep d v):∀{n N:Nat},d≤n→Dm.dL n N v=true:=by
 induction h with
 | int k n=>intro m N hm;obtain⟨q,rfl,_⟩:=cL hm;rfl
 | bool b=>intro m N hm;obtain⟨q,rfl,_⟩:=cL hm;rfl
 | str s=>intro m N hm;obtain⟨q,rfl,_⟩:=cL hm;rfl
 | isl t sz xs h ih=>intro m N hm;obtain⟨q,rfl,hq⟩:=cL hm;rfl
 | agg xs h ih =>
  intro m N hm;obtain⟨q,rfl,hq⟩:=cL hm
  simp only[Dm.dL,List.all_eq_true]
  exact fun x hx=>ih x hx hq
theorem Dep.eL{α:Type}{d:Nat}(t:Bool)(sz:Nat){e:α→DV}{xs:List α}(h:∀x∈xs,Dep d (e x)):Dep (d+1) (eL t sz e xs):=by
 cases xs with
 | nil=>exact .isl _ _ _ (fun x hx=>by cases hx)
 | cons x r =>
  rw[qR,←List.map_cons]
  refine .isl _ _ _ fun y hy=>?_
  obtain⟨z,hz,rfl⟩:=List.mem_map.1 hy
  exact h z hz
theorem KC(c:yX):Dep 2 (fZ c):=.agg _ (by
 intro x hx;simp only[List.mem_cons,List.not_mem_nil,or_false]at hx
 rcases hx with rfl|rfl|rfl|rfl|rfl<;>first|exact .int _ _|exact .str _)
theorem KB(p:dR):Dep 3 (dY p):=.eL _ _ fun c _=>KC c
theorem Dep.mono{d:Nat}{v:DV}(h:Dep d v):∀{e:Nat},d≤e→Dep e v:=by
 induction h with
 | int k n=>intro e he;obtain⟨q,rfl,_⟩:=cL he;exact .int _ _
 | bool b=>intro e he;obtain⟨q,rfl,_⟩:=cL he;exact .bool _
 | str s=>intro e he;obtain⟨q,rfl,_⟩:=cL he;exact .str _
 | isl t sz xs h ih=>intro e he;obtain⟨q,rfl,hq⟩:=cL he;exact .isl _ _ _ fun x hx=>ih x hx hq
 | agg xs h ih=>intro e he;obtain⟨q,rfl,hq⟩:=cL he;exact .agg _ fun x hx=>ih x hx hq
theorem WQ(x:ID):Dep 4 (eID x):=.agg _ (by
 intro x hx;simp only[List.mem_cons,List.not_mem_nil,or_false]at hx
 rcases hx with rfl|rfl<;>exact .int _ _)
theorem J0(a:cP):Dep 4 (aG a):=.agg _ (by
 intro x hx;simp only[List.mem_cons,List.not_mem_nil,or_false]at hx
 rcases hx with rfl|rfl|rfl|rfl<;>first|exact .int _ _|exact KB _)
theorem pP{cs:List DV}(h:∀x∈cs,kJ 1 x):kJ 20 (.agg cs):=(sB h).mono (by decide)
theorem rK{cs:List DV}(h:∀x∈cs,Unl 21 x):Unl 22 (.agg cs):=Em h
theorem kD(x:ID):kJ 20 (eID x)∧Unl 22 (eID x):=⟨pP (by
 intro x hx;simp only[List.mem_cons,List.not_mem_nil,or_false]at hx
 rcases hx with rfl|rfl<;>exact gU _ _),rK (by
 intro x hx;simp only[List.mem_cons,List.not_mem_nil,or_false]at hx
 rcases hx with rfl|rfl<;>exact(jG _ _).mono (by decide))⟩
theorem fI(a:cP):kJ 20 (aG a)∧Unl 22 (aG a):=⟨pP (by
 intro x hx;simp only[List.mem_cons,List.not_mem_nil,or_false]at hx
 rcases hx with rfl|rfl|rfl|rfl<;>first|exact gU _ _|exact Cd _),rK (by
 intro x hx;simp only[List.mem_cons,List.not_mem_nil,or_false]at hx
 rcases hx with rfl|rfl|rfl|rfl<;>first|exact(jG _ _).mono (by decide)|exact rJ _)⟩
theorem fK(a:bM):kJ 20 (bO a)∧Unl 22 (bO a):=⟨pP (by
 intro x hx;simp only[List.mem_cons,List.not_mem_nil,or_false]at hx
 rcases hx with rfl|rfl|rfl|rfl|rfl|rfl|rfl<;>first|exact gU _ _|exact Cd _|exact Ce _),rK (by
 intro x hx;simp only[List.mem_cons,List.not_mem_nil,or_false]at hx
 rcases hx with rfl|rfl|rfl|rfl|rfl|rfl|rfl<;>first|exact(jG _ _).mono (by decide)|exact rJ _|exact(Rm _).mono (by decide))⟩
theorem jH(a:Xa):kJ 20 (pQ a)∧Unl 22 (pQ a):=⟨pP (by
 intro x hx;simp only[List.mem_cons,List.not_mem_nil,or_false]at hx
 rcases hx with rfl|rfl|rfl<;>first|exact gU _ _|exact Cd _),rK (by
 intro x hx;simp only[List.mem_cons,List.not_mem_nil,or_false]at hx
 rcases hx with rfl|rfl|rfl<;>first|exact(jG _ _).mono (by decide)|exact rJ _)⟩
theorem fD(n:Int):kJ 20 (bW n)∧Unl 22 (bW n):=⟨(gU _ _).mono (by decide),(jG _ _).mono (by decide)⟩
theorem Lm(c:yX):kJ 20 (fZ c)∧Unl 22 (fZ c):=⟨yA.flat c,(yA.unl c).mono (by decide)⟩
theorem MH(n:Nat)(xs:List Int):bA (n+23) (eL false 1 bW xs)=true:=lG (fun x _=>(fD x).2) _ (by omega)
theorem SL(n:Nat)(xs:List ID):bA (n+23) (eL false 2 eID xs)=true:=lG (fun x _=>(kD x).2) _ (by omega)
theorem Xo(n:Nat)(xs:List cP):bA (n+23) (eL false 4 aG xs)=true:=lG (fun x _=>(fI x).2) _ (by omega)
theorem Xn(n:Nat)(xs:List bM):bA (n+23) (eL false 7 bO xs)=true:=lG (fun x _=>(fK x).2) _ (by omega)
theorem MD(n:Nat)(xs:List Xa):bA (n+23) (eL false 3 pQ xs)=true:=lG (fun x _=>(jH x).2) _ (by omega)
attribute [simp] MH SL Xo Xn MD
end Go.Dm
