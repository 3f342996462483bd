/- A part of the proof. -/
import Derived.Test.YtfkbogedodngeaaGreatDoorMm4
import Derived.IntWalk
import Derived.ChangeArms
import Derived.ChangeSame
set_option linter.all false
namespace Go.Dm
abbrev eN:=Nat→DV
def tab(N:Nat)(f:eN):Env:=(List.range N).map f
def upd(f:eN)(d:Nat)(v:DV):eN:=fun i=>if i=d then v else f i
def sB(f:eN)(dst:Option Nat)(v:DV):eN:=match dst with|some d=>upd f d v|none=>f
def rd(N:Nat)(f:eN)(i:Nat):DV:=if i<N then f i else .unk
def KW(args:List DV):eN:=fun i=>args.getD i bH
theorem wP(N:Nat)(f:eN)(i:Nat):(tab N f)[i]?=if i<N then some (f i)else none:=by
 by_cases h:i<N
 ·simp[tab,h]
 ·simp only[tab,List.getElem?_map,if_neg h]
  rw[List.getElem?_eq_none (by simp;omega)];rfl
theorem Ft(N:Nat)(f:eN)(i:Nat):((tab N f)[i]?).getD .unk=rd N f i:=by
 rw[wP];unfold rd;split<;>rfl
theorem MV(N:Nat)(f:eN)(d:Nat)(v:DV):(tab N f).set d v=tab N (upd f d v):=by
 apply List.ext_getElem?
 intro i
 rw[List.getElem?_set,wP,wP]
 simp only[tab,List.length_map,List.length_range,upd]
 by_cases e:d=i
 ·subst e
  by_cases h:d<N<;>simp[h]
 ·have e':¬i=d:=fun q=>e q.symm
  simp only[if_neg e,if_neg e']
theorem qN(N:Nat)(f:eN)(dst:Option Nat)(v:DV):put (tab N f) dst v=tab N (sB f dst v):=by
 cases dst with
 | none=>rfl
 | some d=>exact MV N f d v
theorem FD(N:Nat)(args:List DV)(h:args.length≤N):args++List.replicate (N-args.length) bH=tab N (KW args):=by
 apply List.ext_getElem?
 intro i
 rw[wP,List.getElem?_append]
 unfold KW
 by_cases h1:i<args.length
 ·rw[if_pos h1,if_pos (by omega)]
  simp[h1]
 ·rw[if_neg h1]
  by_cases h2:i<N
  ·rw[if_pos h2,List.getElem?_replicate,if_pos (by omega),List.getD_eq_getElem?_getD,List.getElem?_eq_none (by omega)];rfl
  ·rw[if_neg h2,List.getElem?_replicate,if_neg (by omega)]
theorem WU(N:Nat)(f:eN)(i:Nat):Opd.eval (tab N f) (.t i)=rd N f i:=Ft N f i
theorem WV(env:Env)(v:DV):Opd.eval env (.c v)=v:=rfl
inductive Fr where
 | seq (b:aI)
 | block (id:Nat)
 | loop (b:aI)
noncomputable def yK(D:bU):List Fr→Ex→Env→aA→Res
 | [],e,env,h=>.ok e env h
 | .seq b::S,e,env,h=>match e with
  | .normal=>match ev D b env h with
   | .ok e env h=>yK D S e env h
   | .fail=>.fail
  | e=>yK D S e env h
 | .block id::S,e,env,h=>yK D S (match e with|.exit i=>if i=id then .normal else .exit i|e=>e) env h
 | .loop b::S,e,env,h=>match e with
  | .normal=>match ev D (.loop b) env h with
   | .ok e env h=>yK D S e env h
   | .fail=>.fail
  | e=>yK D S e env h
noncomputable def after(D:bU)(S:List Fr):Res→Res
 | .ok e env h=>yK D S e env h
 | .fail=>.fail
noncomputable def run(D:bU)(N:Nat)(S:List Fr)(c:aI)(f:eN)(h:aA):Res:=after D S (ev D c (tab N f) h)
noncomputable def ret(D:bU)(N:Nat)(S:List Fr)(e:Ex)(f:eN)(h:aA):Res:=yK D S e (tab N f) h
noncomputable def GS(D:bU)(N:Nat)(S:List Fr)(a b:aI)(f:eN)(h:aA):DV→Res
 | .bool true=>run D N S a f h
 | .bool false=>run D N S b f h
 | _=>.fail
noncomputable def Ac(D:bU)(N:Nat)(S:List Fr)(ops:List aH)(f:eN)(h:aA):Res :=
 match eM (fc D) ops (tab N f) h with
 | some (env,h)=>yK D S .normal env h
 | none=>.fail
noncomputable def Z6(D:bU)(N:Nat)(S:List Fr)(dst:Option Nat)(r:List aH)(f:eN):Option (DV×aA)→Res
 | some (v,h)=>Ac D N S r (sB f dst v) h
 | none=>.fail
noncomputable def Z9(D:bU)(N:Nat)(S:List Fr)(o:aH)(w:Bool)(r:List aH)(f:eN)(h:aA):DV→Res
 | .bool b=>if b=w then Z6 D N S o.dst r f (bC (fc D) o.op (tab N f) h)else Ac D N S r (sB f o.dst bH) h
 | .tup _=>Ac D N S r (sB f o.dst bH) h
 | _=>.fail
noncomputable def uT(D:bU)(N:Nat)(S:List Fr)(ops:List aH)(f:eN)(hs:List aA)(L:cA):Res :=
 match dL (fc D) ops (tab N f) hs L with
 | some (env,h)=>yK D S .normal env h
 | none=>.fail
noncomputable def P8(D:bU)(N:Nat)(S:List Fr)(dst:Option Nat)(r:List aH)(f:eN)(hs:List aA)(L:cA):Option (DV×aA)→Res
 | some (v,_)=>uT D N S r (sB f dst v) hs L
 | none=>.fail
noncomputable def P6(D:bU)(N:Nat)(S:List Fr)(dst:Option Nat)(r:List aH)(f:eN)(hs:List aA)(L:cA):Option (DV×aA)→Res
 | some (v,h)=>uT D N S r (sB f dst v) (h::hs) L
 | none=>.fail
noncomputable def P4(D:bU)(N:Nat)(S:List Fr)(dst:Option Nat)(r:List aH)(f:eN)(hs:List aA):Option (DV×aA×cA)→Res
 | some (v,h,L)=>uT D N S r (sB f dst v) (h::hs) L
 | none=>.fail
noncomputable def Tf(D:bU)(N:Nat)(S:List Fr)(dst:Option Nat)(op:DOp)(cm:Bool)(r:List aH)(f:eN)(hs:List aA)(L:cA):Option aA→Res
 | some h0=>P8 D N S dst r f hs (L.see cm (mark (tab N f) op)) (aC h0 (tab N f) op)
 | none=>.fail
noncomputable def P9(D:bU)(N:Nat)(S:List Fr)(dst:Option Nat)(op:DOp)(r:List aH)(f:eN)(h:aA)(gs:List aA)(L:cA):Option aA→Res
 | some h0=>P4 D N S dst r f (h::gs) (cI (fc D) h0.n gs.length L op (tab N f) h)
 | none=>.fail
noncomputable def Ad(D:bU)(N:Nat)(S:List Fr)(dst:Option Nat)(op:DOp)(snap:Nat)(cm:Bool)(r:List aH)(f:eN)(hs:List aA)(L:cA):sR→Res
 | .read=>if L.free snap (bM (tab N f) op)=true then Tf D N S dst op cm r f hs L (hZ hs snap)else .fail
 | .write=>match hs with
  | h::_=>P6 D N S dst r f hs L (bC (fc D) op (tab N f) h)
  | []=>.fail
 | .create=>match hs with
  | h::gs=>P9 D N S dst op r f h gs L (hZ hs snap)
  | []=>.fail
noncomputable def xY(D:bU)(N:Nat)(S:List Fr)(dst:Option Nat)(k:sR)(r:List aH)(f:eN)(L:cA):List aA→Res
 | h::hs=>uT D N S r (sB f dst bH) (if k=.read then h::hs else h::h::hs) L
 | []=>.fail
noncomputable def Th(D:bU)(N:Nat)(S:List Fr)(o:aH)(w:Bool)(r:List aH)(f:eN)(hs:List aA)(L:cA):DV→Res
 | .bool b=>if b=w then Ad D N S o.dst o.op o.snap o.calm r f hs L o.kind else xY D N S o.dst o.kind r f L hs
 | .tup _=>xY D N S o.dst o.kind r f L hs
 | _=>.fail
noncomputable def T2(D:bU)(as:List DV)(h:aA):DV→Option (DV×aA)
 | .func g cap=>fc D g (as++cap) h
 | _=>none
section
variable (D:bU) (N:Nat) (S:List Fr) (f:eN) (h:aA)
theorem GJ:run D N S .skip f h=ret D N S .normal f h:=by unfold run;rw[PY];rfl
theorem GL(id:Nat):run D N S (.exit id) f h=ret D N S (.exit id) f h:=by unfold run;rw[QA];rfl
theorem NP:run D N S .ret f h=ret D N S .ret f h:=by unfold run;rw[WX];rfl
theorem NO(a b:aI):run D N S (.seq a b) f h=run D N (.seq b::S) a f h:=by
 unfold run
 rw[WW]
 cases ev D a (tab N f) h with
 | fail=>rfl
 | ok e env h1 =>
  cases e<;>simp only[after,yK]
theorem GN(c:Opd)(a b:aI):run D N S (.cond c a b) f h=GS D N S a b f h (c.eval (tab N f)):=by
 unfold run
 rw[QC]
 unfold GS
 split<;>simp_all[run,after]
theorem Z4(id:Nat)(b:aI):run D N S (.block id b) f h=run D N (.block id::S) b f h:=by
 unfold run
 rw[JR]
 cases ev D b (tab N f) h with
 | fail=>rfl
 | ok e env h1 =>
  cases e with
  | exit i =>
   by_cases e:i=id
   ·simp only[after,yK,if_pos e]
   ·simp only[after,yK,if_neg e]
  | _=>rfl
theorem GK(b:aI):run D N S (.loop b) f h=run D N (.loop b::S) b f h:=by
 unfold run
 rw[PZ]
 cases ev D b (tab N f) h with
 | fail=>rfl
 | ok e env h1 =>
  cases e<;>simp only[after,yK]
theorem Zb(ops:List aH):run D N S (.region ops) f h=Ac D N S ops f h:=by
 unfold run Ac
 rw[CK]
 cases eM (fc D) ops (tab N f) h<;>rfl
theorem GM(ops:List aH):run D N S (.draw ops) f h=uT D N S ops f [h] .start:=by
 unfold run uT
 rw[QB]
 cases dL (fc D) ops (tab N f) [h] .start<;>rfl
theorem AC(a b:aI):GS D N S a b f h (.bool true)=run D N S a f h:=rfl
theorem Zn(a b:aI):GS D N S a b f h (.bool false)=run D N S b f h:=rfl
theorem GR(a b:aI)(t:Bool):GS D N S a b f h (.bool t)=if t=true then run D N S a f h else run D N S b f h:=by cases t<;>rfl
theorem NS(e:Ex):ret D N [] e f h=.ok e (tab N f) h:=rfl
theorem NR(b:aI):ret D N (.seq b::S) .normal f h=run D N S b f h:=by
 unfold ret run;simp only[yK];cases ev D b (tab N f) h<;>rfl
theorem Ov(b:aI)(i:Nat):ret D N (.seq b::S) (.exit i) f h=ret D N S (.exit i) f h:=rfl
theorem Tj(b:aI):ret D N (.seq b::S) .ret f h=ret D N S .ret f h:=rfl
theorem AG(id:Nat):ret D N (.block id::S) .normal f h=ret D N S .normal f h:=rfl
theorem Jv(id:Nat):ret D N (.block id::S) .ret f h=ret D N S .ret f h:=rfl
theorem Gm(id i:Nat):ret D N (.block id::S) (.exit i) f h=ret D N S (if i=id then .normal else .exit i) f h:=rfl
theorem GU(b:aI):ret D N (.loop b::S) .normal f h=run D N S (.loop b) f h:=by
 unfold ret run;simp only[yK];cases ev D (.loop b) (tab N f) h<;>rfl
theorem Ju(b:aI)(i:Nat):ret D N (.loop b::S) (.exit i) f h=ret D N S (.exit i) f h:=rfl
theorem Ow(b:aI):ret D N (.loop b::S) .ret f h=ret D N S .ret f h:=rfl
theorem GO:Ac D N S [] f h=ret D N S .normal f h:=rfl
theorem Z7(dst:Option Nat)(op:DOp)(k:sR)(s:Nat)(cm:Bool)(r:List aH) :
  Ac D N S (⟨dst,op,none,k,s,cm⟩::r) f h=Z6 D N S dst r f (bC (fc D) op (tab N f) h):=by
 unfold Ac
 simp only[eM,fU]
 cases bC (fc D) op (tab N f) h with
 | none=>rfl
 | some p=>simp only[Z6,qN];rfl
theorem Zc(dst:Option Nat)(op:DOp)(t:Nat)(w:Bool)(k:sR)(s:Nat)(cm:Bool)(r:List aH) :
  Ac D N S (⟨dst,op,some (t,w),k,s,cm⟩::r) f h=Z9 D N S ⟨dst,op,some (t,w),k,s,cm⟩ w r f h (rd N f t):=by
 unfold Ac
 simp only[eM,fU,wP]
 unfold rd
 by_cases aY:t<N
 ·simp only[if_pos aY]
  cases hv:f t with
  | bool b =>
   simp only[Z9]
   by_cases e:b=w
   ·subst e
    simp only[beq_self_eq_true,if_true]
    cases bC (fc D) op (tab N f) h with
    | none=>rfl
    | some p=>simp only[Z6,qN];rfl
   ·have:(b == w)=false:=by simpa using e
    simp only[this,if_neg e,qN];rfl
  | tup l=>simp only[Z9,qN];rfl
  | _=>rfl
 ·simp only[if_neg aY];rfl
theorem Z5(dst:Option Nat)(r:List aH)(v:DV):Z6 D N S dst r f (some (v,h))=Ac D N S r (sB f dst v) h:=rfl
theorem Z8(o:aH)(w:Bool)(r:List aH)(b:Bool):Z9 D N S o w r f h (.bool b)=if b=w then Z6 D N S o.dst r f (bC (fc D) o.op (tab N f) h)else Ac D N S r (sB f o.dst bH) h:=rfl
theorem GP(o:aH)(w:Bool)(r:List aH)(l:List DV):Z9 D N S o w r f h (.tup l)=Ac D N S r (sB f o.dst bH) h:=rfl
variable (hs:List aA) (L:cA)
theorem GQ:uT D N S [] f (h::hs) L=ret D N S .normal f h:=rfl
theorem Lp(dst:Option Nat)(op:DOp)(k:sR)(s:Nat)(cm:Bool)(r:List aH)(g:Option (Nat×Bool)) :
  uT D N S (⟨dst,op,g,k,s,cm⟩::r) f (h::hs) L=(match fU (tab N f) g with
   | none=>.fail
   | some true=>Ad D N S dst op s cm r f (h::hs) L k
   | some false=>xY D N S dst k r f L (h::hs)):=by
 unfold uT
 simp only[dL]
 cases fU (tab N f) g with
 | none=>rfl
 | some t =>
  cases t with
  | false=>simp only[xY,qN];rfl
  | true =>
   simp only[Ad]
   cases k with
   | read =>
    simp only
    by_cases yV:L.free s (bM (tab N f) op)=true
    ·simp only[if_pos yV,Tf]
     cases hZ (h::hs) s with
     | none=>rfl
     | some h0 =>
      simp only
      cases aC h0 (tab N f) op with
      | none=>rfl
      | some p=>simp only[P8,qN];rfl
    ·simp only[if_neg yV]
   | write =>
    simp only
    cases bC (fc D) op (tab N f) h with
    | none=>rfl
    | some p=>simp only[P6,qN];rfl
   | create =>
    simp only[P9]
    cases hZ (h::hs) s with
    | none=>rfl
    | some h0 =>
     simp only
     cases cI (fc D) h0.n hs.length L op (tab N f) h with
     | none=>rfl
     | some p=>simp only[P4,qN];rfl
theorem AA(dst:Option Nat)(op:DOp)(k:sR)(s:Nat)(cm:Bool)(r:List aH) :
  uT D N S (⟨dst,op,none,k,s,cm⟩::r) f (h::hs) L=Ad D N S dst op s cm r f (h::hs) L k:=by rw[Lp];rfl
theorem Ze(dst:Option Nat)(op:DOp)(t:Nat)(w:Bool)(k:sR)(s:Nat)(cm:Bool)(r:List aH) :
  uT D N S (⟨dst,op,some (t,w),k,s,cm⟩::r) f (h::hs) L=Th D N S ⟨dst,op,some (t,w),k,s,cm⟩ w r f (h::hs) L (rd N f t):=by
 rw[Lp]
 simp only[fU,wP]
 unfold rd
 by_cases aY:t<N
 ·simp only[if_pos aY]
  cases hv:f t with
  | bool b =>
   simp only[Th]
   by_cases e:b=w
   ·subst e;simp
   ·have:(b == w)=false:=by simpa using e
    simp only[this,if_neg e]
  | _=>rfl
 ·simp only[if_neg aY];rfl
theorem Zl(o:aH)(w:Bool)(r:List aH)(b:Bool):Th D N S o w r f hs L (.bool b)=if b=w then Ad D N S o.dst o.op o.snap o.calm r f hs L o.kind else xY D N S o.dst o.kind r f L hs:=rfl
theorem AB(o:aH)(w:Bool)(r:List aH)(l:List DV):Th D N S o w r f hs L (.tup l)=xY D N S o.dst o.kind r f L hs:=rfl
theorem Zi(dst:Option Nat)(r:List aH):xY D N S dst .read r f L (h::hs)=uT D N S r (sB f dst bH) (h::hs) L:=rfl
theorem Tb(dst:Option Nat)(r:List aH):xY D N S dst .write r f L (h::hs)=uT D N S r (sB f dst bH) (h::h::hs) L:=rfl
theorem Om(dst:Option Nat)(r:List aH):xY D N S dst .create r f L (h::hs)=uT D N S r (sB f dst bH) (h::h::hs) L:=rfl
theorem Zj(dst:Option Nat)(op:DOp)(s:Nat)(cm:Bool)(r:List aH):Ad D N S dst op s cm r f hs L .read=if L.free s (bM (tab N f) op)=true then Tf D N S dst op cm r f hs L (hZ hs s)else .fail:=rfl
theorem Td(dst:Option Nat)(op:DOp)(s:Nat)(cm:Bool)(r:List aH):Ad D N S dst op s cm r f (h::hs) L .write=P6 D N S dst r f (h::hs) L (bC (fc D) op (tab N f) h):=rfl
theorem On(dst:Option Nat)(op:DOp)(s:Nat)(cm:Bool)(r:List aH):Ad D N S dst op s cm r f (h::hs) L .create=P9 D N S dst op r f h hs L (hZ (h::hs) s):=rfl
theorem Zk(dst:Option Nat)(op:DOp)(cm:Bool)(r:List aH)(h0:aA):Tf D N S dst op cm r f hs L (some h0)=P8 D N S dst r f hs (L.see cm (mark (tab N f) op)) (aC h0 (tab N f) op):=rfl
theorem Zm(dst:Option Nat)(op:DOp)(r:List aH)(h0:aA):P9 D N S dst op r f h hs L (some h0)=P4 D N S dst r f (h::hs) (cI (fc D) h0.n hs.length L op (tab N f) h):=rfl
theorem Zh(dst:Option Nat)(r:List aH)(v:DV):P8 D N S dst r f hs L (some (v,h))=uT D N S r (sB f dst v) hs L:=rfl
theorem Zg(dst:Option Nat)(r:List aH)(v:DV):P6 D N S dst r f hs L (some (v,h))=uT D N S r (sB f dst v) (h::hs) L:=rfl
theorem Zf(dst:Option Nat)(r:List aH)(v:DV):P4 D N S dst r f hs (some (v,h,L))=uT D N S r (sB f dst v) (h::hs) L:=rfl
theorem Y6(k:Nat):hZ hs k=hs.reverse[k]?:=by
 unfold hZ
 split
 ·rename_i hk;rw[List.getElem?_reverse hk]
 ·rename_i hk;rw[List.getElem?_eq_none (by simp;omega)]
theorem B7(g:Opd)(args:List Opd)(env:Env):bC (fc D) (.call g args) env h=T2 D (args.map (Opd.eval env)) h (g.eval env):=by
 simp only[bC,T2]
 split<;>simp_all
theorem L9(as:List DV)(g:Nat)(cap:List DV):T2 D as h (.func g cap)=fc D g (as++cap) h:=rfl
def fin(rs:List Lb):Res→Option (DV×aA)
 | .ok (.exit _) _ _=>none
 | .ok _ env h'=>match aT h' env rs with
  | some v=>some (v,h')
  | none=>none
 | .fail=>none
def J0(h:aA):Option DV→Option (DV×aA)
 | some v=>some (v,h)
 | none=>none
theorem PX(rs:List Lb)(env:Env):fin rs (.ok .ret env h)=J0 h (aT h env rs):=by
 unfold fin J0;rfl
theorem I9(rs:List Lb)(env:Env):fin rs (.ok .normal env h)=J0 h (aT h env rs):=by
 unfold fin J0;rfl
theorem CF(v:DV):J0 h (some v)=some (v,h):=rfl
theorem aP(df:aL)(args:List DV)(hl:args.length≤df.ntmps):gR (ev D) df args h=fin df.results (run D df.ntmps [] df.body (KW args) h):=by
 unfold gR run
 rw[FD _ _ hl]
 cases ev D df.body (tab df.ntmps (KW args)) h with
 | fail=>rfl
 | ok e env h1=>cases e<;>rfl
theorem Jx(env:Env)(r:Lb):aT h env [r]=iT h env r:=rfl
theorem Zo(n:Nat):iT h (tab N f) (.t n)=some (rd N f n):=by simp only[iT,Ft]
theorem Jy(a:Nat)(n:Option Nat):iT h (tab N f) (.cell a n)=iW h n (rd N f a):=by simp only[iT,Ft]
end
def lM:aA:={objs:=[],n:=0,lim:=0}
noncomputable def oK(o:Option (DV×aA)):Option DV :=
 match o with
 | some (v,h')=>match resolve false h' bO v with
  | some d=>if aZ bO d then some d else none
  | none=>none
 | none=>none
noncomputable def pcF(D:bU)(df:aL)(ds:List DV):Option DV:=oK (gR (ev D) df ds lM)
def cV(h:aA):Option DV→Option (DV×aA)
 | some d=>some (d,h)
 | none=>none
theorem uA(h:aA)(d:DV):cV h (some d)=some (d,h):=rfl
noncomputable def sQ(D:bU)(df:aL)(h:aA):Option (List DV)→Option (DV×aA)
 | some ds=>cV h (pcF D df ds)
 | none=>none
theorem qC(D:bU)(df:aL)(h:aA)(ds:List DV):sQ D df h (some ds)=cV h (pcF D df ds):=rfl
theorem dA{D:bU}{f:Nat}{df:aL}(hh:D.hook f=none)(hf:D.fn f=some df)(hm:df.mode=.pure)(args:List DV)(h:aA) :
  fc D f args h=sQ D df h (args.mapM (resolve true h bO)):=by
 rw[Vt,hh,hf]
 simp only
 unfold dE
 rw[hm]
 simp only
 cases args.mapM (resolve true h bO)with
 | none=>rfl
 | some ds =>
  simp only[sQ,pcF,oK,lM,cV]
  cases gR (ev D) df ds {objs:=[],n:=0,lim:=0} with
  | none=>rfl
  | some p =>
   obtain⟨v,h'⟩:=p
   simp only
   cases resolve false h' bO v with
   | none=>rfl
   | some d =>
    simp only
    split<;>rfl
noncomputable def Wp(D:bU)(df:aL):Option (List DV×aA)→Option (DV×aA)
 | some (as,h)=>sQ D df h (as.mapM (resolve true h bO))
 | none=>none
theorem Iq(D:bU)(df:aL)(as:List DV)(h:aA):Wp D df (some (as,h))=sQ D df h (as.mapM (resolve true h bO)):=rfl
theorem yZ{D:bU}{f:Nat}{df:aL}(hh:D.hook f=none)(hf:D.fn f=some df)(hm:df.mode=.frz)(args:List DV)(h:aA) :
  fc D f args h=Wp D df (oC fB h args):=by
 rw[Vt,hh,hf]
 simp only
 unfold dE
 rw[hm]
 simp only
 cases oC fB h args with
 | none=>rfl
 | some p =>
  obtain⟨as,h1⟩:=p
  simp only[Wp]
  cases as.mapM (resolve true h1 bO)with
  | none=>rfl
  | some ds =>
   simp only[sQ,pcF,oK,lM,cV]
   cases gR (ev D) df ds {objs:=[],n:=0,lim:=0} with
   | none=>rfl
   | some p =>
    obtain⟨v,h'⟩:=p
    simp only
    cases resolve false h' bO v with
    | none=>rfl
    | some d =>
     simp only
     split<;>rfl
theorem dP{D:bU}{f:Nat}{df:aL}(hh:D.hook f=none)(hf:D.fn f=some df)(hm:df.mode=.full)(args:List DV)(h:aA) :
  fc D f args h=gR (ev D) df args h:=by
 rw[Vt,hh,hf]
 simp only
 unfold dE
 rw[hm]
theorem gN{D:bU}{f:Nat}{hk:qJ}(hh:D.hook f=some hk)(args:List DV)(h:aA):fc D f args h=hk h args:=by
 rw[Vt,hh]
end Go.Dm
/-
Part 1 of "De": equations by which 'simp' runs the machine's code over data that are partly unknown.
-/
namespace Go.Dm
def WF(h:aA):Prop:=h.objs.length=h.n
theorem EJ:WF lM:=rfl
theorem WF.push{h:aA}{o:DO}(w:WF h):WF (h.push o):=by unfold WF at *;simp[aA.push,w]
theorem WF.set{h:aA}{id:Nat}{o:DO}(w:WF h):WF (h.set id o):=by unfold WF at *;simp[aA.set,w]
theorem WF.lim{h:aA}{l:Nat}(w:WF h):WF {h with lim:=l}:=w
theorem Oz{h:aA}{o o':DO}{id:Nat}(eF:id<h.n):(h.push o).set id o'=(h.set id o').push o:=by
 have e:h.n-id=(h.n-1-id)+1:=by omega
 simp[aA.push,aA.set]
 rw[e];rfl
theorem Tp{h:aA}{o o':DO}{id:Nat}:(h.push o).set id o'=if id<h.n then(h.set id o').push o else h.push o':=by
 split
 ·rename_i eF;exact Oz eF
 ·rename_i eF
  have e:h.n-id=0:=by omega
  simp[aA.push,aA.set]
  rw[e];rfl
theorem RB{h:aA}{id:Nat}{o:DO}:(h.set id o).n=h.n:=rfl
theorem cM{h:aA}(w:WF h){id k:Nat}{o:DO}(eF:id<h.n):(h.set id o).get k=if k=id then some o else h.get k:=by
 unfold WF at w
 by_cases e:k=id
 ·subst e
  rw[if_pos rfl]
  simp only[aA.get,aA.set,if_pos eF]
  rw[List.getElem?_set,if_pos rfl,if_pos (by omega)]
  exact if_pos eF
 ·rw[if_neg e];exact aN eF e
theorem aB{h:aA}{id:Nat}{o:DO}(hg:h.get id=some o):id<h.n:=cY hg
def HO(c a b:DV):Option DV:=match c with|.bool t=>some (if t then a else b)|_=>none
theorem B4(t:Bool)(a b:DV):HO (.bool t) a b=some (if t then a else b):=rfl
def wW:DV→Option DV
 | .ptr id sz idx off=>some (.ptr id sz idx off)
 | .iptr l cs off=>some (.iptr l cs off)
 | _=>none
theorem Ka(id sz idx off:Nat):wW (.ptr id sz idx off)=some (.ptr id sz idx off):=rfl
theorem Gy(l:Bool)(cs:List DV)(off:Nat):wW (.iptr l cs off)=some (.iptr l cs off):=rfl
def WY(neq:Bool):DV→DV→Option DV
 | .bool a,.bool b=>some (.bool (if neq then !(a == b)else a == b))
 | _,_=>none
theorem CM(neq a b:Bool):WY neq (.bool a) (.bool b)=some (.bool (if neq then !(a == b)else a == b)):=rfl
def vP(neq:Bool):Option Bool→Option DV
 | some r=>some (.bool (if neq then !r else r))
 | none=>none
theorem I7(neq r:Bool):vP neq (some r)=some (.bool (if neq then !r else r)):=rfl
def KK(k:IntKind):DV→Option DV|.int _ n=>some (.int k (k.wrap n))|_=>none
theorem CY(k k':IntKind)(n:Int):KK k (.int k' n)=some (.int k (k.wrap n)):=rfl
def M5:DV→Option DV|.str s=>some (.str s)|_=>none
theorem M4(s:List UInt8):M5 (.str s)=some (.str s):=rfl
def tU(off:Nat):DV→Option DV
 | .ptr id sz idx o=>some (.ptr id sz idx (o+off))
 | .iptr l cs o=>some (.iptr l cs (o+off))
 | _=>none
theorem Hz(off id sz idx o:Nat):tU off (.ptr id sz idx o)=some (.ptr id sz idx (o+off)):=rfl
theorem Ep(off:Nat)(l:Bool)(cs:List DV)(o:Nat):tU off (.iptr l cs o)=some (.iptr l cs (o+off)):=rfl
def Hy(off:Nat)(n:Option Nat):DV→Option DV|.agg cs=>cO n cs off|_=>none
theorem J2(off:Nat)(n:Option Nat)(cs:List DV):Hy off n (.agg cs)=cO n cs off:=rfl
def aS(sz:Nat)(x i:DV):Option DV :=
 match asI i with
 | some i =>
  match x with
  | .sl id dK off len=>if sz=dK∧0≤i∧i<(len:Int)then some (.ptr id sz (off+i.toNat) 0)else none
  | .isl l dK xs=>if sz=dK∧0≤i then(match xs[i.toNat]? with|some e=>some (.iptr l (aF sz e) 0)|none=>none)else none
  | _=>none
 | none=>none
def jI(len esz:Nat)(x i:DV):Option DV :=
 match asI i with
 | some i =>
  if 0≤i∧i<(len:Int)then
   match x with
   | .ptr id sz idx o=>some (.ptr id sz idx (o+i.toNat*esz))
   | .iptr l cs o=>some (.iptr l cs (o+i.toNat*esz))
   | _=>none
  else none
 | none=>none
def F4(len esz:Nat)(n:Option Nat)(x i:DV):Option DV :=
 match asI i,x with
 | some i,.agg cs=>if 0≤i∧i<(len:Int)then cO n cs (i.toNat*esz)else none
 | _,_=>none
def Cp(x i:DV):Option DV :=
 match asI i,x with
 | some i,.str s=>if 0≤i then(match s[i.toNat]? with|some b=>some (.int .u8 b.toNat)|none=>none)else none
 | _,_=>none
def cF(o:Option DV)(dflt lim:Nat):Option Nat :=
 match o with
 | none=>some dflt
 | some x=>match asI x with
  | some n=>if 0≤n∧n≤(lim:Int)then some n.toNat else none
  | none=>none
theorem Iu(env:Env)(o:Option Opd)(d l:Nat):bound env o d l=cF (o.map (Opd.eval env)) d l:=by
 cases o<;>rfl
theorem wF(d l:Nat):cF none d l=some d:=rfl
theorem uB(k:IntKind)(n:Int)(d l:Nat)(h0:0≤n)(h1:n≤(l:Int)):cF (some (.int k n)) d l=some n.toNat:=by
 simp[cF,asI,h0,h1]
def Cd(x:DV)(lo hi:Option DV):Option DV :=
 match x with
 | .str s=>match cF hi s.length s.length with
  | some b=>match cF lo 0 b with
   | some a=>some (.str ((s.drop a).take (b-a)))
   | none=>none
  | none=>none
 | _=>none
def fC(h:aA)(sz:Nat)(x:DV)(lo hi:Option DV):Option DV :=
 match x with
 | .nsl=>match cF hi 0 0 with
  | some b=>match cF lo 0 b with
   | some _=>some .nsl
   | none=>none
  | none=>none
 | .isl l dK xs=>if sz=dK∨xs=[]then match cF hi xs.length xs.length with
   | some b=>match cF lo 0 b with
    | some a=>some (.isl l sz ((xs.drop a).take (b-a)))
    | none=>none
   | none=>none
  else none
 | .sl id dK off len=>match h.get id with
  | some (.arr _ jQ xs _)=>if sz=dK∧sz=jQ∧off+len≤xs.length then match cF hi len (xs.length-off)with
    | some b=>match cF lo 0 b with
     | some a=>some (.sl id sz (off+a) (b-a))
     | none=>none
    | none=>none
   else none
  | _=>none
 | _=>none
def lenV(h:aA)(k:Nat):DV→Option DV
 | .str s=>if k=0 then some (.int .i64 s.length)else none
 | .nsl=>if k=1 then some (.int .i64 0)else none
 | .sl _ _ _ len=>if k=1 then some (.int .i64 len)else none
 | .isl _ _ xs=>if k=1 then some (.int .i64 xs.length)else none
 | .nmap=>if k=2 then some (.int .i64 0)else none
 | .map id=>match h.get id with|some (.mp es)=>if k=2 then some (.int .i64 es.length)else none|_=>none
 | _=>none
theorem IU(h:aA)(s:List UInt8):lenV h 0 (.str s)=some (.int .i64 s.length):=rfl
theorem IV(h:aA):lenV h 1 .nsl=some (.int .i64 0):=rfl
theorem OU(h:aA)(id sz off len:Nat):lenV h 1 (.sl id sz off len)=some (.int .i64 len):=rfl
theorem IX(h:aA)(t:Bool)(sz:Nat)(xs:List DV):lenV h 1 (.isl t sz xs)=some (.int .i64 xs.length):=rfl
def Rc(h:aA)(ety sz bytes:Nat)(s:DV):Option (List DV)→Option (DV×aA)
 | some ys=>bF h ety sz bytes s ys
 | none=>none
theorem Rb(h:aA)(ety sz bytes:Nat)(s:DV)(ys:List DV):Rc h ety sz bytes s (some ys)=bF h ety sz bytes s ys:=rfl
def KH(h:aA)(sz:Nat)(d:DV):Option (List DV)→Option (DV×aA)
 | some ys=>wA h sz d ys
 | none=>none
theorem L3(h:aA)(sz:Nat)(d:DV)(ys:List DV):KH h sz d (some ys)=wA h sz d ys:=rfl
def Po(mx:Bool):DV→DV→Option DV
 | .int k a,.int _ b=>some (.int k (if mx then(if a<b then b else a)else(if b<a then b else a)))
 | _,_=>none
theorem Uq(mx:Bool)(k k':IntKind)(a b:Int):Po mx (.int k a) (.int k' b)=some (.int k (if mx then(if a<b then b else a)else(if b<a then b else a))):=rfl
def Bf(i:Nat):DV→Option DV|.tup vs=>vs[i]?|_=>none
theorem Qm(i:Nat)(vs:List DV):Bf i (.tup vs)=vs[i]?:=rfl
def Fx:Option aA→Option (DV×aA)
 | some h=>some (.tup [],h)
 | none=>none
theorem Sb(h:aA):Fx (some h)=some (.tup [],h):=rfl
def XO(h:aA)(ety sz:Nat)(x:DV):Option (DV×aA):=if aQ sz x then some (.ptr h.n sz 0 0,h.push (.arr ety sz [x] (some 1)))else none
theorem QM{h:aA}{ety sz:Nat}{x:DV}(hs:aQ sz x=true):XO h ety sz x=some (.ptr h.n sz 0 0,h.push (.arr ety sz [x] (some 1))):=if_pos hs
def XT(h:aA):Option (List DV)→Option (DV×aA)
 | some cs=>some (.agg cs,h)
 | none=>none
theorem DT(h:aA)(cs:List DV):XT h (some cs)=some (.agg cs,h):=rfl
def Ge(h:aA)(ety sz len:Nat):Option (List DV)→Option (DV×aA)
 | some xs=>some (.sl h.n sz 0 len,h.push (.arr ety sz xs (some len)))
 | none=>none
theorem Jq(h:aA)(ety sz len:Nat)(xs:List DV):Ge h ety sz len (some xs)=some (.sl h.n sz 0 len,h.push (.arr ety sz xs (some len))):=rfl
section
variable (h:aA) (env:Env)
theorem MY(x:Opd):aC h env (.move x)=some (x.eval env,h):=rfl
theorem O8(c a b:Opd):aC h env (.pick c a b)=cV h (HO (c.eval env) (a.eval env) (b.eval env)):=by simp only[aC];cases c.eval env<;>rfl
theorem FW(ety sz:Nat)(z:DV):aC h env (.alloc ety sz z)=some (.ptr h.n sz 0 0,h.push (.arr ety sz [z] (some 1))):=rfl
theorem UJ(ety sz:Nat)(x:Opd):aC h env (.box ety sz x)=XO h ety sz (x.eval env):=rfl
theorem Sk(zero:List DV)(parts:List (Nat×Nat×Opd)):aC h env (.build zero parts)=XT h (fN zero (parts.map fun p=>(p.1,p.2.1,p.2.2.eval env))):=by
 simp only[aC];cases fN zero (parts.map fun p=>(p.1,p.2.1,p.2.2.eval env))<;>rfl
theorem xV(ety sz:Nat)(z:DV)(len:Nat)(parts:List (Nat×Opd)):aC h env (.buildSlice ety sz z len parts)=Ge h ety sz len (cW sz (List.replicate len z) (parts.map fun p=>(p.1,p.2.eval env))):=by
 simp only[aC];cases cW sz (List.replicate len z) (parts.map fun p=>(p.1,p.2.eval env))<;>rfl
theorem O9(n:Option Nat)(a:Opd):aC h env (.load n a)=cV h (iW h n (a.eval env)):=by simp only[aC];cases iW h n (a.eval env)<;>rfl
theorem Sg(n:Nat)(a x:Opd):aC h env (.store n a x)=Fx (hU h n (a.eval env) (x.eval env)):=by simp only[aC];cases hU h n (a.eval env) (x.eval env)<;>rfl
theorem Dj(x:Opd):aC h env (.nilCheck x)=cV h (wW (x.eval env)):=by simp only[aC];cases x.eval env<;>rfl
theorem Sm(op:BinOp)(x y:Opd):aC h env (.arith op x y)=cV h (bX op (x.eval env) (y.eval env)):=by simp only[aC];cases bX op (x.eval env) (y.eval env)<;>rfl
theorem FT(neq:Bool)(x y:Opd):aC h env (.eqb neq x y)=cV h (WY neq (x.eval env) (y.eval env)):=by simp only[aC];cases x.eval env<;>cases y.eval env<;>rfl
theorem FU(neq:Bool)(ks:List Nat)(x y:Opd):aC h env (.eqa neq ks x y)=cV h (vP neq (eY (.agg ks) (x.eval env) (y.eval env))):=by simp only[aC];cases eY (.agg ks) (x.eval env) (y.eval env)<;>rfl
theorem FR(k:Nat)(neq:Bool)(x y:Opd):aC h env (.eqn k neq x y)=cV h (vP neq (nN k (x.eval env) (y.eval env))):=by simp only[aC];cases nN k (x.eval env) (y.eval env)<;>rfl
theorem RA(op:UnOp)(x:Opd):aC h env (.un op x)=cV h (unD op (x.eval env)):=by simp only[aC];cases unD op (x.eval env)<;>rfl
theorem P1(k:IntKind)(x:Opd):aC h env (.conv k x)=cV h (KK k (x.eval env)):=by simp only[aC];cases x.eval env<;>rfl
theorem Sl(x:Opd):aC h env (.asStr x)=cV h (M5 (x.eval env)):=by simp only[aC];cases x.eval env<;>rfl
theorem zU(off:Nat)(x:Opd):aC h env (.fieldAddr off x)=cV h (tU off (x.eval env)):=by simp only[aC];cases x.eval env<;>rfl
theorem Sj(off:Nat)(n:Option Nat)(x:Opd):aC h env (.field off n x)=cV h (Hy off n (x.eval env)):=by
 simp only[aC]
 cases x.eval env with
 | agg cs=>simp only[Hy];cases cO n cs off<;>rfl
 | _=>rfl
theorem zT(sz:Nat)(x i:Opd):aC h env (.indexAddr sz x i)=cV h (aS sz (x.eval env) (i.eval env)):=by
 simp only[aC,aS]
 cases asI (i.eval env)with
 | none=>rfl
 | some n =>
  simp only
  cases x.eval env with
  | sl id dK off len=>simp only;split<;>rfl
  | isl l dK xs =>
   simp only
   split
   ·cases xs[n.toNat]?<;>rfl
   ·rfl
  | _=>rfl
theorem Dl(len esz:Nat)(x i:Opd):aC h env (.indexArr len esz x i)=cV h (jI len esz (x.eval env) (i.eval env)):=by
 simp only[aC,jI]
 cases asI (i.eval env)with
 | none=>rfl
 | some n =>
  simp only
  split
  ·cases x.eval env<;>rfl
  ·rfl
theorem Si(len esz:Nat)(n:Option Nat)(x i:Opd):aC h env (.index len esz n x i)=cV h (F4 len esz n (x.eval env) (i.eval env)):=by
 simp only[aC,F4]
 cases asI (i.eval env)with
 | none=>rfl
 | some m =>
  cases x.eval env with
  | agg cs =>
   simp only
   split
   ·cases cO n cs (m.toNat*esz)<;>rfl
   ·rfl
  | _=>rfl
theorem Dk(x i:Opd):aC h env (.indexStr x i)=cV h (Cp (x.eval env) (i.eval env)):=by
 simp only[aC,Cp]
 cases asI (i.eval env)with
 | none=>rfl
 | some m =>
  cases x.eval env with
  | str s =>
   simp only
   split
   ·cases s[m.toNat]?<;>rfl
   ·rfl
  | _=>rfl
theorem Di(x:Opd)(lo hi:Option Opd):aC h env (.sliceStr x lo hi)=cV h (Cd (x.eval env) (lo.map (Opd.eval env)) (hi.map (Opd.eval env))):=by
 simp only[aC,Cd,Iu]
 cases x.eval env with
 | str s =>
  simp only
  cases cF (hi.map (Opd.eval env)) s.length s.length with
  | none=>rfl
  | some b=>simp only;cases cF (lo.map (Opd.eval env)) 0 b<;>rfl
 | _=>rfl
theorem Ga(sz:Nat)(x:Opd)(lo hi:Option Opd):aC h env (.sliceSl sz x lo hi)=cV h (fC h sz (x.eval env) (lo.map (Opd.eval env)) (hi.map (Opd.eval env))):=by
 simp only[aC,fC,Iu]
 cases x.eval env with
 | nsl =>
  simp only
  cases cF (hi.map (Opd.eval env)) 0 0 with
  | none=>rfl
  | some b=>simp only;cases cF (lo.map (Opd.eval env)) 0 b<;>rfl
 | isl l dK xs =>
  simp only
  split
  ·cases cF (hi.map (Opd.eval env)) xs.length xs.length with
   | none=>rfl
   | some b=>simp only;cases cF (lo.map (Opd.eval env)) 0 b<;>rfl
  ·rfl
 | sl id dK off len =>
  simp only
  cases h.get id with
  | none=>rfl
  | some o =>
   cases o with
   | arr e s xs c =>
    simp only
    split
    ·cases cF (hi.map (Opd.eval env)) len (xs.length-off)with
     | none=>rfl
     | some b=>simp only;cases cF (lo.map (Opd.eval env)) 0 b<;>rfl
    ·rfl
   | _=>rfl
 | _=>rfl
theorem FQ(k:Nat)(x:Opd):aC h env (.len k x)=cV h (lenV h k (x.eval env)):=by
 simp only[aC,lenV]
 cases x.eval env with
 | map id =>
  simp only
  cases h.get id with
  | none=>rfl
  | some o=>cases o<;>simp only<;>first|rfl|(split<;>rfl)
 | _=>first|rfl|(simp only;split<;>rfl)
theorem Lk(ety sz bytes:Nat)(s x:Opd):aC h env (.append ety sz bytes s x)=Rc h ety sz bytes (s.eval env) (elems h sz (x.eval env)):=by
 simp only[aC];cases elems h sz (x.eval env)<;>rfl
theorem P0(sz:Nat)(d s:Opd):aC h env (.copy sz d s)=KH h sz (d.eval env) (elems h sz (s.eval env)):=by
 simp only[aC];cases elems h sz (s.eval env)<;>rfl
theorem Lh(mx:Bool)(x y:Opd):aC h env (.minmax mx x y)=cV h (Po mx (x.eval env) (y.eval env)):=by
 simp only[aC];cases x.eval env<;>cases y.eval env<;>rfl
theorem Sh(f:FuncId)(cap:List Opd):aC h env (.makeFunc f cap)=some (.func f (cap.map (Opd.eval env)),h):=rfl
theorem Yp:aC h env .makeMap=some (.map h.n,h.push (.mp [])):=rfl
theorem Gb(x:Opd)(i:Nat):aC h env (.extract x i)=cV h (Bf i (x.eval env)):=by
 simp only[aC]
 cases x.eval env with
 | tup vs=>simp only[Bf];cases vs[i]?<;>rfl
 | _=>rfl
theorem Od(t:TypeId)(x:Opd):aC h env (.makeIface t x)=some (.iface t (x.eval env),h):=rfl
end
def vW(h:aA):DV→Option (List (DV×DV))
 | .nmap=>some []
 | .map id=>match h.get id with|some (.mp es)=>some es|_=>none
 | _=>none
def fY(q:EqT)(z:DV)(ok:Bool)(k:DV):Option (List (DV×DV))→Option DV
 | some es=>if(eY q k k).isSome then
   match lO q k es with
   | some (some (_,v))=>some (if ok then .tup [v,.bool true]else v)
   | some none=>some (if ok then .tup [z,.bool false]else z)
   | none=>none
  else none
 | none=>none
theorem Lj(h:aA)(env:Env)(q:EqT)(z:DV)(ok:Bool)(m k:Opd):aC h env (.lookup q z ok m k)=cV h (fY q z ok (k.eval env) (vW h (m.eval env))):=by
 have key:∀r:Option (List (DV×DV)),(match r with
   | some es=>if(eY q (k.eval env) (k.eval env)).isSome then
     match lO q (k.eval env) es with
     | some (some (_,v))=>some (if ok then DV.tup [v,.bool true]else v,h)
     | some none=>some (if ok then DV.tup [z,.bool false]else z,h)
     | none=>none
    else none
   | none=>none)=cV h (fY q z ok (k.eval env) r):=by
  intro r
  cases r with
  | none=>rfl
  | some es =>
   simp only[fY]
   split
   ·cases lO q (k.eval env) es with
    | none=>rfl
    | some x=>cases x<;>rfl
   ·rfl
 simp only[aC]
 rw[←key]
 cases m.eval env with
 | map id=>simp only[vW];cases h.get id with
  | none=>rfl
  | some o=>cases o<;>rfl
 | _=>rfl
def zN(h:aA)(q:EqT)(m k x:DV):Option aA :=
 match m with
 | .map id=>match h.get id with
  | some (.mp es) =>
   if h.lim≤id∧(eY q k k).isSome=true then
    match lO q k es with
    | some (some (i,_))=>some (h.set id (.mp (es.set i (k,x))))
    | some none=>some (h.set id (.mp (es++[(k,x)])))
    | none=>none
   else none
  | _=>none
 | _=>none
theorem zS(h:aA)(env:Env)(q:EqT)(m k x:Opd):aC h env (.mapUpdate q m k x)=Fx (zN h q (m.eval env) (k.eval env) (x.eval env)):=by
 simp only[aC,zN]
 cases m.eval env with
 | map id =>
  simp only
  cases h.get id with
  | none=>rfl
  | some o =>
   cases o with
   | mp es =>
    simp only
    split
    ·cases lO q (k.eval env) es with
     | none=>rfl
     | some y=>cases y with
      | none=>rfl
      | some p=>rfl
    ·rfl
   | _=>rfl
 | _=>rfl
section
variable (c:Nat→List DV→aA→Option (DV×aA)) (h:aA) (env:Env)
end
theorem bK{n:Int}(h1:-9223372036854775808≤n)(h2:n≤9223372036854775807):IntKind.i64.wrap n=n:=by
 exact Go.IntWalk.i64_in n ⟨h1,h2⟩
end Go.Dm
/-
Part 2 of "De": rows of data that are plain lists; rows that a call makes itself; what calls answer.
-/
namespace Go.Dm
def eL{α:Type}(t:Bool)(sz:Nat)(e:α→DV)(xs:List α):DV:=mkIsl t sz (xs.map e)
section eL
variable {α:Type} (t:Bool) (sz:Nat) (e:α→DV) (xs:List α)
theorem tW:eL t sz e []=.isl false 0 []:=rfl
theorem qY(x:α):eL t sz e (x::xs)=.isl t sz (e x::xs.map e):=rfl
theorem AaB{xs:List α}(h:xs≠[]):eL t sz e xs=.isl t sz (xs.map e):=by
 cases xs with
 | nil=>exact absurd rfl h
 | cons x xs=>rfl
theorem OV(h:aA):lenV h 1 (eL t sz e xs)=some (.int .i64 xs.length):=by cases xs<;>simp[tW,qY,lenV]
theorem Dg:aQ 1 (eL t sz e xs)=true:=by cases xs<;>rfl
theorem xE:aF 1 (eL t sz e xs)=[eL t sz e xs]:=by cases xs<;>rfl
theorem lQ(h:aA):elems h sz (eL t sz e xs)=some (xs.map e):=by cases xs<;>simp[tW,qY,elems]
theorem Kd{xs:List α}(k:IntKind){i:Nat}{a:α}(ha:xs[i]?=some a):aS sz (eL t sz e xs) (.int k (i:Int))=some (.iptr t (aF sz (e a)) 0):=by
 have cK:xs≠[]:=by intro h0;subst h0;simp at ha
 rw[AaB t sz e cK]
 simp[aS,asI,ha]
theorem Hg{xs:List α}(k:IntKind){i:Int}{a:α}(h0:0≤i)(ha:xs[i.toNat]?=some a):aS sz (eL t sz e xs) (.int k i)=some (.iptr t (aF sz (e a)) 0):=by
 obtain⟨n,rfl⟩:=Int.eq_ofNat_of_zero_le h0
 exact Kd t sz e k ha
end eL
def mZ(k:Nat)(d:DV):Prop:=∀tag h n,k≤n→resolve tag h n d=some d
def Unl(k:Nat)(d:DV):Prop:=∀n,k≤n→aZ n d=true
theorem mZ.mono{k m:Nat}{d:DV}(h:mZ k d)(hk:k≤m):mZ m d:=fun t hp n hn=>h t hp n (Nat.le_trans hk hn)
theorem Unl.mono{k m:Nat}{d:DV}(h:Unl k d)(hk:k≤m):Unl m d:=fun n hn=>h n (Nat.le_trans hk hn)
theorem cJ{k n:Nat}(h:k+1≤n):∃ m,n=m+1∧k≤m:=⟨n-1,by omega,by omega⟩
theorem gT(k:IntKind)(n:Int):mZ 1 (.int k n):=fun t h m hm=>by obtain⟨q,rfl,_⟩:=cJ hm;rfl
theorem CC(b:Bool):mZ 1 (.bool b):=fun t h m hm=>by obtain⟨q,rfl,_⟩:=cJ hm;rfl
theorem JO(s:List UInt8):mZ 1 (.str s):=fun t h m hm=>by obtain⟨q,rfl,_⟩:=cJ hm;rfl
theorem kA{α:Type}(t:Bool)(sz:Nat)(e:α→DV)(xs:List α):mZ 1 (eL t sz e xs):=fun tg h m hm=>by
 obtain⟨q,rfl,_⟩:=cJ hm
 cases xs<;>rfl
theorem wY{f:DV→Option DV}:∀{cs:List DV},(∀x∈cs,f x=some x)→cs.mapM f=some cs:=by
 intro cs
 induction cs with
 | nil=>intro _;rfl
 | cons x r ih =>
  intro h
  rw[List.mapM_cons,h x (List.mem_cons_self ..),ih (fun y hy=>h y (List.mem_cons_of_mem _ hy))];rfl
theorem vQ{k:Nat}{cs:List DV}(h:∀x∈cs,mZ k x):mZ (k+1) (.agg cs):=fun t hp m hm=>by
 obtain⟨q,rfl,hq⟩:=cJ hm
 have:cs.mapM (resolve t hp q)=some cs:=wY fun x hx=>h x hx t hp q hq
 simp only[resolve,this]
theorem jH(k:IntKind)(n:Int):Unl 1 (.int k n):=fun m hm=>by obtain⟨q,rfl,_⟩:=cJ hm;rfl
theorem Ro(b:Bool):Unl 1 (.bool b):=fun m hm=>by obtain⟨q,rfl,_⟩:=cJ hm;rfl
theorem N5(s:List UInt8):Unl 1 (.str s):=fun m hm=>by obtain⟨q,rfl,_⟩:=cJ hm;rfl
theorem Eu{k:Nat}{cs:List DV}(h:∀x∈cs,Unl k x):Unl (k+1) (.agg cs):=fun m hm=>by
 obtain⟨q,rfl,hq⟩:=cJ hm
 simp only[aZ,List.all_eq_true]
 exact fun x hx=>h x hx q hq
theorem kY{α:Type}{k sz:Nat}{e:α→DV}{xs:List α}(h:∀x∈xs,Unl k (e x)):Unl (k+1) (eL false sz e xs):=fun m hm=>by
 obtain⟨q,rfl,hq⟩:=cJ hm
 cases xs with
 | nil=>rfl
 | cons x r =>
  simp only[qY,aZ,Bool.not_false,Bool.true_and,List.all_eq_true]
  intro y hy
  rw[←List.map_cons (f:=e)]at hy
  obtain⟨z,hz,rfl⟩:=List.mem_map.1 hy
  exact h z hz q hq
class Plain {α:Type} (e:α→DV):Prop where
 flat:∀x,mZ 20 (e x)
 unl:∀x,Unl 20 (e x)
inductive Own(lo:Nat)(h:aA)(v:DV)(ety sz:Nat)(xs:List DV):Prop where
 | nil (hv:v=.nsl) (hx:xs=[])
 | arr (id:Nat) (hv:v=.sl id sz 0 xs.length) (hg:h.get id=some (.arr ety sz xs none)) (bJ:h.lim≤id) (dY:lo≤id)
structure Ext(lo:Nat)(h h':aA):Prop where
 le:lo≤h'.n
 lim:h'.lim=h.lim
 get:∀id,id<lo→h'.get id=h.get id
 wf:WF h'
theorem Ext.refl{lo:Nat}{h:aA}(cD:lo≤h.n)(w:WF h):Ext lo h h:=⟨cD,rfl,fun _ _=>rfl,w⟩
theorem Ext.trans{lo:Nat}{a b c:aA}(x:Ext lo a b)(y:Ext lo b c):Ext lo a c:=⟨y.le,y.lim.trans x.lim,fun id eF=>(y.get id eF).trans (x.get id eF),y.wf⟩
theorem Ext.push{lo:Nat}{h h':aA}{o:DO}(x:Ext lo h h'):Ext lo h (h'.push o) :=
 ⟨Nat.le_succ_of_le x.le,x.lim,fun id eF=>by rw[cH,if_neg (by have:=x.le;omega)];exact x.get id eF,x.wf.push⟩
theorem Ext.set{lo:Nat}{h h':aA}{id:Nat}{o:DO}(x:Ext lo h h')(eF:lo≤id)(aY:id<h'.n):Ext lo h (h'.set id o) :=
 ⟨x.le,x.lim,fun k hk=>by rw[cM x.wf aY,if_neg (by omega)];exact x.get k hk,x.wf.set⟩
theorem Own.push{lo:Nat}{h:aA}{o:DO}{v:DV}{ety sz:Nat}{xs:List DV}(w:Own lo h v ety sz xs):Own lo (h.push o) v ety sz xs:=by
 cases w with
 | nil hv hx=>exact .nil hv hx
 | arr id hv hg bJ dY =>
  refine .arr id hv ?_ bJ dY
  rw[cH,if_neg (by have:=aB hg;omega)];exact hg
theorem Own.start(lo:Nat)(h:aA)(ety sz:Nat):Own lo h .nsl ety sz []:=.nil rfl rfl
theorem Own.append{lo:Nat}{h:aA}{v:DV}{ety sz bytes:Nat}{xs ys:List DV}{A:Option (DV×aA)}(w:Own lo h v ety sz xs)(wf:WF h)(dY:lo≤h.n)(bJ:h.lim≤h.n)(hA:bF h ety sz bytes v ys=A)
  (hb:(xs.length+ys.length)*bytes≤140737488355328) (Cr:1≤bytes):∃ v' h',A=some (v',h')∧Own lo h' v' ety sz (xs++ys)∧Ext lo h h':=by
 have hm:xs.length+ys.length≤140737488355328:=Nat.le_trans (Nat.le_mul_of_pos_right _ Cr) hb
 by_cases hy:ys=[]
 ·subst hy
  refine⟨v,h,?_,by simpa using w,.refl dY wf⟩
  rw[←hA]
  cases w with
  | nil hv hx=>subst hv;rfl
  | arr id hv hg _ _=>subst hv;rfl
 ·have Ke:ys.isEmpty=false:=by cases ys<;>simp_all
  have RG:0<ys.length:=List.length_pos_iff.2 hy
  cases w with
  | nil hv hx =>
   subst hv;subst hx
   simp only[List.length_nil,Nat.zero_add]at hb hm
   refine⟨.sl h.n sz 0 ys.length,h.push (.arr ety sz ys none),?_,.arr h.n rfl cT (by exact bJ) dY,(Ext.refl dY wf).push⟩
   rw[←hA]
   simp only[bF,Ke]
   rw[if_neg (by simp),if_pos ⟨hb,by omega⟩]
  | arr id hv hg hl hi =>
   subst hv
   have aY:=aB hg
   have e2:(h.set id DO.dead).n=h.n:=rfl
   refine⟨.sl h.n sz 0 (xs.length+ys.length),(h.set id .dead).push (.arr ety sz (xs++ys) none),?_,.arr h.n (by simp) ?_ (by exact bJ) dY,(((Ext.refl dY wf).set hi aY).push)⟩
   ·rw[←hA]
    simp only[bF,Ke,hg]
    simp only[Bool.false_eq_true,if_false,true_and,Nat.zero_add,Nat.le_refl]
    rw[if_pos ⟨hb,by omega⟩,if_neg (by omega),if_pos hl]
    simp
   ·exact cT
end Go.Dm
/-
Part 3 of "De": what own rows show; what a pure call hands back; the program's data by plain structures.
-/
namespace Go.Dm
section Own
variable {lo:Nat} {h:aA} {v:DV} {ety sz:Nat} {xs:List DV}
theorem Own.lenV(w:Own lo h v ety sz xs):lenV h 1 v=some (.int .i64 xs.length):=by
 cases w with
 | nil hv hx=>subst hv;subst hx;rfl
 | arr id hv hg hl hi=>subst hv;rfl
theorem Own.elems(w:Own lo h v ety sz xs):elems h sz v=some xs:=by
 cases w with
 | nil hv hx=>subst hv;subst hx;rfl
 | arr id hv hg hl hi=>subst hv;simp[Dm.elems,hg]
theorem Own.ext{lo:Nat}{h h':aA}(w:Own lo h v ety sz xs)(x:Ext h.n h h'):Own lo h' v ety sz xs:=by
 cases w with
 | nil hv hx=>exact .nil hv hx
 | arr id hv hg hl hi=>exact .arr id hv ((x.get id (aB hg)).trans hg) (by rw[x.lim];exact hl) hi
theorem Own.resolve{α:Type}{e:α→DV}{ys:List α}{k n:Nat}(tag:Bool)(w:Own lo h v ety sz (ys.map e))(hf:∀y∈ys,mZ k (e y))(hn:k+1≤n):resolve tag h n v=some (eL tag sz e ys):=by
 obtain⟨m,rfl,hm⟩:=cJ hn
 cases w with
 | nil hv hx =>
  subst hv
  cases ys with
  | nil=>rfl
  | cons y r=>simp at hx
 | arr id hv hg hl hi =>
  subst hv
  have yU:(ys.map e).mapM (Dm.resolve tag h m)=some (ys.map e):=wY fun x hx=>by
   obtain⟨y,hy,rfl⟩:=List.mem_map.1 hx
   exact hf y hy tag h m hm
  simp only[Dm.resolve,hg,true_and,Nat.zero_add,Nat.le_refl,if_true,List.drop_zero,List.take_length,yU]
  rfl
end Own
theorem Ty{v d:DV}{h:aA}{k:Nat}(hr:resolve false h bO v=some d)(hu:Unl k d)(hk:k≤200):oK (some (v,h))=some d:=by
 simp only[oK,hr,hu bO hk,if_true]
theorem Own.out{lo:Nat}{h:aA}{v:DV}{ety sz:Nat}{α:Type}{e:α→DV}{ys:List α}{k:Nat}(w:Own lo h v ety sz (ys.map e))(hf:∀y∈ys,mZ k (e y))(hu:∀y∈ys,Unl k (e y))(hk:k≤198) :
  oK (some (v,h))=some (eL false sz e ys) :=
 Ty (k:=k+1) (w.resolve false hf (by show k+1≤200;omega)) (kY hu) (by omega)
theorem Vs{D:bU}{f:Nat}{df:aL}(hh:D.hook f=none)(hf:D.fn f=some df)(args:List DV)(h:aA):fc D f args h=dE (ev D) df args h:=by
 rw[Vt,hh,hf]
theorem CU{α:Type}{xs:List α}{i:Nat}{a:α}{r:List α}(h:xs.drop i=a::r):i<xs.length∧xs[i]?=some a∧xs.drop (i+1)=r:=by
 have h1:i<xs.length:=by
  by_cases aY:i<xs.length
  ·exact aY
  ·rw[List.drop_eq_nil_of_le (by omega)]at h;cases h
 rw[List.drop_eq_getElem_cons h1]at h
 injection h with h2 h3
 exact⟨h1,by rw[List.getElem?_eq_getElem h1,h2],h3⟩
theorem nG{α:Type}{xs:List α}{i:Nat}{a:α}{r:List α}(h:xs.drop i=a::r):∃ hi:i<xs.length,xs[i]=a∧xs.drop (i+1)=r:=by
 obtain⟨h1,h2,h3⟩:=CU h
 exact⟨h1,by rw[List.getElem?_eq_getElem h1]at h2;injection h2,h3⟩
theorem lR{α:Type}{xs:List α}{i:Nat}(h:xs.drop i=[]):xs.length≤i:=List.drop_eq_nil_iff.1 h
structure ID where
 bG:Int
 seq:Int
 deriving DecidableEq,Inhabited
structure Val where
 isText:Bool
 n:Int
 text:List UInt8
 deriving DecidableEq,Inhabited
structure Att where
 name:List UInt8
 val:Val
 deriving DecidableEq,Inhabited
structure Xg where
 name:List UInt8
 kind:Int
 lo:Int
 hi:Int
 text:List UInt8
 deriving DecidableEq,Inhabited
abbrev dZ:=List Xg
structure cQ where
 id:ID
 pred:dZ
 eQ:Int
 deriving DecidableEq,Inhabited
structure bL where
 tree:ID
 sub:ID
 pred:dZ
 lX:Int
 up:Bool
 deriving DecidableEq,Inhabited
structure Xc where
 id:ID
 pred:dZ
 deriving DecidableEq,Inhabited
structure aK where
 me:Int
 bE:List Int
 bB:List cQ
 seen:List ID
 entries:List bL
 lI:List Xc
 deriving DecidableEq,Inhabited
structure Msg where
 kind:Int
 tree:ID
 id:ID
 pred:dZ
 T5:List Att
 deriving DecidableEq,Inhabited
structure Out where
 to:Int
 m:Msg
 deriving DecidableEq,Inhabited
def dQ(n:Int):DV:=.int .i64 n
def JX(a:Att):DV:=.agg [.str a.name,.bool a.val.isText,.int .i64 a.val.n,.str a.val.text]
def sP(c:Xg):DV:=.agg [.str c.name,.int .i64 c.kind,.int .i64 c.lo,.int .i64 c.hi,.str c.text]
def eX(p:dZ):DV:=eL false 5 sP p
def eID(x:ID):DV:=.agg [.int .i64 x.bG,.int .i64 x.seq]
def aJ(a:cQ):DV:=.agg [.int .i64 a.id.bG,.int .i64 a.id.seq,eX a.pred,.int .i64 a.eQ]
def bR(e:bL):DV:=.agg [.int .i64 e.tree.bG,.int .i64 e.tree.seq,.int .i64 e.sub.bG,.int .i64 e.sub.seq,eX e.pred,.int .i64 e.lX,.bool e.up]
def rJ(o:Xc):DV:=.agg [.int .i64 o.id.bG,.int .i64 o.id.seq,eX o.pred]
structure iJ where
 bE:Bool
 bB:Bool
 seen:Bool
 entries:Bool
 lI:Bool
def iJ.none:iJ:=⟨false,false,false,false,false⟩
def aM(t:iJ)(b:aK):DV:=.agg [.int .i64 b.me,eL t.bE 1 dQ b.bE,eL t.bB 4 aJ b.bB,eL t.seen 2 eID b.seen,eL t.entries 7 bR b.entries,eL t.lI 3 rJ b.lI]
def gF(m:Msg):DV:=.agg [.int .i64 m.kind,.int .i64 m.tree.bG,.int .i64 m.tree.seq,.int .i64 m.id.bG,.int .i64 m.id.seq,eX m.pred,eL false 4 JX m.T5]
def gC(o:Out):DV:=.agg [.int .i64 o.to,.int .i64 o.m.kind,.int .i64 o.m.tree.bG,.int .i64 o.m.tree.seq,.int .i64 o.m.id.bG,.int .i64 o.m.id.seq,eX o.m.pred,eL false 4 JX o.m.T5]
theorem B0:Plain sP:=⟨fun c=>(vQ (k:=1) (by
  intro x hx;simp only[List.mem_cons,List.not_mem_nil,or_false]at hx
  rcases hx with rfl|rfl|rfl|rfl|rfl<;>first|exact gT _ _|exact JO _)).mono (by decide),fun c=>(Eu (k:=1) (by
  intro x hx;simp only[List.mem_cons,List.not_mem_nil,or_false]at hx
  rcases hx with rfl|rfl|rfl|rfl|rfl<;>first|exact jH _ _|exact N5 _)).mono (by decide)⟩
theorem rT(p:dZ):Unl 21 (eX p):=kY fun x _=>B0.unl x
theorem Cu(p:dZ):mZ 1 (eX p):=kA false 5 sP p
end Go.Dm
/-
Part 4 of "De": the words by which 'simp' walks.
-/
namespace Go.Dm
theorem Ua(D:bU)(g:Opd)(args:List Opd)(env:Env)(h:aA):bC (fc D) (.call g args) env h=T2 D (args.map (Opd.eval env)) h (g.eval env):=B7 D h g args env
section
variable (c:Nat→List DV→aA→Option (DV×aA)) (h:aA) (env:Env)
theorem OH(x:Opd):bC c (.move x) env h=some (x.eval env,h):=rfl
theorem OG(x a b:Opd):bC c (.pick x a b) env h=cV h (HO (x.eval env) (a.eval env) (b.eval env)):=O8 ..
theorem HW(ety sz:Nat)(z:DV):bC c (.alloc ety sz z) env h=some (.ptr h.n sz 0 0,h.push (.arr ety sz [z] (some 1))):=rfl
theorem VE(ety sz:Nat)(x:Opd):bC c (.box ety sz x) env h=XO h ety sz (x.eval env):=rfl
theorem HT(zero:List DV)(parts:List (Nat×Nat×Opd)):bC c (.build zero parts) env h=XT h (fN zero (parts.map fun p=>(p.1,p.2.1,p.2.2.eval env))):=Sk ..
theorem Jz(ety sz:Nat)(z:DV)(len:Nat)(parts:List (Nat×Opd)):bC c (.buildSlice ety sz z len parts) env h=Ge h ety sz len (cW sz (List.replicate len z) (parts.map fun p=>(p.1,p.2.eval env))):=xV ..
theorem OI(n:Option Nat)(a:Opd):bC c (.load n a) env h=cV h (iW h n (a.eval env)):=O9 ..
theorem HP(n:Nat)(a x:Opd):bC c (.store n a x) env h=Fx (hU h n (a.eval env) (x.eval env)):=Sg ..
theorem Uc(x:Opd):bC c (.nilCheck x) env h=cV h (wW (x.eval env)):=Dj ..
theorem HV(op:BinOp)(x y:Opd):bC c (.arith op x y) env h=cV h (bX op (x.eval env) (y.eval env)):=Sm ..
theorem VB(neq:Bool)(x y:Opd):bC c (.eqb neq x y) env h=cV h (WY neq (x.eval env) (y.eval env)):=FT ..
theorem VC(neq:Bool)(ks:List Nat)(x y:Opd):bC c (.eqa neq ks x y) env h=cV h (vP neq (eY (.agg ks) (x.eval env) (y.eval env))):=FU ..
theorem VA(k:Nat)(neq:Bool)(x y:Opd):bC c (.eqn k neq x y) env h=cV h (vP neq (nN k (x.eval env) (y.eval env))):=FR ..
theorem u4(op:UnOp)(x:Opd):bC c (.un op x) env h=cV h (unD op (x.eval env)):=RA ..
theorem OK(k:IntKind)(x:Opd):bC c (.conv k x) env h=cV h (KK k (x.eval env)):=P1 ..
theorem HU(x:Opd):bC c (.asStr x) env h=cV h (M5 (x.eval env)):=Sl ..
theorem Pg(off:Nat)(x:Opd):bC c (.fieldAddr off x) env h=cV h (tU off (x.eval env)):=zU ..
theorem HR(off:Nat)(n:Option Nat)(x:Opd):bC c (.field off n x) env h=cV h (Hy off n (x.eval env)):=Sj ..
theorem Pf(sz:Nat)(x i:Opd):bC c (.indexAddr sz x i) env h=cV h (aS sz (x.eval env) (i.eval env)):=zT ..
theorem Uf(len esz:Nat)(x i:Opd):bC c (.indexArr len esz x i) env h=cV h (jI len esz (x.eval env) (i.eval env)):=Dl ..
theorem HQ(len esz:Nat)(n:Option Nat)(x i:Opd):bC c (.index len esz n x i) env h=cV h (F4 len esz n (x.eval env) (i.eval env)):=Si ..
theorem Ue(x i:Opd):bC c (.indexStr x i) env h=cV h (Cp (x.eval env) (i.eval env)):=Dk ..
theorem Ub(x:Opd)(lo hi:Option Opd):bC c (.sliceStr x lo hi) env h=cV h (Cd (x.eval env) (lo.map (Opd.eval env)) (hi.map (Opd.eval env))):=Di ..
theorem B8(sz:Nat)(x:Opd)(lo hi:Option Opd):bC c (.sliceSl sz x lo hi) env h=cV h (fC h sz (x.eval env) (lo.map (Opd.eval env)) (hi.map (Opd.eval env))):=Ga ..
theorem UZ(k:Nat)(x:Opd):bC c (.len k x) env h=cV h (lenV h k (x.eval env)):=FQ ..
theorem AX(ety sz bytes:Nat)(s x:Opd):bC c (.append ety sz bytes s x) env h=Rc h ety sz bytes (s.eval env) (elems h sz (x.eval env)):=Lk ..
theorem OJ(sz:Nat)(d s:Opd):bC c (.copy sz d s) env h=KH h sz (d.eval env) (elems h sz (s.eval env)):=P0 ..
theorem AV(mx:Bool)(x y:Opd):bC c (.minmax mx x y) env h=cV h (Po mx (x.eval env) (y.eval env)):=Lh ..
theorem Ud(f:FuncId)(cap:List Opd):bC c (.makeFunc f cap) env h=some (.func f (cap.map (Opd.eval env)),h):=rfl
theorem B9:bC c .makeMap env h=some (.map h.n,h.push (.mp [])):=rfl
theorem C0(x:Opd)(i:Nat):bC c (.extract x i) env h=cV h (Bf i (x.eval env)):=Gb ..
theorem Pe(t:TypeId)(x:Opd):bC c (.makeIface t x) env h=some (.iface t (x.eval env),h):=rfl
theorem AW(q:EqT)(z:DV)(ok:Bool)(m k:Opd):bC c (.lookup q z ok m k) env h=cV h (fY q z ok (k.eval env) (vW h (m.eval env))):=Lj ..
theorem Pd(q:EqT)(m k x:Opd):bC c (.mapUpdate q m k x) env h=Fx (zN h q (m.eval env) (k.eval env) (x.eval env)):=zS ..
end
theorem ME(f:eN)(d i:Nat)(v:DV):upd f d v i=if i=d then v else f i:=rfl
theorem KV(args:List DV)(i:Nat):KW args i=args.getD i bH:=rfl
theorem AM(f:eN)(d:Nat)(v:DV):sB f (some d) v=upd f d v:=rfl
theorem AN(f:eN)(v:DV):sB f none v=f:=rfl
theorem m7(N:Nat)(f:eN)(i:Nat):rd N f i=if i<N then f i else .unk:=rfl
theorem E4(h:aA)(n:Option Nat)(l:Bool)(cs:List DV)(off:Nat):iW h n (.iptr l cs off)=cO n cs off:=rfl
theorem t8(cs:List DV)(off:Nat):cO none cs off=cs[off]?:=rfl
theorem s9(n:Nat)(cs:List DV)(off:Nat):cO (some n) cs off=if off+n≤cs.length then some (.agg ((cs.drop off).take n))else none:=rfl
theorem Ob(n:Nat)(cs:List DV):aQ n (.agg cs)=(cs.length == n):=rfl
theorem Oa(n:Nat)(k:IntKind)(m:Int):aQ n (.int k m)=(n == 1):=rfl
theorem Jo(n:Nat)(b:Bool):aQ n (.bool b)=(n == 1):=rfl
theorem Nv(n:Nat)(s:List UInt8):aQ n (.str s)=(n == 1):=rfl
theorem Nw(n a b c d:Nat):aQ n (.ptr a b c d)=(n == 1):=rfl
theorem Se(n a b c d:Nat):aQ n (.sl a b c d)=(n == 1):=rfl
theorem Nx(n:Nat):aQ n .nsl=(n == 1):=rfl
theorem Nz(n:Nat)(t:Bool)(s:Nat)(xs:List DV):aQ n (.isl t s xs)=(n == 1):=rfl
theorem Jn(n:Nat)(f:Nat)(cs:List DV):aQ n (.func f cs)=(n == 1):=rfl
theorem Ny(n:Nat)(i:Nat):aQ n (.map i)=(n == 1):=rfl
theorem Fy(n:Nat)(t:Nat)(d:DV):aQ n (.iface t d)=(n == 1):=rfl
theorem Jm(n:Nat):aQ n .nili=(n == 1):=rfl
theorem Jl(n:Nat):aQ n .nilp=(n == 1):=rfl
theorem Jk(p:dZ):aQ 1 (eX p)=true:=Dg ..
theorem ET(sz n:Nat)(e x:DV)(h:n=sz):turn sz 0 n e x=x:=by simp[turn,h]
theorem Ww(a b:Int):bX .add (.int .i64 a) (.int .i64 b)=some (.int .i64 (IntKind.i64.wrap (a+b))):=by simp[bX]
theorem Wu(a b:Int):bX .sub (.int .i64 a) (.int .i64 b)=some (.int .i64 (IntKind.i64.wrap (a-b))):=by simp[bX]
theorem Wv(a b:Int):bX .mul (.int .i64 a) (.int .i64 b)=some (.int .i64 (IntKind.i64.wrap (a*b))):=by simp[bX]
theorem DQ(k:IntKind)(a b:Int):bX .eql (.int k a) (.int k b)=some (.bool (a == b)):=by simp[bX]
theorem DK(k:IntKind)(a b:Int):bX .neq (.int k a) (.int k b)=some (.bool (a != b)):=by simp[bX]
theorem DL(k:IntKind)(a b:Int):bX .lss (.int k a) (.int k b)=some (.bool (decide (a<b))):=by simp[bX]
theorem DM(k:IntKind)(a b:Int):bX .leq (.int k a) (.int k b)=some (.bool (decide (a≤b))):=by simp[bX]
theorem DN(k:IntKind)(a b:Int):bX .gtr (.int k a) (.int k b)=some (.bool (decide (b<a))):=by simp[bX]
theorem DP(k:IntKind)(a b:Int):bX .geq (.int k a) (.int k b)=some (.bool (decide (b≤a))):=by simp[bX]
theorem DJ(a b:List UInt8):bX .eql (.str a) (.str b)=some (.bool (a == b)):=rfl
theorem DE(a b:List UInt8):bX .neq (.str a) (.str b)=some (.bool (!(a == b))):=rfl
theorem DF(a b:List UInt8):bX .lss (.str a) (.str b)=some (.bool (Go.Op.bytesLess a b)):=rfl
theorem DG(a b:List UInt8):bX .leq (.str a) (.str b)=some (.bool (Go.Op.bytesLess a b || a == b)):=rfl
theorem DH(a b:List UInt8):bX .gtr (.str a) (.str b)=some (.bool (!(Go.Op.bytesLess a b || a == b))):=rfl
theorem DI(a b:List UInt8):bX .geq (.str a) (.str b)=some (.bool (!Go.Op.bytesLess a b)):=rfl
theorem SH(b:Bool):unD .not (.bool b)=some (.bool (!b)):=rfl
theorem SI(k:IntKind)(n:Int):unD .neg (.int k n)=some (.int k (k.wrap (0-n))):=rfl
theorem JU(ks:List Nat)(xs ys:List DV):eY (.agg ks) (.agg xs) (.agg ys)=bT ks xs ys:=rfl
theorem CN(k:Nat)(x y:DV):eY (.prim k) x y=fH k x y:=rfl
theorem Wn:bT [] [] []=some true:=rfl
theorem Wo(ks:List Nat)(a b:Int)(k:IntKind)(xs ys:List DV):bT (1::ks) (.int k a::xs) (.int k b::ys)=(bT ks xs ys).map ((a == b) && ·):=by
 simp only[bT,fH,and_self,if_true];cases bT ks xs ys<;>rfl
theorem Wm(ks:List Nat)(a b:List UInt8)(xs ys:List DV):bT (2::ks) (.str a::xs) (.str b::ys)=(bT ks xs ys).map ((a == b) && ·):=by
 simp only[bT,fH,if_true];cases bT ks xs ys<;>rfl
theorem Qx(ks:List Nat)(a b:Bool)(xs ys:List DV):bT (0::ks) (.bool a::xs) (.bool b::ys)=(bT ks xs ys).map ((a == b) && ·):=by
 simp only[bT,fH,if_true];cases bT ks xs ys<;>rfl
theorem A8(k:IntKind)(a b:Int):fH 1 (.int k a) (.int k b)=some (a == b):=by simp[fH]
theorem Zz(a b:List UInt8):fH 2 (.str a) (.str b)=some (a == b):=by simp[fH]
theorem Tr(a b:Bool):fH 0 (.bool a) (.bool b)=some (a == b):=by simp[fH]
theorem JQ(cs:List DV):fN cs []=some cs:=rfl
theorem CG(cs:List DV)(off n:Nat)(v:DV)(r:List (Nat×Nat×DV))(hs:aQ n v=true)(ho:off+n≤cs.length):fN cs ((off,n,v)::r)=fN (cs.take off++aF n v++cs.drop (off+n)) r:=by
 simp[fN,hs,ho]
theorem CH(sz:Nat)(xs:List DV):cW sz xs []=some xs:=rfl
theorem J1(sz:Nat)(xs:List DV)(i:Nat)(v:DV)(r:List (Nat×DV))(hs:aQ sz v=true)(hi:i<xs.length):cW sz xs ((i,v)::r)=cW sz (xs.set i v) r:=by
 simp[cW,hs,hi]
theorem Wf(sz:Nat)(cs:List DV):aF sz (.agg cs)=cs:=rfl
theorem K6(sz:Nat)(k:IntKind)(n:Int):aF sz (.int k n)=[.int k n]:=rfl
theorem We(sz:Nat)(n:Bool):aF sz (.bool n)=[.bool n]:=rfl
theorem J6(sz:Nat)(n:List UInt8):aF sz (.str n)=[.str n]:=rfl
theorem J8(sz:Nat):aF sz .nsl=[.nsl]:=rfl
theorem CR(sz a b c d:Nat):aF sz (.sl a b c d)=[.sl a b c d]:=rfl
theorem J7(sz a b c d:Nat):aF sz (.ptr a b c d)=[.ptr a b c d]:=rfl
theorem K0(sz:Nat)(t:Bool)(s:Nat)(xs:List DV):aF sz (.isl t s xs)=[.isl t s xs]:=rfl
theorem Wd(sz:Nat)(f:Nat)(cs:List DV):aF sz (.func f cs)=[.func f cs]:=rfl
theorem J9(sz:Nat)(i:Nat):aF sz (.map i)=[.map i]:=rfl
theorem Qp(sz t:Nat)(d:DV):aF sz (.iface t d)=[.iface t d]:=rfl
theorem Wc(sz:Nat):aF sz .nili=[.nili]:=rfl
theorem Wb(sz:Nat):aF sz .nilp=[.nilp]:=rfl
theorem Wa(p:dZ):aF 1 (eX p)=[eX p]:=xE ..
theorem CP(h:aA)(sz:Nat):elems h sz .nsl=some []:=rfl
def IT(n:Option Nat)(sz off:Nat):Option DV→Option DV|some e=>cO n (aF sz e) off|none=>none
theorem E6(n:Option Nat)(sz off:Nat)(e:DV):IT n sz off (some e)=cO n (aF sz e) off:=rfl
def IS(n:Option Nat)(sz idx off:Nat):Option DO→Option DV
 | some (.arr _ dK xs _)=>if sz=dK then IT n sz off xs[idx]? else none
 | _=>none
theorem E5(n:Option Nat)(sz idx off ety dK:Nat)(xs:List DV)(cap:Option Nat):IS n sz idx off (some (.arr ety dK xs cap))=if sz=dK then IT n sz off xs[idx]? else none:=rfl
theorem IR(h:aA)(n:Option Nat)(id sz idx off:Nat):iW h n (.ptr id sz idx off)=IS n sz idx off (h.get id):=by
 simp only[iW,IS]
 cases h.get id with
 | none=>rfl
 | some o=>cases o with
  | arr e s xs c =>
   simp only
   split
   ·cases xs[idx]?<;>rfl
   ·rfl
  | _=>rfl
def Yn(h:aA)(n id sz idx off ety:Nat)(xs:List DV)(cap:Option Nat)(x:DV):Option DV→Option aA
 | some e=>if(aF sz e).length=sz then some (h.set id (.arr ety sz (xs.set idx (turn sz off n e x)) cap))else none
 | none=>none
theorem Sd(h:aA)(n id sz idx off ety:Nat)(xs:List DV)(cap:Option Nat)(x e:DV):Yn h n id sz idx off ety xs cap x (some e)=if(aF sz e).length=sz then some (h.set id (.arr ety sz (xs.set idx (turn sz off n e x)) cap))else none:=rfl
def Ym(h:aA)(n id sz idx off:Nat)(x:DV):Option DO→Option aA
 | some (.arr ety dK xs cap)=>if sz=dK∧h.lim≤id∧aQ n x=true∧off+n≤sz then Yn h n id sz idx off ety xs cap x xs[idx]? else none
 | _=>none
theorem Sc(h:aA)(n id sz idx off:Nat)(x:DV)(ety dK:Nat)(xs:List DV)(cap:Option Nat):Ym h n id sz idx off x (some (.arr ety dK xs cap))=if sz=dK∧h.lim≤id∧aQ n x=true∧off+n≤sz then Yn h n id sz idx off ety xs cap x xs[idx]? else none:=rfl
theorem Y3(h:aA)(n id sz idx off:Nat)(x:DV):hU h n (.ptr id sz idx off) x=Ym h n id sz idx off x (h.get id):=by
 simp only[hU,Ym]
 cases h.get id with
 | none=>rfl
 | some o=>cases o with
  | arr e s xs c =>
   simp only
   split
   ·cases xs[idx]?<;>rfl
   ·rfl
  | _=>rfl
def J5(sz dK off len:Nat):Option DO→Option (List DV)
 | some (.arr _ jQ xs _)=>if sz=dK∧sz=jQ∧off+len≤xs.length then some ((xs.drop off).take len)else none
 | _=>none
theorem Vy(sz dK off len ety jQ:Nat)(xs:List DV)(cap:Option Nat):J5 sz dK off len (some (.arr ety jQ xs cap))=if sz=dK∧sz=jQ∧off+len≤xs.length then some ((xs.drop off).take len)else none:=rfl
theorem JW(h:aA)(sz id dK off len:Nat):elems h sz (.sl id dK off len)=J5 sz dK off len (h.get id):=by
 simp only[elems,J5]
 cases h.get id with
 | none=>rfl
 | some o=>cases o<;>rfl
def Cc(sz id off:Nat)(lo:Option DV):Option Nat→Option DV
 | some b=>match cF lo 0 b with
  | some a=>some (.sl id sz (off+a) (b-a))
  | none=>none
 | none=>none
def Og(sz dK id off len:Nat)(lo hi:Option DV):Option DO→Option DV
 | some (.arr _ jQ xs _)=>if sz=dK∧sz=jQ∧off+len≤xs.length then Cc sz id off lo (cF hi len (xs.length-off))else none
 | _=>none
theorem Dp(sz dK id off len:Nat)(lo hi:Option DV)(ety jQ:Nat)(xs:List DV)(cap:Option Nat):Og sz dK id off len lo hi (some (.arr ety jQ xs cap))=if sz=dK∧sz=jQ∧off+len≤xs.length then Cc sz id off lo (cF hi len (xs.length-off))else none:=rfl
theorem Y7(h:aA)(sz id dK off len:Nat)(lo hi:Option DV):fC h sz (.sl id dK off len) lo hi=Og sz dK id off len lo hi (h.get id):=by
 simp only[fC,Og]
 cases h.get id with
 | none=>rfl
 | some o=>cases o with
  | arr e s xs c =>
   simp only
   split
   ·cases cF hi len (xs.length-off)with
    | none=>rfl
    | some b=>first|(simp only[Cc];done)|(simp only[Cc];cases cF lo 0 b<;>rfl)
   ·rfl
  | _=>rfl
def UL(sz id off b:Nat):Option Nat→Option DV
 | some a=>some (.sl id sz (off+a) (b-a))
 | none=>none
theorem Ll(sz id off b a:Nat):UL sz id off b (some a)=some (.sl id sz (off+a) (b-a)):=rfl
theorem Do(sz id off:Nat)(lo:Option DV)(b:Nat):Cc sz id off lo (some b)=UL sz id off b (cF lo 0 b):=by
 simp only[Cc,UL]
def KI(h:aA)(sz dK id off len:Nat)(ys:List DV):Option DO→Option (DV×aA)
 | some (.arr ety jQ xs cap)=>if sz=dK∧sz=jQ∧off+len≤xs.length∧h.lim≤id then some (.int .i64 (ys.take len).length,h.set id (.arr ety sz (cB xs (ys.take len) off) cap))else none
 | _=>none
theorem L4(h:aA)(sz dK id off len:Nat)(ys:List DV)(ety jQ:Nat)(xs:List DV)(cap:Option Nat):KI h sz dK id off len ys (some (.arr ety jQ xs cap))=if sz=dK∧sz=jQ∧off+len≤xs.length∧h.lim≤id then some (.int .i64 (ys.take len).length,h.set id (.arr ety sz (cB xs (ys.take len) off) cap))else none:=rfl
theorem KJ(h:aA)(sz id dK off len:Nat)(ys:List DV):wA h sz (.sl id dK off len) ys=KI h sz dK id off len ys (h.get id):=by
 simp only[wA,KI]
 cases h.get id with
 | none=>rfl
 | some o=>cases o<;>rfl
def L8(h:aA):DV→Option DV
 | .nsl=>some (.int .i64 0)
 | .sl id sz off _=>match h.get id with
  | some (.arr _ dK _ (some c))=>if sz=dK then some (.int .i64 (c-off:Nat))else none
  | some (.arr _ dK xs none)=>if sz=dK then some (.atl (xs.length-off))else none
  | _=>none
 | _=>none
theorem FV(h:aA)(env:Env)(x:Opd):aC h env (.cap x)=cV h (L8 h (x.eval env)):=by
 simp only[aC,L8]
 cases x.eval env with
 | sl id sz off len =>
  simp only
  cases h.get id with
  | none=>rfl
  | some o=>cases o with
   | arr e s xs c=>cases c<;>simp only<;>split<;>rfl
   | _=>rfl
 | _=>rfl
theorem VD(c:Nat→List DV→aA→Option (DV×aA))(h:aA)(env:Env)(x:Opd):bC c (.cap x) env h=cV h (L8 h (x.eval env)):=FV h env x
def QL(sz off:Nat):Option DO→Option DV
 | some (.arr _ dK _ (some c))=>if sz=dK then some (.int .i64 (c-off:Nat))else none
 | some (.arr _ dK xs none)=>if sz=dK then some (.atl (xs.length-off))else none
 | _=>none
theorem QK(h:aA)(id sz off len:Nat):L8 h (.sl id sz off len)=QL sz off (h.get id):=by
 simp only[L8,QL]
theorem DB(sz off ety dK:Nat)(xs:List DV):QL sz off (some (.arr ety dK xs none))=if sz=dK then some (.atl (xs.length-off))else none:=rfl
theorem DA(sz off ety dK:Nat)(xs:List DV)(c:Nat):QL sz off (some (.arr ety dK xs (some c)))=if sz=dK then some (.int .i64 (c-off:Nat))else none:=rfl
theorem M7(a:Int)(n:Nat)(h:a≤(n:Int)):bX .gtr (.int .i64 a) (.atl n)=some (.bool false):=by simp[bX,h]
def Wz(h:aA)(ety sz bytes:Nat)(z s:DV)(x:DV):Option (DV×aA):=match asI x with
  | some n=>if 0≤n∧n≤140737488355328 then bF h ety sz bytes s (List.replicate n.toNat z)else none
  | none=>none
theorem C1(c:Nat→List DV→aA→Option (DV×aA))(h:aA)(env:Env)(ety sz bytes:Nat)(z:DV)(s x:Opd):bC c (.appendZ ety sz bytes z s x) env h=Wz h ety sz bytes z (s.eval env) (x.eval env):=rfl
theorem Ra(h:aA)(ety sz bytes:Nat)(z s:DV)(k:IntKind)(n:Int):Wz h ety sz bytes z s (.int k n)=if 0≤n∧n≤140737488355328 then bF h ety sz bytes s (List.replicate n.toNat z)else none:=rfl
theorem ND{h:aA}{id:Nat}{o o':DO}:(h.set id o).set id o'=h.set id o':=by
 simp[aA.set]
theorem Rl{h:aA}{o:DO}:WF (h.push o)↔WF h:=⟨fun w=>by unfold WF at *;simpa[aA.push]using w,fun w=>w.push⟩
theorem Xp{h:aA}{id:Nat}{o:DO}:WF (h.set id o)↔WF h:=⟨fun w=>by unfold WF at *;simpa[aA.set]using w,fun w=>w.set⟩
theorem Hq{h:aA}{id k:Nat}{o:DO}(w:WF h)(eF:id<h.n):(h.set id o).get k=if k=id then some o else h.get k:=cM w eF
def wl(h:aA)(l:Nat):aA:={h with lim:=l}
theorem SF(h:aA)(l id:Nat):(wl h l).get id=h.get id:=rfl
theorem V4{h:aA}{l:Nat}:WF (wl h l)↔WF h:=Iff.rfl
theorem WF.wl{h:aA}(w:WF h)(l:Nat):WF (Dm.wl h l):=w
def crV(h:aA)(L:cA):Option (DV×aA)→Option (DV×aA×cA)
 | some (v,h')=>some (v,wl h' h.lim,L)
 | none=>none
theorem KE(h:aA)(L:cA)(v:DV)(h':aA):crV h L (some (v,h'))=some (v,wl h' h.lim,L):=rfl
theorem fL(c:fF)(l r:Nat)(L:cA)(o:DOp)(env:Env)(h:aA)(hp:kD L env o=none)(hq:Ah env o=false):cI c l r L o env h=crV h L (bC c o env (wl h (max l h.lim))):=by
 unfold cI
 rw[hp,hq]
 simp only[lL,wl]
 cases bC c o env {h with lim:=max l h.lim} with
 | some p=>rfl
 | none=>rfl
def Pa:DV→Bool|.func g _=>Q4 g|_=>false
theorem Tt(g:FuncId)(cap:List DV):Pa (.func g cap)=Q4 g:=rfl
def pkC(r:Nat)(L:cA)(h:aA):Option (DV×aA)→Option (DV×aA×cA)
 | some (v,h')=>if(xH h h').all (fun id=>L.rds.all fun x=>!(Nat.beq x.1 id))=true then some (v,h',{L with pks:=(xH h h').map (fun id=>(r,id))++L.pks})else none
 | none=>none
theorem Kq(c:fF)(l r:Nat)(L:cA)(g:Opd)(as:List Opd)(env:Env)(h:aA):cI c l r L (.call g as) env h=if Pa (g.eval env)=true then pkC r L h (bC c (.call g as) env h)else crV h L (bC c (.call g as) env (wl h (max l h.lim))):=by
 have hq:Ah env (.call g as)=Pa (g.eval env):=by simp only[Ah,Pa];cases g.eval env<;>rfl
 split
 ·rename_i ht
  unfold cI
  rw[show kD L env (.call g as)=none from rfl,hq,ht]
  simp only[lF,pkC]
  cases bC c (.call g as) env h<;>rfl
 ·rename_i hf
  exact fL _ _ _ _ _ _ _ rfl (by rw[hq];simpa using hf)
theorem Ik(c:fF)(l r:Nat)(L:cA)(e s:Nat)(z:DV)(env:Env)(h:aA):cI c l r L (.alloc e s z) env h=crV h L (bC c (.alloc e s z) env (wl h (max l h.lim))):=fL _ _ _ _ _ _ _ rfl rfl
theorem Qr(c:fF)(l r:Nat)(L:cA)(e s:Nat)(z:Opd)(env:Env)(h:aA):cI c l r L (.box e s z) env h=crV h L (bC c (.box e s z) env (wl h (max l h.lim))):=fL _ _ _ _ _ _ _ rfl rfl
theorem xP(c:fF)(l r:Nat)(L:cA)(e s:Nat)(z:DV)(n:Nat)(ps:List (Nat×Opd))(env:Env)(h:aA):cI c l r L (.buildSlice e s z n ps) env h=crV h L (bC c (.buildSlice e s z n ps) env (wl h (max l h.lim))):=fL _ _ _ _ _ _ _ rfl rfl
theorem Kp(c:fF)(l r:Nat)(L:cA)(s:Nat)(d x:Opd)(env:Env)(h:aA):cI c l r L (.copy s d x) env h=crV h L (bC c (.copy s d x) env (wl h (max l h.lim))):=fL _ _ _ _ _ _ _ rfl rfl
theorem Cz(c:fF)(l r:Nat)(L:cA)(env:Env)(h:aA):cI c l r L .makeMap env h=crV h L (bC c .makeMap env (wl h (max l h.lim))):=fL _ _ _ _ _ _ _ rfl rfl
def HH:DV→Option Nat|.ptr id ..=>some id|_=>none
def Gf:DV→Option Nat|.sl id ..=>some id|_=>none
def mapId:DV→Option Nat|.map id=>some id|_=>none
section
variable (env:Env)
theorem MR(n:Option Nat)(a:Opd):bM env (.load n a)=HH (a.eval env):=by simp only[bM];cases a.eval env<;>rfl
theorem Rr(sz:Nat)(x:Opd)(lo hi:Option Opd):bM env (.sliceSl sz x lo hi)=Gf (x.eval env):=by simp only[bM];cases x.eval env<;>rfl
theorem EY(x:Opd):bM env (.cap x)=Gf (x.eval env):=by simp only[bM];cases x.eval env<;>rfl
theorem EV(k:Nat)(x:Opd):bM env (.len k x)=mapId (x.eval env):=by simp only[bM];cases x.eval env<;>rfl
theorem Le(q:EqT)(z:DV)(ok:Bool)(m k:Opd):bM env (.lookup q z ok m k)=mapId (m.eval env):=by simp only[bM];cases m.eval env<;>rfl
theorem MQ(x:Opd):bM env (.move x)=none:=_root_.id rfl
theorem MP(c a b:Opd):bM env (.pick c a b)=none:=_root_.id rfl
theorem EZ(z:List DV)(ps:List (Nat×Nat×Opd)):bM env (.build z ps)=none:=_root_.id rfl
theorem FB(op:BinOp)(x y:Opd):bM env (.arith op x y)=none:=_root_.id rfl
theorem SP(n:Bool)(x y:Opd):bM env (.eqb n x y)=none:=_root_.id rfl
theorem SQ(n:Bool)(ks:List Nat)(x y:Opd):bM env (.eqa n ks x y)=none:=_root_.id rfl
theorem SO(k:Nat)(n:Bool)(x y:Opd):bM env (.eqn k n x y)=none:=_root_.id rfl
theorem YD(op:UnOp)(x:Opd):bM env (.un op x)=none:=_root_.id rfl
theorem MS(k:IntKind)(x:Opd):bM env (.conv k x)=none:=_root_.id rfl
theorem FA(x:Opd):bM env (.asStr x)=none:=_root_.id rfl
theorem Rs(x:Opd):bM env (.nilCheck x)=none:=_root_.id rfl
theorem Nc(o:Nat)(x:Opd):bM env (.fieldAddr o x)=none:=_root_.id rfl
theorem EX(o:Nat)(n:Option Nat)(x:Opd):bM env (.field o n x)=none:=_root_.id rfl
theorem Nb(s:Nat)(x i:Opd):bM env (.indexAddr s x i)=none:=_root_.id rfl
theorem Rv(l e:Nat)(x i:Opd):bM env (.indexArr l e x i)=none:=_root_.id rfl
theorem EW(l e:Nat)(n:Option Nat)(x i:Opd):bM env (.index l e n x i)=none:=_root_.id rfl
theorem Ru(x i:Opd):bM env (.indexStr x i)=none:=_root_.id rfl
theorem Rq(x:Opd)(lo hi:Option Opd):bM env (.sliceStr x lo hi)=none:=_root_.id rfl
theorem V7(b:Bool)(x y:Opd):bM env (.minmax b x y)=none:=_root_.id rfl
theorem Rt(f:FuncId)(c:List Opd):bM env (.makeFunc f c)=none:=_root_.id rfl
theorem Xv(x:Opd)(i:Nat):bM env (.extract x i)=none:=_root_.id rfl
theorem Na(t:TypeId)(x:Opd):bM env (.makeIface t x)=none:=_root_.id rfl
def BB:Option Nat→Option (Nat×jP)
 | some id=>some (id,none)
 | none=>none
theorem AZ(id:Nat):BB (some id)=some (id,none):=_root_.id rfl
theorem BA:BB none=none:=_root_.id rfl
def HG(n:Option Nat):DV→Option (Nat×jP)
 | .ptr id sz i o=>some (id,some (n,sz,i,o))
 | _=>none
theorem AP(n:Option Nat)(id sz i o:Nat):HG n (.ptr id sz i o)=some (id,some (n,sz,i,o)):=_root_.id rfl
theorem Zx(n:Option Nat)(l:Bool)(cs:List DV)(o:Nat):HG n (.iptr l cs o)=none:=_root_.id rfl
theorem ON(n:Option Nat)(a:Opd):mark env (.load n a)=HG n (a.eval env):=by simp only[mark];cases a.eval env<;>rfl
theorem HZ(sz:Nat)(x:Opd)(lo hi:Option Opd):mark env (.sliceSl sz x lo hi)=BB (Gf (x.eval env)):=by rw[←Rr env];simp only[mark];cases bM env (.sliceSl sz x lo hi)<;>rfl
theorem VN(x:Opd):mark env (.cap x)=BB (Gf (x.eval env)):=by rw[←EY env];simp only[mark];cases bM env (.cap x)<;>rfl
theorem VJ(k:Nat)(x:Opd):mark env (.len k x)=BB (mapId (x.eval env)):=by rw[←EV env];simp only[mark];cases bM env (.len k x)<;>rfl
theorem BF(q:EqT)(z:DV)(ok:Bool)(m k:Opd):mark env (.lookup q z ok m k)=BB (mapId (m.eval env)):=by rw[←Le env];simp only[mark];cases bM env (.lookup q z ok m k)<;>rfl
theorem OM(x:Opd):mark env (.move x)=none:=_root_.id rfl
theorem OL(c a b:Opd):mark env (.pick c a b)=none:=_root_.id rfl
theorem IE(z:List DV)(ps:List (Nat×Nat×Opd)):mark env (.build z ps)=none:=_root_.id rfl
theorem IG(op:BinOp)(x y:Opd):mark env (.arith op x y)=none:=_root_.id rfl
theorem VL(n:Bool)(x y:Opd):mark env (.eqb n x y)=none:=_root_.id rfl
theorem VM(n:Bool)(ks:List Nat)(x y:Opd):mark env (.eqa n ks x y)=none:=_root_.id rfl
theorem VK(k:Nat)(n:Bool)(x y:Opd):mark env (.eqn k n x y)=none:=_root_.id rfl
theorem v8(op:UnOp)(x:Opd):mark env (.un op x)=none:=_root_.id rfl
theorem OO(k:IntKind)(x:Opd):mark env (.conv k x)=none:=_root_.id rfl
theorem IF(x:Opd):mark env (.asStr x)=none:=_root_.id rfl
theorem Ul(x:Opd):mark env (.nilCheck x)=none:=_root_.id rfl
theorem Pm(o:Nat)(x:Opd):mark env (.fieldAddr o x)=none:=_root_.id rfl
theorem IB(o:Nat)(n:Option Nat)(x:Opd):mark env (.field o n x)=none:=_root_.id rfl
theorem Pl(s:Nat)(x i:Opd):mark env (.indexAddr s x i)=none:=_root_.id rfl
theorem Uo(l e:Nat)(x i:Opd):mark env (.indexArr l e x i)=none:=_root_.id rfl
theorem IA(l e:Nat)(n:Option Nat)(x i:Opd):mark env (.index l e n x i)=none:=_root_.id rfl
theorem Un(x i:Opd):mark env (.indexStr x i)=none:=_root_.id rfl
theorem Uk(x:Opd)(lo hi:Option Opd):mark env (.sliceStr x lo hi)=none:=_root_.id rfl
theorem BE(b:Bool)(x y:Opd):mark env (.minmax b x y)=none:=_root_.id rfl
theorem Um(f:FuncId)(c:List Opd):mark env (.makeFunc f c)=none:=_root_.id rfl
theorem D0(x:Opd)(i:Nat):mark env (.extract x i)=none:=_root_.id rfl
theorem Pk(t:TypeId)(x:Opd):mark env (.makeIface t x)=none:=_root_.id rfl
end
theorem AQ(a b c d:Nat):HH (.ptr a b c d)=some a:=_root_.id rfl
theorem Zy(l:Bool)(cs:List DV)(o:Nat):HH (.iptr l cs o)=none:=_root_.id rfl
theorem NA(a b c d:Nat):Gf (.sl a b c d)=some a:=_root_.id rfl
theorem FZ:Gf .nsl=none:=_root_.id rfl
theorem NB{α:Type}(t:Bool)(sz:Nat)(e:α→DV)(xs:List α):Gf (eL t sz e xs)=none:=by cases xs<;>rfl
theorem BI(i:Nat):mapId (.map i)=some i:=_root_.id rfl
theorem IL{α:Type}(t:Bool)(sz:Nat)(e:α→DV)(xs:List α):mapId (eL t sz e xs)=none:=by cases xs<;>rfl
theorem IK(a b c d:Nat):mapId (.sl a b c d)=none:=_root_.id rfl
theorem BH:mapId .nsl=none:=_root_.id rfl
theorem BG(s:List UInt8):mapId (.str s)=none:=_root_.id rfl
theorem BL:cA.start=⟨[],[]⟩:=_root_.id rfl
theorem IQ(L:cA)(t:Option (Nat×jP)):cA.see L true t=L:=_root_.id rfl
theorem OS(L:cA)(t:Option (Nat×jP)):cA.see L false t=cA.read L t:=_root_.id rfl
theorem IN(r:List (Nat×jP))(p:List (Nat×Nat))(x:Nat×jP):cA.read ⟨r,p⟩ (some x)=⟨x::r,p⟩:=_root_.id rfl
theorem BM(L:cA):cA.read L none=L:=_root_.id rfl
theorem BO(r:List (Nat×jP))(s:Nat)(t:Option Nat):cA.free ⟨r,[]⟩ s t=true:=by cases t<;>rfl
theorem BN(L:cA)(s:Nat):cA.free L s none=true:=_root_.id rfl
theorem IP(r:List (Nat×jP))(p:Nat×Nat)(ps:List (Nat×Nat))(s id:Nat):cA.free ⟨r,p::ps⟩ s (some id)=((decide (p.1<s) || !decide (p.2=id)) && cA.free ⟨r,ps⟩ s (some id)):=by
 have e1:Nat.blt p.1 s=decide (p.1<s):=by rw[Bool.eq_iff_iff];simp[Nat.blt_eq]
 have e2:Nat.beq p.2 id=decide (p.2=id):=by rw[Bool.eq_iff_iff];simp
 simp only[cA.free,List.all_cons,e1,e2]
theorem M8(m:Option Nat)(z i o n idx off:Nat):oP (some (m,z,i,o)) n idx off=(!decide (i=idx) || decide (o+Fo m≤off) || decide (off+n≤o)):=by
 have e2:Nat.beq i idx=decide (i=idx):=by rw[Bool.eq_iff_iff];simp
 have e3:Nat.ble (o+Fo m) off=decide (o+Fo m≤off):=by rw[Bool.eq_iff_iff];simp
 have e4:Nat.ble (off+n) o=decide (off+n≤o):=by rw[Bool.eq_iff_iff];simp
 simp only[oP,e2,e3,e4]
theorem M9(n idx off:Nat):oP none n idx off=false:=_root_.id rfl
theorem Xo:Fo none=1:=_root_.id rfl
theorem Xn(n:Nat):Fo (some n)=n:=_root_.id rfl
def pkA(L:cA):Option Nat→Option Nat
 | some id=>if L.rds.all (fun x=>!decide (x.1=id))=true then some id else none
 | none=>none
theorem HM(r:List (Nat×jP))(p:List (Nat×Nat))(id:Nat):pkA ⟨r,p⟩ (some id)=if r.all (fun x=>!decide (x.1=id))=true then some id else none:=_root_.id rfl
theorem HN(L:cA):pkA L none=none:=_root_.id rfl
theorem s8(L:cA)(id:Nat):(L.rds.all fun x=>!(Nat.beq x.1 id))=(L.rds.all fun x=>!decide (x.1=id)):=by
 congr 1;funext x
 have e2:Nat.beq x.1 id=decide (x.1=id):=by rw[Bool.eq_iff_iff];simp
 rw[e2]
def pkS(L:cA)(n:Nat):DV→Option Nat
 | .ptr id _ idx off=>if L.rds.all (fun x=>!decide (x.1=id) || oP x.2 n idx off)=true then some id else none
 | _=>none
theorem OA(r:List (Nat×jP))(p:List (Nat×Nat))(n id sz idx off:Nat):pkS ⟨r,p⟩ n (.ptr id sz idx off)=if r.all (fun x=>!decide (x.1=id) || oP x.2 n idx off)=true then some id else none:=_root_.id rfl
theorem HL(L:cA)(n:Nat)(l:Bool)(cs:List DV)(o:Nat):pkS L n (.iptr l cs o)=none:=_root_.id rfl
theorem HJ(L:cA)(env:Env)(n:Nat)(a x:Opd):kD L env (.store n a x)=pkS L n (a.eval env):=by
 simp only[kD]
 cases a.eval env<;>try rfl
 rename_i id sz idx off
 have:(L.rds.all fun x=>!(Nat.beq x.1 id) || oP x.2 n idx off)=(L.rds.all fun x=>!decide (x.1=id) || oP x.2 n idx off):=by
  congr 1;funext x
  have e2:Nat.beq x.1 id=decide (x.1=id):=by rw[Bool.eq_iff_iff];simp
  rw[e2]
 simp only[this];rfl
theorem AS(L:cA)(env:Env)(e s b:Nat)(a x:Opd):kD L env (.append e s b a x)=pkA L (Gf (a.eval env)):=by
 simp only[kD,pkA,Gf,s8];cases a.eval env<;>rfl
def pkV(L:cA)(r id:Nat):Option (DV×aA)→Option (DV×aA×cA)
 | some (v,h')=>some (v,h',⟨L.rds,(r,id)::L.pks⟩)
 | none=>none
theorem HK(rs:List (Nat×jP))(ps:List (Nat×Nat))(r id:Nat)(v:DV)(h':aA):pkV ⟨rs,ps⟩ r id (some (v,h'))=some (v,h',⟨rs,(r,id)::ps⟩):=_root_.id rfl
def crP(c:fF)(l r:Nat)(L:cA)(o:DOp)(env:Env)(h:aA):Option Nat→Option (DV×aA×cA)
 | some id=>pkV L r id (aC h env o)
 | none=>crV h L (bC c o env (wl h (max l h.lim)))
theorem KF(c:fF)(l r:Nat)(L:cA)(o:DOp)(env:Env)(h:aA)(id:Nat):crP c l r L o env h (some id)=pkV L r id (aC h env o):=_root_.id rfl
theorem KG(c:fF)(l r:Nat)(L:cA)(o:DOp)(env:Env)(h:aA):crP c l r L o env h none=crV h L (bC c o env (wl h (max l h.lim))):=_root_.id rfl
theorem Ec(c:fF)(l r:Nat)(L:cA)(o:DOp)(env:Env)(h:aA)(hq:Ah env o=false):cI c l r L o env h=crP c l r L o env h (kD L env o):=by
 cases hp:kD L env o with
 | none=>rw[fL _ _ _ _ _ _ _ hp hq];rfl
 | some id =>
  unfold cI
  rw[hp]
  simp only[crP,pkV]
  cases aC h env o with
  | none=>rfl
  | some q=>rfl
theorem Ih(c:fF)(l r:Nat)(L:cA)(n:Nat)(a x:Opd)(env:Env)(h:aA):cI c l r L (.store n a x) env h=crP c l r L (.store n a x) env h (pkS L n (a.eval env)):=by rw[Ec _ _ _ _ _ _ _ rfl,HJ]
theorem Es(c:fF)(l r:Nat)(L:cA)(e s b:Nat)(a x:Opd)(env:Env)(h:aA):cI c l r L (.append e s b a x) env h=crP c l r L (.append e s b a x) env h (pkA L (Gf (a.eval env))):=by rw[Ec _ _ _ _ _ _ _ rfl,AS]
theorem zD(c:fF)(l r:Nat)(L:cA)(q:EqT)(m k x:Opd)(env:Env)(h:aA):cI c l r L (.mapUpdate q m k x) env h=crV h L (bC c (.mapUpdate q m k x) env (wl h (max l h.lim))):=fL _ _ _ _ _ _ _ rfl rfl
theorem NW(t:Bool)(h:aA)(n:Nat)(k:IntKind)(m:Int):resolve t h (n+1) (.int k m)=some (.int k m):=rfl
theorem GZ(t:Bool)(h:aA)(n:Nat)(m:Bool):resolve t h (n+1) (.bool m)=some (.bool m):=rfl
theorem NU(t:Bool)(h:aA)(n:Nat)(m:List UInt8):resolve t h (n+1) (.str m)=some (.str m):=rfl
theorem NV(t:Bool)(h:aA)(n:Nat):resolve t h (n+1) .nsl=some (.isl false 0 []):=rfl
theorem GX(t:Bool)(h:aA)(n:Nat)(l:Bool)(cs:List DV)(o:Nat):resolve t h (n+1) (.iptr l cs o)=some (.iptr l cs o):=rfl
theorem GY{α:Type}(t:Bool)(h:aA)(n:Nat)(t':Bool)(sz:Nat)(e:α→DV)(xs:List α):resolve t h (n+1) (eL t' sz e xs)=some (eL t' sz e xs):=kA t' sz e xs t h (n+1) (by omega)
theorem Tl(t:Bool)(h:aA)(n:Nat)(p:dZ):resolve t h (n+1) (eX p)=some (eX p):=GY ..
theorem GW(t:Bool)(h:aA)(n:Nat):resolve t h (n+1) .nili=some .nili:=rfl
theorem GV(t:Bool)(h:aA)(n:Nat):resolve t h (n+1) .nilp=some .nilp:=rfl
theorem Fj(t:Bool)(h:aA)(v:DV):resolve t h bO v=resolve t h (199+1) v:=rfl
def uZ(t:Bool)(h:aA)(n:Nat)(vs:List DV):Option (List DV):=vs.mapM (resolve t h n)
theorem NX(t:Bool)(h:aA)(n:Nat)(vs:List DV):vs.mapM (resolve t h n)=uZ t h n vs:=rfl
theorem HA(t:Bool)(h:aA)(n:Nat):uZ t h n []=some []:=rfl
def RZ:Option DV→Option (List DV)→Option (List DV)
 | some x,some l=>some (x::l)
 | _,_=>none
theorem L5(x:DV)(l:List DV):RZ (some x) (some l)=some (x::l):=rfl
theorem AI(t:Bool)(h:aA)(n:Nat)(v:DV)(vs:List DV):uZ t h n (v::vs)=RZ (resolve t h n v) (uZ t h n vs):=by
 unfold uZ
 rw[List.mapM_cons]
 cases resolve t h n v<;>cases vs.mapM (resolve t h n)<;>rfl
def aggO:Option (List DV)→Option DV|some c=>some (.agg c)|none=>none
def YB:Option (List DV)→Option DV|some c=>some (.tup c)|none=>none
def z8(f:Nat):Option (List DV)→Option DV|some c=>some (.func f c)|none=>none
theorem DU(c:List DV):aggO (some c)=some (.agg c):=rfl
theorem V6(c:List DV):YB (some c)=some (.tup c):=rfl
theorem CB(f:Nat)(c:List DV):z8 f (some c)=some (.func f c):=rfl
theorem Q0(t:Bool)(h:aA)(n:Nat)(cs:List DV):resolve t h (n+1) (.agg cs)=aggO (uZ t h n cs):=by
 simp only[resolve];unfold uZ;cases cs.mapM (resolve t h n)<;>rfl
theorem NT(t:Bool)(h:aA)(n:Nat)(cs:List DV):resolve t h (n+1) (.tup cs)=YB (uZ t h n cs):=by
 simp only[resolve];unfold uZ;cases cs.mapM (resolve t h n)<;>rfl
theorem Gp(t:Bool)(h:aA)(n:Nat)(f:Nat)(cs:List DV):resolve t h (n+1) (.func f cs)=z8 f (uZ t h n cs):=by
 simp only[resolve];unfold uZ;cases cs.mapM (resolve t h n)<;>rfl
def JB(t:Bool)(off:Nat):Option (List DV)→Option DV|some c=>some (.iptr t c off)|none=>none
theorem E9(t:Bool)(off:Nat)(c:List DV):JB t off (some c)=some (.iptr t c off):=rfl
def NY(t:Bool)(h:aA)(n sz off:Nat):Option DV→Option DV|some e=>JB t off (uZ t h n (aF sz e))|none=>none
theorem AJ(t:Bool)(h:aA)(n sz off:Nat)(e:DV):NY t h n sz off (some e)=JB t off (uZ t h n (aF sz e)):=rfl
def Oy(t:Bool)(h:aA)(n sz idx off:Nat):Option DO→Option DV
 | some (.arr _ dK xs _)=>if sz=dK then NY t h n sz off xs[idx]? else none
 | _=>none
theorem Ox(t:Bool)(h:aA)(n sz idx off ety dK:Nat)(xs:List DV)(cap:Option Nat):Oy t h n sz idx off (some (.arr ety dK xs cap))=if sz=dK then NY t h n sz off xs[idx]? else none:=rfl
theorem Zq(t:Bool)(h:aA)(n id sz idx off:Nat):resolve t h (n+1) (.ptr id sz idx off)=Oy t h n sz idx off (h.get id):=by
 simp only[resolve,Oy]
 cases h.get id with
 | none=>rfl
 | some o=>cases o with
  | arr e s xs c =>
   simp only
   split
   ·cases xs[idx]? with
    | none=>rfl
    | some x=>simp only[NY,uZ];cases(aF sz x).mapM (resolve t h n)<;>rfl
   ·rfl
  | _=>rfl
def VU(t:Bool)(sz:Nat):Option (List DV)→Option DV|some ys=>some (mkIsl t sz ys)|none=>none
theorem BR(t:Bool)(sz:Nat)(ys:List DV):VU t sz (some ys)=some (mkIsl t sz ys):=rfl
def Zr(t:Bool)(h:aA)(n sz off len:Nat):Option DO→Option DV
 | some (.arr _ dK xs _)=>if sz=dK∧off+len≤xs.length then VU t sz (uZ t h n ((xs.drop off).take len))else none
 | _=>none
theorem Tm(t:Bool)(h:aA)(n sz off len ety dK:Nat)(xs:List DV)(cap:Option Nat):Zr t h n sz off len (some (.arr ety dK xs cap))=if sz=dK∧off+len≤xs.length then VU t sz (uZ t h n ((xs.drop off).take len))else none:=rfl
theorem Lq(t:Bool)(h:aA)(n id sz off len:Nat):resolve t h (n+1) (.sl id sz off len)=Zr t h n sz off len (h.get id):=by
 simp only[resolve,Zr]
 cases h.get id with
 | none=>rfl
 | some o=>cases o with
  | arr e s xs c =>
   simp only
   split
   ·simp only[uZ];cases((xs.drop off).take len).mapM (resolve t h n)<;>rfl
   ·rfl
  | _=>rfl
def t9(h:aA)(v:DV):Option DV :=
 match resolve false h (199+1) v with
 | some d=>if aZ (199+1) d then some d else none
 | none=>none
theorem tG(v:DV)(h:aA):oK (some (v,h))=t9 h v:=rfl
def ER:Option DV→Option DV
 | some d=>if aZ (199+1) d then some d else none
 | none=>none
theorem OE(h:aA)(v:DV):t9 h v=ER (resolve false h (199+1) v):=rfl
theorem EQ(k:IntKind)(n:Int):ER (some (.int k n))=some (.int k n):=rfl
theorem V5(b:Bool):ER (some (.bool b))=some (.bool b):=rfl
theorem EP(b:List UInt8):ER (some (.str b))=some (.str b):=rfl
theorem MG(d:DV):ER (some d)=if aZ 200 d=true then some d else none:=rfl
theorem SL(n:Nat)(k:IntKind)(m:Int):aZ (n+1) (.int k m)=true:=rfl
theorem MN(n:Nat)(m:Bool):aZ (n+1) (.bool m)=true:=rfl
theorem SK(n:Nat)(m:List UInt8):aZ (n+1) (.str m)=true:=rfl
theorem SN(n:Nat)(cs:List DV):aZ (n+1) (.agg cs)=cs.all (aZ n):=rfl
theorem SJ(n:Nat)(cs:List DV):aZ (n+1) (.tup cs)=cs.all (aZ n):=rfl
theorem MH(n:Nat)(p:dZ):aZ (n+21) (eX p)=true:=rT p (n+21) (by omega)
theorem ML(n:Nat)(sz:Nat):aZ (n+1) (.isl false sz [])=true:=by simp[aZ]
theorem MK(n:Nat):aZ (n+1) .nili=true:=rfl
theorem MJ(n:Nat):aZ (n+1) .nilp=true:=rfl
theorem Te(D:bU)(N:Nat)(S:List Fr)(f:eN)(hs:List aA)(L:cA)(dst:Option Nat)(op:DOp)(s:Nat)(cm:Bool)(r:List aH)(hf:L.free s (bM (tab N f) op)=true) :
  Ad D N S dst op s cm r f hs L .read=Tf D N S dst op cm r f hs L (hZ hs s):=by rw[Zj,if_pos hf]
theorem vK{α:Type}(t:Bool)(sz:Nat)(e:α→DV)(xs:List α)(k:IntKind)(i:Int)(h0:0≤i):aS sz (eL t sz e xs) (.int k i)=(xs[i.toNat]?).map fun a=>.iptr t (aF sz (e a)) 0:=by
 cases hx:xs[i.toNat]? with
 | some a=>rw[Hg t sz e k h0 hx];rfl
 | none =>
  cases xs with
  | nil=>simp[tW,aS,asI]
  | cons x xs =>
   have hy:(List.map e (x::xs))[i.toNat]?=none:=by rw[List.getElem?_map,hx];rfl
   rw[qY,←List.map_cons]
   simp only[aS,asI,h0,and_self,if_true,hy,Option.map_none]
theorem vJ{α:Type}(t:Bool)(sz:Nat)(e:α→DV)(xs:List α)(k:IntKind)(i:Nat):aS sz (eL t sz e xs) (.int k (i:Int))=(xs[i]?).map fun a=>.iptr t (aF sz (e a)) 0:=by
 rw[vK _ _ _ _ _ _ (Int.natCast_nonneg i)];simp
theorem En{α:Type}(t:Bool)(sz:Nat)(e:α→DV)(xs:List α)(k:IntKind)(i:Nat):aS sz (eL t sz e xs) (.int k ((i:Int)+1))=(xs[i+1]?).map fun a=>.iptr t (aF sz (e a)) 0:=by
 have:=vJ t sz e xs k (i+1)
 rwa[Int.natCast_add]at this
theorem Mx{n:Int}(h1:0≤n)(h2:n≤18446744073709551615):IntKind.u64.wrap n=n:=by
 exact Go.IntWalk.u64_in n ⟨h1,h2⟩
theorem M6(a:Int):bX .shr (.int .u64 a) (.int .u64 1)=some (.int .u64 (a.fdiv 2)):=by
 simp[bX,IntKind.bits]
theorem half(i j:Nat):((i:Int)+j).fdiv 2=((i+j) / 2:Nat):=by
 rw[Int.fdiv_eq_ediv_of_nonneg _ (by decide)];omega
theorem mV(k:IntKind)(n d l:Nat)(h:n≤l):cF (some (.int k (n:Int))) d l=some n:=by
 rw[uB _ _ _ _ (by omega) (by omega)];simp
theorem Ws(k:IntKind)(n d l:Nat)(h:n+1≤l):cF (some (.int k ((n:Int)+1))) d l=some (n+1):=by
 rw[uB _ _ _ _ (by omega) (by omega)];simp
theorem Wr(k:IntKind)(d l:Nat):cF (some (.int k 0)) d l=some 0:=by
 rw[uB _ _ _ _ (by omega) (by omega)];simp
theorem Zd(D:bU)(N:Nat)(S:List Fr)(f:eN)(h:aA)(o:aH)(w:Bool)(r:List aH):Z9 D N S o w r f h bH=Ac D N S r (sB f o.dst bH) h:=rfl
theorem Tg(D:bU)(N:Nat)(S:List Fr)(f:eN)(hs:List aA)(L:cA)(o:aH)(w:Bool)(r:List aH):Th D N S o w r f hs L bH=xY D N S o.dst o.kind r f L hs:=rfl
theorem aO{b c:aI}(hb:b=c)(D:bU)(N:Nat)(S:List Fr)(f:eN)(h:aA):run D N S (.loop b) f h=run D N (.loop b::S) c f h:=by
 rw[GK];rw[←hb]
theorem LY(h:aA)(o:DO):(h.push o).n=h.n+1:=_root_.id rfl
theorem V3(h:aA)(o:DO):(h.push o).lim=h.lim:=_root_.id rfl
theorem SE(h:aA)(id':Nat)(o:DO):(h.set id' o).n=h.n:=_root_.id rfl
theorem EI(h:aA)(id':Nat)(o:DO):(h.set id' o).lim=h.lim:=_root_.id rfl
theorem XW(h:aA)(l:Nat):(wl h l).n=h.n:=_root_.id rfl
theorem LZ(h:aA)(l:Nat):(wl h l).lim=l:=_root_.id rfl
theorem MA(h:aA)(l i:Nat):(wl h l).get i=h.get i:=_root_.id rfl
theorem EG(h:aA)(l:Nat)(o:DO):(wl h l).push o=wl (h.push o) l:=_root_.id rfl
theorem LX(h:aA)(l i:Nat)(o:DO):(wl h l).set i o=wl (h.set i o) l:=_root_.id rfl
theorem SD(h:aA)(a b:Nat):wl (wl h a) b=wl h b:=_root_.id rfl
theorem EF(h:aA):wl h h.lim=h:=_root_.id rfl
theorem Mw(h:aA)(o:DO):wl (h.push o) h.lim=h.push o:=_root_.id rfl
theorem MB(h:aA)(l:Nat)(hl:l=h.lim):wl h l=h:=by subst hl;rfl
theorem EH:lM.n=0:=_root_.id rfl
theorem Xl:lM.lim=0:=_root_.id rfl
abbrev eU8(b:UInt8):DV:=.int .u8 b.toNat
def MX(h:aA):Option (List UInt8)→Option (DV×aA)
 | some s=>some (.str s,h)
 | none=>none
def Dc(h:aA):Option (List DV)→Option (DV×aA)
 | some ys=>MX h (ys.mapM Qy)
 | none=>none
def Xa(h:aA)(ety sz bytes:Nat)(s:DV):DV→Option (DV×aA)
 | .str t=>bF h ety sz bytes s (t.map eU8)
 | _=>none
theorem Ug(c:Nat→List DV→aA→Option (DV×aA))(h:aA)(env:Env)(x:Opd):bC c (.bytesStr x) env h=Dc h (elems h 1 (x.eval env)):=by
 simp only[bC,aC]
 cases elems h 1 (x.eval env)with
 | none=>rfl
 | some ys=>cases hm:ys.mapM Qy<;>simp only[Dc,MX,hm]
theorem It(h:aA)(ys:List DV):Dc h (some ys)=MX h (ys.mapM Qy):=rfl
theorem Y1(h:aA)(s:List UInt8):MX h (some s)=some (.str s,h):=rfl
theorem IJ(xs:List UInt8):(xs.map eU8).mapM Qy=some xs:=by
 induction xs with
 | nil=>rfl
 | cons b xs ih =>
  have hb:Qy (eU8 b)=some b:=by simp[Qy,eU8]
  simp only[List.map_cons,List.mapM_cons,hb,ih]
  rfl
theorem C6(c:Nat→List DV→aA→Option (DV×aA))(h:aA)(env:Env)(ety sz bytes:Nat)(s x:Opd):bC c (.appendS ety sz bytes s x) env h=Xa h ety sz bytes (s.eval env) (x.eval env):=by
 simp only[bC,aC]
 cases x.eval env<;>rfl
theorem Rd(h:aA)(ety sz bytes:Nat)(s:DV)(t:List UInt8):Xa h ety sz bytes s (.str t)=bF h ety sz bytes s (t.map eU8):=rfl
theorem HI(f:Nat):Q4 f=([]:List Nat).contains f:=rfl
attribute [simp] Tt HI
attribute [simp] Ug It Y1 IJ C6 Rd
attribute [simp] NO Zb Z7 GO Z5 NR Z4 GJ NP GL AG Jv Gm Ov Tj NS Ju Ow GU
 GN AC Zn GR WU WV m7 KV AM AN ME
 OH OG HW VE HT Jz OI HP Uc HV VB VC VA u4 OK HU Pg HR Pf Uf HQ Ue Ub B8 UZ AX OJ AV Ud B9 C0 Pe AW Pd
 uA QM Ob Oa Jo Nv Nw Se Nx Nz Jn Ny Fy Jm Jl Dg Jk
 SE EI cH LY EH Xl V3 E4 IR E5 E6 Y3 Sc Sd JW Vy Sb ET ND Rl Xp V4 Hq EJ XW LZ MA EG LX SD EF Mw MB KE Kq Ik Qr xP Kp Cz Y7 Dp Do Ll L3 KJ L4 VD FV QK DB DA M7 C1 Ra t8 s9 Tp Wf K6 We J6 J8 CR J7 K0 Wd J9 Qp Wc Wb xE Wa
 Hz Ep J2 OV IU IV OU IX Ww Wu Wv DQ DK DL DM DN DP DJ DE DF DG DH DI SH SI
 JU CN Wn Wo Wm Qx A8 Zz Tr I7 CM B4 CY M4 Qm DT Jq JQ CG CH J1 Rb CP lQ Ka Gy Uq
 Ua L9 qC
 NX HA AI L5 DU V6 CB E9 NW GZ NU NV GX GY Tl GW GV Q0 NT Gp Fj Zq Ox AJ Lq Tm BR
 PX I9 CF Jx Zo Jy tG OE EQ V5 EP MG SL MN SK SN SJ MH ML MK MJ
 GM GQ AA Ze Zl AB Zi Tb Om Te Td On Zk Zm Zh Zg Zf MR Rr EY EV Le MQ MP EZ FB SP SQ SO YD MS FA Rs Nc EX Nb Rv EW Ru Rq V7 Rt Xv Na
 AQ Zy NA FZ NB BI IL IK BH BG BL IQ OS IN M8 M9 Xo Xn OA HL AZ BA AP Zx ON HZ VN VJ BF OM OL IE IG VL VM VK v8 OO IF Ul Pm IB Pl Uo IA Un Uk BE Um D0 Pk BM BO BN IP HM HN HK KF KG Ih Es zD Y6 Zc Z8 GP Zd Tg
 MY O8 FW UJ Sk xV O9 Sg Dj Sm FT FU FR RA P1 Sl zU Sj zT Dl Si Dk Di Ga FQ Lk P0 Lh Sh Yp Gb Od Lj zS
 wF mV Ws Wr uB vJ En vK bK Mx M6 half
end Go.Dm
/-
Part 5 of "De": copies of rows; rows with room left over behind a deletion.
-/
namespace Go.Dm
theorem xF{lo:Nat}{h:aA}{v:DV}{ety sz bytes:Nat}{ys:List DV}{A:Option (DV×aA)}(he:elems h sz v=some ys)(wf:WF h)(dY:lo≤h.n)(bJ:h.lim≤h.n)(hb:ys.length*bytes≤140737488355328)(Cr:1≤bytes)(hA:bW ety sz bytes h [v]=A) :
  ∃ v' h',A=some (v',h')∧Own lo h' v' ety sz ys∧Ext lo h h'∧Ext h.n h h':=by
 have hm:ys.length≤140737488355328:=Nat.le_trans (Nat.le_mul_of_pos_right _ Cr) hb
 subst hA
 by_cases hy:ys=[]
 ·subst hy
  refine⟨.nsl,h.push .dead,?_,.nil rfl rfl,(Ext.refl dY wf).push,(Ext.refl (Nat.le_refl _) wf).push⟩
  simp[bW,he]
 ·have Ke:ys.isEmpty=false:=by cases ys<;>simp_all
  refine⟨.sl (h.n+1) sz 0 ys.length,(h.push (.arr ety sz [] (some 0))).push (.arr ety sz ys none),?_,.arr (h.n+1) rfl ?_ ?_ (by omega),((Ext.refl dY wf).push).push,((Ext.refl (Nat.le_refl _) wf).push).push⟩
  ·simp only[bW,he,Ke]
   rw[if_neg (by simp),if_pos ⟨hb,by omega⟩]
  ·exact cT
  ·show h.lim≤h.n+1
   omega
inductive OwnR(lo:Nat)(h:aA)(v:DV)(ety sz:Nat)(xs:List DV):Prop where
 | nil (hv:v=.nsl) (hx:xs=[])
 | arr (id:Nat) (sp:List DV) (cap:Option Nat) (hv:v=.sl id sz 0 xs.length) (hg:h.get id=some (.arr ety sz (xs++sp) cap)) (bJ:h.lim≤id) (dY:lo≤id)
theorem Own.toR{lo:Nat}{h:aA}{v:DV}{ety sz:Nat}{xs:List DV}(w:Own lo h v ety sz xs):OwnR lo h v ety sz xs:=by
 cases w with
 | nil hv hx=>exact .nil hv hx
 | arr id hv hg hl hi=>exact .arr id [] none hv (by simpa using hg) hl hi
section OwnR
variable {lo:Nat} {h:aA} {v:DV} {ety sz:Nat} {xs:List DV}
theorem OwnR.push{o:DO}(w:OwnR lo h v ety sz xs):OwnR lo (h.push o) v ety sz xs:=by
 cases w with
 | nil hv hx=>exact .nil hv hx
 | arr id sp cap hv hg bJ dY =>
  refine .arr id sp cap hv ?_ bJ dY
  rw[cH,if_neg (by have:=aB hg;omega)];exact hg
theorem OwnR.ext{h':aA}(w:OwnR lo h v ety sz xs)(x:Ext h.n h h'):OwnR lo h' v ety sz xs:=by
 cases w with
 | nil hv hx=>exact .nil hv hx
 | arr id sp cap hv hg hl hi=>exact .arr id sp cap hv ((x.get id (aB hg)).trans hg) (by rw[x.lim];exact hl) hi
theorem OwnR.lenV(w:OwnR lo h v ety sz xs):lenV h 1 v=some (.int .i64 xs.length):=by
 cases w with
 | nil hv hx=>subst hv;subst hx;rfl
 | arr id sp cap hv hg hl hi=>subst hv;rfl
theorem OwnR.elems(w:OwnR lo h v ety sz xs):elems h sz v=some xs:=by
 cases w with
 | nil hv hx=>subst hv;subst hx;rfl
 | arr id sp cap hv hg hl hi=>subst hv;simp[Dm.elems,hg]
theorem OwnR.resolve{α:Type}{e:α→DV}{ys:List α}{k n:Nat}(tag:Bool)(w:OwnR lo h v ety sz (ys.map e))(hf:∀y∈ys,mZ k (e y))(hn:k+1≤n):resolve tag h n v=some (eL tag sz e ys):=by
 obtain⟨m,rfl,hm⟩:=cJ hn
 cases w with
 | nil hv hx =>
  subst hv
  cases ys with
  | nil=>rfl
  | cons y r=>simp at hx
 | arr id sp cap hv hg hl hi =>
  subst hv
  have yU:(ys.map e).mapM (Dm.resolve tag h m)=some (ys.map e):=wY fun x hx=>by
   obtain⟨y,hy,rfl⟩:=List.mem_map.1 hx
   exact hf y hy tag h m hm
  simp only[Dm.resolve,hg,true_and,Nat.zero_add,List.length_append,Nat.le_add_right,if_true,List.drop_zero,List.take_left,yU]
  rfl
theorem OwnR.aQ(w:OwnR lo h v ety sz xs):aQ 1 v=true:=by
 cases w with
 | nil hv hx=>subst hv;rfl
 | arr id sp cap hv hg hl hi=>subst hv;rfl
theorem OwnR.aF(w:OwnR lo h v ety sz xs):aF 1 v=[v]:=by
 cases w with
 | nil hv hx=>subst hv;rfl
 | arr id sp cap hv hg hl hi=>subst hv;rfl
theorem OwnR.out{α:Type}{e:α→DV}{ys:List α}{k:Nat}(w:OwnR lo h v ety sz (ys.map e))(hf:∀y∈ys,mZ k (e y))(hu:∀y∈ys,Unl k (e y))(hk:k≤198) :
  oK (some (v,h))=some (eL false sz e ys) :=
 Ty (k:=k+1) (w.resolve false hf (by show k+1≤200;omega)) (kY hu) (by omega)
theorem OwnR.index(w:OwnR lo h v ety sz xs){i:Nat}{x:DV}(hx:xs[i]?=some x)(k:IntKind) :
  ∃ id sp cap,v=.sl id sz 0 xs.length∧h.get id=some (.arr ety sz (xs++sp) cap)∧h.lim≤id∧lo≤id∧aS sz v (.int k (i:Int))=some (.ptr id sz i 0)∧(xs++sp)[i]?=some x:=by
 have hi:i<xs.length:=by
  by_cases aY:i<xs.length
  ·exact aY
  ·rw[List.getElem?_eq_none (by omega)]at hx;cases hx
 cases w with
 | nil hv uL=>subst uL;simp at hi
 | arr id sp cap hv hg hl dY =>
  refine⟨id,sp,cap,hv,hg,hl,dY,?_,by rw[List.getElem?_append_left hi];exact hx⟩
  subst hv
  simp[aS,asI,hi]
end OwnR
theorem Own.aQ{lo:Nat}{h:aA}{v:DV}{ety sz:Nat}{xs:List DV}(w:Own lo h v ety sz xs):aQ 1 v=true:=w.toR.aQ
theorem Own.aF{lo:Nat}{h:aA}{v:DV}{ety sz:Nat}{xs:List DV}(w:Own lo h v ety sz xs):aF 1 v=[v]:=w.toR.aF
theorem Own.wl{lo:Nat}{h:aA}{v:DV}{ety sz:Nat}{xs:List DV}(w:Own lo h v ety sz xs){m:Nat}(hm:m≤lo):Own lo (Dm.wl h m) v ety sz xs:=by
 cases w with
 | nil hv hx=>exact .nil hv hx
 | arr id hv hg hl hi=>exact .arr id hv hg (Nat.le_trans hm hi) hi
theorem Own.aV{lo:Nat}{h:aA}{v:DV}{ety sz:Nat}{xs:List DV}(w:Own lo h v ety sz xs)(wf:WF h){id:Nat}{o:DO}(eF:id<lo)(hn:id<h.n):Own lo (h.set id o) v ety sz xs:=by
 cases w with
 | nil hv hx=>exact .nil hv hx
 | arr k hv hg hl hi=>exact .arr k hv (by rw[cM wf hn,if_neg (by omega)];exact hg) hl hi
theorem Own.lower{lo lo':Nat}{h:aA}{v:DV}{ety sz:Nat}{xs:List DV}(w:Own lo h v ety sz xs)(hl:lo'≤lo):Own lo' h v ety sz xs:=by
 cases w with
 | nil hv hx=>exact .nil hv hx
 | arr k hv hg bJ hi=>exact .arr k hv hg bJ (Nat.le_trans hl hi)
theorem Ext.wl{lo:Nat}{h h':aA}(x:Ext lo h h')(m:Nat)(hm:m=h.lim):Ext lo h (Dm.wl h' m):=⟨x.le,hm,x.get,x.wf⟩
theorem Ext.lower{lo lo':Nat}{h h':aA}(x:Ext lo h h')(hl:lo'≤lo):Ext lo' h h':=⟨Nat.le_trans hl x.le,x.lim,fun id eF=>x.get id (by omega),x.wf⟩
theorem Bm{lo m:Nat}{h:aA}{v:DV}{ety sz bytes:Nat}{ys:List DV}{A:Option (DV×aA)}(hA:bW ety sz bytes (Dm.wl h m) [v]=A)(he:elems h sz v=some ys)(wf:WF h)(dY:lo≤h.n)(hm:m≤h.n)(bJ:h.lim≤h.n)(hb:ys.length*bytes≤140737488355328)(Cr:1≤bytes) :
  ∃ v' h',A=some (v',h')∧Own lo (Dm.wl h' h.lim) v' ety sz ys∧Ext lo h (Dm.wl h' h.lim)∧Ext h.n h (Dm.wl h' h.lim):=by
 have RW:elems (Dm.wl h m) sz v=some ys:=he
 obtain⟨v',h',e,o,x,y⟩:=xF (lo:=h.n) (h:=Dm.wl h m) RW (wf.wl m) (Nat.le_refl _) hm hb Cr hA
 exact⟨v',h',e,(o.wl bJ).lower dY,⟨Nat.le_trans dY x.le,rfl,fun id eF=>x.get id (by omega),x.wf⟩,⟨x.le,rfl,x.get,x.wf⟩⟩
def jO(ety:Nat)(h h':aA):Prop:=∀k o,h.get k=some o→(∀s xs c,o≠.arr ety s xs c)→h'.get k=some o
theorem jO.refl(ety:Nat)(h:aA):jO ety h h:=fun _ _ h _=>h
theorem jO.push{ety:Nat}{h h':aA}{o:DO}(x:jO ety h h'):jO ety h (h'.push o):=fun k ob hg cK=>by
 have:=x k ob hg cK
 rw[cH,if_neg (by have:=aB this;omega)];exact this
theorem jO.set{ety:Nat}{h h':aA}{id s:Nat}{xs:List DV}{c:Option Nat}{o:DO}(x:jO ety h h')(w:WF h')(hg:h.get id=some (.arr ety s xs c))(eF:id<h'.n):jO ety h (h'.set id o):=fun k ob hk cK=>by
 have PH:k≠id:=by
  intro e
  subst e
  rw[hg]at hk
  injection hk with hk
  exact cK _ _ _ hk.symm
 rw[cM w eF,if_neg PH]
 exact x k ob hk cK
theorem Own.keep{lo:Nat}{h h':aA}{v:DV}{ety e2 sz:Nat}{xs:List DV}(w:Own lo h v e2 sz xs)(x:jO ety h h')(hl:h'.lim=h.lim)(cK:e2≠ety):Own lo h' v e2 sz xs:=by
 cases w with
 | nil hv hx=>exact .nil hv hx
 | arr id hv hg bJ dY =>
  exact .arr id hv (x _ _ hg (fun s ys c e=>by injection e with e1;exact cK e1)) (by rw[hl];exact bJ) dY
theorem OwnR.keep{lo:Nat}{h h':aA}{v:DV}{ety e2 sz:Nat}{xs:List DV}(w:OwnR lo h v e2 sz xs)(x:jO ety h h')(hl:h'.lim=h.lim)(cK:e2≠ety):OwnR lo h' v e2 sz xs:=by
 cases w with
 | nil hv hx=>exact .nil hv hx
 | arr id sp cap hv hg bJ dY =>
  exact .arr id sp cap hv (x _ _ hg (fun s ys c e=>by injection e with e1;exact cK e1)) (by rw[hl];exact bJ) dY
theorem OwnR.aV{lo:Nat}{h:aA}{v:DV}{ety sz:Nat}{xs:List DV}(w:OwnR lo h v ety sz xs)(wf:WF h){id:Nat}{o:DO}(eF:id<lo)(hn:id<h.n):OwnR lo (h.set id o) v ety sz xs:=by
 cases w with
 | nil hv hx=>exact .nil hv hx
 | arr k sp cap hv hg hl hi=>exact .arr k sp cap hv (by rw[cM wf hn,if_neg (by omega)];exact hg) hl hi
theorem OwnR.lower{lo lo':Nat}{h:aA}{v:DV}{ety sz:Nat}{xs:List DV}(w:OwnR lo h v ety sz xs)(hl:lo'≤lo):OwnR lo' h v ety sz xs:=by
 cases w with
 | nil hv hx=>exact .nil hv hx
 | arr k sp cap hv hg bJ hi=>exact .arr k sp cap hv hg bJ (Nat.le_trans hl hi)
theorem mW{h:aA}{id ety sz bytes len:Nat}{xs ys:List DV}{cap:Option Nat}(hg:h.get id=some (.arr ety sz xs cap))(cC:len+ys.length≤xs.length)(bJ:h.lim≤id)(hb:(len+ys.length)*bytes≤140737488355328)(Cr:1≤bytes)(hy:ys≠[]) :
  bF h ety sz bytes (.sl id sz 0 len) ys=some (.sl id sz 0 (len+ys.length),h.set id (.arr ety sz (cB xs ys len) cap)):=by
 have hm:len+ys.length≤140737488355328:=Nat.le_trans (Nat.le_mul_of_pos_right _ Cr) hb
 have Ke:ys.isEmpty=false:=by cases ys<;>simp_all
 simp only[bF,Ke,hg,Bool.false_eq_true,if_false,true_and,Nat.zero_add]
 rw[if_pos ⟨by omega,hb,by omega⟩,if_pos cC,if_pos bJ]
theorem jF{h:aA}{id ety sz bytes len c:Nat}{xs ys:List DV}(hg:h.get id=some (.arr ety sz xs (some c)))(hl:len≤xs.length)(cC:xs.length<len+ys.length)(hb:(len+ys.length)*bytes≤140737488355328)(Cr:1≤bytes)(hy:ys≠[]) :
  bF h ety sz bytes (.sl id sz 0 len) ys=some (.sl h.n sz 0 (len+ys.length),h.push (.arr ety sz (xs.take len++ys) none)):=by
 have hm:len+ys.length≤140737488355328:=Nat.le_trans (Nat.le_mul_of_pos_right _ Cr) hb
 have Ke:ys.isEmpty=false:=by cases ys<;>simp_all
 simp only[bF,Ke,hg,Bool.false_eq_true,if_false,true_and,Nat.zero_add,List.drop_zero]
 rw[if_pos ⟨hl,hb,by omega⟩,if_neg (by omega)]
theorem Me(X:List DV)(u:DV)(i:Nat)(hi:i<X.length):cB (X++[u]) (List.take (X.length-i) (List.take (X.length+1-i) (List.drop i (X++[u])))) (i+1)=X.take (i+1)++X.drop i:=by
 have e1:List.take (X.length-i) (List.take (X.length+1-i) (List.drop i (X++[u])))=X.drop i:=by
  rw[List.take_take,Nat.min_eq_left (by omega),List.drop_append_of_le_length (by omega),List.take_left' (by simp)]
 rw[e1]
 unfold cB
 have e2:List.drop (i+1+(X.drop i).length) (X++[u])=[]:=List.drop_eq_nil_of_le (by simp only[List.length_append,List.length_drop,List.length_cons,List.length_nil];omega)
 rw[e2,List.take_append_of_le_length (by omega),List.append_nil]
theorem R6(X:List DV)(x:DV)(i:Nat)(hi:i<X.length):cB (X.take (i+1)++X.drop i) [x] i=X.take i++x::X.drop i:=by
 unfold cB
 have h1:(X.take (i+1)).length=i+1:=by simp;omega
 rw[List.take_append_of_le_length (by omega),List.take_take,Nat.min_eq_left (by omega)]
 have:List.drop (i+[x].length) (X.take (i+1)++X.drop i)=X.drop i:=by
  rw[List.drop_left' (by simpa using h1)]
 rw[this];simp
theorem Uw(X:List DV)(z x:DV)(i:Nat)(hi:i<X.length):cB (X.take i++List.replicate (X.length+1-i) z) [x] i=X.take i++x::List.replicate (X.length-i) z:=by
 unfold cB
 have h1:(X.take i).length=i:=by simp;omega
 rw[List.take_left' h1]
 have h2:List.replicate (X.length+1-i) z=z::List.replicate (X.length-i) z:=by
  rw[show X.length+1-i=(X.length-i)+1 by omega,List.replicate_succ]
 rw[h2]
 have:List.drop (i+[x].length) (X.take i++z::List.replicate (X.length-i) z)=List.replicate (X.length-i) z:=by
  rw[List.drop_append,h1,List.drop_eq_nil_of_le (by simp;omega)]
  simp
 rw[this];simp
theorem Uv(X:List DV)(z x:DV)(i:Nat)(hi:i<X.length):cB (X.take i++x::List.replicate (X.length-i) z) (X.drop i) (i+1)=X.take i++x::X.drop i:=by
 unfold cB
 have h1:(X.take i).length=i:=by simp;omega
 have h2:List.take (i+1) (X.take i++x::List.replicate (X.length-i) z)=X.take i++[x]:=by
  rw[List.take_append,h1,List.take_of_length_le (by omega)]
  simp
 have h3:List.drop (i+1+(X.drop i).length) (X.take i++x::List.replicate (X.length-i) z)=[]:=by
  apply List.drop_eq_nil_of_le
  simp;omega
 rw[h2,h3];simp
theorem OwnR.start(lo:Nat)(h:aA)(ety sz:Nat):OwnR lo h .nsl ety sz []:=.nil rfl rfl
theorem OwnR.fresh{lo:Nat}{h:aA}{ety sz:Nat}{xs:List DV}{cap:Option Nat}(bJ:h.lim≤h.n)(dY:lo≤h.n):OwnR lo (h.push (.arr ety sz xs cap)) (.sl h.n sz 0 xs.length) ety sz xs:=.arr h.n [] cap rfl (by simp[cH]) bJ dY
theorem OwnR.append{lo:Nat}{h:aA}{v:DV}{ety sz bytes:Nat}{xs ys:List DV}{A:Option (DV×aA)}(w:OwnR lo h v ety sz xs)(wf:WF h)(dY:lo≤h.n)(bJ:h.lim≤h.n)(hA:bF h ety sz bytes v ys=A)
  (hb:(xs.length+ys.length)*bytes≤140737488355328) (Cr:1≤bytes):∃ v' h',A=some (v',h')∧OwnR lo h' v' ety sz (xs++ys)∧Ext lo h h'∧jO ety h h':=by
 have hm:xs.length+ys.length≤140737488355328:=Nat.le_trans (Nat.le_mul_of_pos_right _ Cr) hb
 by_cases hy:ys=[]
 ·subst hy
  refine⟨v,h,?_,by simpa using w,.refl dY wf,.refl _ _⟩
  rw[←hA]
  cases w with
  | nil hv hx=>subst hv;rfl
  | arr id sp cap hv hg _ _=>subst hv;rfl
 ·have Ke:ys.isEmpty=false:=by cases ys<;>simp_all
  have RG:0<ys.length:=List.length_pos_iff.2 hy
  cases w with
  | nil hv hx =>
   subst hv;subst hx
   simp only[List.length_nil,Nat.zero_add]at hb hm
   refine⟨.sl h.n sz 0 ys.length,h.push (.arr ety sz ys none),?_,.arr h.n [] none rfl (by simp[cH]) (by exact bJ) dY,(Ext.refl dY wf).push,(jO.refl _ _).push⟩
   rw[←hA]
   simp only[bF,Ke]
   rw[if_neg (by simp),if_pos ⟨hb,by omega⟩]
  | arr id sp cap hv hg hl hi =>
   subst hv
   have aY:=aB hg
   by_cases Qe:xs.length+ys.length≤(xs++sp).length
   ·refine⟨.sl id sz 0 (xs.length+ys.length),h.set id (.arr ety sz (cB (xs++sp) ys xs.length) cap),?_,.arr id (sp.drop ys.length) cap (by simp) ?_ (by exact hl) hi,(Ext.refl dY wf).set hi aY,(jO.refl _ _).set wf hg aY⟩
    ·rw[←hA];exact mW hg Qe hl hb Cr hy
    ·rw[cM wf aY,if_pos rfl]
     simp only[cB,List.take_left',List.append_assoc]
     congr 3
     rw[List.drop_append]
     simp
   ·cases cap with
    | none =>
     refine⟨.sl h.n sz 0 (xs.length+ys.length),(h.set id .dead).push (.arr ety sz (xs++ys) none),?_,.arr h.n [] none (by simp) ?_ (by exact bJ) dY,((Ext.refl dY wf).set hi aY).push,((jO.refl _ _).set wf hg aY).push⟩
     ·rw[←hA]
      simp only[bF,Ke,hg]
      simp only[Bool.false_eq_true,if_false,true_and,Nat.zero_add,List.drop_zero]
      rw[if_pos ⟨by simp,hb,by omega⟩,if_neg Qe,if_pos hl]
      simp
     ·simp
    | some c =>
     refine⟨.sl h.n sz 0 (xs.length+ys.length),h.push (.arr ety sz (xs++ys) none),?_,.arr h.n [] none (by simp) ?_ (by exact bJ) dY,(Ext.refl dY wf).push,(jO.refl _ _).push⟩
     ·rw[←hA]
      rw[jF hg (by simp) (by omega) hb Cr hy]
      simp
     ·simp
structure pB(lo:Nat)(h:aA)(id ety sz:Nat)(xs:List DV):Prop where
 get:∃ sp cap,h.get id=some (.arr ety sz (xs++sp) cap)
 lim:h.lim≤id
 lo:lo≤id
theorem pB.toR{lo:Nat}{h:aA}{id ety sz:Nat}{xs:List DV}(w:pB lo h id ety sz xs):OwnR lo h (.sl id sz 0 xs.length) ety sz xs:=by
 obtain⟨⟨sp,cap,hg⟩,hl,hi⟩:=w
 exact .arr id sp cap rfl hg hl hi
theorem pB.lt{lo:Nat}{h:aA}{id ety sz:Nat}{xs:List DV}(w:pB lo h id ety sz xs):id<h.n:=by
 obtain⟨⟨sp,cap,hg⟩,_,_⟩:=w
 exact aB hg
theorem pB.fresh{lo:Nat}{h:aA}{ety sz:Nat}{xs:List DV}{cap:Option Nat}(bJ:h.lim≤h.n)(dY:lo≤h.n):pB lo (h.push (.arr ety sz xs cap)) h.n ety sz xs:=⟨⟨[],cap,by simp[cH]⟩,bJ,dY⟩
theorem pB.push{lo:Nat}{h:aA}{id ety sz:Nat}{xs:List DV}{o:DO}(w:pB lo h id ety sz xs):pB lo (h.push o) id ety sz xs:=by
 obtain⟨⟨sp,cap,hg⟩,hl,hi⟩:=w
 exact⟨⟨sp,cap,by rw[cH,if_neg (by have:=aB hg;omega)];exact hg⟩,hl,hi⟩
theorem pB.keep{lo:Nat}{h h':aA}{id ety e2 sz:Nat}{xs:List DV}(w:pB lo h id e2 sz xs)(x:jO ety h h')(hl:h'.lim=h.lim)(cK:e2≠ety):pB lo h' id e2 sz xs:=by
 obtain⟨⟨sp,cap,hg⟩,bJ,hi⟩:=w
 exact⟨⟨sp,cap,x _ _ hg (fun s ys c e=>by injection e with e1;exact cK e1)⟩,by rw[hl];exact bJ,hi⟩
theorem pB.aV{lo:Nat}{h:aA}{id ety sz:Nat}{xs:List DV}(w:pB lo h id ety sz xs)(wf:WF h){k:Nat}{o:DO}(eF:k<lo)(hn:k<h.n):pB lo (h.set k o) id ety sz xs:=by
 obtain⟨⟨sp,cap,hg⟩,hl,hi⟩:=w
 exact⟨⟨sp,cap,by rw[cM wf hn,if_neg (by omega)];exact hg⟩,hl,hi⟩
theorem pB.wl{lo:Nat}{h:aA}{id ety sz:Nat}{xs:List DV}(w:pB lo h id ety sz xs){m:Nat}(hm:m≤lo):pB lo (Dm.wl h m) id ety sz xs:=by
 obtain⟨⟨sp,cap,hg⟩,hl,hi⟩:=w
 exact⟨⟨sp,cap,hg⟩,Nat.le_trans hm hi,hi⟩
theorem pB.ext{lo:Nat}{h h':aA}{id ety sz:Nat}{xs:List DV}(w:pB lo h id ety sz xs)(x:Ext h.n h h'):pB lo h' id ety sz xs:=by
 have:=w.lt
 obtain⟨⟨sp,cap,hg⟩,hl,hi⟩:=w
 exact⟨⟨sp,cap,(x.get id this).trans hg⟩,by rw[x.lim];exact hl,hi⟩
theorem pB.append{lo:Nat}{h:aA}{id ety sz bytes:Nat}{xs ys:List DV}{A:Option (DV×aA)}{n:Nat}(w:pB lo h id ety sz xs)(hn:n=xs.length)(wf:WF h)(dY:lo≤h.n)(bJ:h.lim≤h.n)(hA:bF h ety sz bytes (.sl id sz 0 n) ys=A)
  (hb:(xs.length+ys.length)*bytes≤140737488355328) (Cr:1≤bytes):∃ id' h',A=some (.sl id' sz 0 (xs.length+ys.length),h')∧pB lo h' id' ety sz (xs++ys)∧Ext lo h h'∧jO ety h h'∧(id'=id∨h.n≤id'):=by
 subst hn
 have hm:xs.length+ys.length≤140737488355328:=Nat.le_trans (Nat.le_mul_of_pos_right _ Cr) hb
 by_cases hy:ys=[]
 ·subst hy
  refine⟨id,h,?_,by simpa using w,.refl dY wf,.refl _ _,.inl rfl⟩
  rw[←hA];rfl
 ·have Ke:ys.isEmpty=false:=by cases ys<;>simp_all
  obtain⟨⟨sp,cap,hg⟩,hl,hi⟩:=w
  have aY:=aB hg
  by_cases Qe:xs.length+ys.length≤(xs++sp).length
  ·refine⟨id,h.set id (.arr ety sz (cB (xs++sp) ys xs.length) cap),?_,⟨⟨sp.drop ys.length,cap,?_⟩,hl,hi⟩,(Ext.refl dY wf).set hi aY,(jO.refl _ _).set wf hg aY,.inl rfl⟩
   ·rw[←hA];exact mW hg Qe hl hb Cr hy
   ·rw[cM wf aY,if_pos rfl]
    simp only[cB,List.take_left',List.append_assoc]
    congr 3
    rw[List.drop_append]
    simp
  ·cases cap with
   | none =>
    refine⟨h.n,(h.set id .dead).push (.arr ety sz (xs++ys) none),?_,⟨⟨[],none,?_⟩,bJ,dY⟩,((Ext.refl dY wf).set hi aY).push,((jO.refl _ _).set wf hg aY).push,.inr (Nat.le_refl _)⟩
    ·rw[←hA]
     simp only[bF,Ke,hg]
     simp only[Bool.false_eq_true,if_false,true_and,Nat.zero_add,List.drop_zero]
     rw[if_pos ⟨by simp,hb,by omega⟩,if_neg Qe,if_pos hl]
     simp
    ·simp
   | some c =>
    refine⟨h.n,h.push (.arr ety sz (xs++ys) none),?_,⟨⟨[],none,?_⟩,bJ,dY⟩,(Ext.refl dY wf).push,(jO.refl _ _).push,.inr (Nat.le_refl _)⟩
    ·rw[←hA]
     rw[jF hg (by simp) (by omega) hb Cr hy]
     simp
    ·simp
theorem CQ(h:aA)(t:Bool)(sz:Nat)(xs:List DV):elems h sz (.isl t sz xs)=some xs:=by simp[elems]
theorem GA(t:Bool)(sz:Nat)(xs:List DV):Gf (.isl t sz xs)=none:=_root_.id rfl
theorem BJ(t:Bool)(sz:Nat)(xs:List DV):mapId (.isl t sz xs)=none:=_root_.id rfl
theorem Sp{α:Type}(h:aA)(t:Bool)(sz:Nat)(e:α→DV)(xs:List α)(k:IntKind)(i:Nat)(hi:i≤xs.length):fC h sz (eL t sz e xs) none (some (.int k (i:Int)))=some (.isl (t && !xs.isEmpty) sz ((xs.take i).map e)):=by
 cases xs with
 | nil =>
  have h0:i=0:=by simpa using hi
  subst h0
  simp[tW,fC,cF,asI]
 | cons x xs =>
  have h2:(i:Int)≤((xs.length+1:Nat):Int):=by simp at hi;omega
  rw[qY]
  simp only[fC,List.length_cons,List.length_map,cF,asI]
  simp only[List.isEmpty_cons,Bool.not_false,Bool.and_true,true_or,if_true,Int.natCast_nonneg,h2,and_self,Int.toNat_natCast,List.drop_zero,Nat.sub_zero]
  rw[←List.map_cons,←List.map_take]
theorem zV{α:Type}(h:aA)(t:Bool)(sz:Nat)(e:α→DV)(xs:List α)(k:IntKind)(i:Nat)(hi:i≤xs.length):fC h sz (eL t sz e xs) (some (.int k (i:Int))) none=some (.isl (t && !xs.isEmpty) sz ((xs.drop i).map e)):=by
 cases xs with
 | nil =>
  have h0:i=0:=by simpa using hi
  subst h0
  simp[tW,fC,cF,asI]
 | cons x xs =>
  have h2:(i:Int)≤((xs.length+1:Nat):Int):=by simp at hi;omega
  rw[qY]
  simp only[fC,List.length_cons,List.length_map,cF,asI]
  simp only[List.isEmpty_cons,Bool.not_false,Bool.and_true,true_or,if_true,Int.natCast_nonneg,h2,and_self,Int.toNat_natCast]
  rw[←List.map_cons,←List.map_drop,List.take_of_length_le (by simp)]
theorem Of{α:Type}(h:aA)(t:Bool)(sz:Nat)(e:α→DV)(xs:List α)(k:IntKind)(i:Nat)(hi:i+1≤xs.length):fC h sz (eL t sz e xs) (some (.int k ((i:Int)+1))) none=some (.isl (t && !xs.isEmpty) sz ((xs.drop (i+1)).map e)):=by
 have:=zV h t sz e xs k (i+1) hi
 rwa[Int.natCast_add]at this
attribute [simp] CQ GA BJ Sp zV Of
mutual
theorem DV.beq_refl:∀v:DV,DV.beq v v=true
 | .unk|.nilp|.nsl|.nmap|.nilf|.nili=>rfl
 | .bool _|.int _ _|.str _|.ptr ..|.sl ..|.map _|.tok _|.atl _=>by simp[DV.beq]
 | .iptr l xs o=>by simp[DV.beq,kU xs]
 | .isl l s xs=>by simp[DV.beq,kU xs]
 | .func f xs=>by simp[DV.beq,kU xs]
 | .iface t v=>by simp[DV.beq,DV.beq_refl v]
 | .agg xs=>by simp[DV.beq,kU xs]
 | .tup xs=>by simp[DV.beq,kU xs]
theorem kU:∀l:List DV,uC l l=true
 | []=>rfl
 | x::xs=>by simp[uC,DV.beq_refl x,kU xs]
end
inductive Dep:Nat→DV→Prop where
 | int (k:IntKind) (n:Int) {d:Nat}:Dep (d+1) (.int k n)
 | bool (b:Bool) {d:Nat}:Dep (d+1) (.bool b)
 | str (s:List UInt8) {d:Nat}:Dep (d+1) (.str s)
 | isl (t:Bool) (sz:Nat) (xs:List DV) {d:Nat} (h:∀x∈xs,Dep d x):Dep (d+1) (.isl t sz xs)
 | agg (xs:List DV) {d:Nat} (h:∀x∈xs,Dep d x):Dep (d+1) (.agg xs)
theorem Dep.belowN{d:Nat}{v:DV}(h:Dep d v):∀{n N:Nat},d≤n→Dm.dR n N v=true:=by
 induction h with
 | int k n=>intro m N hm;obtain⟨q,rfl,_⟩:=cJ hm;rfl
 | bool b=>intro m N hm;obtain⟨q,rfl,_⟩:=cJ hm;rfl
 | str s=>intro m N hm;obtain⟨q,rfl,_⟩:=cJ hm;rfl
 | isl t sz xs h ih=>intro m N hm;obtain⟨q,rfl,hq⟩:=cJ hm;rfl
 | agg xs h ih =>
  intro m N hm;obtain⟨q,rfl,hq⟩:=cJ hm
  simp only[Dm.dR,List.all_eq_true]
  exact fun x hx=>ih x hx hq
theorem Dep.eL{α:Type}{d:Nat}(t:Bool)(sz:Nat){e:α→DV}{xs:List α}(h:∀x∈xs,Dep d (e x)):Dep (d+1) (eL t sz e xs):=by
 cases xs with
 | nil=>exact .isl _ _ _ (fun x hx=>by cases hx)
 | cons x r =>
  rw[qY,←List.map_cons]
  refine .isl _ _ _ fun y hy=>?_
  obtain⟨z,hz,rfl⟩:=List.mem_map.1 hy
  exact h z hz
theorem KB(c:Xg):Dep 2 (sP c):=.agg _ (by
 intro x hx;simp only[List.mem_cons,List.not_mem_nil,or_false]at hx
 rcases hx with rfl|rfl|rfl|rfl|rfl<;>first|exact .int _ _|exact .str _)
theorem KA(p:dZ):Dep 3 (eX p):=.eL _ _ fun c _=>KB c
theorem Dep.mono{d:Nat}{v:DV}(h:Dep d v):∀{e:Nat},d≤e→Dep e v:=by
 induction h with
 | int k n=>intro e he;obtain⟨q,rfl,_⟩:=cJ he;exact .int _ _
 | bool b=>intro e he;obtain⟨q,rfl,_⟩:=cJ he;exact .bool _
 | str s=>intro e he;obtain⟨q,rfl,_⟩:=cJ he;exact .str _
 | isl t sz xs h ih=>intro e he;obtain⟨q,rfl,hq⟩:=cJ he;exact .isl _ _ _ fun x hx=>ih x hx hq
 | agg xs h ih=>intro e he;obtain⟨q,rfl,hq⟩:=cJ he;exact .agg _ fun x hx=>ih x hx hq
theorem XF(x:ID):Dep 4 (eID x):=.agg _ (by
 intro x hx;simp only[List.mem_cons,List.not_mem_nil,or_false]at hx
 rcases hx with rfl|rfl<;>exact .int _ _)
theorem K9(a:cQ):Dep 4 (aJ a):=.agg _ (by
 intro x hx;simp only[List.mem_cons,List.not_mem_nil,or_false]at hx
 rcases hx with rfl|rfl|rfl|rfl<;>first|exact .int _ _|exact KA _)
theorem pY{cs:List DV}(h:∀x∈cs,mZ 1 x):mZ 20 (.agg cs):=(vQ h).mono (by decide)
theorem rU{cs:List DV}(h:∀x∈cs,Unl 21 x):Unl 22 (.agg cs):=Eu h
theorem lG(x:ID):mZ 20 (eID x)∧Unl 22 (eID x):=⟨pY (by
 intro x hx;simp only[List.mem_cons,List.not_mem_nil,or_false]at hx
 rcases hx with rfl|rfl<;>exact gT _ _),rU (by
 intro x hx;simp only[List.mem_cons,List.not_mem_nil,or_false]at hx
 rcases hx with rfl|rfl<;>exact(jH _ _).mono (by decide))⟩
theorem fX(a:cQ):mZ 20 (aJ a)∧Unl 22 (aJ a):=⟨pY (by
 intro x hx;simp only[List.mem_cons,List.not_mem_nil,or_false]at hx
 rcases hx with rfl|rfl|rfl|rfl<;>first|exact gT _ _|exact Cu _),rU (by
 intro x hx;simp only[List.mem_cons,List.not_mem_nil,or_false]at hx
 rcases hx with rfl|rfl|rfl|rfl<;>first|exact(jH _ _).mono (by decide)|exact rT _)⟩
theorem fW(a:bL):mZ 20 (bR a)∧Unl 22 (bR a):=⟨pY (by
 intro x hx;simp only[List.mem_cons,List.not_mem_nil,or_false]at hx
 rcases hx with rfl|rfl|rfl|rfl|rfl|rfl|rfl<;>first|exact gT _ _|exact Cu _|exact CC _),rU (by
 intro x hx;simp only[List.mem_cons,List.not_mem_nil,or_false]at hx
 rcases hx with rfl|rfl|rfl|rfl|rfl|rfl|rfl<;>first|exact(jH _ _).mono (by decide)|exact rT _|exact(Ro _).mono (by decide))⟩
theorem kK(a:Xc):mZ 20 (rJ a)∧Unl 22 (rJ a):=⟨pY (by
 intro x hx;simp only[List.mem_cons,List.not_mem_nil,or_false]at hx
 rcases hx with rfl|rfl|rfl<;>first|exact gT _ _|exact Cu _),rU (by
 intro x hx;simp only[List.mem_cons,List.not_mem_nil,or_false]at hx
 rcases hx with rfl|rfl|rfl<;>first|exact(jH _ _).mono (by decide)|exact rT _)⟩
theorem fO(n:Int):mZ 20 (dQ n)∧Unl 22 (dQ n):=⟨(gT _ _).mono (by decide),(jH _ _).mono (by decide)⟩
theorem MM(n:Nat)(xs:List Int):aZ (n+23) (eL false 1 dQ xs)=true:=kY (fun x _=>(fO x).2) _ (by omega)
theorem SM(n:Nat)(xs:List ID):aZ (n+23) (eL false 2 eID xs)=true:=kY (fun x _=>(lG x).2) _ (by omega)
theorem Xt(n:Nat)(xs:List cQ):aZ (n+23) (eL false 4 aJ xs)=true:=kY (fun x _=>(fX x).2) _ (by omega)
theorem Xs(n:Nat)(xs:List bL):aZ (n+23) (eL false 7 bR xs)=true:=kY (fun x _=>(fW x).2) _ (by omega)
theorem MI(n:Nat)(xs:List Xc):aZ (n+23) (eL false 3 rJ xs)=true:=kY (fun x _=>(kK x).2) _ (by omega)
attribute [simp] MM SM Xt Xs MI
end Go.Dm
/-
Arguments of a call from outside: what the frame tells of them,in the machine's form;a function with arguments that answers true.
-/
namespace Go.Dm
open Go.RowKit
theorem DS {P : Program} {D : bU} (G : La P D) {f : Nat} {fn : Func} {body : Code} (hf : P.funcs[f]? = some fn) (hb : fn.body = some body) (hn : fn.name ≠ "runtime.NumGoroutine") {ds : List DV} {vs : List Value} {h' : aA} (hr : fc D f ds jA = some (.bool true, h')) (w : World) (hg : Ky w) (hv : VRs (Ig w) ds vs) :
  Calls P f vs.toArray w fun e w'=>e=.returned (.bool true)∧LE w w'∧∀b,b<w.heap.size→w'.heap[b]?=w.heap[b]?:=by
 obtain⟨n,he⟩:=Be.1 hr
 have hc:=Io G n f ds jA _ h' (Ig w) vs he (m6 w hg) hv
 have hen:=jD hf hb hn vs.toArray w
 rcases hc with⟨v,w',gB,_⟩|⟨f',vals',gB,hcalls⟩
 ·have:(callFunc f vs.toArray).run P w=.ok (.value v) w':=gB
  rw[hen]at this
  cases this
 ·have h2:(callFunc f vs.toArray).run P w=.ok (.enter f' vals') w:=gB
  rw[hen]at h2
  cases h2
  refine hcalls.mono fun e w' hp=>?_
  obtain⟨v,e1,ρ',k1,k2,k3⟩:=hp
  exact⟨by rw[e1,k3.bool_inv],Vk k2,fun b hb=>k2.frame b hb fun h=>h⟩
structure LF(c:Ctx)(w:World):Prop where
 w:c.w=w
 O:∀b,¬c.O b
 X:∀b,¬c.X b
theorem LF.zero(w:World):LF (Ig w) w:=⟨rfl,fun _ h=>h,fun _ h=>h⟩
theorem LF.still{c:Ctx}{w:World}(h:LF c w):LF c.still w:=⟨h.w,h.O,h.X⟩
def rP(c:Ctx)(ds:List DV)(cs:List Value):Prop:=ds.length=cs.length∧∀i (h1:i<ds.length) (h2:i<cs.length),VR c ds[i] cs[i]∧(cs[i]).oneCell'=true
theorem rP.append{c:Ctx}{ds ds':List DV}{cs cs':List Value}(h:rP c ds cs)(h':rP c ds' cs'):rP c (ds++ds') (cs++cs'):=by
 refine⟨by rw[List.length_append,List.length_append,h.1,h'.1],fun i h1 h2=>?_⟩
 by_cases aY:i<ds.length
 ·rw[List.getElem_append_left aY,List.getElem_append_left (by rw[←h.1];exact aY)]
  exact h.2 i aY _
 ·rw[List.getElem_append_right (by omega),List.getElem_append_right (by rw[←h.1];omega)]
  have:i-cs.length=i-ds.length:=by rw[h.1]
  simp only[this]
  exact h'.2 (i-ds.length) (by rw[List.length_append]at h1;omega) _
theorem rP.one{c:Ctx}{d:DV}{v:Value}(h:VR c d v)(h1:v.oneCell'=true):rP c [d] [v]:=by
 refine⟨rfl,fun i h2 h3=>?_⟩
 have:i=0:=by simp at h2;omega
 subst this
 exact⟨h,h1⟩
theorem rP.nil{c:Ctx}:rP c [] []:=⟨rfl,fun i h=>absurd h (Nat.not_lt_zero _)⟩
section
variable {H:Type} {enc:TypeId×Value→H} {P:Program} {w:World} {sp:Nat→Bool} {Vh:Bool}
theorem Gq{t:TypeId}{cs:List Value}{fuel:Nat}{x:DataW H×List MemPlace}(ht:P.underlying t=some (.int .i64))(h:DataW.trod enc P w 0 sp Vh fuel t cs=some x)(c:Ctx):∃ n:Int,rP c [.int .i64 n] cs:=by
 obtain⟨n,rfl,_,_⟩:=DataW.trod_int ht h
 exact⟨n,.one (.int _ _) rfl⟩
theorem NE{w':World}(hg:∀b,b<w.heap.size→w'.heap[b]?=w.heap[b]?){p:MemPlace}(hp:p.block<w.heap.size):w.sameAt w' p:=by
 cases p with
 | cell b off =>
  show w'.cell? ⟨b,off,none⟩=w.cell? ⟨b,off,none⟩
  unfold World.cell?
  rw[hg b hp]
 | map b=>exact hg b hp
theorem zO{w':World}(hg:∀b,b<w.heap.size→w'.heap[b]?=w.heap[b]?)(sp':Nat→Bool):∀{ts:List TypeId} {vs:List Value} {ds:List (DataW H)} {ps:List MemPlace},DataW.TrodAll enc P w 0 sp' Vh ts vs ds ps→(∀p∈ps,p.block<w.heap.size)→DataW.TrodAll enc P w' 0 sp' Vh ts vs ds ps
 | [],[],[],_,h,_=>h
 | t::ts,v::vs,d::ds,ps,h,hl=>by
  obtain⟨p,q,⟨fuel,h1⟩,h2,rfl⟩:=h
  exact⟨p,q,⟨fuel,DataW.trod_carry _ _ _ _ h1 fun x hx=>NE hg (hl x (List.mem_append.2 (.inl hx)))⟩,zO hg sp' h2 fun x hx=>hl x (List.mem_append.2 (.inr hx)),rfl⟩
end
end Go.Dm
