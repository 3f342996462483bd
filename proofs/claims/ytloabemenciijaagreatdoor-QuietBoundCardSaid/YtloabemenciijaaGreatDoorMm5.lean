/- A part of the proof. -/
import Derived.Test.YtloabemenciijaaGreatDoorMm4
import Derived.IntWalk
import Derived.ChangeArms
import Derived.ChangeSame
set_option linter.all false
namespace Go.Dm
abbrev eX:=Nat→DV
def tab(N:Nat)(f:eX):Env:=(List.range N).map f
def upd(f:eX)(d:Nat)(v:DV):eX:=fun i=>if i=d then v else f i
def mR(f:eX)(dst:Option Nat)(v:DV):eX:=match dst with|some d=>upd f d v|none=>f
def rd(N:Nat)(f:eX)(i:Nat):DV:=if i<N then f i else .unk
def S8(args:List DV):eX:=fun i=>args.getD i aR
theorem qT(N:Nat)(f:eX)(i:Nat):(tab N f)[i]?=if i<N then some (f i)else none:=by
 by_cases h:i<N
 ·simp[tab,h]
 ·simp only[tab,List.getElem?_map,if_neg h]
  rw[List.getElem?_eq_none (by simp;omega)];rfl
theorem yS(N:Nat)(f:eX)(i:Nat):((tab N f)[i]?).getD .unk=rd N f i:=by
 rw[qT];unfold rd;split<;>rfl
theorem X1(N:Nat)(f:eX)(d:Nat)(v:DV):(tab N f).set d v=tab N (upd f d v):=by
 apply List.ext_getElem?
 intro i
 rw[List.getElem?_set,qT,qT]
 simp only[tab,List.length_map,List.length_range,upd]
 by_cases e:d=i
 ·subst e
  by_cases h:d<N<;>simp[h]
 ·have e':¬i=d:=fun q=>e q.symm
  simp only[if_neg e,if_neg e']
theorem lT(N:Nat)(f:eX)(dst:Option Nat)(v:DV):put (tab N f) dst v=tab N (mR f dst v):=by
 cases dst with
 | none=>rfl
 | some d=>exact X1 N f d v
theorem D9(N:Nat)(args:List DV)(h:args.length≤N):args++List.replicate (N-args.length) aR=tab N (S8 args):=by
 apply List.ext_getElem?
 intro i
 rw[qT,List.getElem?_append]
 unfold S8
 by_cases h1:i<args.length
 ·rw[if_pos h1,if_pos (by omega)]
  simp[h1]
 ·rw[if_neg h1]
  by_cases h2:i<N
  ·rw[if_pos h2,List.getElem?_replicate,if_pos (by omega),List.getD_eq_getElem?_getD,List.getElem?_eq_none (by omega)];rfl
  ·rw[if_neg h2,List.getElem?_replicate,if_neg (by omega)]
theorem JX(N:Nat)(f:eX)(i:Nat):Opd.eval (tab N f) (.t i)=rd N f i:=yS N f i
theorem JY(env:Env)(v:DV):Opd.eval env (.c v)=v:=rfl
inductive Fr where
 | seq (b:aG)
 | block (id:Nat)
 | loop (b:aG)
noncomputable def sQ(D:bA):List Fr→Ex→Env→aA→Res
 | [],e,env,h=>.ok e env h
 | .seq b::S,e,env,h=>match e with
  | .normal=>match ev D b env h with
   | .ok e env h=>sQ D S e env h
   | .fail=>.fail
  | e=>sQ D S e env h
 | .block id::S,e,env,h=>sQ D S (match e with|.exit i=>if i=id then .normal else .exit i|e=>e) env h
 | .loop b::S,e,env,h=>match e with
  | .normal=>match ev D (.loop b) env h with
   | .ok e env h=>sQ D S e env h
   | .fail=>.fail
  | e=>sQ D S e env h
noncomputable def after(D:bA)(S:List Fr):Res→Res
 | .ok e env h=>sQ D S e env h
 | .fail=>.fail
noncomputable def run(D:bA)(N:Nat)(S:List Fr)(c:aG)(f:eX)(h:aA):Res:=after D S (ev D c (tab N f) h)
noncomputable def ret(D:bA)(N:Nat)(S:List Fr)(e:Ex)(f:eX)(h:aA):Res:=sQ D S e (tab N f) h
noncomputable def I6(D:bA)(N:Nat)(S:List Fr)(a b:aG)(f:eX)(h:aA):DV→Res
 | .bool true=>run D N S a f h
 | .bool false=>run D N S b f h
 | _=>.fail
noncomputable def uI(D:bA)(N:Nat)(S:List Fr)(ops:List aH)(f:eX)(h:aA):Res :=
 match dH (fc D) ops (tab N f) h with
 | some (env,h)=>sQ D S .normal env h
 | none=>.fail
noncomputable def Wl(D:bA)(N:Nat)(S:List Fr)(dst:Option Nat)(r:List aH)(f:eX):Option (DV×aA)→Res
 | some (v,h)=>uI D N S r (mR f dst v) h
 | none=>.fail
noncomputable def Wo(D:bA)(N:Nat)(S:List Fr)(o:aH)(w:Bool)(r:List aH)(f:eX)(h:aA):DV→Res
 | .bool b=>if b=w then Wl D N S o.dst r f (aP (fc D) o.op (tab N f) h)else uI D N S r (mR f o.dst aR) h
 | .tup _=>uI D N S r (mR f o.dst aR) h
 | _=>.fail
noncomputable def pG(D:bA)(N:Nat)(S:List Fr)(ops:List aH)(f:eX)(hs:List aA)(L:bF):Res :=
 match cC (fc D) ops (tab N f) hs L with
 | some (env,h)=>sQ D S .normal env h
 | none=>.fail
noncomputable def Uc(D:bA)(N:Nat)(S:List Fr)(dst:Option Nat)(r:List aH)(f:eX)(hs:List aA)(L:bF):Option (DV×aA)→Res
 | some (v,_)=>pG D N S r (mR f dst v) hs L
 | none=>.fail
noncomputable def Ub(D:bA)(N:Nat)(S:List Fr)(dst:Option Nat)(r:List aH)(f:eX)(hs:List aA)(L:bF):Option (DV×aA)→Res
 | some (v,h)=>pG D N S r (mR f dst v) (h::hs) L
 | none=>.fail
noncomputable def Ua(D:bA)(N:Nat)(S:List Fr)(dst:Option Nat)(r:List aH)(f:eX)(hs:List aA):Option (DV×aA×bF)→Res
 | some (v,h,L)=>pG D N S r (mR f dst v) (h::hs) L
 | none=>.fail
noncomputable def Kd(D:bA)(N:Nat)(S:List Fr)(dst:Option Nat)(op:DOp)(cm:Bool)(r:List aH)(f:eX)(hs:List aA)(L:bF):Option aA→Res
 | some h0=>Uc D N S dst r f hs (L.see cm (mark (tab N f) op)) (aC h0 (tab N f) op)
 | none=>.fail
noncomputable def Ud(D:bA)(N:Nat)(S:List Fr)(dst:Option Nat)(op:DOp)(r:List aH)(f:eX)(h:aA)(gs:List aA)(L:bF):Option aA→Res
 | some h0=>Ua D N S dst r f (h::gs) (bK (fc D) h0.n gs.length L op (tab N f) h)
 | none=>.fail
noncomputable def uJ(D:bA)(N:Nat)(S:List Fr)(dst:Option Nat)(op:DOp)(snap:Nat)(cm:Bool)(r:List aH)(f:eX)(hs:List aA)(L:bF):nB→Res
 | .read=>if L.free snap (aT (tab N f) op)=true then Kd D N S dst op cm r f hs L (fA hs snap)else .fail
 | .write=>match hs with
  | h::_=>Ub D N S dst r f hs L (aP (fc D) op (tab N f) h)
  | []=>.fail
 | .create=>match hs with
  | h::gs=>Ud D N S dst op r f h gs L (fA hs snap)
  | []=>.fail
noncomputable def rY(D:bA)(N:Nat)(S:List Fr)(dst:Option Nat)(k:nB)(r:List aH)(f:eX)(L:bF):List aA→Res
 | h::hs=>pG D N S r (mR f dst aR) (if k=.read then h::hs else h::h::hs) L
 | []=>.fail
noncomputable def Kf(D:bA)(N:Nat)(S:List Fr)(o:aH)(w:Bool)(r:List aH)(f:eX)(hs:List aA)(L:bF):DV→Res
 | .bool b=>if b=w then uJ D N S o.dst o.op o.snap o.calm r f hs L o.kind else rY D N S o.dst o.kind r f L hs
 | .tup _=>rY D N S o.dst o.kind r f L hs
 | _=>.fail
noncomputable def Vd(D:bA)(as:List DV)(h:aA):DV→Option (DV×aA)
 | .func g cap=>fc D g (as++cap) h
 | _=>none
section
variable (D:bA) (N:Nat) (S:List Fr) (f:eX) (h:aA)
theorem G8:run D N S .skip f h=ret D N S .normal f h:=by unfold run;rw[BT];rfl
theorem H2(id:Nat):run D N S (.exit id) f h=ret D N S (.exit id) f h:=by unfold run;rw[BV];rfl
theorem Y9:run D N S .ret f h=ret D N S .ret f h:=by unfold run;rw[KA];rfl
theorem Y8(a b:aG):run D N S (.seq a b) f h=run D N (.seq b::S) a f h:=by
 unfold run
 rw[JZ]
 cases ev D a (tab N f) h with
 | fail=>rfl
 | ok e env h1 =>
  cases e<;>simp only[after,sQ]
theorem H5(c:Opd)(a b:aG):run D N S (.cond c a b) f h=I6 D N S a b f h (c.eval (tab N f)):=by
 unfold run
 rw[BX]
 unfold I6
 split<;>simp_all[run,after]
theorem Wj(id:Nat)(b:aG):run D N S (.block id b) f h=run D N (.block id::S) b f h:=by
 unfold run
 rw[P8]
 cases ev D b (tab N f) h with
 | fail=>rfl
 | ok e env h1 =>
  cases e with
  | exit i =>
   by_cases e:i=id
   ·simp only[after,sQ,if_pos e]
   ·simp only[after,sQ,if_neg e]
  | _=>rfl
theorem G9(b:aG):run D N S (.loop b) f h=run D N (.loop b::S) b f h:=by
 unfold run
 rw[BU]
 cases ev D b (tab N f) h with
 | fail=>rfl
 | ok e env h1 =>
  cases e<;>simp only[after,sQ]
theorem Pl(ops:List aH):run D N S (.region ops) f h=uI D N S ops f h:=by
 unfold run uI
 rw[Yu]
 cases dH (fc D) ops (tab N f) h<;>rfl
theorem H4(ops:List aH):run D N S (.draw ops) f h=pG D N S ops f [h] .start:=by
 unfold run pG
 rw[BW]
 cases cC (fc D) ops (tab N f) [h] .start<;>rfl
theorem Wr(a b:aG):I6 D N S a b f h (.bool true)=run D N S a f h:=rfl
theorem Px(a b:aG):I6 D N S a b f h (.bool false)=run D N S b f h:=rfl
theorem H9(a b:aG)(t:Bool):I6 D N S a b f h (.bool t)=if t=true then run D N S a f h else run D N S b f h:=by cases t<;>rfl
theorem Z1(e:Ex):ret D N [] e f h=.ok e (tab N f) h:=rfl
theorem Z0(b:aG):ret D N (.seq b::S) .normal f h=run D N S b f h:=by
 unfold ret run;simp only[sQ];cases ev D b (tab N f) h<;>rfl
theorem Fw(b:aG)(i:Nat):ret D N (.seq b::S) (.exit i) f h=ret D N S (.exit i) f h:=rfl
theorem Kh(b:aG):ret D N (.seq b::S) .ret f h=ret D N S .ret f h:=rfl
theorem Wu(id:Nat):ret D N (.block id::S) .normal f h=ret D N S .normal f h:=rfl
theorem Ci(id:Nat):ret D N (.block id::S) .ret f h=ret D N S .ret f h:=rfl
theorem zL(id i:Nat):ret D N (.block id::S) (.exit i) f h=ret D N S (if i=id then .normal else .exit i) f h:=rfl
theorem I7(b:aG):ret D N (.loop b::S) .normal f h=run D N S (.loop b) f h:=by
 unfold ret run;simp only[sQ];cases ev D (.loop b) (tab N f) h<;>rfl
theorem Ch(b:aG)(i:Nat):ret D N (.loop b::S) (.exit i) f h=ret D N S (.exit i) f h:=rfl
theorem Fx(b:aG):ret D N (.loop b::S) .ret f h=ret D N S .ret f h:=rfl
theorem H6:uI D N S [] f h=ret D N S .normal f h:=rfl
theorem Wm(dst:Option Nat)(op:DOp)(k:nB)(s:Nat)(cm:Bool)(r:List aH) :
  uI D N S (⟨dst,op,none,k,s,cm⟩::r) f h=Wl D N S dst r f (aP (fc D) op (tab N f) h):=by
 unfold uI
 simp only[dH,eF]
 cases aP (fc D) op (tab N f) h with
 | none=>rfl
 | some p=>simp only[Wl,lT];rfl
theorem Pm(dst:Option Nat)(op:DOp)(t:Nat)(w:Bool)(k:nB)(s:Nat)(cm:Bool)(r:List aH) :
  uI D N S (⟨dst,op,some (t,w),k,s,cm⟩::r) f h=Wo D N S ⟨dst,op,some (t,w),k,s,cm⟩ w r f h (rd N f t):=by
 unfold uI
 simp only[dH,eF,qT]
 unfold rd
 by_cases bB:t<N
 ·simp only[if_pos bB]
  cases hv:f t with
  | bool b =>
   simp only[Wo]
   by_cases e:b=w
   ·subst e
    simp only[beq_self_eq_true,if_true]
    cases aP (fc D) op (tab N f) h with
    | none=>rfl
    | some p=>simp only[Wl,lT];rfl
   ·have:(b == w)=false:=by simpa using e
    simp only[this,if_neg e,lT];rfl
  | tup l=>simp only[Wo,lT];rfl
  | _=>rfl
 ·simp only[if_neg bB];rfl
theorem Wk(dst:Option Nat)(r:List aH)(v:DV):Wl D N S dst r f (some (v,h))=uI D N S r (mR f dst v) h:=rfl
theorem Wn(o:aH)(w:Bool)(r:List aH)(b:Bool):Wo D N S o w r f h (.bool b)=if b=w then Wl D N S o.dst r f (aP (fc D) o.op (tab N f) h)else uI D N S r (mR f o.dst aR) h:=rfl
theorem H7(o:aH)(w:Bool)(r:List aH)(l:List DV):Wo D N S o w r f h (.tup l)=uI D N S r (mR f o.dst aR) h:=rfl
variable (hs:List aA) (L:bF)
theorem H8:pG D N S [] f (h::hs) L=ret D N S .normal f h:=rfl
theorem Dr(dst:Option Nat)(op:DOp)(k:nB)(s:Nat)(cm:Bool)(r:List aH)(g:Option (Nat×Bool)) :
  pG D N S (⟨dst,op,g,k,s,cm⟩::r) f (h::hs) L=(match eF (tab N f) g with
   | none=>.fail
   | some true=>uJ D N S dst op s cm r f (h::hs) L k
   | some false=>rY D N S dst k r f L (h::hs)):=by
 unfold pG
 simp only[cC]
 cases eF (tab N f) g with
 | none=>rfl
 | some t =>
  cases t with
  | false=>simp only[rY,lT];rfl
  | true =>
   simp only[uJ]
   cases k with
   | read =>
    simp only
    by_cases yH:L.free s (aT (tab N f) op)=true
    ·simp only[if_pos yH,Kd]
     cases fA (h::hs) s with
     | none=>rfl
     | some h0 =>
      simp only
      cases aC h0 (tab N f) op with
      | none=>rfl
      | some p=>simp only[Uc,lT];rfl
    ·simp only[if_neg yH]
   | write =>
    simp only
    cases aP (fc D) op (tab N f) h with
    | none=>rfl
    | some p=>simp only[Ub,lT];rfl
   | create =>
    simp only[Ud]
    cases fA (h::hs) s with
    | none=>rfl
    | some h0 =>
     simp only
     cases bK (fc D) h0.n hs.length L op (tab N f) h with
     | none=>rfl
     | some p=>simp only[Ua,lT];rfl
theorem Wp(dst:Option Nat)(op:DOp)(k:nB)(s:Nat)(cm:Bool)(r:List aH) :
  pG D N S (⟨dst,op,none,k,s,cm⟩::r) f (h::hs) L=uJ D N S dst op s cm r f (h::hs) L k:=by rw[Dr];rfl
theorem Po(dst:Option Nat)(op:DOp)(t:Nat)(w:Bool)(k:nB)(s:Nat)(cm:Bool)(r:List aH) :
  pG D N S (⟨dst,op,some (t,w),k,s,cm⟩::r) f (h::hs) L=Kf D N S ⟨dst,op,some (t,w),k,s,cm⟩ w r f (h::hs) L (rd N f t):=by
 rw[Dr]
 simp only[eF,qT]
 unfold rd
 by_cases bB:t<N
 ·simp only[if_pos bB]
  cases hv:f t with
  | bool b =>
   simp only[Kf]
   by_cases e:b=w
   ·subst e;simp
   ·have:(b == w)=false:=by simpa using e
    simp only[this,if_neg e]
  | _=>rfl
 ·simp only[if_neg bB];rfl
theorem Pv(o:aH)(w:Bool)(r:List aH)(b:Bool):Kf D N S o w r f hs L (.bool b)=if b=w then uJ D N S o.dst o.op o.snap o.calm r f hs L o.kind else rY D N S o.dst o.kind r f L hs:=rfl
theorem Wq(o:aH)(w:Bool)(r:List aH)(l:List DV):Kf D N S o w r f hs L (.tup l)=rY D N S o.dst o.kind r f L hs:=rfl
theorem Ps(dst:Option Nat)(r:List aH):rY D N S dst .read r f L (h::hs)=pG D N S r (mR f dst aR) (h::hs) L:=rfl
theorem Ka(dst:Option Nat)(r:List aH):rY D N S dst .write r f L (h::hs)=pG D N S r (mR f dst aR) (h::h::hs) L:=rfl
theorem Fq(dst:Option Nat)(r:List aH):rY D N S dst .create r f L (h::hs)=pG D N S r (mR f dst aR) (h::h::hs) L:=rfl
theorem Pt(dst:Option Nat)(op:DOp)(s:Nat)(cm:Bool)(r:List aH):uJ D N S dst op s cm r f hs L .read=if L.free s (aT (tab N f) op)=true then Kd D N S dst op cm r f hs L (fA hs s)else .fail:=rfl
theorem Kb(dst:Option Nat)(op:DOp)(s:Nat)(cm:Bool)(r:List aH):uJ D N S dst op s cm r f (h::hs) L .write=Ub D N S dst r f (h::hs) L (aP (fc D) op (tab N f) h):=rfl
theorem Fs(dst:Option Nat)(op:DOp)(s:Nat)(cm:Bool)(r:List aH):uJ D N S dst op s cm r f (h::hs) L .create=Ud D N S dst op r f h hs L (fA (h::hs) s):=rfl
theorem Pu(dst:Option Nat)(op:DOp)(cm:Bool)(r:List aH)(h0:aA):Kd D N S dst op cm r f hs L (some h0)=Uc D N S dst r f hs (L.see cm (mark (tab N f) op)) (aC h0 (tab N f) op):=rfl
theorem Pw(dst:Option Nat)(op:DOp)(r:List aH)(h0:aA):Ud D N S dst op r f h hs L (some h0)=Ua D N S dst r f (h::hs) (bK (fc D) h0.n hs.length L op (tab N f) h):=rfl
theorem Pr(dst:Option Nat)(r:List aH)(v:DV):Uc D N S dst r f hs L (some (v,h))=pG D N S r (mR f dst v) hs L:=rfl
theorem Pq(dst:Option Nat)(r:List aH)(v:DV):Ub D N S dst r f hs L (some (v,h))=pG D N S r (mR f dst v) (h::hs) L:=rfl
theorem Pp(dst:Option Nat)(r:List aH)(v:DV):Ua D N S dst r f hs (some (v,h,L))=pG D N S r (mR f dst v) (h::hs) L:=rfl
theorem Wa(k:Nat):fA hs k=hs.reverse[k]?:=by
 unfold fA
 split
 ·rename_i hk;rw[List.getElem?_reverse hk]
 ·rename_i hk;rw[List.getElem?_eq_none (by simp;omega)]
theorem Qq(g:Opd)(args:List Opd)(env:Env):aP (fc D) (.call g args) env h=Vd D (args.map (Opd.eval env)) h (g.eval env):=by
 simp only[aP,Vd]
 split<;>simp_all
theorem Sx(as:List DV)(g:Nat)(cap:List DV):Vd D as h (.func g cap)=fc D g (as++cap) h:=rfl
def fin(rs:List Dg):Res→Option (DV×aA)
 | .ok (.exit _) _ _=>none
 | .ok _ env h'=>match dF h' env rs with
  | some v=>some (v,h')
  | none=>none
 | .fail=>none
def P6(h:aA):Option DV→Option (DV×aA)
 | some v=>some (v,h)
 | none=>none
theorem BS(rs:List Dg)(env:Env):fin rs (.ok .ret env h)=P6 h (dF h env rs):=by
 unfold fin P6;rfl
theorem Sc(rs:List Dg)(env:Env):fin rs (.ok .normal env h)=P6 h (dF h env rs):=by
 unfold fin P6;rfl
theorem Yp(v:DV):P6 h (some v)=some (v,h):=rfl
theorem dI(df:aD)(args:List DV)(hl:args.length≤df.ntmps):fW (ev D) df args h=fin df.results (run D df.ntmps [] df.body (S8 args) h):=by
 unfold fW run
 rw[D9 _ _ hl]
 cases ev D df.body (tab df.ntmps (S8 args)) h with
 | fail=>rfl
 | ok e env h1=>cases e<;>rfl
theorem Ck(env:Env)(r:Dg):dF h env [r]=fR h env r:=rfl
theorem Py(n:Nat):fR h (tab N f) (.t n)=some (rd N f n):=by simp only[fR,yS]
theorem Cl(a:Nat)(n:Option Nat):fR h (tab N f) (.cell a n)=fT h n (rd N f a):=by simp only[fR,yS]
end
def pX:aA:={objs:=[],n:=0,lim:=0}
noncomputable def pO(o:Option (DV×aA)):Option DV :=
 match o with
 | some (v,h')=>match resolve false h' aW v with
  | some d=>if aO aW d then some d else none
  | none=>none
 | none=>none
noncomputable def pcF(D:bA)(df:aD)(ds:List DV):Option DV:=pO (fW (ev D) df ds pX)
def bT(h:aA):Option DV→Option (DV×aA)
 | some d=>some (d,h)
 | none=>none
theorem tH(h:aA)(d:DV):bT h (some d)=some (d,h):=rfl
noncomputable def nA(D:bA)(df:aD)(h:aA):Option (List DV)→Option (DV×aA)
 | some ds=>bT h (pcF D df ds)
 | none=>none
theorem oV(D:bA)(df:aD)(h:aA)(ds:List DV):nA D df h (some ds)=bT h (pcF D df ds):=rfl
theorem eI{D:bA}{f:Nat}{df:aD}(hh:D.hook f=none)(hf:D.fn f=some df)(hm:df.mode=.pure)(args:List DV)(h:aA) :
  fc D f args h=nA D df h (args.mapM (resolve true h aW)):=by
 rw[Mm,hh,hf]
 simp only
 unfold cS
 rw[hm]
 simp only
 cases args.mapM (resolve true h aW)with
 | none=>rfl
 | some ds =>
  simp only[nA,pcF,pO,pX,bT]
  cases fW (ev D) df ds {objs:=[],n:=0,lim:=0} with
  | none=>rfl
  | some p =>
   obtain⟨v,h'⟩:=p
   simp only
   cases resolve false h' aW v with
   | none=>rfl
   | some d =>
    simp only
    split<;>rfl
noncomputable def R8(D:bA)(df:aD):Option (List DV×aA)→Option (DV×aA)
 | some (as,h)=>nA D df h (as.mapM (resolve true h aW))
 | none=>none
theorem Sw(D:bA)(df:aD)(as:List DV)(h:aA):R8 D df (some (as,h))=nA D df h (as.mapM (resolve true h aW)):=rfl
theorem UK{D:bA}{f:Nat}{df:aD}(hh:D.hook f=none)(hf:D.fn f=some df)(hm:df.mode=.frz)(args:List DV)(h:aA) :
  fc D f args h=R8 D df (pA eO h args):=by
 rw[Mm,hh,hf]
 simp only
 unfold cS
 rw[hm]
 simp only
 cases pA eO h args with
 | none=>rfl
 | some p =>
  obtain⟨as,h1⟩:=p
  simp only[R8]
  cases as.mapM (resolve true h1 aW)with
  | none=>rfl
  | some ds =>
   simp only[nA,pcF,pO,pX,bT]
   cases fW (ev D) df ds {objs:=[],n:=0,lim:=0} with
   | none=>rfl
   | some p =>
    obtain⟨v,h'⟩:=p
    simp only
    cases resolve false h' aW v with
    | none=>rfl
    | some d =>
     simp only
     split<;>rfl
theorem Uy{D:bA}{f:Nat}{df:aD}(hh:D.hook f=none)(hf:D.fn f=some df)(hm:df.mode=.full)(args:List DV)(h:aA) :
  fc D f args h=fW (ev D) df args h:=by
 rw[Mm,hh,hf]
 simp only
 unfold cS
 rw[hm]
theorem dO{D:bA}{f:Nat}{hk:lP}(hh:D.hook f=some hk)(args:List DV)(h:aA):fc D f args h=hk h args:=by
 rw[Mm,hh]
end Go.Dm
/-
Part 1 of "De": equations by which 'simp' runs the machine's code over data that are partly unknown.
-/
namespace Go.Dm
def WF(h:aA):Prop:=h.objs.length=h.n
theorem B5:WF pX:=rfl
theorem WF.push{h:aA}{o:DO}(w:WF h):WF (h.push o):=by unfold WF at *;simp[aA.push,w]
theorem WF.set{h:aA}{id:Nat}{o:DO}(w:WF h):WF (h.set id o):=by unfold WF at *;simp[aA.set,w]
theorem WF.lim{h:aA}{l:Nat}(w:WF h):WF {h with lim:=l}:=w
theorem Ga{h:aA}{o o':DO}{id:Nat}(dG:id<h.n):(h.push o).set id o'=(h.set id o').push o:=by
 have e:h.n-id=(h.n-1-id)+1:=by omega
 simp[aA.push,aA.set]
 rw[e];rfl
theorem Ko{h:aA}{o o':DO}{id:Nat}:(h.push o).set id o'=if id<h.n then(h.set id o').push o else h.push o':=by
 split
 ·rename_i dG;exact Ga dG
 ·rename_i dG
  have e:h.n-id=0:=by omega
  simp[aA.push,aA.set]
  rw[e];rfl
theorem iO{h:aA}(w:WF h){id k:Nat}{o:DO}(dG:id<h.n):(h.set id o).get k=if k=id then some o else h.get k:=by
 unfold WF at w
 by_cases e:k=id
 ·subst e
  rw[if_pos rfl]
  simp only[aA.get,aA.set,if_pos dG]
  rw[List.getElem?_set,if_pos rfl,if_pos (by omega)]
  exact if_pos dG
 ·rw[if_neg e];exact aQ dG e
theorem cV{h:aA}{id:Nat}{o:DO}(hg:h.get id=some o):id<h.n:=bU hg
def K8(c a b:DV):Option DV:=match c with|.bool t=>some (if t then a else b)|_=>none
theorem Qo(t:Bool)(a b:DV):K8 (.bool t) a b=some (if t then a else b):=rfl
def qX:DV→Option DV
 | .ptr id sz idx off=>some (.ptr id sz idx off)
 | .iptr l cs off=>some (.iptr l cs off)
 | _=>none
theorem Co(id sz idx off:Nat):qX (.ptr id sz idx off)=some (.ptr id sz idx off):=rfl
theorem zW(l:Bool)(cs:List DV)(off:Nat):qX (.iptr l cs off)=some (.iptr l cs off):=rfl
def KB(neq:Bool):DV→DV→Option DV
 | .bool a,.bool b=>some (.bool (if neq then !(a == b)else a == b))
 | _,_=>none
theorem Yw(neq a b:Bool):KB neq (.bool a) (.bool b)=some (.bool (if neq then !(a == b)else a == b)):=rfl
def Mj(neq:Bool):Option Bool→Option DV
 | some r=>some (.bool (if neq then !r else r))
 | none=>none
theorem Sa(neq r:Bool):Mj neq (some r)=some (.bool (if neq then !r else r)):=rfl
def R6(k:IntKind):DV→Option DV|.int _ n=>some (.int k (k.wrap n))|_=>none
theorem Zg(k k':IntKind)(n:Int):R6 k (.int k' n)=some (.int k (k.wrap n)):=rfl
def Tb:DV→Option DV|.str s=>some (.str s)|_=>none
theorem Ta(s:List UInt8):Tb (.str s)=some (.str s):=rfl
def oK(off:Nat):DV→Option DV
 | .ptr id sz idx o=>some (.ptr id sz idx (o+off))
 | .iptr l cs o=>some (.iptr l cs (o+off))
 | _=>none
theorem Aw(off id sz idx o:Nat):oK off (.ptr id sz idx o)=some (.ptr id sz idx (o+off)):=rfl
theorem xX(off:Nat)(l:Bool)(cs:List DV)(o:Nat):oK off (.iptr l cs o)=some (.iptr l cs (o+off)):=rfl
def Av(off:Nat)(n:Option Nat):DV→Option DV|.agg cs=>bO n cs off|_=>none
theorem Se(off:Nat)(n:Option Nat)(cs:List DV):Av off n (.agg cs)=bO n cs off:=rfl
def bG(sz:Nat)(x i:DV):Option DV :=
 match asI i with
 | some i =>
  match x with
  | .sl id cH off len=>if sz=cH∧0≤i∧i<(len:Int)then some (.ptr id sz (off+i.toNat) 0)else none
  | .isl l cH xs=>if sz=cH∧0≤i then(match xs[i.toNat]? with|some e=>some (.iptr l (aF sz e) 0)|none=>none)else none
  | _=>none
 | none=>none
def jB(len esz:Nat)(x i:DV):Option DV :=
 match asI i with
 | some i =>
  if 0≤i∧i<(len:Int)then
   match x with
   | .ptr id sz idx o=>some (.ptr id sz idx (o+i.toNat*esz))
   | .iptr l cs o=>some (.iptr l cs (o+i.toNat*esz))
   | _=>none
  else none
 | none=>none
def Rk(len esz:Nat)(n:Option Nat)(x i:DV):Option DV :=
 match asI i,x with
 | some i,.agg cs=>if 0≤i∧i<(len:Int)then bO n cs (i.toNat*esz)else none
 | _,_=>none
def vY(x i:DV):Option DV :=
 match asI i,x with
 | some i,.str s=>if 0≤i then(match s[i.toNat]? with|some b=>some (.int .u8 b.toNat)|none=>none)else none
 | _,_=>none
def cK(o:Option DV)(dflt lim:Nat):Option Nat :=
 match o with
 | none=>some dflt
 | some x=>match asI x with
  | some n=>if 0≤n∧n≤(lim:Int)then some n.toNat else none
  | none=>none
theorem Nl(env:Env)(o:Option Opd)(d l:Nat):bound env o d l=cK (o.map (Opd.eval env)) d l:=by
 cases o<;>rfl
theorem No(d l:Nat):cK none d l=some d:=rfl
theorem oY(k:IntKind)(n:Int)(d l:Nat)(h0:0≤n)(h1:n≤(l:Int)):cK (some (.int k n)) d l=some n.toNat:=by
 simp[cK,asI,h0,h1]
def vO(x:DV)(lo hi:Option DV):Option DV :=
 match x with
 | .str s=>match cK hi s.length s.length with
  | some b=>match cK lo 0 b with
   | some a=>some (.str ((s.drop a).take (b-a)))
   | none=>none
  | none=>none
 | _=>none
def jZ(h:aA)(sz:Nat)(x:DV)(lo hi:Option DV):Option DV :=
 match x with
 | .nsl=>match cK hi 0 0 with
  | some b=>match cK lo 0 b with
   | some _=>some .nsl
   | none=>none
  | none=>none
 | .isl l cH xs=>if sz=cH∨xs=[]then match cK hi xs.length xs.length with
   | some b=>match cK lo 0 b with
    | some a=>some (.isl l sz ((xs.drop a).take (b-a)))
    | none=>none
   | none=>none
  else none
 | .sl id cH off len=>match h.get id with
  | some (.arr _ gN xs _)=>if sz=cH∧sz=gN∧off+len≤xs.length then match cK hi len (xs.length-off)with
    | some b=>match cK lo 0 b with
     | some a=>some (.sl id sz (off+a) (b-a))
     | none=>none
    | none=>none
   else none
  | _=>none
 | _=>none
def lenV(h:aA)(k:Nat):DV→Option DV
 | .str s=>if k=0 then some (.int .i64 s.length)else none
 | .nsl=>if k=1 then some (.int .i64 0)else none
 | .sl _ _ _ len=>if k=1 then some (.int .i64 len)else none
 | .isl _ _ xs=>if k=1 then some (.int .i64 xs.length)else none
 | .nmap=>if k=2 then some (.int .i64 0)else none
 | .map id=>match h.get id with|some (.mp es)=>if k=2 then some (.int .i64 es.length)else none|_=>none
 | _=>none
theorem N9(h:aA)(s:List UInt8):lenV h 0 (.str s)=some (.int .i64 s.length):=rfl
theorem O0(h:aA):lenV h 1 .nsl=some (.int .i64 0):=rfl
theorem AT(h:aA)(id sz off len:Nat):lenV h 1 (.sl id sz off len)=some (.int .i64 len):=rfl
theorem O1(h:aA)(t:Bool)(sz:Nat)(xs:List DV):lenV h 1 (.isl t sz xs)=some (.int .i64 xs.length):=rfl
def Hx(h:aA)(ety sz bytes:Nat)(s:DV):Option (List DV)→Option (DV×aA)
 | some ys=>bN h ety sz bytes s ys
 | none=>none
theorem Hw(h:aA)(ety sz bytes:Nat)(s:DV)(ys:List DV):Hx h ety sz bytes s (some ys)=bN h ety sz bytes s ys:=rfl
def R3(h:aA)(sz:Nat)(d:DV):Option (List DV)→Option (DV×aA)
 | some ys=>sJ h sz d ys
 | none=>none
theorem Sq(h:aA)(sz:Nat)(d:DV)(ys:List DV):R3 h sz d (some ys)=sJ h sz d ys:=rfl
def Gp(mx:Bool):DV→DV→Option DV
 | .int k a,.int _ b=>some (.int k (if mx then(if a<b then b else a)else(if b<a then b else a)))
 | _,_=>none
theorem Lp(mx:Bool)(k k':IntKind)(a b:Int):Gp mx (.int k a) (.int k' b)=some (.int k (if mx then(if a<b then b else a)else(if b<a then b else a))):=rfl
def uY(i:Nat):DV→Option DV|.tup vs=>vs[i]?|_=>none
theorem Hh(i:Nat)(vs:List DV):uY i (.tup vs)=vs[i]?:=rfl
def yV:Option aA→Option (DV×aA)
 | some h=>some (.tup [],h)
 | none=>none
theorem Iz(h:aA):yV (some h)=some (.tup [],h):=rfl
def KN(h:aA)(ety sz:Nat)(x:DV):Option (DV×aA):=if aL sz x then some (.ptr h.n sz 0 0,h.push (.arr ety sz [x] (some 1)))else none
theorem CH{h:aA}{ety sz:Nat}{x:DV}(hs:aL sz x=true):KN h ety sz x=some (.ptr h.n sz 0 0,h.push (.arr ety sz [x] (some 1))):=if_pos hs
def KS(h:aA):Option (List DV)→Option (DV×aA)
 | some cs=>some (.agg cs,h)
 | none=>none
theorem Zz(h:aA)(cs:List DV):KS h (some cs)=some (.agg cs,h):=rfl
def zC(h:aA)(ety sz len:Nat):Option (List DV)→Option (DV×aA)
 | some xs=>some (.sl h.n sz 0 len,h.push (.arr ety sz xs (some len)))
 | none=>none
theorem Cd(h:aA)(ety sz len:Nat)(xs:List DV):zC h ety sz len (some xs)=some (.sl h.n sz 0 len,h.push (.arr ety sz xs (some len))):=rfl
section
variable (h:aA) (env:Env)
theorem X3(x:Opd):aC h env (.move x)=some (x.eval env,h):=rfl
theorem Tt(c a b:Opd):aC h env (.pick c a b)=bT h (K8 (c.eval env) (a.eval env) (b.eval env)):=by simp only[aC];cases c.eval env<;>rfl
theorem E7(ety sz:Nat)(z:DV):aC h env (.alloc ety sz z)=some (.ptr h.n sz 0 0,h.push (.arr ety sz [z] (some 1))):=rfl
theorem HY(ety sz:Nat)(x:Opd):aC h env (.box ety sz x)=KN h ety sz (x.eval env):=rfl
theorem Ji(zero:List DV)(parts:List (Nat×Nat×Opd)):aC h env (.build zero parts)=KS h (dV zero (parts.map fun p=>(p.1,p.2.1,p.2.2.eval env))):=by
 simp only[aC];cases dV zero (parts.map fun p=>(p.1,p.2.1,p.2.2.eval env))<;>rfl
theorem rU(ety sz:Nat)(z:DV)(len:Nat)(parts:List (Nat×Opd)):aC h env (.buildSlice ety sz z len parts)=zC h ety sz len (bS sz (List.replicate len z) (parts.map fun p=>(p.1,p.2.eval env))):=by
 simp only[aC];cases bS sz (List.replicate len z) (parts.map fun p=>(p.1,p.2.eval env))<;>rfl
theorem Tu(n:Option Nat)(a:Opd):aC h env (.load n a)=bT h (fT h n (a.eval env)):=by simp only[aC];cases fT h n (a.eval env)<;>rfl
theorem Je(n:Nat)(a x:Opd):aC h env (.store n a x)=yV (eZ h n (a.eval env) (x.eval env)):=by simp only[aC];cases eZ h n (a.eval env) (x.eval env)<;>rfl
theorem wS(x:Opd):aC h env (.nilCheck x)=bT h (qX (x.eval env)):=by simp only[aC];cases x.eval env<;>rfl
theorem Jk(op:BinOp)(x y:Opd):aC h env (.arith op x y)=bT h (aY op (x.eval env) (y.eval env)):=by simp only[aC];cases aY op (x.eval env) (y.eval env)<;>rfl
theorem E4(neq:Bool)(x y:Opd):aC h env (.eqb neq x y)=bT h (KB neq (x.eval env) (y.eval env)):=by simp only[aC];cases x.eval env<;>cases y.eval env<;>rfl
theorem E5(neq:Bool)(ks:List Nat)(x y:Opd):aC h env (.eqa neq ks x y)=bT h (Mj neq (eJ (.agg ks) (x.eval env) (y.eval env))):=by simp only[aC];cases eJ (.agg ks) (x.eval env) (y.eval env)<;>rfl
theorem E3(k:Nat)(neq:Bool)(x y:Opd):aC h env (.eqn k neq x y)=bT h (Mj neq (sC k (x.eval env) (y.eval env))):=by simp only[aC];cases sC k (x.eval env) (y.eval env)<;>rfl
theorem CR(op:UnOp)(x:Opd):aC h env (.un op x)=bT h (unD op (x.eval env)):=by simp only[aC];cases unD op (x.eval env)<;>rfl
theorem Tx(k:IntKind)(x:Opd):aC h env (.conv k x)=bT h (R6 k (x.eval env)):=by simp only[aC];cases x.eval env<;>rfl
theorem Jj(x:Opd):aC h env (.asStr x)=bT h (Tb (x.eval env)):=by simp only[aC];cases x.eval env<;>rfl
theorem tZ(off:Nat)(x:Opd):aC h env (.fieldAddr off x)=bT h (oK off (x.eval env)):=by simp only[aC];cases x.eval env<;>rfl
theorem Jh(off:Nat)(n:Option Nat)(x:Opd):aC h env (.field off n x)=bT h (Av off n (x.eval env)):=by
 simp only[aC]
 cases x.eval env with
 | agg cs=>simp only[Av];cases bO n cs off<;>rfl
 | _=>rfl
theorem tY(sz:Nat)(x i:Opd):aC h env (.indexAddr sz x i)=bT h (bG sz (x.eval env) (i.eval env)):=by
 simp only[aC,bG]
 cases asI (i.eval env)with
 | none=>rfl
 | some n =>
  simp only
  cases x.eval env with
  | sl id cH off len=>simp only;split<;>rfl
  | isl l cH xs =>
   simp only
   split
   ·cases xs[n.toNat]?<;>rfl
   ·rfl
  | _=>rfl
theorem wU(len esz:Nat)(x i:Opd):aC h env (.indexArr len esz x i)=bT h (jB len esz (x.eval env) (i.eval env)):=by
 simp only[aC,jB]
 cases asI (i.eval env)with
 | none=>rfl
 | some n =>
  simp only
  split
  ·cases x.eval env<;>rfl
  ·rfl
theorem Jg(len esz:Nat)(n:Option Nat)(x i:Opd):aC h env (.index len esz n x i)=bT h (Rk len esz n (x.eval env) (i.eval env)):=by
 simp only[aC,Rk]
 cases asI (i.eval env)with
 | none=>rfl
 | some m =>
  cases x.eval env with
  | agg cs =>
   simp only
   split
   ·cases bO n cs (m.toNat*esz)<;>rfl
   ·rfl
  | _=>rfl
theorem wT(x i:Opd):aC h env (.indexStr x i)=bT h (vY (x.eval env) (i.eval env)):=by
 simp only[aC,vY]
 cases asI (i.eval env)with
 | none=>rfl
 | some m =>
  cases x.eval env with
  | str s =>
   simp only
   split
   ·cases s[m.toNat]?<;>rfl
   ·rfl
  | _=>rfl
theorem wR(x:Opd)(lo hi:Option Opd):aC h env (.sliceStr x lo hi)=bT h (vO (x.eval env) (lo.map (Opd.eval env)) (hi.map (Opd.eval env))):=by
 simp only[aC,vO,Nl]
 cases x.eval env with
 | str s =>
  simp only
  cases cK (hi.map (Opd.eval env)) s.length s.length with
  | none=>rfl
  | some b=>simp only;cases cK (lo.map (Opd.eval env)) 0 b<;>rfl
 | _=>rfl
theorem yY(sz:Nat)(x:Opd)(lo hi:Option Opd):aC h env (.sliceSl sz x lo hi)=bT h (jZ h sz (x.eval env) (lo.map (Opd.eval env)) (hi.map (Opd.eval env))):=by
 simp only[aC,jZ,Nl]
 cases x.eval env with
 | nsl =>
  simp only
  cases cK (hi.map (Opd.eval env)) 0 0 with
  | none=>rfl
  | some b=>simp only;cases cK (lo.map (Opd.eval env)) 0 b<;>rfl
 | isl l cH xs =>
  simp only
  split
  ·cases cK (hi.map (Opd.eval env)) xs.length xs.length with
   | none=>rfl
   | some b=>simp only;cases cK (lo.map (Opd.eval env)) 0 b<;>rfl
  ·rfl
 | sl id cH off len =>
  simp only
  cases h.get id with
  | none=>rfl
  | some o =>
   cases o with
   | arr e s xs c =>
    simp only
    split
    ·cases cK (hi.map (Opd.eval env)) len (xs.length-off)with
     | none=>rfl
     | some b=>simp only;cases cK (lo.map (Opd.eval env)) 0 b<;>rfl
    ·rfl
   | _=>rfl
 | _=>rfl
theorem E2(k:Nat)(x:Opd):aC h env (.len k x)=bT h (lenV h k (x.eval env)):=by
 simp only[aC,lenV]
 cases x.eval env with
 | map id =>
  simp only
  cases h.get id with
  | none=>rfl
  | some o=>cases o<;>simp only<;>first|rfl|(split<;>rfl)
 | _=>first|rfl|(simp only;split<;>rfl)
theorem Do(ety sz bytes:Nat)(s x:Opd):aC h env (.append ety sz bytes s x)=Hx h ety sz bytes (s.eval env) (elems h sz (x.eval env)):=by
 simp only[aC];cases elems h sz (x.eval env)<;>rfl
theorem Tv(sz:Nat)(d s:Opd):aC h env (.copy sz d s)=R3 h sz (d.eval env) (elems h sz (s.eval env)):=by
 simp only[aC];cases elems h sz (s.eval env)<;>rfl
theorem Dl(mx:Bool)(x y:Opd):aC h env (.minmax mx x y)=bT h (Gp mx (x.eval env) (y.eval env)):=by
 simp only[aC];cases x.eval env<;>cases y.eval env<;>rfl
theorem Jf(f:FuncId)(cap:List Opd):aC h env (.makeFunc f cap)=some (.func f (cap.map (Opd.eval env)),h):=rfl
theorem Pa:aC h env .makeMap=some (.map h.n,h.push (.mp [])):=rfl
theorem yZ(x:Opd)(i:Nat):aC h env (.extract x i)=bT h (uY i (x.eval env)):=by
 simp only[aC]
 cases x.eval env with
 | tup vs=>simp only[uY];cases vs[i]?<;>rfl
 | _=>rfl
theorem Fi(t:TypeId)(x:Opd):aC h env (.makeIface t x)=some (.iface t (x.eval env),h):=rfl
end
def qD(h:aA):DV→Option (List (DV×DV))
 | .nmap=>some []
 | .map id=>match h.get id with|some (.mp es)=>some es|_=>none
 | _=>none
def qZ(q:EqT)(z:DV)(ok:Bool)(k:DV):Option (List (DV×DV))→Option DV
 | some es=>if(eJ q k k).isSome then
   match lI q k es with
   | some (some (_,v))=>some (if ok then .tup [v,.bool true]else v)
   | some none=>some (if ok then .tup [z,.bool false]else z)
   | none=>none
  else none
 | none=>none
theorem Dn(h:aA)(env:Env)(q:EqT)(z:DV)(ok:Bool)(m k:Opd):aC h env (.lookup q z ok m k)=bT h (qZ q z ok (k.eval env) (qD h (m.eval env))):=by
 have key:∀r:Option (List (DV×DV)),(match r with
   | some es=>if(eJ q (k.eval env) (k.eval env)).isSome then
     match lI q (k.eval env) es with
     | some (some (_,v))=>some (if ok then DV.tup [v,.bool true]else v,h)
     | some none=>some (if ok then DV.tup [z,.bool false]else z,h)
     | none=>none
    else none
   | none=>none)=bT h (qZ q z ok (k.eval env) r):=by
  intro r
  cases r with
  | none=>rfl
  | some es =>
   simp only[qZ]
   split
   ·cases lI q (k.eval env) es with
    | none=>rfl
    | some x=>cases x<;>rfl
   ·rfl
 simp only[aC]
 rw[←key]
 cases m.eval env with
 | map id=>simp only[qD];cases h.get id with
  | none=>rfl
  | some o=>cases o<;>rfl
 | _=>rfl
def tO(h:aA)(q:EqT)(m k x:DV):Option aA :=
 match m with
 | .map id=>match h.get id with
  | some (.mp es) =>
   if h.lim≤id∧(eJ q k k).isSome=true then
    match lI q k es with
    | some (some (i,_))=>some (h.set id (.mp (es.set i (k,x))))
    | some none=>some (h.set id (.mp (es++[(k,x)])))
    | none=>none
   else none
  | _=>none
 | _=>none
theorem tX(h:aA)(env:Env)(q:EqT)(m k x:Opd):aC h env (.mapUpdate q m k x)=yV (tO h q (m.eval env) (k.eval env) (x.eval env)):=by
 simp only[aC,tO]
 cases m.eval env with
 | map id =>
  simp only
  cases h.get id with
  | none=>rfl
  | some o =>
   cases o with
   | mp es =>
    simp only
    split
    ·cases lI q (k.eval env) es with
     | none=>rfl
     | some y=>cases y with
      | none=>rfl
      | some p=>rfl
    ·rfl
   | _=>rfl
 | _=>rfl
section
variable (c:Nat→List DV→aA→Option (DV×aA)) (h:aA) (env:Env)
end
theorem cO{n:Int}(h1:-9223372036854775808≤n)(h2:n≤9223372036854775807):IntKind.i64.wrap n=n:=by
 exact Go.IntWalk.i64_in n ⟨h1,h2⟩
end Go.Dm
/-
Part 2 of "De": rows of data that are plain lists; rows that a call makes itself; what calls answer.
-/
namespace Go.Dm
def eL{α:Type}(t:Bool)(sz:Nat)(e:α→DV)(xs:List α):DV:=mkIsl t sz (xs.map e)
section eL
variable {α:Type} (t:Bool) (sz:Nat) (e:α→DV) (xs:List α)
theorem Bb:eL t sz e []=.isl false 0 []:=rfl
theorem oO(x:α):eL t sz e (x::xs)=.isl t sz (e x::xs.map e):=rfl
theorem DE{xs:List α}(h:xs≠[]):eL t sz e xs=.isl t sz (xs.map e):=by
 cases xs with
 | nil=>exact absurd rfl h
 | cons x xs=>rfl
theorem AU(h:aA):lenV h 1 (eL t sz e xs)=some (.int .i64 xs.length):=by cases xs<;>simp[Bb,oO,lenV]
theorem wP:aL 1 (eL t sz e xs)=true:=by cases xs<;>rfl
theorem Ek:aF 1 (eL t sz e xs)=[eL t sz e xs]:=by cases xs<;>rfl
theorem Q3(h:aA):elems h sz (eL t sz e xs)=some (xs.map e):=by cases xs<;>simp[Bb,oO,elems]
theorem Cr{xs:List α}(k:IntKind){i:Nat}{a:α}(ha:xs[i]?=some a):bG sz (eL t sz e xs) (.int k (i:Int))=some (.iptr t (aF sz (e a)) 0):=by
 have dA:xs≠[]:=by intro h0;subst h0;simp at ha
 rw[DE t sz e dA]
 simp[bG,asI,ha]
theorem Ah{xs:List α}(k:IntKind){i:Int}{a:α}(h0:0≤i)(ha:xs[i.toNat]?=some a):bG sz (eL t sz e xs) (.int k i)=some (.iptr t (aF sz (e a)) 0):=by
 obtain⟨n,rfl⟩:=Int.eq_ofNat_of_zero_le h0
 exact Cr t sz e k ha
end eL
def lL(k:Nat)(d:DV):Prop:=∀tag h n,k≤n→resolve tag h n d=some d
def Unl(k:Nat)(d:DV):Prop:=∀n,k≤n→aO n d=true
theorem lL.mono{k m:Nat}{d:DV}(h:lL k d)(hk:k≤m):lL m d:=fun t hp n hn=>h t hp n (Nat.le_trans hk hn)
theorem Unl.mono{k m:Nat}{d:DV}(h:Unl k d)(hk:k≤m):Unl m d:=fun n hn=>h n (Nat.le_trans hk hn)
theorem bR{k n:Nat}(h:k+1≤n):∃ m,n=m+1∧k≤m:=⟨n-1,by omega,by omega⟩
theorem gV(k:IntKind)(n:Int):lL 1 (.int k n):=fun t h m hm=>by obtain⟨q,rfl,_⟩:=bR hm;rfl
theorem Ei(b:Bool):lL 1 (.bool b):=fun t h m hm=>by obtain⟨q,rfl,_⟩:=bR hm;rfl
theorem P5(s:List UInt8):lL 1 (.str s):=fun t h m hm=>by obtain⟨q,rfl,_⟩:=bR hm;rfl
theorem kL{α:Type}(t:Bool)(sz:Nat)(e:α→DV)(xs:List α):lL 1 (eL t sz e xs):=fun tg h m hm=>by
 obtain⟨q,rfl,_⟩:=bR hm
 cases xs<;>rfl
theorem qY{f:DV→Option DV}:∀{cs:List DV},(∀x∈cs,f x=some x)→cs.mapM f=some cs:=by
 intro cs
 induction cs with
 | nil=>intro _;rfl
 | cons x r ih =>
  intro h
  rw[List.mapM_cons,h x (List.mem_cons_self ..),ih (fun y hy=>h y (List.mem_cons_of_mem _ hy))];rfl
theorem Ar{k:Nat}{cs:List DV}(h:∀x∈cs,lL k x):lL (k+1) (.agg cs):=fun t hp m hm=>by
 obtain⟨q,rfl,hq⟩:=bR hm
 have:cs.mapM (resolve t hp q)=some cs:=qY fun x hx=>h x hx t hp q hq
 simp only[resolve,this]
theorem qP(k:IntKind)(n:Int):Unl 1 (.int k n):=fun m hm=>by obtain⟨q,rfl,_⟩:=bR hm;rfl
theorem C0(b:Bool):Unl 1 (.bool b):=fun m hm=>by obtain⟨q,rfl,_⟩:=bR hm;rfl
theorem V4(s:List UInt8):Unl 1 (.str s):=fun m hm=>by obtain⟨q,rfl,_⟩:=bR hm;rfl
theorem Tk{k:Nat}{cs:List DV}(h:∀x∈cs,Unl k x):Unl (k+1) (.agg cs):=fun m hm=>by
 obtain⟨q,rfl,hq⟩:=bR hm
 simp only[aO,List.all_eq_true]
 exact fun x hx=>h x hx q hq
theorem nM{α:Type}{k sz:Nat}{e:α→DV}{xs:List α}(h:∀x∈xs,Unl k (e x)):Unl (k+1) (eL false sz e xs):=fun m hm=>by
 obtain⟨q,rfl,hq⟩:=bR hm
 cases xs with
 | nil=>rfl
 | cons x r =>
  simp only[oO,aO,Bool.not_false,Bool.true_and,List.all_eq_true]
  intro y hy
  rw[←List.map_cons (f:=e)]at hy
  obtain⟨z,hz,rfl⟩:=List.mem_map.1 hy
  exact h z hz q hq
class Plain {α:Type} (e:α→DV):Prop where
 flat:∀x,lL 20 (e x)
 unl:∀x,Unl 20 (e x)
inductive Own(lo:Nat)(h:aA)(v:DV)(ety sz:Nat)(xs:List DV):Prop where
 | nil (hv:v=.nsl) (hx:xs=[])
 | arr (id:Nat) (hv:v=.sl id sz 0 xs.length) (hg:h.get id=some (.arr ety sz xs none)) (dC:h.lim≤id) (gQ:lo≤id)
structure Ext(lo:Nat)(h h':aA):Prop where
 le:lo≤h'.n
 lim:h'.lim=h.lim
 get:∀id,id<lo→h'.get id=h.get id
 wf:WF h'
theorem Ext.refl{lo:Nat}{h:aA}(bJ:lo≤h.n)(w:WF h):Ext lo h h:=⟨bJ,rfl,fun _ _=>rfl,w⟩
theorem Ext.trans{lo:Nat}{a b c:aA}(x:Ext lo a b)(y:Ext lo b c):Ext lo a c:=⟨y.le,y.lim.trans x.lim,fun id dG=>(y.get id dG).trans (x.get id dG),y.wf⟩
theorem Ext.push{lo:Nat}{h h':aA}{o:DO}(x:Ext lo h h'):Ext lo h (h'.push o) :=
 ⟨Nat.le_succ_of_le x.le,x.lim,fun id dG=>by rw[bQ,if_neg (by have:=x.le;omega)];exact x.get id dG,x.wf.push⟩
theorem Ext.set{lo:Nat}{h h':aA}{id:Nat}{o:DO}(x:Ext lo h h')(dG:lo≤id)(bB:id<h'.n):Ext lo h (h'.set id o) :=
 ⟨x.le,x.lim,fun k hk=>by rw[iO x.wf bB,if_neg (by omega)];exact x.get k hk,x.wf.set⟩
theorem Own.push{lo:Nat}{h:aA}{o:DO}{v:DV}{ety sz:Nat}{xs:List DV}(w:Own lo h v ety sz xs):Own lo (h.push o) v ety sz xs:=by
 cases w with
 | nil hv hx=>exact .nil hv hx
 | arr id hv hg dC gQ =>
  refine .arr id hv ?_ dC gQ
  rw[bQ,if_neg (by have:=cV hg;omega)];exact hg
theorem Own.start(lo:Nat)(h:aA)(ety sz:Nat):Own lo h .nsl ety sz []:=.nil rfl rfl
theorem Own.append{lo:Nat}{h:aA}{v:DV}{ety sz bytes:Nat}{xs ys:List DV}{A:Option (DV×aA)}(w:Own lo h v ety sz xs)(wf:WF h)(gQ:lo≤h.n)(dC:h.lim≤h.n)(hA:bN h ety sz bytes v ys=A)
  (hb:(xs.length+ys.length)*bytes≤140737488355328) (Bw:1≤bytes):∃ v' h',A=some (v',h')∧Own lo h' v' ety sz (xs++ys)∧Ext lo h h':=by
 have hm:xs.length+ys.length≤140737488355328:=Nat.le_trans (Nat.le_mul_of_pos_right _ Bw) hb
 by_cases hy:ys=[]
 ·subst hy
  refine⟨v,h,?_,by simpa using w,.refl gQ wf⟩
  rw[←hA]
  cases w with
  | nil hv hx=>subst hv;rfl
  | arr id hv hg _ _=>subst hv;rfl
 ·have Ly:ys.isEmpty=false:=by cases ys<;>simp_all
  have hyl:0<ys.length:=List.length_pos_iff.2 hy
  cases w with
  | nil hv hx =>
   subst hv;subst hx
   simp only[List.length_nil,Nat.zero_add]at hb hm
   refine⟨.sl h.n sz 0 ys.length,h.push (.arr ety sz ys none),?_,.arr h.n rfl eH (by exact dC) gQ,(Ext.refl gQ wf).push⟩
   rw[←hA]
   simp only[bN,Ly]
   rw[if_neg (by simp),if_pos ⟨hb,by omega⟩]
  | arr id hv hg hl hi =>
   subst hv
   have bB:=cV hg
   have e2:(h.set id DO.dead).n=h.n:=rfl
   refine⟨.sl h.n sz 0 (xs.length+ys.length),(h.set id .dead).push (.arr ety sz (xs++ys) none),?_,.arr h.n (by simp) ?_ (by exact dC) gQ,(((Ext.refl gQ wf).set hi bB).push)⟩
   ·rw[←hA]
    simp only[bN,Ly,hg]
    simp only[Bool.false_eq_true,if_false,true_and,Nat.zero_add,Nat.le_refl]
    rw[if_pos ⟨hb,by omega⟩,if_neg (by omega),if_pos hl]
    simp
   ·exact eH
end Go.Dm
/-
Part 3 of "De": what own rows show; what a pure call hands back; the program's data by plain structures.
-/
namespace Go.Dm
section Own
variable {lo:Nat} {h:aA} {v:DV} {ety sz:Nat} {xs:List DV}
theorem Own.lenV(w:Own lo h v ety sz xs):lenV h 1 v=some (.int .i64 xs.length):=by
 cases w with
 | nil hv hx=>subst hv;subst hx;rfl
 | arr id hv hg hl hi=>subst hv;rfl
theorem Own.elems(w:Own lo h v ety sz xs):elems h sz v=some xs:=by
 cases w with
 | nil hv hx=>subst hv;subst hx;rfl
 | arr id hv hg hl hi=>subst hv;simp[Dm.elems,hg]
theorem Own.ext{lo:Nat}{h h':aA}(w:Own lo h v ety sz xs)(x:Ext h.n h h'):Own lo h' v ety sz xs:=by
 cases w with
 | nil hv hx=>exact .nil hv hx
 | arr id hv hg hl hi=>exact .arr id hv ((x.get id (cV hg)).trans hg) (by rw[x.lim];exact hl) hi
theorem Own.resolve{α:Type}{e:α→DV}{ys:List α}{k n:Nat}(tag:Bool)(w:Own lo h v ety sz (ys.map e))(hf:∀y∈ys,lL k (e y))(hn:k+1≤n):resolve tag h n v=some (eL tag sz e ys):=by
 obtain⟨m,rfl,hm⟩:=bR hn
 cases w with
 | nil hv hx =>
  subst hv
  cases ys with
  | nil=>rfl
  | cons y r=>simp at hx
 | arr id hv hg hl hi =>
  subst hv
  have sF:(ys.map e).mapM (Dm.resolve tag h m)=some (ys.map e):=qY fun x hx=>by
   obtain⟨y,hy,rfl⟩:=List.mem_map.1 hx
   exact hf y hy tag h m hm
  simp only[Dm.resolve,hg,true_and,Nat.zero_add,Nat.le_refl,if_true,List.drop_zero,List.take_length,sF]
  rfl
end Own
theorem Kz{v d:DV}{h:aA}{k:Nat}(hr:resolve false h aW v=some d)(hu:Unl k d)(hk:k≤200):pO (some (v,h))=some d:=by
 simp only[pO,hr,hu aW hk,if_true]
theorem Own.out{lo:Nat}{h:aA}{v:DV}{ety sz:Nat}{α:Type}{e:α→DV}{ys:List α}{k:Nat}(w:Own lo h v ety sz (ys.map e))(hf:∀y∈ys,lL k (e y))(hu:∀y∈ys,Unl k (e y))(hk:k≤198) :
  pO (some (v,h))=some (eL false sz e ys) :=
 Kz (k:=k+1) (w.resolve false hf (by show k+1≤200;omega)) (nM hu) (by omega)
theorem Ml{D:bA}{f:Nat}{df:aD}(hh:D.hook f=none)(hf:D.fn f=some df)(args:List DV)(h:aA):fc D f args h=cS (ev D) df args h:=by
 rw[Mm,hh,hf]
theorem Zd{α:Type}{xs:List α}{i:Nat}{a:α}{r:List α}(h:xs.drop i=a::r):i<xs.length∧xs[i]?=some a∧xs.drop (i+1)=r:=by
 have h1:i<xs.length:=by
  by_cases bB:i<xs.length
  ·exact bB
  ·rw[List.drop_eq_nil_of_le (by omega)]at h;cases h
 rw[List.drop_eq_getElem_cons h1]at h
 injection h with h2 h3
 exact⟨h1,by rw[List.getElem?_eq_getElem h1,h2],h3⟩
theorem CC{α:Type}{xs:List α}{i:Nat}{a:α}{r:List α}(h:xs.drop i=a::r):∃ hi:i<xs.length,xs[i]=a∧xs.drop (i+1)=r:=by
 obtain⟨h1,h2,h3⟩:=Zd h
 exact⟨h1,by rw[List.getElem?_eq_getElem h1]at h2;injection h2,h3⟩
theorem Q5{α:Type}{xs:List α}{i:Nat}(h:xs.drop i=[]):xs.length≤i:=List.drop_eq_nil_iff.1 h
structure ID where
 dK:Int
 seq:Int
 deriving DecidableEq,Inhabited
structure Val where
 isText:Bool
 n:Int
 text:List UInt8
 deriving DecidableEq,Inhabited
structure Att where
 name:List UInt8
 val:Val
 deriving DecidableEq,Inhabited
structure Tj where
 name:List UInt8
 kind:Int
 lo:Int
 hi:Int
 text:List UInt8
 deriving DecidableEq,Inhabited
abbrev eW:=List Tj
structure mN where
 id:ID
 pred:eW
 eB:Int
 deriving DecidableEq,Inhabited
structure bC where
 tree:ID
 sub:ID
 pred:eW
 Ef:Int
 up:Bool
 deriving DecidableEq,Inhabited
structure A5 where
 id:ID
 pred:eW
 deriving DecidableEq,Inhabited
structure aM where
 me:Int
 dN:List Int
 bI:List mN
 seen:List ID
 entries:List bC
 kJ:List A5
 deriving DecidableEq,Inhabited
structure Msg where
 kind:Int
 tree:ID
 id:ID
 pred:eW
 DH:List Att
 deriving DecidableEq,Inhabited
structure Out where
 to:Int
 m:Msg
 deriving DecidableEq,Inhabited
def iT(n:Int):DV:=.int .i64 n
def SM(a:Att):DV:=.agg [.str a.name,.bool a.val.isText,.int .i64 a.val.n,.str a.val.text]
def Q4(c:Tj):DV:=.agg [.str c.name,.int .i64 c.kind,.int .i64 c.lo,.int .i64 c.hi,.str c.text]
def iF(p:eW):DV:=eL false 5 Q4 p
def eID(x:ID):DV:=.agg [.int .i64 x.dK,.int .i64 x.seq]
def oP(a:mN):DV:=.agg [.int .i64 a.id.dK,.int .i64 a.id.seq,iF a.pred,.int .i64 a.eB]
def tA(e:bC):DV:=.agg [.int .i64 e.tree.dK,.int .i64 e.tree.seq,.int .i64 e.sub.dK,.int .i64 e.sub.seq,iF e.pred,.int .i64 e.Ef,.bool e.up]
def Sn(o:A5):DV:=.agg [.int .i64 o.id.dK,.int .i64 o.id.seq,iF o.pred]
structure jW where
 dN:Bool
 bI:Bool
 seen:Bool
 entries:Bool
 kJ:Bool
def jW.none:jW:=⟨false,false,false,false,false⟩
def hI(t:jW)(b:aM):DV:=.agg [.int .i64 b.me,eL t.dN 1 iT b.dN,eL t.bI 4 oP b.bI,eL t.seen 2 eID b.seen,eL t.entries 7 tA b.entries,eL t.kJ 3 Sn b.kJ]
def KF(m:Msg):DV:=.agg [.int .i64 m.kind,.int .i64 m.tree.dK,.int .i64 m.tree.seq,.int .i64 m.id.dK,.int .i64 m.id.seq,iF m.pred,eL false 4 SM m.DH]
def CB(o:Out):DV:=.agg [.int .i64 o.to,.int .i64 o.m.kind,.int .i64 o.m.tree.dK,.int .i64 o.m.tree.seq,.int .i64 o.m.id.dK,.int .i64 o.m.id.seq,iF o.m.pred,eL false 4 SM o.m.DH]
theorem Ql:Plain Q4:=⟨fun c=>(Ar (k:=1) (by
  intro x hx;simp only[List.mem_cons,List.not_mem_nil,or_false]at hx
  rcases hx with rfl|rfl|rfl|rfl|rfl<;>first|exact gV _ _|exact P5 _)).mono (by decide),fun c=>(Tk (k:=1) (by
  intro x hx;simp only[List.mem_cons,List.not_mem_nil,or_false]at hx
  rcases hx with rfl|rfl|rfl|rfl|rfl<;>first|exact qP _ _|exact V4 _)).mono (by decide)⟩
theorem tP(p:eW):Unl 21 (iF p):=nM fun x _=>Ql.unl x
theorem wD(p:eW):lL 1 (iF p):=kL false 5 Q4 p
end Go.Dm
/-
Part 4 of "De": the words by which 'simp' walks.
-/
namespace Go.Dm
theorem La(D:bA)(g:Opd)(args:List Opd)(env:Env)(h:aA):aP (fc D) (.call g args) env h=Vd D (args.map (Opd.eval env)) h (g.eval env):=Qq D h g args env
section
variable (c:Nat→List DV→aA→Option (DV×aA)) (h:aA) (env:Env)
theorem AF(x:Opd):aP c (.move x) env h=some (x.eval env,h):=rfl
theorem AE(x a b:Opd):aP c (.pick x a b) env h=bT h (K8 (x.eval env) (a.eval env) (b.eval env)):=Tt ..
theorem L8(ety sz:Nat)(z:DV):aP c (.alloc ety sz z) env h=some (.ptr h.n sz 0 0,h.push (.arr ety sz [z] (some 1))):=rfl
theorem IS(ety sz:Nat)(x:Opd):aP c (.box ety sz x) env h=KN h ety sz (x.eval env):=rfl
theorem L5(zero:List DV)(parts:List (Nat×Nat×Opd)):aP c (.build zero parts) env h=KS h (dV zero (parts.map fun p=>(p.1,p.2.1,p.2.2.eval env))):=Ji ..
theorem Cn(ety sz:Nat)(z:DV)(len:Nat)(parts:List (Nat×Opd)):aP c (.buildSlice ety sz z len parts) env h=zC h ety sz len (bS sz (List.replicate len z) (parts.map fun p=>(p.1,p.2.eval env))):=rU ..
theorem AG(n:Option Nat)(a:Opd):aP c (.load n a) env h=bT h (fT h n (a.eval env)):=Tu ..
theorem K9(n:Nat)(a x:Opd):aP c (.store n a x) env h=yV (eZ h n (a.eval env) (x.eval env)):=Je ..
theorem Lc(x:Opd):aP c (.nilCheck x) env h=bT h (qX (x.eval env)):=wS ..
theorem L7(op:BinOp)(x y:Opd):aP c (.arith op x y) env h=bT h (aY op (x.eval env) (y.eval env)):=Jk ..
theorem IP(neq:Bool)(x y:Opd):aP c (.eqb neq x y) env h=bT h (KB neq (x.eval env) (y.eval env)):=E4 ..
theorem IQ(neq:Bool)(ks:List Nat)(x y:Opd):aP c (.eqa neq ks x y) env h=bT h (Mj neq (eJ (.agg ks) (x.eval env) (y.eval env))):=E5 ..
theorem IN(k:Nat)(neq:Bool)(x y:Opd):aP c (.eqn k neq x y) env h=bT h (Mj neq (sC k (x.eval env) (y.eval env))):=E3 ..
theorem RV(op:UnOp)(x:Opd):aP c (.un op x) env h=bT h (unD op (x.eval env)):=CR ..
theorem AI(k:IntKind)(x:Opd):aP c (.conv k x) env h=bT h (R6 k (x.eval env)):=Tx ..
theorem L6(x:Opd):aP c (.asStr x) env h=bT h (Tb (x.eval env)):=Jj ..
theorem Gi(off:Nat)(x:Opd):aP c (.fieldAddr off x) env h=bT h (oK off (x.eval env)):=tZ ..
theorem L4(off:Nat)(n:Option Nat)(x:Opd):aP c (.field off n x) env h=bT h (Av off n (x.eval env)):=Jh ..
theorem Gh(sz:Nat)(x i:Opd):aP c (.indexAddr sz x i) env h=bT h (bG sz (x.eval env) (i.eval env)):=tY ..
theorem Lf(len esz:Nat)(x i:Opd):aP c (.indexArr len esz x i) env h=bT h (jB len esz (x.eval env) (i.eval env)):=wU ..
theorem L3(len esz:Nat)(n:Option Nat)(x i:Opd):aP c (.index len esz n x i) env h=bT h (Rk len esz n (x.eval env) (i.eval env)):=Jg ..
theorem Le(x i:Opd):aP c (.indexStr x i) env h=bT h (vY (x.eval env) (i.eval env)):=wT ..
theorem Lb(x:Opd)(lo hi:Option Opd):aP c (.sliceStr x lo hi) env h=bT h (vO (x.eval env) (lo.map (Opd.eval env)) (hi.map (Opd.eval env))):=wR ..
theorem Qr(sz:Nat)(x:Opd)(lo hi:Option Opd):aP c (.sliceSl sz x lo hi) env h=bT h (jZ h sz (x.eval env) (lo.map (Opd.eval env)) (hi.map (Opd.eval env))):=yY ..
theorem IM(k:Nat)(x:Opd):aP c (.len k x) env h=bT h (lenV h k (x.eval env)):=E2 ..
theorem Xm(ety sz bytes:Nat)(s x:Opd):aP c (.append ety sz bytes s x) env h=Hx h ety sz bytes (s.eval env) (elems h sz (x.eval env)):=Do ..
theorem AH(sz:Nat)(d s:Opd):aP c (.copy sz d s) env h=R3 h sz (d.eval env) (elems h sz (s.eval env)):=Tv ..
theorem Xk(mx:Bool)(x y:Opd):aP c (.minmax mx x y) env h=bT h (Gp mx (x.eval env) (y.eval env)):=Dl ..
theorem Ld(f:FuncId)(cap:List Opd):aP c (.makeFunc f cap) env h=some (.func f (cap.map (Opd.eval env)),h):=rfl
theorem Qs:aP c .makeMap env h=some (.map h.n,h.push (.mp [])):=rfl
theorem Qt(x:Opd)(i:Nat):aP c (.extract x i) env h=bT h (uY i (x.eval env)):=yZ ..
theorem Gg(t:TypeId)(x:Opd):aP c (.makeIface t x) env h=some (.iface t (x.eval env),h):=rfl
theorem Xl(q:EqT)(z:DV)(ok:Bool)(m k:Opd):aP c (.lookup q z ok m k) env h=bT h (qZ q z ok (k.eval env) (qD h (m.eval env))):=Dn ..
theorem Gf(q:EqT)(m k x:Opd):aP c (.mapUpdate q m k x) env h=yV (tO h q (m.eval env) (k.eval env) (x.eval env)):=tX ..
end
theorem V2(f:eX)(d i:Nat)(v:DV):upd f d v i=if i=d then v else f i:=rfl
theorem S7(args:List DV)(i:Nat):S8 args i=args.getD i aR:=rfl
theorem Xa(f:eX)(d:Nat)(v:DV):mR f (some d) v=upd f d v:=rfl
theorem Xb(f:eX)(v:DV):mR f none v=f:=rfl
theorem RP(N:Nat)(f:eX)(i:Nat):rd N f i=if i<N then f i else .unk:=rfl
theorem Rd(h:aA)(n:Option Nat)(l:Bool)(cs:List DV)(off:Nat):fT h n (.iptr l cs off)=bO n cs off:=rfl
theorem RT(cs:List DV)(off:Nat):bO none cs off=cs[off]?:=rfl
theorem RS(n:Nat)(cs:List DV)(off:Nat):bO (some n) cs off=if off+n≤cs.length then some (.agg ((cs.drop off).take n))else none:=rfl
theorem Fg(n:Nat)(cs:List DV):aL n (.agg cs)=(cs.length == n):=rfl
theorem Ff(n:Nat)(k:IntKind)(m:Int):aL n (.int k m)=(n == 1):=rfl
theorem Cb(n:Nat)(b:Bool):aL n (.bool b)=(n == 1):=rfl
theorem Fa(n:Nat)(s:List UInt8):aL n (.str s)=(n == 1):=rfl
theorem Fb(n a b c d:Nat):aL n (.ptr a b c d)=(n == 1):=rfl
theorem Jc(n a b c d:Nat):aL n (.sl a b c d)=(n == 1):=rfl
theorem Fc(n:Nat):aL n .nsl=(n == 1):=rfl
theorem Fe(n:Nat)(t:Bool)(s:Nat)(xs:List DV):aL n (.isl t s xs)=(n == 1):=rfl
theorem Ca(n:Nat)(f:Nat)(cs:List DV):aL n (.func f cs)=(n == 1):=rfl
theorem Fd(n:Nat)(i:Nat):aL n (.map i)=(n == 1):=rfl
theorem yW(n:Nat)(t:Nat)(d:DV):aL n (.iface t d)=(n == 1):=rfl
theorem Bz(n:Nat):aL n .nili=(n == 1):=rfl
theorem By(n:Nat):aL n .nilp=(n == 1):=rfl
theorem Bx(p:eW):aL 1 (iF p)=true:=wP ..
theorem C9(sz n:Nat)(e x:DV)(h:n=sz):turn sz 0 n e x=x:=by simp[turn,h]
theorem Ns(a b:Int):aY .add (.int .i64 a) (.int .i64 b)=some (.int .i64 (IntKind.i64.wrap (a+b))):=by simp[aY]
theorem Nq(a b:Int):aY .sub (.int .i64 a) (.int .i64 b)=some (.int .i64 (IntKind.i64.wrap (a-b))):=by simp[aY]
theorem Nr(a b:Int):aY .mul (.int .i64 a) (.int .i64 b)=some (.int .i64 (IntKind.i64.wrap (a*b))):=by simp[aY]
theorem Zw(k:IntKind)(a b:Int):aY .eql (.int k a) (.int k b)=some (.bool (a == b)):=by simp[aY]
theorem Zr(k:IntKind)(a b:Int):aY .neq (.int k a) (.int k b)=some (.bool (a != b)):=by simp[aY]
theorem Zs(k:IntKind)(a b:Int):aY .lss (.int k a) (.int k b)=some (.bool (decide (a<b))):=by simp[aY]
theorem Zt(k:IntKind)(a b:Int):aY .leq (.int k a) (.int k b)=some (.bool (decide (a≤b))):=by simp[aY]
theorem Zu(k:IntKind)(a b:Int):aY .gtr (.int k a) (.int k b)=some (.bool (decide (b<a))):=by simp[aY]
theorem Zv(k:IntKind)(a b:Int):aY .geq (.int k a) (.int k b)=some (.bool (decide (b≤a))):=by simp[aY]
theorem Zq(a b:List UInt8):aY .eql (.str a) (.str b)=some (.bool (a == b)):=rfl
theorem Zl(a b:List UInt8):aY .neq (.str a) (.str b)=some (.bool (!(a == b))):=rfl
theorem Zm(a b:List UInt8):aY .lss (.str a) (.str b)=some (.bool (Go.Op.bytesLess a b)):=rfl
theorem Zn(a b:List UInt8):aY .leq (.str a) (.str b)=some (.bool (Go.Op.bytesLess a b || a == b)):=rfl
theorem Zo(a b:List UInt8):aY .gtr (.str a) (.str b)=some (.bool (!(Go.Op.bytesLess a b || a == b))):=rfl
theorem Zp(a b:List UInt8):aY .geq (.str a) (.str b)=some (.bool (!Go.Op.bytesLess a b)):=rfl
theorem DM(b:Bool):unD .not (.bool b)=some (.bool (!b)):=rfl
theorem DN(k:IntKind)(n:Int):unD .neg (.int k n)=some (.int k (k.wrap (0-n))):=rfl
theorem Q1(ks:List Nat)(xs ys:List DV):eJ (.agg ks) (.agg xs) (.agg ys)=aZ ks xs ys:=rfl
theorem Yx(k:Nat)(x y:DV):eJ (.prim k) x y=dY k x y:=rfl
theorem Ni:aZ [] [] []=some true:=rfl
theorem Nj(ks:List Nat)(a b:Int)(k:IntKind)(xs ys:List DV):aZ (1::ks) (.int k a::xs) (.int k b::ys)=(aZ ks xs ys).map ((a == b) && ·):=by
 simp only[aZ,dY,and_self,if_true];cases aZ ks xs ys<;>rfl
theorem Nh(ks:List Nat)(a b:List UInt8)(xs ys:List DV):aZ (2::ks) (.str a::xs) (.str b::ys)=(aZ ks xs ys).map ((a == b) && ·):=by
 simp only[aZ,dY,if_true];cases aZ ks xs ys<;>rfl
theorem Hr(ks:List Nat)(a b:Bool)(xs ys:List DV):aZ (0::ks) (.bool a::xs) (.bool b::ys)=(aZ ks xs ys).map ((a == b) && ·):=by
 simp only[aZ,dY,if_true];cases aZ ks xs ys<;>rfl
theorem Qj(k:IntKind)(a b:Int):dY 1 (.int k a) (.int k b)=some (a == b):=by simp[dY]
theorem Qi(a b:List UInt8):dY 2 (.str a) (.str b)=some (a == b):=by simp[dY]
theorem Kq(a b:Bool):dY 0 (.bool a) (.bool b)=some (a == b):=by simp[dY]
theorem P7(cs:List DV):dV cs []=some cs:=rfl
theorem Yq(cs:List DV)(off n:Nat)(v:DV)(r:List (Nat×Nat×DV))(hs:aL n v=true)(ho:off+n≤cs.length):dV cs ((off,n,v)::r)=dV (cs.take off++aF n v++cs.drop (off+n)) r:=by
 simp[dV,hs,ho]
theorem Yr(sz:Nat)(xs:List DV):bS sz xs []=some xs:=rfl
theorem Sd(sz:Nat)(xs:List DV)(i:Nat)(v:DV)(r:List (Nat×DV))(hs:aL sz v=true)(hi:i<xs.length):bS sz xs ((i,v)::r)=bS sz (xs.set i v) r:=by
 simp[bS,hs,hi]
theorem My(sz:Nat)(cs:List DV):aF sz (.agg cs)=cs:=rfl
theorem Sm(sz:Nat)(k:IntKind)(n:Int):aF sz (.int k n)=[.int k n]:=rfl
theorem Mx(sz:Nat)(n:Bool):aF sz (.bool n)=[.bool n]:=rfl
theorem Sh(sz:Nat)(n:List UInt8):aF sz (.str n)=[.str n]:=rfl
theorem Sj(sz:Nat):aF sz .nsl=[.nsl]:=rfl
theorem Zb(sz a b c d:Nat):aF sz (.sl a b c d)=[.sl a b c d]:=rfl
theorem Si(sz a b c d:Nat):aF sz (.ptr a b c d)=[.ptr a b c d]:=rfl
theorem Sl(sz:Nat)(t:Bool)(s:Nat)(xs:List DV):aF sz (.isl t s xs)=[.isl t s xs]:=rfl
theorem Mw(sz:Nat)(f:Nat)(cs:List DV):aF sz (.func f cs)=[.func f cs]:=rfl
theorem Sk(sz:Nat)(i:Nat):aF sz (.map i)=[.map i]:=rfl
theorem Hk(sz t:Nat)(d:DV):aF sz (.iface t d)=[.iface t d]:=rfl
theorem Mv(sz:Nat):aF sz .nili=[.nili]:=rfl
theorem Mu(sz:Nat):aF sz .nilp=[.nilp]:=rfl
theorem Ms(p:eW):aF 1 (iF p)=[iF p]:=Ek ..
theorem Yz(h:aA)(sz:Nat):elems h sz .nsl=some []:=rfl
def N8(n:Option Nat)(sz off:Nat):Option DV→Option DV|some e=>bO n (aF sz e) off|none=>none
theorem Rf(n:Option Nat)(sz off:Nat)(e:DV):N8 n sz off (some e)=bO n (aF sz e) off:=rfl
def N7(n:Option Nat)(sz idx off:Nat):Option DO→Option DV
 | some (.arr _ cH xs _)=>if sz=cH then N8 n sz off xs[idx]? else none
 | _=>none
theorem Re(n:Option Nat)(sz idx off ety cH:Nat)(xs:List DV)(cap:Option Nat):N7 n sz idx off (some (.arr ety cH xs cap))=if sz=cH then N8 n sz off xs[idx]? else none:=rfl
theorem N6(h:aA)(n:Option Nat)(id sz idx off:Nat):fT h n (.ptr id sz idx off)=N7 n sz idx off (h.get id):=by
 simp only[fT,N7]
 cases h.get id with
 | none=>rfl
 | some o=>cases o with
  | arr e s xs c =>
   simp only
   split
   ·cases xs[idx]?<;>rfl
   ·rfl
  | _=>rfl
def Oy(h:aA)(n id sz idx off ety:Nat)(xs:List DV)(cap:Option Nat)(x:DV):Option DV→Option aA
 | some e=>if(aF sz e).length=sz then some (h.set id (.arr ety sz (xs.set idx (turn sz off n e x)) cap))else none
 | none=>none
theorem Jb(h:aA)(n id sz idx off ety:Nat)(xs:List DV)(cap:Option Nat)(x e:DV):Oy h n id sz idx off ety xs cap x (some e)=if(aF sz e).length=sz then some (h.set id (.arr ety sz (xs.set idx (turn sz off n e x)) cap))else none:=rfl
def Ox(h:aA)(n id sz idx off:Nat)(x:DV):Option DO→Option aA
 | some (.arr ety cH xs cap)=>if sz=cH∧h.lim≤id∧aL n x=true∧off+n≤sz then Oy h n id sz idx off ety xs cap x xs[idx]? else none
 | _=>none
theorem Ja(h:aA)(n id sz idx off:Nat)(x:DV)(ety cH:Nat)(xs:List DV)(cap:Option Nat):Ox h n id sz idx off x (some (.arr ety cH xs cap))=if sz=cH∧h.lim≤id∧aL n x=true∧off+n≤sz then Oy h n id sz idx off ety xs cap x xs[idx]? else none:=rfl
theorem Vy(h:aA)(n id sz idx off:Nat)(x:DV):eZ h n (.ptr id sz idx off) x=Ox h n id sz idx off x (h.get id):=by
 simp only[eZ,Ox]
 cases h.get id with
 | none=>rfl
 | some o=>cases o with
  | arr e s xs c =>
   simp only
   split
   ·cases xs[idx]?<;>rfl
   ·rfl
  | _=>rfl
def Sg(sz cH off len:Nat):Option DO→Option (List DV)
 | some (.arr _ gN xs _)=>if sz=cH∧sz=gN∧off+len≤xs.length then some ((xs.drop off).take len)else none
 | _=>none
theorem Mq(sz cH off len ety gN:Nat)(xs:List DV)(cap:Option Nat):Sg sz cH off len (some (.arr ety gN xs cap))=if sz=cH∧sz=gN∧off+len≤xs.length then some ((xs.drop off).take len)else none:=rfl
theorem Q2(h:aA)(sz id cH off len:Nat):elems h sz (.sl id cH off len)=Sg sz cH off len (h.get id):=by
 simp only[elems,Sg]
 cases h.get id with
 | none=>rfl
 | some o=>cases o<;>rfl
def vN(sz id off:Nat)(lo:Option DV):Option Nat→Option DV
 | some b=>match cK lo 0 b with
  | some a=>some (.sl id sz (off+a) (b-a))
  | none=>none
 | none=>none
def Pd(sz cH id off len:Nat)(lo hi:Option DV):Option DO→Option DV
 | some (.arr _ gN xs _)=>if sz=cH∧sz=gN∧off+len≤xs.length then vN sz id off lo (cK hi len (xs.length-off))else none
 | _=>none
theorem Jq(sz cH id off len:Nat)(lo hi:Option DV)(ety gN:Nat)(xs:List DV)(cap:Option Nat):Pd sz cH id off len lo hi (some (.arr ety gN xs cap))=if sz=cH∧sz=gN∧off+len≤xs.length then vN sz id off lo (cK hi len (xs.length-off))else none:=rfl
theorem Wb(h:aA)(sz id cH off len:Nat)(lo hi:Option DV):jZ h sz (.sl id cH off len) lo hi=Pd sz cH id off len lo hi (h.get id):=by
 simp only[jZ,Pd]
 cases h.get id with
 | none=>rfl
 | some o=>cases o with
  | arr e s xs c =>
   simp only
   split
   ·cases cK hi len (xs.length-off)with
    | none=>rfl
    | some b=>first|(simp only[vN];done)|(simp only[vN];cases cK lo 0 b<;>rfl)
   ·rfl
  | _=>rfl
def HZ(sz id off b:Nat):Option Nat→Option DV
 | some a=>some (.sl id sz (off+a) (b-a))
 | none=>none
theorem Wc(sz id off b a:Nat):HZ sz id off b (some a)=some (.sl id sz (off+a) (b-a)):=rfl
theorem Jo(sz id off:Nat)(lo:Option DV)(b:Nat):vN sz id off lo (some b)=HZ sz id off b (cK lo 0 b):=by
 simp only[vN,HZ]
def R4(h:aA)(sz cH id off len:Nat)(ys:List DV):Option DO→Option (DV×aA)
 | some (.arr ety gN xs cap)=>if sz=cH∧sz=gN∧off+len≤xs.length∧h.lim≤id then some (.int .i64 (ys.take len).length,h.set id (.arr ety sz (dS xs (ys.take len) off) cap))else none
 | _=>none
theorem Sr(h:aA)(sz cH id off len:Nat)(ys:List DV)(ety gN:Nat)(xs:List DV)(cap:Option Nat):R4 h sz cH id off len ys (some (.arr ety gN xs cap))=if sz=cH∧sz=gN∧off+len≤xs.length∧h.lim≤id then some (.int .i64 (ys.take len).length,h.set id (.arr ety sz (dS xs (ys.take len) off) cap))else none:=rfl
theorem R5(h:aA)(sz id cH off len:Nat)(ys:List DV):sJ h sz (.sl id cH off len) ys=R4 h sz cH id off len ys (h.get id):=by
 simp only[sJ,R4]
 cases h.get id with
 | none=>rfl
 | some o=>cases o<;>rfl
def R7(h:aA):DV→Option DV
 | .nsl=>some (.int .i64 0)
 | .sl id sz off _=>match h.get id with
  | some (.arr _ cH _ (some c))=>if sz=cH then some (.int .i64 (c-off:Nat))else none
  | some (.arr _ cH xs none)=>if sz=cH then some (.atl (xs.length-off))else none
  | _=>none
 | _=>none
theorem E6(h:aA)(env:Env)(x:Opd):aC h env (.cap x)=bT h (R7 h (x.eval env)):=by
 simp only[aC,R7]
 cases x.eval env with
 | sl id sz off len =>
  simp only
  cases h.get id with
  | none=>rfl
  | some o=>cases o with
   | arr e s xs c=>cases c<;>simp only<;>split<;>rfl
   | _=>rfl
 | _=>rfl
theorem IR(c:Nat→List DV→aA→Option (DV×aA))(h:aA)(env:Env)(x:Opd):aP c (.cap x) env h=bT h (R7 h (x.eval env)):=E6 h env x
def CG(sz off:Nat):Option DO→Option DV
 | some (.arr _ cH _ (some c))=>if sz=cH then some (.int .i64 (c-off:Nat))else none
 | some (.arr _ cH xs none)=>if sz=cH then some (.atl (xs.length-off))else none
 | _=>none
theorem CF(h:aA)(id sz off len:Nat):R7 h (.sl id sz off len)=CG sz off (h.get id):=by
 simp only[R7,CG]
theorem Zi(sz off ety cH:Nat)(xs:List DV):CG sz off (some (.arr ety cH xs none))=if sz=cH then some (.atl (xs.length-off))else none:=rfl
theorem Zh(sz off ety cH:Nat)(xs:List DV)(c:Nat):CG sz off (some (.arr ety cH xs (some c)))=if sz=cH then some (.int .i64 (c-off:Nat))else none:=rfl
theorem Te(a:Int)(n:Nat)(h:a≤(n:Int)):aY .gtr (.int .i64 a) (.atl n)=some (.bool false):=by simp[aY,h]
def Nv(h:aA)(ety sz bytes:Nat)(z s:DV)(x:DV):Option (DV×aA):=match asI x with
  | some n=>if 0≤n∧n≤140737488355328 then bN h ety sz bytes s (List.replicate n.toNat z)else none
  | none=>none
theorem Qu(c:Nat→List DV→aA→Option (DV×aA))(h:aA)(env:Env)(ety sz bytes:Nat)(z:DV)(s x:Opd):aP c (.appendZ ety sz bytes z s x) env h=Nv h ety sz bytes z (s.eval env) (x.eval env):=rfl
theorem Hv(h:aA)(ety sz bytes:Nat)(z s:DV)(k:IntKind)(n:Int):Nv h ety sz bytes z s (.int k n)=if 0≤n∧n≤140737488355328 then bN h ety sz bytes s (List.replicate n.toNat z)else none:=rfl
theorem X9{h:aA}{id:Nat}{o o':DO}:(h.set id o).set id o'=h.set id o':=by
 simp[aA.set]
theorem Ih{h:aA}{o:DO}:WF (h.push o)↔WF h:=⟨fun w=>by unfold WF at *;simpa[aA.push]using w,fun w=>w.push⟩
theorem Oi{h:aA}{id:Nat}{o:DO}:WF (h.set id o)↔WF h:=⟨fun w=>by unfold WF at *;simpa[aA.set]using w,fun w=>w.set⟩
theorem Rx{h:aA}{id k:Nat}{o:DO}(w:WF h)(dG:id<h.n):(h.set id o).get k=if k=id then some o else h.get k:=iO w dG
def wl(h:aA)(l:Nat):aA:={h with lim:=l}
theorem Vq{h:aA}{l:Nat}:WF (wl h l)↔WF h:=Iff.rfl
theorem WF.wl{h:aA}(w:WF h)(l:Nat):WF (Dm.wl h l):=w
def crV(h:aA)(L:bF):Option (DV×aA)→Option (DV×aA×bF)
 | some (v,h')=>some (v,wl h' h.lim,L)
 | none=>none
theorem R0(h:aA)(L:bF)(v:DV)(h':aA):crV h L (some (v,h'))=some (v,wl h' h.lim,L):=rfl
theorem dU(c:dR)(l r:Nat)(L:bF)(o:DOp)(env:Env)(h:aA)(hp:hP L env o=none)(hq:uM env o=false):bK c l r L o env h=crV h L (aP c o env (wl h (max l h.lim))):=by
 unfold bK
 rw[hp,hq]
 simp only[iN,wl]
 cases aP c o env {h with lim:=max l h.lim} with
 | some p=>rfl
 | none=>rfl
def Gb:DV→Bool|.func g _=>Uf g|_=>false
theorem Ks(g:FuncId)(cap:List DV):Gb (.func g cap)=Uf g:=rfl
def pkC(r:Nat)(L:bF)(h:aA):Option (DV×aA)→Option (DV×aA×bF)
 | some (v,h')=>if(rG h h').all (fun id=>L.rds.all fun x=>!(Nat.beq x.1 id))=true then some (v,h',{L with pks:=(rG h h').map (fun id=>(r,id))++L.pks})else none
 | none=>none
theorem Cx(c:dR)(l r:Nat)(L:bF)(g:Opd)(as:List Opd)(env:Env)(h:aA):bK c l r L (.call g as) env h=if Gb (g.eval env)=true then pkC r L h (aP c (.call g as) env h)else crV h L (aP c (.call g as) env (wl h (max l h.lim))):=by
 have hq:uM env (.call g as)=Gb (g.eval env):=by simp only[uM,Gb];cases g.eval env<;>rfl
 split
 ·rename_i ht
  unfold bK
  rw[show hP L env (.call g as)=none from rfl,hq,ht]
  simp only[iK,pkC]
  cases aP c (.call g as) env h<;>rfl
 ·rename_i hf
  exact dU _ _ _ _ _ _ _ rfl (by rw[hq];simpa using hf)
theorem Bg(c:dR)(l r:Nat)(L:bF)(e s:Nat)(z:DV)(env:Env)(h:aA):bK c l r L (.alloc e s z) env h=crV h L (aP c (.alloc e s z) env (wl h (max l h.lim))):=dU _ _ _ _ _ _ _ rfl rfl
theorem Hl(c:dR)(l r:Nat)(L:bF)(e s:Nat)(z:Opd)(env:Env)(h:aA):bK c l r L (.box e s z) env h=crV h L (aP c (.box e s z) env (wl h (max l h.lim))):=dU _ _ _ _ _ _ _ rfl rfl
theorem rP(c:dR)(l r:Nat)(L:bF)(e s:Nat)(z:DV)(n:Nat)(ps:List (Nat×Opd))(env:Env)(h:aA):bK c l r L (.buildSlice e s z n ps) env h=crV h L (aP c (.buildSlice e s z n ps) env (wl h (max l h.lim))):=dU _ _ _ _ _ _ _ rfl rfl
theorem Cw(c:dR)(l r:Nat)(L:bF)(s:Nat)(d x:Opd)(env:Env)(h:aA):bK c l r L (.copy s d x) env h=crV h L (aP c (.copy s d x) env (wl h (max l h.lim))):=dU _ _ _ _ _ _ _ rfl rfl
theorem wI(c:dR)(l r:Nat)(L:bF)(env:Env)(h:aA):bK c l r L .makeMap env h=crV h L (aP c .makeMap env (wl h (max l h.lim))):=dU _ _ _ _ _ _ _ rfl rfl
def J9:DV→Option Nat|.ptr id ..=>some id|_=>none
def zD:DV→Option Nat|.sl id ..=>some id|_=>none
def mapId:DV→Option Nat|.map id=>some id|_=>none
section
variable (env:Env)
theorem W6(n:Option Nat)(a:Opd):aT env (.load n a)=J9 (a.eval env):=by simp only[aT];cases a.eval env<;>rfl
theorem Im(sz:Nat)(x:Opd)(lo hi:Option Opd):aT env (.sliceSl sz x lo hi)=zD (x.eval env):=by simp only[aT];cases x.eval env<;>rfl
theorem D4(x:Opd):aT env (.cap x)=zD (x.eval env):=by simp only[aT];cases x.eval env<;>rfl
theorem D1(k:Nat)(x:Opd):aT env (.len k x)=mapId (x.eval env):=by simp only[aT];cases x.eval env<;>rfl
theorem Dj(q:EqT)(z:DV)(ok:Bool)(m k:Opd):aT env (.lookup q z ok m k)=mapId (m.eval env):=by simp only[aT];cases m.eval env<;>rfl
theorem W5(x:Opd):aT env (.move x)=none:=_root_.id rfl
theorem W4(c a b:Opd):aT env (.pick c a b)=none:=_root_.id rfl
theorem D5(z:List DV)(ps:List (Nat×Nat×Opd)):aT env (.build z ps)=none:=_root_.id rfl
theorem D7(op:BinOp)(x y:Opd):aT env (.arith op x y)=none:=_root_.id rfl
theorem DW(n:Bool)(x y:Opd):aT env (.eqb n x y)=none:=_root_.id rfl
theorem DX(n:Bool)(ks:List Nat)(x y:Opd):aT env (.eqa n ks x y)=none:=_root_.id rfl
theorem DU(k:Nat)(n:Bool)(x y:Opd):aT env (.eqn k n x y)=none:=_root_.id rfl
theorem LC(op:UnOp)(x:Opd):aT env (.un op x)=none:=_root_.id rfl
theorem W7(k:IntKind)(x:Opd):aT env (.conv k x)=none:=_root_.id rfl
theorem D6(x:Opd):aT env (.asStr x)=none:=_root_.id rfl
theorem Io(x:Opd):aT env (.nilCheck x)=none:=_root_.id rfl
theorem Ev(o:Nat)(x:Opd):aT env (.fieldAddr o x)=none:=_root_.id rfl
theorem D3(o:Nat)(n:Option Nat)(x:Opd):aT env (.field o n x)=none:=_root_.id rfl
theorem Eu(s:Nat)(x i:Opd):aT env (.indexAddr s x i)=none:=_root_.id rfl
theorem Ir(l e:Nat)(x i:Opd):aT env (.indexArr l e x i)=none:=_root_.id rfl
theorem D2(l e:Nat)(n:Option Nat)(x i:Opd):aT env (.index l e n x i)=none:=_root_.id rfl
theorem Iq(x i:Opd):aT env (.indexStr x i)=none:=_root_.id rfl
theorem Il(x:Opd)(lo hi:Option Opd):aT env (.sliceStr x lo hi)=none:=_root_.id rfl
theorem Vt(b:Bool)(x y:Opd):aT env (.minmax b x y)=none:=_root_.id rfl
theorem Ip(f:FuncId)(c:List Opd):aT env (.makeFunc f c)=none:=_root_.id rfl
theorem Oq(x:Opd)(i:Nat):aT env (.extract x i)=none:=_root_.id rfl
theorem Et(t:TypeId)(x:Opd):aT env (.makeIface t x)=none:=_root_.id rfl
def Xq:Option Nat→Option (Nat×gK)
 | some id=>some (id,none)
 | none=>none
theorem Xo(id:Nat):Xq (some id)=some (id,none):=_root_.id rfl
theorem Xp:Xq none=none:=_root_.id rfl
def J8(n:Option Nat):DV→Option (Nat×gK)
 | .ptr id sz i o=>some (id,some (n,sz,i,o))
 | _=>none
theorem Xd(n:Option Nat)(id sz i o:Nat):J8 n (.ptr id sz i o)=some (id,some (n,sz,i,o)):=_root_.id rfl
theorem Qg(n:Option Nat)(l:Bool)(cs:List DV)(o:Nat):J8 n (.iptr l cs o)=none:=_root_.id rfl
theorem AM(n:Option Nat)(a:Opd):mark env (.load n a)=J8 n (a.eval env):=by simp only[mark];cases a.eval env<;>rfl
theorem M2(sz:Nat)(x:Opd)(lo hi:Option Opd):mark env (.sliceSl sz x lo hi)=Xq (zD (x.eval env)):=by rw[←Im env];simp only[mark];cases aT env (.sliceSl sz x lo hi)<;>rfl
theorem JA(x:Opd):mark env (.cap x)=Xq (zD (x.eval env)):=by rw[←D4 env];simp only[mark];cases aT env (.cap x)<;>rfl
theorem IW(k:Nat)(x:Opd):mark env (.len k x)=Xq (mapId (x.eval env)):=by rw[←D1 env];simp only[mark];cases aT env (.len k x)<;>rfl
theorem Xt(q:EqT)(z:DV)(ok:Bool)(m k:Opd):mark env (.lookup q z ok m k)=Xq (mapId (m.eval env)):=by rw[←Dj env];simp only[mark];cases aT env (.lookup q z ok m k)<;>rfl
theorem AL(x:Opd):mark env (.move x)=none:=_root_.id rfl
theorem AK(c a b:Opd):mark env (.pick c a b)=none:=_root_.id rfl
theorem M5(z:List DV)(ps:List (Nat×Nat×Opd)):mark env (.build z ps)=none:=_root_.id rfl
theorem M7(op:BinOp)(x y:Opd):mark env (.arith op x y)=none:=_root_.id rfl
theorem IY(n:Bool)(x y:Opd):mark env (.eqb n x y)=none:=_root_.id rfl
theorem IZ(n:Bool)(ks:List Nat)(x y:Opd):mark env (.eqa n ks x y)=none:=_root_.id rfl
theorem IX(k:Nat)(n:Bool)(x y:Opd):mark env (.eqn k n x y)=none:=_root_.id rfl
theorem SB(op:UnOp)(x:Opd):mark env (.un op x)=none:=_root_.id rfl
theorem AN(k:IntKind)(x:Opd):mark env (.conv k x)=none:=_root_.id rfl
theorem M6(x:Opd):mark env (.asStr x)=none:=_root_.id rfl
theorem Ll(x:Opd):mark env (.nilCheck x)=none:=_root_.id rfl
theorem Gm(o:Nat)(x:Opd):mark env (.fieldAddr o x)=none:=_root_.id rfl
theorem M4(o:Nat)(n:Option Nat)(x:Opd):mark env (.field o n x)=none:=_root_.id rfl
theorem Gl(s:Nat)(x i:Opd):mark env (.indexAddr s x i)=none:=_root_.id rfl
theorem Lo(l e:Nat)(x i:Opd):mark env (.indexArr l e x i)=none:=_root_.id rfl
theorem M3(l e:Nat)(n:Option Nat)(x i:Opd):mark env (.index l e n x i)=none:=_root_.id rfl
theorem Ln(x i:Opd):mark env (.indexStr x i)=none:=_root_.id rfl
theorem Lk(x:Opd)(lo hi:Option Opd):mark env (.sliceStr x lo hi)=none:=_root_.id rfl
theorem Xs(b:Bool)(x y:Opd):mark env (.minmax b x y)=none:=_root_.id rfl
theorem Lm(f:FuncId)(c:List Opd):mark env (.makeFunc f c)=none:=_root_.id rfl
theorem Qz(x:Opd)(i:Nat):mark env (.extract x i)=none:=_root_.id rfl
theorem Gk(t:TypeId)(x:Opd):mark env (.makeIface t x)=none:=_root_.id rfl
end
theorem Xe(a b c d:Nat):J9 (.ptr a b c d)=some a:=_root_.id rfl
theorem Qh(l:Bool)(cs:List DV)(o:Nat):J9 (.iptr l cs o)=none:=_root_.id rfl
theorem X6(a b c d:Nat):zD (.sl a b c d)=some a:=_root_.id rfl
theorem F0:zD .nsl=none:=_root_.id rfl
theorem X7{α:Type}(t:Bool)(sz:Nat)(e:α→DV)(xs:List α):zD (eL t sz e xs)=none:=by cases xs<;>rfl
theorem Xw(i:Nat):mapId (.map i)=some i:=_root_.id rfl
theorem N1{α:Type}(t:Bool)(sz:Nat)(e:α→DV)(xs:List α):mapId (eL t sz e xs)=none:=by cases xs<;>rfl
theorem N0(a b c d:Nat):mapId (.sl a b c d)=none:=_root_.id rfl
theorem Xv:mapId .nsl=none:=_root_.id rfl
theorem Xu(s:List UInt8):mapId (.str s)=none:=_root_.id rfl
theorem Ya:bF.start=⟨[],[]⟩:=_root_.id rfl
theorem N5(L:bF)(t:Option (Nat×gK)):bF.see L true t=L:=_root_.id rfl
theorem AR(L:bF)(t:Option (Nat×gK)):bF.see L false t=bF.read L t:=_root_.id rfl
theorem N3(r:List (Nat×gK))(p:List (Nat×Nat))(x:Nat×gK):bF.read ⟨r,p⟩ (some x)=⟨x::r,p⟩:=_root_.id rfl
theorem Yb(L:bF):bF.read L none=L:=_root_.id rfl
theorem Yd(r:List (Nat×gK))(s:Nat)(t:Option Nat):bF.free ⟨r,[]⟩ s t=true:=by cases t<;>rfl
theorem Yc(L:bF)(s:Nat):bF.free L s none=true:=_root_.id rfl
theorem N4(r:List (Nat×gK))(p:Nat×Nat)(ps:List (Nat×Nat))(s id:Nat):bF.free ⟨r,p::ps⟩ s (some id)=((decide (p.1<s) || !decide (p.2=id)) && bF.free ⟨r,ps⟩ s (some id)):=by
 have e1:Nat.blt p.1 s=decide (p.1<s):=by rw[Bool.eq_iff_iff];simp[Nat.blt_eq]
 have e2:Nat.beq p.2 id=decide (p.2=id):=by rw[Bool.eq_iff_iff];simp
 simp only[bF.free,List.all_cons,e1,e2]
theorem Tf(m:Option Nat)(z i o n idx off:Nat):kG (some (m,z,i,o)) n idx off=(!decide (i=idx) || decide (o+yO m≤off) || decide (off+n≤o)):=by
 have e2:Nat.beq i idx=decide (i=idx):=by rw[Bool.eq_iff_iff];simp
 have e3:Nat.ble (o+yO m) off=decide (o+yO m≤off):=by rw[Bool.eq_iff_iff];simp
 have e4:Nat.ble (off+n) o=decide (off+n≤o):=by rw[Bool.eq_iff_iff];simp
 simp only[kG,e2,e3,e4]
theorem Tg(n idx off:Nat):kG none n idx off=false:=_root_.id rfl
theorem Oh:yO none=1:=_root_.id rfl
theorem Og(n:Nat):yO (some n)=n:=_root_.id rfl
def pkA(L:bF):Option Nat→Option Nat
 | some id=>if L.rds.all (fun x=>!decide (x.1=id))=true then some id else none
 | none=>none
theorem K6(r:List (Nat×gK))(p:List (Nat×Nat))(id:Nat):pkA ⟨r,p⟩ (some id)=if r.all (fun x=>!decide (x.1=id))=true then some id else none:=_root_.id rfl
theorem K7(L:bF):pkA L none=none:=_root_.id rfl
theorem RR(L:bF)(id:Nat):(L.rds.all fun x=>!(Nat.beq x.1 id))=(L.rds.all fun x=>!decide (x.1=id)):=by
 congr 1;funext x
 have e2:Nat.beq x.1 id=decide (x.1=id):=by rw[Bool.eq_iff_iff];simp
 rw[e2]
def pkS(L:bF)(n:Nat):DV→Option Nat
 | .ptr id _ idx off=>if L.rds.all (fun x=>!decide (x.1=id) || kG x.2 n idx off)=true then some id else none
 | _=>none
theorem Z9(r:List (Nat×gK))(p:List (Nat×Nat))(n id sz idx off:Nat):pkS ⟨r,p⟩ n (.ptr id sz idx off)=if r.all (fun x=>!decide (x.1=id) || kG x.2 n idx off)=true then some id else none:=_root_.id rfl
theorem K5(L:bF)(n:Nat)(l:Bool)(cs:List DV)(o:Nat):pkS L n (.iptr l cs o)=none:=_root_.id rfl
theorem K1(L:bF)(env:Env)(n:Nat)(a x:Opd):hP L env (.store n a x)=pkS L n (a.eval env):=by
 simp only[hP]
 cases a.eval env<;>try rfl
 rename_i id sz idx off
 have:(L.rds.all fun x=>!(Nat.beq x.1 id) || kG x.2 n idx off)=(L.rds.all fun x=>!decide (x.1=id) || kG x.2 n idx off):=by
  congr 1;funext x
  have e2:Nat.beq x.1 id=decide (x.1=id):=by rw[Bool.eq_iff_iff];simp
  rw[e2]
 simp only[this];rfl
theorem Xh(L:bF)(env:Env)(e s b:Nat)(a x:Opd):hP L env (.append e s b a x)=pkA L (zD (a.eval env)):=by
 simp only[hP,pkA,zD,RR];cases a.eval env<;>rfl
def pkV(L:bF)(r id:Nat):Option (DV×aA)→Option (DV×aA×bF)
 | some (v,h')=>some (v,h',⟨L.rds,(r,id)::L.pks⟩)
 | none=>none
theorem K4(rs:List (Nat×gK))(ps:List (Nat×Nat))(r id:Nat)(v:DV)(h':aA):pkV ⟨rs,ps⟩ r id (some (v,h'))=some (v,h',⟨rs,(r,id)::ps⟩):=_root_.id rfl
def crP(c:dR)(l r:Nat)(L:bF)(o:DOp)(env:Env)(h:aA):Option Nat→Option (DV×aA×bF)
 | some id=>pkV L r id (aC h env o)
 | none=>crV h L (aP c o env (wl h (max l h.lim)))
theorem R1(c:dR)(l r:Nat)(L:bF)(o:DOp)(env:Env)(h:aA)(id:Nat):crP c l r L o env h (some id)=pkV L r id (aC h env o):=_root_.id rfl
theorem R2(c:dR)(l r:Nat)(L:bF)(o:DOp)(env:Env)(h:aA):crP c l r L o env h none=crV h L (aP c o env (wl h (max l h.lim))):=_root_.id rfl
theorem xH(c:dR)(l r:Nat)(L:bF)(o:DOp)(env:Env)(h:aA)(hq:uM env o=false):bK c l r L o env h=crP c l r L o env h (hP L env o):=by
 cases hp:hP L env o with
 | none=>rw[dU _ _ _ _ _ _ _ hp hq];rfl
 | some id =>
  unfold bK
  rw[hp]
  simp only[crP,pkV]
  cases aC h env o with
  | none=>rfl
  | some q=>rfl
theorem Bd(c:dR)(l r:Nat)(L:bF)(n:Nat)(a x:Opd)(env:Env)(h:aA):bK c l r L (.store n a x) env h=crP c l r L (.store n a x) env h (pkS L n (a.eval env)):=by rw[xH _ _ _ _ _ _ _ rfl,K1]
theorem xZ(c:dR)(l r:Nat)(L:bF)(e s b:Nat)(a x:Opd)(env:Env)(h:aA):bK c l r L (.append e s b a x) env h=crP c l r L (.append e s b a x) env h (pkA L (zD (a.eval env))):=by rw[xH _ _ _ _ _ _ _ rfl,Xh]
theorem tB(c:dR)(l r:Nat)(L:bF)(q:EqT)(m k x:Opd)(env:Env)(h:aA):bK c l r L (.mapUpdate q m k x) env h=crV h L (aP c (.mapUpdate q m k x) env (wl h (max l h.lim))):=dU _ _ _ _ _ _ _ rfl rfl
theorem Z5(t:Bool)(h:aA)(n:Nat)(k:IntKind)(m:Int):resolve t h (n+1) (.int k m)=some (.int k m):=rfl
theorem J3(t:Bool)(h:aA)(n:Nat)(m:Bool):resolve t h (n+1) (.bool m)=some (.bool m):=rfl
theorem Z3(t:Bool)(h:aA)(n:Nat)(m:List UInt8):resolve t h (n+1) (.str m)=some (.str m):=rfl
theorem Z4(t:Bool)(h:aA)(n:Nat):resolve t h (n+1) .nsl=some (.isl false 0 []):=rfl
theorem J0(t:Bool)(h:aA)(n:Nat)(l:Bool)(cs:List DV)(o:Nat):resolve t h (n+1) (.iptr l cs o)=some (.iptr l cs o):=rfl
theorem J2{α:Type}(t:Bool)(h:aA)(n:Nat)(t':Bool)(sz:Nat)(e:α→DV)(xs:List α):resolve t h (n+1) (eL t' sz e xs)=some (eL t' sz e xs):=kL t' sz e xs t h (n+1) (by omega)
theorem Kj(t:Bool)(h:aA)(n:Nat)(p:eW):resolve t h (n+1) (iF p)=some (iF p):=J2 ..
theorem I9(t:Bool)(h:aA)(n:Nat):resolve t h (n+1) .nili=some .nili:=rfl
theorem I8(t:Bool)(h:aA)(n:Nat):resolve t h (n+1) .nilp=some .nilp:=rfl
theorem yM(t:Bool)(h:aA)(v:DV):resolve t h aW v=resolve t h (199+1) v:=rfl
def pM(t:Bool)(h:aA)(n:Nat)(vs:List DV):Option (List DV):=vs.mapM (resolve t h n)
theorem Z6(t:Bool)(h:aA)(n:Nat)(vs:List DV):vs.mapM (resolve t h n)=pM t h n vs:=rfl
theorem J4(t:Bool)(h:aA)(n:Nat):pM t h n []=some []:=rfl
def DF:Option DV→Option (List DV)→Option (List DV)
 | some x,some l=>some (x::l)
 | _,_=>none
theorem Ss(x:DV)(l:List DV):DF (some x) (some l)=some (x::l):=rfl
theorem Wx(t:Bool)(h:aA)(n:Nat)(v:DV)(vs:List DV):pM t h n (v::vs)=DF (resolve t h n v) (pM t h n vs):=by
 unfold pM
 rw[List.mapM_cons]
 cases resolve t h n v<;>cases vs.mapM (resolve t h n)<;>rfl
def TN:Option (List DV)→Option DV|some c=>some (.agg c)|none=>none
def LA:Option (List DV)→Option DV|some c=>some (.tup c)|none=>none
def SJ(f:Nat):Option (List DV)→Option DV|some c=>some (.func f c)|none=>none
theorem A3(c:List DV):TN (some c)=some (.agg c):=rfl
theorem Vs(c:List DV):LA (some c)=some (.tup c):=rfl
theorem Ym(f:Nat)(c:List DV):SJ f (some c)=some (.func f c):=rfl
theorem Ue(t:Bool)(h:aA)(n:Nat)(cs:List DV):resolve t h (n+1) (.agg cs)=TN (pM t h n cs):=by
 simp only[resolve];unfold pM;cases cs.mapM (resolve t h n)<;>rfl
theorem Z2(t:Bool)(h:aA)(n:Nat)(cs:List DV):resolve t h (n+1) (.tup cs)=LA (pM t h n cs):=by
 simp only[resolve];unfold pM;cases cs.mapM (resolve t h n)<;>rfl
theorem J1(t:Bool)(h:aA)(n:Nat)(f:Nat)(cs:List DV):resolve t h (n+1) (.func f cs)=SJ f (pM t h n cs):=by
 simp only[resolve];unfold pM;cases cs.mapM (resolve t h n)<;>rfl
def O3(t:Bool)(off:Nat):Option (List DV)→Option DV|some c=>some (.iptr t c off)|none=>none
theorem Ri(t:Bool)(off:Nat)(c:List DV):O3 t off (some c)=some (.iptr t c off):=rfl
def Z7(t:Bool)(h:aA)(n sz off:Nat):Option DV→Option DV|some e=>O3 t off (pM t h n (aF sz e))|none=>none
theorem Wy(t:Bool)(h:aA)(n sz off:Nat)(e:DV):Z7 t h n sz off (some e)=O3 t off (pM t h n (aF sz e)):=rfl
def Fz(t:Bool)(h:aA)(n sz idx off:Nat):Option DO→Option DV
 | some (.arr _ cH xs _)=>if sz=cH then Z7 t h n sz off xs[idx]? else none
 | _=>none
theorem Fy(t:Bool)(h:aA)(n sz idx off ety cH:Nat)(xs:List DV)(cap:Option Nat):Fz t h n sz idx off (some (.arr ety cH xs cap))=if sz=cH then Z7 t h n sz off xs[idx]? else none:=rfl
theorem Qa(t:Bool)(h:aA)(n id sz idx off:Nat):resolve t h (n+1) (.ptr id sz idx off)=Fz t h n sz idx off (h.get id):=by
 simp only[resolve,Fz]
 cases h.get id with
 | none=>rfl
 | some o=>cases o with
  | arr e s xs c =>
   simp only
   split
   ·cases xs[idx]? with
    | none=>rfl
    | some x=>simp only[Z7,pM];cases(aF sz x).mapM (resolve t h n)<;>rfl
   ·rfl
  | _=>rfl
def JG(t:Bool)(sz:Nat):Option (List DV)→Option DV|some ys=>some (mkIsl t sz ys)|none=>none
theorem Yg(t:Bool)(sz:Nat)(ys:List DV):JG t sz (some ys)=some (mkIsl t sz ys):=rfl
def Qb(t:Bool)(h:aA)(n sz off len:Nat):Option DO→Option DV
 | some (.arr _ cH xs _)=>if sz=cH∧off+len≤xs.length then JG t sz (pM t h n ((xs.drop off).take len))else none
 | _=>none
theorem Kk(t:Bool)(h:aA)(n sz off len ety cH:Nat)(xs:List DV)(cap:Option Nat):Qb t h n sz off len (some (.arr ety cH xs cap))=if sz=cH∧off+len≤xs.length then JG t sz (pM t h n ((xs.drop off).take len))else none:=rfl
theorem Ww(t:Bool)(h:aA)(n id sz off len:Nat):resolve t h (n+1) (.sl id sz off len)=Qb t h n sz off len (h.get id):=by
 simp only[resolve,Qb]
 cases h.get id with
 | none=>rfl
 | some o=>cases o with
  | arr e s xs c =>
   simp only
   split
   ·simp only[pM];cases((xs.drop off).take len).mapM (resolve t h n)<;>rfl
   ·rfl
  | _=>rfl
def RU(h:aA)(v:DV):Option DV :=
 match resolve false h (199+1) v with
 | some d=>if aO (199+1) d then some d else none
 | none=>none
theorem nU(v:DV)(h:aA):pO (some (v,h))=RU h v:=rfl
def C7:Option DV→Option DV
 | some d=>if aO (199+1) d then some d else none
 | none=>none
theorem AC(h:aA)(v:DV):RU h v=C7 (resolve false h (199+1) v):=rfl
theorem C6(k:IntKind)(n:Int):C7 (some (.int k n))=some (.int k n):=rfl
theorem Vr(b:Bool):C7 (some (.bool b))=some (.bool b):=rfl
theorem C1(b:List UInt8):C7 (some (.str b))=some (.str b):=rfl
theorem V5(d:DV):C7 (some d)=if aO 200 d=true then some d else none:=rfl
theorem DR(n:Nat)(k:IntKind)(m:Int):aO (n+1) (.int k m)=true:=rfl
theorem W3(n:Nat)(m:Bool):aO (n+1) (.bool m)=true:=rfl
theorem DQ(n:Nat)(m:List UInt8):aO (n+1) (.str m)=true:=rfl
theorem DT(n:Nat)(cs:List DV):aO (n+1) (.agg cs)=cs.all (aO n):=rfl
theorem DP(n:Nat)(cs:List DV):aO (n+1) (.tup cs)=cs.all (aO n):=rfl
theorem V6(n:Nat)(p:eW):aO (n+21) (iF p)=true:=tP p (n+21) (by omega)
theorem W0(n:Nat)(sz:Nat):aO (n+1) (.isl false sz [])=true:=by simp[aO]
theorem V9(n:Nat):aO (n+1) .nili=true:=rfl
theorem V8(n:Nat):aO (n+1) .nilp=true:=rfl
theorem Kc(D:bA)(N:Nat)(S:List Fr)(f:eX)(hs:List aA)(L:bF)(dst:Option Nat)(op:DOp)(s:Nat)(cm:Bool)(r:List aH)(hf:L.free s (aT (tab N f) op)=true) :
  uJ D N S dst op s cm r f hs L .read=Kd D N S dst op cm r f hs L (fA hs s):=by rw[Pt,if_pos hf]
theorem pT{α:Type}(t:Bool)(sz:Nat)(e:α→DV)(xs:List α)(k:IntKind)(i:Int)(h0:0≤i):bG sz (eL t sz e xs) (.int k i)=(xs[i.toNat]?).map fun a=>.iptr t (aF sz (e a)) 0:=by
 cases hx:xs[i.toNat]? with
 | some a=>rw[Ah t sz e k h0 hx];rfl
 | none =>
  cases xs with
  | nil=>simp[Bb,bG,asI]
  | cons x xs =>
   have hy:(List.map e (x::xs))[i.toNat]?=none:=by rw[List.getElem?_map,hx];rfl
   rw[oO,←List.map_cons]
   simp only[bG,asI,h0,and_self,if_true,hy,Option.map_none]
theorem pS{α:Type}(t:Bool)(sz:Nat)(e:α→DV)(xs:List α)(k:IntKind)(i:Nat):bG sz (eL t sz e xs) (.int k (i:Int))=(xs[i]?).map fun a=>.iptr t (aF sz (e a)) 0:=by
 rw[pT _ _ _ _ _ _ (Int.natCast_nonneg i)];simp
theorem xS{α:Type}(t:Bool)(sz:Nat)(e:α→DV)(xs:List α)(k:IntKind)(i:Nat):bG sz (eL t sz e xs) (.int k ((i:Int)+1))=(xs[i+1]?).map fun a=>.iptr t (aF sz (e a)) 0:=by
 have:=pS t sz e xs k (i+1)
 rwa[Int.natCast_add]at this
theorem U8{n:Int}(h1:0≤n)(h2:n≤18446744073709551615):IntKind.u64.wrap n=n:=by
 exact Go.IntWalk.u64_in n ⟨h1,h2⟩
theorem Td(a:Int):aY .shr (.int .u64 a) (.int .u64 1)=some (.int .u64 (a.fdiv 2)):=by
 simp[aY,IntKind.bits]
theorem UJ(i j:Nat):((i:Int)+j).fdiv 2=((i+j) / 2:Nat):=by
 rw[Int.fdiv_eq_ediv_of_nonneg _ (by decide)];omega
theorem Sy(k:IntKind)(n d l:Nat)(h:n≤l):cK (some (.int k (n:Int))) d l=some n:=by
 rw[oY _ _ _ _ (by omega) (by omega)];simp
theorem Nn(k:IntKind)(n d l:Nat)(h:n+1≤l):cK (some (.int k ((n:Int)+1))) d l=some (n+1):=by
 rw[oY _ _ _ _ (by omega) (by omega)];simp
theorem Nm(k:IntKind)(d l:Nat):cK (some (.int k 0)) d l=some 0:=by
 rw[oY _ _ _ _ (by omega) (by omega)];simp
theorem Pn(D:bA)(N:Nat)(S:List Fr)(f:eX)(h:aA)(o:aH)(w:Bool)(r:List aH):Wo D N S o w r f h aR=uI D N S r (mR f o.dst aR) h:=rfl
theorem Ke(D:bA)(N:Nat)(S:List Fr)(f:eX)(hs:List aA)(L:bF)(o:aH)(w:Bool)(r:List aH):Kf D N S o w r f hs L aR=rY D N S o.dst o.kind r f L hs:=rfl
theorem cL{b c:aG}(hb:b=c)(D:bA)(N:Nat)(S:List Fr)(f:eX)(h:aA):run D N S (.loop b) f h=run D N (.loop b::S) c f h:=by
 rw[G9];rw[←hb]
theorem U5(h:aA)(o:DO):(h.push o).n=h.n+1:=_root_.id rfl
theorem Vp(h:aA)(o:DO):(h.push o).lim=h.lim:=_root_.id rfl
theorem DK(h:aA)(id':Nat)(o:DO):(h.set id' o).n=h.n:=_root_.id rfl
theorem B4(h:aA)(id':Nat)(o:DO):(h.set id' o).lim=h.lim:=_root_.id rfl
theorem KV(h:aA)(l:Nat):(wl h l).n=h.n:=_root_.id rfl
theorem U6(h:aA)(l:Nat):(wl h l).lim=l:=_root_.id rfl
theorem U7(h:aA)(l i:Nat):(wl h l).get i=h.get i:=_root_.id rfl
theorem B2(h:aA)(l:Nat)(o:DO):(wl h l).push o=wl (h.push o) l:=_root_.id rfl
theorem U4(h:aA)(l i:Nat)(o:DO):(wl h l).set i o=wl (h.set i o) l:=_root_.id rfl
theorem DJ(h:aA)(a b:Nat):wl (wl h a) b=wl h b:=_root_.id rfl
theorem B1(h:aA):wl h h.lim=h:=_root_.id rfl
theorem Eo(h:aA)(o:DO):wl (h.push o) h.lim=h.push o:=_root_.id rfl
theorem U9(h:aA)(l:Nat)(hl:l=h.lim):wl h l=h:=by subst hl;rfl
theorem B3:pX.n=0:=_root_.id rfl
theorem Of:pX.lim=0:=_root_.id rfl
abbrev eU8(b:UInt8):DV:=.int .u8 b.toNat
def X2(h:aA):Option (List UInt8)→Option (DV×aA)
 | some s=>some (.str s,h)
 | none=>none
def wL(h:aA):Option (List DV)→Option (DV×aA)
 | some ys=>X2 h (ys.mapM Hs)
 | none=>none
def Nw(h:aA)(ety sz bytes:Nat)(s:DV):DV→Option (DV×aA)
 | .str t=>bN h ety sz bytes s (t.map eU8)
 | _=>none
theorem Lg(c:Nat→List DV→aA→Option (DV×aA))(h:aA)(env:Env)(x:Opd):aP c (.bytesStr x) env h=wL h (elems h 1 (x.eval env)):=by
 simp only[aP,aC]
 cases elems h 1 (x.eval env)with
 | none=>rfl
 | some ys=>cases hm:ys.mapM Hs<;>simp only[wL,X2,hm]
theorem Bm(h:aA)(ys:List DV):wL h (some ys)=X2 h (ys.mapM Hs):=rfl
theorem Vw(h:aA)(s:List UInt8):X2 h (some s)=some (.str s,h):=rfl
theorem M9(xs:List UInt8):(xs.map eU8).mapM Hs=some xs:=by
 induction xs with
 | nil=>rfl
 | cons b xs ih =>
  have hb:Hs (eU8 b)=some b:=by simp[Hs,eU8]
  simp only[List.map_cons,List.mapM_cons,hb,ih]
  rfl
theorem Qv(c:Nat→List DV→aA→Option (DV×aA))(h:aA)(env:Env)(ety sz bytes:Nat)(s x:Opd):aP c (.appendS ety sz bytes s x) env h=Nw h ety sz bytes (s.eval env) (x.eval env):=by
 simp only[aP,aC]
 cases x.eval env<;>rfl
theorem Hy(h:aA)(ety sz bytes:Nat)(s:DV)(t:List UInt8):Nw h ety sz bytes s (.str t)=bN h ety sz bytes s (t.map eU8):=rfl
theorem K0(f:Nat):Uf f=([44,55,330,331]:List Nat).contains f:=rfl
attribute [simp] Ks K0
attribute [simp] Lg Bm Vw M9 Qv Hy
attribute [simp] Y8 Pl Wm H6 Wk Z0 Wj G8 Y9 H2 Wu Ci zL Fw Kh Z1 Ch Fx I7
 H5 Wr Px H9 JX JY RP S7 Xa Xb V2
 AF AE L8 IS L5 Cn AG K9 Lc L7 IP IQ IN RV AI L6 Gi L4 Gh Lf L3 Le Lb Qr IM Xm AH Xk Ld Qs Qt Gg Xl Gf
 tH CH Fg Ff Cb Fa Fb Jc Fc Fe Ca Fd yW Bz By wP Bx
 DK B4 bQ U5 B3 Of Vp Rd N6 Re Rf Vy Ja Jb Q2 Mq Iz C9 X9 Ih Oi Vq Rx B5 KV U6 U7 B2 U4 DJ B1 Eo U9 R0 Cx Bg Hl rP Cw wI Wb Jq Jo Wc Sq R5 Sr IR E6 CF Zi Zh Te Qu Hv RT RS Ko My Sm Mx Sh Sj Zb Si Sl Mw Sk Hk Mv Mu Ek Ms
 Aw xX Se AU N9 O0 AT O1 Ns Nq Nr Zw Zr Zs Zt Zu Zv Zq Zl Zm Zn Zo Zp DM DN
 Q1 Yx Ni Nj Nh Hr Qj Qi Kq Sa Yw Qo Zg Ta Hh Zz Cd P7 Yq Yr Sd Hw Yz Q3 Co zW Lp
 La Sx oV
 Z6 J4 Wx Ss A3 Vs Ym Ri Z5 J3 Z3 Z4 J0 J2 Kj I9 I8 Ue Z2 J1 yM Qa Fy Wy Ww Kk Yg
 BS Sc Yp Ck Py Cl nU AC C6 Vr C1 V5 DR W3 DQ DT DP V6 W0 V9 V8
 H4 H8 Wp Po Pv Wq Ps Ka Fq Kc Kb Fs Pu Pw Pr Pq Pp W6 Im D4 D1 Dj W5 W4 D5 D7 DW DX DU LC W7 D6 Io Ev D3 Eu Ir D2 Iq Il Vt Ip Oq Et
 Xe Qh X6 F0 X7 Xw N1 N0 Xv Xu Ya N5 AR N3 Tf Tg Oh Og Z9 K5 Xo Xp Xd Qg AM M2 JA IW Xt AL AK M5 M7 IY IZ IX SB AN M6 Ll Gm M4 Gl Lo M3 Ln Lk Xs Lm Qz Gk Yb Yd Yc N4 K6 K7 K4 R1 R2 Bd xZ tB Wa Pm Wn H7 Pn Ke
 X3 Tt E7 HY Ji rU Tu Je wS Jk E4 E5 E3 CR Tx Jj tZ Jh tY wU Jg wT wR yY E2 Do Tv Dl Jf Pa yZ Fi Dn tX
 No Sy Nn Nm oY pS xS pT cO U8 Td UJ
end Go.Dm
/-
Part 5 of "De": copies of rows; rows with room left over behind a deletion.
-/
namespace Go.Dm
inductive OwnR(lo:Nat)(h:aA)(v:DV)(ety sz:Nat)(xs:List DV):Prop where
 | nil (hv:v=.nsl) (hx:xs=[])
 | arr (id:Nat) (sp:List DV) (cap:Option Nat) (hv:v=.sl id sz 0 xs.length) (hg:h.get id=some (.arr ety sz (xs++sp) cap)) (dC:h.lim≤id) (gQ:lo≤id)
theorem Own.toR{lo:Nat}{h:aA}{v:DV}{ety sz:Nat}{xs:List DV}(w:Own lo h v ety sz xs):OwnR lo h v ety sz xs:=by
 cases w with
 | nil hv hx=>exact .nil hv hx
 | arr id hv hg hl hi=>exact .arr id [] none hv (by simpa using hg) hl hi
section OwnR
variable {lo:Nat} {h:aA} {v:DV} {ety sz:Nat} {xs:List DV}
theorem OwnR.push{o:DO}(w:OwnR lo h v ety sz xs):OwnR lo (h.push o) v ety sz xs:=by
 cases w with
 | nil hv hx=>exact .nil hv hx
 | arr id sp cap hv hg dC gQ =>
  refine .arr id sp cap hv ?_ dC gQ
  rw[bQ,if_neg (by have:=cV hg;omega)];exact hg
theorem OwnR.ext{h':aA}(w:OwnR lo h v ety sz xs)(x:Ext h.n h h'):OwnR lo h' v ety sz xs:=by
 cases w with
 | nil hv hx=>exact .nil hv hx
 | arr id sp cap hv hg hl hi=>exact .arr id sp cap hv ((x.get id (cV hg)).trans hg) (by rw[x.lim];exact hl) hi
theorem OwnR.lenV(w:OwnR lo h v ety sz xs):lenV h 1 v=some (.int .i64 xs.length):=by
 cases w with
 | nil hv hx=>subst hv;subst hx;rfl
 | arr id sp cap hv hg hl hi=>subst hv;rfl
theorem OwnR.elems(w:OwnR lo h v ety sz xs):elems h sz v=some xs:=by
 cases w with
 | nil hv hx=>subst hv;subst hx;rfl
 | arr id sp cap hv hg hl hi=>subst hv;simp[Dm.elems,hg]
theorem OwnR.resolve{α:Type}{e:α→DV}{ys:List α}{k n:Nat}(tag:Bool)(w:OwnR lo h v ety sz (ys.map e))(hf:∀y∈ys,lL k (e y))(hn:k+1≤n):resolve tag h n v=some (eL tag sz e ys):=by
 obtain⟨m,rfl,hm⟩:=bR hn
 cases w with
 | nil hv hx =>
  subst hv
  cases ys with
  | nil=>rfl
  | cons y r=>simp at hx
 | arr id sp cap hv hg hl hi =>
  subst hv
  have sF:(ys.map e).mapM (Dm.resolve tag h m)=some (ys.map e):=qY fun x hx=>by
   obtain⟨y,hy,rfl⟩:=List.mem_map.1 hx
   exact hf y hy tag h m hm
  simp only[Dm.resolve,hg,true_and,Nat.zero_add,List.length_append,Nat.le_add_right,if_true,List.drop_zero,List.take_left,sF]
  rfl
theorem OwnR.aL(w:OwnR lo h v ety sz xs):aL 1 v=true:=by
 cases w with
 | nil hv hx=>subst hv;rfl
 | arr id sp cap hv hg hl hi=>subst hv;rfl
theorem OwnR.aF(w:OwnR lo h v ety sz xs):aF 1 v=[v]:=by
 cases w with
 | nil hv hx=>subst hv;rfl
 | arr id sp cap hv hg hl hi=>subst hv;rfl
theorem OwnR.out{α:Type}{e:α→DV}{ys:List α}{k:Nat}(w:OwnR lo h v ety sz (ys.map e))(hf:∀y∈ys,lL k (e y))(hu:∀y∈ys,Unl k (e y))(hk:k≤198) :
  pO (some (v,h))=some (eL false sz e ys) :=
 Kz (k:=k+1) (w.resolve false hf (by show k+1≤200;omega)) (nM hu) (by omega)
theorem OwnR.index(w:OwnR lo h v ety sz xs){i:Nat}{x:DV}(hx:xs[i]?=some x)(k:IntKind) :
  ∃ id sp cap,v=.sl id sz 0 xs.length∧h.get id=some (.arr ety sz (xs++sp) cap)∧h.lim≤id∧lo≤id∧bG sz v (.int k (i:Int))=some (.ptr id sz i 0)∧(xs++sp)[i]?=some x:=by
 have hi:i<xs.length:=by
  by_cases bB:i<xs.length
  ·exact bB
  ·rw[List.getElem?_eq_none (by omega)]at hx;cases hx
 cases w with
 | nil hv Gt=>subst Gt;simp at hi
 | arr id sp cap hv hg hl gQ =>
  refine⟨id,sp,cap,hv,hg,hl,gQ,?_,by rw[List.getElem?_append_left hi];exact hx⟩
  subst hv
  simp[bG,asI,hi]
end OwnR
theorem Own.aL{lo:Nat}{h:aA}{v:DV}{ety sz:Nat}{xs:List DV}(w:Own lo h v ety sz xs):aL 1 v=true:=w.toR.aL
theorem Own.aF{lo:Nat}{h:aA}{v:DV}{ety sz:Nat}{xs:List DV}(w:Own lo h v ety sz xs):aF 1 v=[v]:=w.toR.aF
theorem Own.wl{lo:Nat}{h:aA}{v:DV}{ety sz:Nat}{xs:List DV}(w:Own lo h v ety sz xs){m:Nat}(hm:m≤lo):Own lo (Dm.wl h m) v ety sz xs:=by
 cases w with
 | nil hv hx=>exact .nil hv hx
 | arr id hv hg hl hi=>exact .arr id hv hg (Nat.le_trans hm hi) hi
theorem Own.zH{lo:Nat}{h:aA}{v:DV}{ety sz:Nat}{xs:List DV}(w:Own lo h v ety sz xs)(wf:WF h){id:Nat}{o:DO}(dG:id<lo)(hn:id<h.n):Own lo (h.set id o) v ety sz xs:=by
 cases w with
 | nil hv hx=>exact .nil hv hx
 | arr k hv hg hl hi=>exact .arr k hv (by rw[iO wf hn,if_neg (by omega)];exact hg) hl hi
theorem Ext.wl{lo:Nat}{h h':aA}(x:Ext lo h h')(m:Nat)(hm:m=h.lim):Ext lo h (Dm.wl h' m):=⟨x.le,hm,x.get,x.wf⟩
def nC(ety:Nat)(h h':aA):Prop:=∀k o,h.get k=some o→(∀s xs c,o≠.arr ety s xs c)→h'.get k=some o
theorem nC.refl(ety:Nat)(h:aA):nC ety h h:=fun _ _ h _=>h
theorem nC.push{ety:Nat}{h h':aA}{o:DO}(x:nC ety h h'):nC ety h (h'.push o):=fun k ob hg dA=>by
 have:=x k ob hg dA
 rw[bQ,if_neg (by have:=cV this;omega)];exact this
theorem nC.set{ety:Nat}{h h':aA}{id s:Nat}{xs:List DV}{c:Option Nat}{o:DO}(x:nC ety h h')(w:WF h')(hg:h.get id=some (.arr ety s xs c))(dG:id<h'.n):nC ety h (h'.set id o):=fun k ob hk dA=>by
 have BF:k≠id:=by
  intro e
  subst e
  rw[hg]at hk
  injection hk with hk
  exact dA _ _ _ hk.symm
 rw[iO w dG,if_neg BF]
 exact x k ob hk dA
theorem Own.keep{lo:Nat}{h h':aA}{v:DV}{ety e2 sz:Nat}{xs:List DV}(w:Own lo h v e2 sz xs)(x:nC ety h h')(hl:h'.lim=h.lim)(dA:e2≠ety):Own lo h' v e2 sz xs:=by
 cases w with
 | nil hv hx=>exact .nil hv hx
 | arr id hv hg dC gQ =>
  exact .arr id hv (x _ _ hg (fun s ys c e=>by injection e with e1;exact dA e1)) (by rw[hl];exact dC) gQ
theorem OwnR.keep{lo:Nat}{h h':aA}{v:DV}{ety e2 sz:Nat}{xs:List DV}(w:OwnR lo h v e2 sz xs)(x:nC ety h h')(hl:h'.lim=h.lim)(dA:e2≠ety):OwnR lo h' v e2 sz xs:=by
 cases w with
 | nil hv hx=>exact .nil hv hx
 | arr id sp cap hv hg dC gQ =>
  exact .arr id sp cap hv (x _ _ hg (fun s ys c e=>by injection e with e1;exact dA e1)) (by rw[hl];exact dC) gQ
theorem OwnR.zH{lo:Nat}{h:aA}{v:DV}{ety sz:Nat}{xs:List DV}(w:OwnR lo h v ety sz xs)(wf:WF h){id:Nat}{o:DO}(dG:id<lo)(hn:id<h.n):OwnR lo (h.set id o) v ety sz xs:=by
 cases w with
 | nil hv hx=>exact .nil hv hx
 | arr k sp cap hv hg hl hi=>exact .arr k sp cap hv (by rw[iO wf hn,if_neg (by omega)];exact hg) hl hi
theorem tJ{h:aA}{id ety sz bytes len:Nat}{xs ys:List DV}{cap:Option Nat}(hg:h.get id=some (.arr ety sz xs cap))(bZ:len+ys.length≤xs.length)(dC:h.lim≤id)(hb:(len+ys.length)*bytes≤140737488355328)(Bw:1≤bytes)(hy:ys≠[]) :
  bN h ety sz bytes (.sl id sz 0 len) ys=some (.sl id sz 0 (len+ys.length),h.set id (.arr ety sz (dS xs ys len) cap)):=by
 have hm:len+ys.length≤140737488355328:=Nat.le_trans (Nat.le_mul_of_pos_right _ Bw) hb
 have Ly:ys.isEmpty=false:=by cases ys<;>simp_all
 simp only[bN,Ly,hg,Bool.false_eq_true,if_false,true_and,Nat.zero_add]
 rw[if_pos ⟨by omega,hb,by omega⟩,if_pos bZ,if_pos dC]
theorem qL{h:aA}{id ety sz bytes len c:Nat}{xs ys:List DV}(hg:h.get id=some (.arr ety sz xs (some c)))(hl:len≤xs.length)(bZ:xs.length<len+ys.length)(hb:(len+ys.length)*bytes≤140737488355328)(Bw:1≤bytes)(hy:ys≠[]) :
  bN h ety sz bytes (.sl id sz 0 len) ys=some (.sl h.n sz 0 (len+ys.length),h.push (.arr ety sz (xs.take len++ys) none)):=by
 have hm:len+ys.length≤140737488355328:=Nat.le_trans (Nat.le_mul_of_pos_right _ Bw) hb
 have Ly:ys.isEmpty=false:=by cases ys<;>simp_all
 simp only[bN,Ly,hg,Bool.false_eq_true,if_false,true_and,Nat.zero_add,List.drop_zero]
 rw[if_pos ⟨hl,hb,by omega⟩,if_neg (by omega)]
theorem OwnR.start(lo:Nat)(h:aA)(ety sz:Nat):OwnR lo h .nsl ety sz []:=.nil rfl rfl
theorem OwnR.fresh{lo:Nat}{h:aA}{ety sz:Nat}{xs:List DV}{cap:Option Nat}(dC:h.lim≤h.n)(gQ:lo≤h.n):OwnR lo (h.push (.arr ety sz xs cap)) (.sl h.n sz 0 xs.length) ety sz xs:=.arr h.n [] cap rfl (by simp[bQ]) dC gQ
theorem OwnR.append{lo:Nat}{h:aA}{v:DV}{ety sz bytes:Nat}{xs ys:List DV}{A:Option (DV×aA)}(w:OwnR lo h v ety sz xs)(wf:WF h)(gQ:lo≤h.n)(dC:h.lim≤h.n)(hA:bN h ety sz bytes v ys=A)
  (hb:(xs.length+ys.length)*bytes≤140737488355328) (Bw:1≤bytes):∃ v' h',A=some (v',h')∧OwnR lo h' v' ety sz (xs++ys)∧Ext lo h h'∧nC ety h h':=by
 have hm:xs.length+ys.length≤140737488355328:=Nat.le_trans (Nat.le_mul_of_pos_right _ Bw) hb
 by_cases hy:ys=[]
 ·subst hy
  refine⟨v,h,?_,by simpa using w,.refl gQ wf,.refl _ _⟩
  rw[←hA]
  cases w with
  | nil hv hx=>subst hv;rfl
  | arr id sp cap hv hg _ _=>subst hv;rfl
 ·have Ly:ys.isEmpty=false:=by cases ys<;>simp_all
  have hyl:0<ys.length:=List.length_pos_iff.2 hy
  cases w with
  | nil hv hx =>
   subst hv;subst hx
   simp only[List.length_nil,Nat.zero_add]at hb hm
   refine⟨.sl h.n sz 0 ys.length,h.push (.arr ety sz ys none),?_,.arr h.n [] none rfl (by simp[bQ]) (by exact dC) gQ,(Ext.refl gQ wf).push,(nC.refl _ _).push⟩
   rw[←hA]
   simp only[bN,Ly]
   rw[if_neg (by simp),if_pos ⟨hb,by omega⟩]
  | arr id sp cap hv hg hl hi =>
   subst hv
   have bB:=cV hg
   by_cases BI:xs.length+ys.length≤(xs++sp).length
   ·refine⟨.sl id sz 0 (xs.length+ys.length),h.set id (.arr ety sz (dS (xs++sp) ys xs.length) cap),?_,.arr id (sp.drop ys.length) cap (by simp) ?_ (by exact hl) hi,(Ext.refl gQ wf).set hi bB,(nC.refl _ _).set wf hg bB⟩
    ·rw[←hA];exact tJ hg BI hl hb Bw hy
    ·rw[iO wf bB,if_pos rfl]
     simp only[dS,List.take_left',List.append_assoc]
     congr 3
     rw[List.drop_append]
     simp
   ·cases cap with
    | none =>
     refine⟨.sl h.n sz 0 (xs.length+ys.length),(h.set id .dead).push (.arr ety sz (xs++ys) none),?_,.arr h.n [] none (by simp) ?_ (by exact dC) gQ,((Ext.refl gQ wf).set hi bB).push,((nC.refl _ _).set wf hg bB).push⟩
     ·rw[←hA]
      simp only[bN,Ly,hg]
      simp only[Bool.false_eq_true,if_false,true_and,Nat.zero_add,List.drop_zero]
      rw[if_pos ⟨by simp,hb,by omega⟩,if_neg BI,if_pos hl]
      simp
     ·simp
    | some c =>
     refine⟨.sl h.n sz 0 (xs.length+ys.length),h.push (.arr ety sz (xs++ys) none),?_,.arr h.n [] none (by simp) ?_ (by exact dC) gQ,(Ext.refl gQ wf).push,(nC.refl _ _).push⟩
     ·rw[←hA]
      rw[qL hg (by simp) (by omega) hb Bw hy]
      simp
     ·simp
structure kO(lo:Nat)(h:aA)(id ety sz:Nat)(xs:List DV):Prop where
 get:∃ sp cap,h.get id=some (.arr ety sz (xs++sp) cap)
 lim:h.lim≤id
 lo:lo≤id
theorem kO.toR{lo:Nat}{h:aA}{id ety sz:Nat}{xs:List DV}(w:kO lo h id ety sz xs):OwnR lo h (.sl id sz 0 xs.length) ety sz xs:=by
 obtain⟨⟨sp,cap,hg⟩,hl,hi⟩:=w
 exact .arr id sp cap rfl hg hl hi
theorem kO.lt{lo:Nat}{h:aA}{id ety sz:Nat}{xs:List DV}(w:kO lo h id ety sz xs):id<h.n:=by
 obtain⟨⟨sp,cap,hg⟩,_,_⟩:=w
 exact cV hg
theorem kO.fresh{lo:Nat}{h:aA}{ety sz:Nat}{xs:List DV}{cap:Option Nat}(dC:h.lim≤h.n)(gQ:lo≤h.n):kO lo (h.push (.arr ety sz xs cap)) h.n ety sz xs:=⟨⟨[],cap,by simp[bQ]⟩,dC,gQ⟩
theorem kO.push{lo:Nat}{h:aA}{id ety sz:Nat}{xs:List DV}{o:DO}(w:kO lo h id ety sz xs):kO lo (h.push o) id ety sz xs:=by
 obtain⟨⟨sp,cap,hg⟩,hl,hi⟩:=w
 exact⟨⟨sp,cap,by rw[bQ,if_neg (by have:=cV hg;omega)];exact hg⟩,hl,hi⟩
theorem kO.keep{lo:Nat}{h h':aA}{id ety e2 sz:Nat}{xs:List DV}(w:kO lo h id e2 sz xs)(x:nC ety h h')(hl:h'.lim=h.lim)(dA:e2≠ety):kO lo h' id e2 sz xs:=by
 obtain⟨⟨sp,cap,hg⟩,dC,hi⟩:=w
 exact⟨⟨sp,cap,x _ _ hg (fun s ys c e=>by injection e with e1;exact dA e1)⟩,by rw[hl];exact dC,hi⟩
theorem kO.zH{lo:Nat}{h:aA}{id ety sz:Nat}{xs:List DV}(w:kO lo h id ety sz xs)(wf:WF h){k:Nat}{o:DO}(dG:k<lo)(hn:k<h.n):kO lo (h.set k o) id ety sz xs:=by
 obtain⟨⟨sp,cap,hg⟩,hl,hi⟩:=w
 exact⟨⟨sp,cap,by rw[iO wf hn,if_neg (by omega)];exact hg⟩,hl,hi⟩
theorem kO.wl{lo:Nat}{h:aA}{id ety sz:Nat}{xs:List DV}(w:kO lo h id ety sz xs){m:Nat}(hm:m≤lo):kO lo (Dm.wl h m) id ety sz xs:=by
 obtain⟨⟨sp,cap,hg⟩,hl,hi⟩:=w
 exact⟨⟨sp,cap,hg⟩,Nat.le_trans hm hi,hi⟩
theorem kO.ext{lo:Nat}{h h':aA}{id ety sz:Nat}{xs:List DV}(w:kO lo h id ety sz xs)(x:Ext h.n h h'):kO lo h' id ety sz xs:=by
 have:=w.lt
 obtain⟨⟨sp,cap,hg⟩,hl,hi⟩:=w
 exact⟨⟨sp,cap,(x.get id this).trans hg⟩,by rw[x.lim];exact hl,hi⟩
theorem kO.append{lo:Nat}{h:aA}{id ety sz bytes:Nat}{xs ys:List DV}{A:Option (DV×aA)}{n:Nat}(w:kO lo h id ety sz xs)(hn:n=xs.length)(wf:WF h)(gQ:lo≤h.n)(dC:h.lim≤h.n)(hA:bN h ety sz bytes (.sl id sz 0 n) ys=A)
  (hb:(xs.length+ys.length)*bytes≤140737488355328) (Bw:1≤bytes):∃ id' h',A=some (.sl id' sz 0 (xs.length+ys.length),h')∧kO lo h' id' ety sz (xs++ys)∧Ext lo h h'∧nC ety h h'∧(id'=id∨h.n≤id'):=by
 subst hn
 have hm:xs.length+ys.length≤140737488355328:=Nat.le_trans (Nat.le_mul_of_pos_right _ Bw) hb
 by_cases hy:ys=[]
 ·subst hy
  refine⟨id,h,?_,by simpa using w,.refl gQ wf,.refl _ _,.inl rfl⟩
  rw[←hA];rfl
 ·have Ly:ys.isEmpty=false:=by cases ys<;>simp_all
  obtain⟨⟨sp,cap,hg⟩,hl,hi⟩:=w
  have bB:=cV hg
  by_cases BI:xs.length+ys.length≤(xs++sp).length
  ·refine⟨id,h.set id (.arr ety sz (dS (xs++sp) ys xs.length) cap),?_,⟨⟨sp.drop ys.length,cap,?_⟩,hl,hi⟩,(Ext.refl gQ wf).set hi bB,(nC.refl _ _).set wf hg bB,.inl rfl⟩
   ·rw[←hA];exact tJ hg BI hl hb Bw hy
   ·rw[iO wf bB,if_pos rfl]
    simp only[dS,List.take_left',List.append_assoc]
    congr 3
    rw[List.drop_append]
    simp
  ·cases cap with
   | none =>
    refine⟨h.n,(h.set id .dead).push (.arr ety sz (xs++ys) none),?_,⟨⟨[],none,?_⟩,dC,gQ⟩,((Ext.refl gQ wf).set hi bB).push,((nC.refl _ _).set wf hg bB).push,.inr (Nat.le_refl _)⟩
    ·rw[←hA]
     simp only[bN,Ly,hg]
     simp only[Bool.false_eq_true,if_false,true_and,Nat.zero_add,List.drop_zero]
     rw[if_pos ⟨by simp,hb,by omega⟩,if_neg BI,if_pos hl]
     simp
    ·simp
   | some c =>
    refine⟨h.n,h.push (.arr ety sz (xs++ys) none),?_,⟨⟨[],none,?_⟩,dC,gQ⟩,(Ext.refl gQ wf).push,(nC.refl _ _).push,.inr (Nat.le_refl _)⟩
    ·rw[←hA]
     rw[qL hg (by simp) (by omega) hb Bw hy]
     simp
    ·simp
theorem Za(h:aA)(t:Bool)(sz:Nat)(xs:List DV):elems h sz (.isl t sz xs)=some xs:=by simp[elems]
theorem F4(t:Bool)(sz:Nat)(xs:List DV):zD (.isl t sz xs)=none:=_root_.id rfl
theorem Xx(t:Bool)(sz:Nat)(xs:List DV):mapId (.isl t sz xs)=none:=_root_.id rfl
theorem Jp{α:Type}(h:aA)(t:Bool)(sz:Nat)(e:α→DV)(xs:List α)(k:IntKind)(i:Nat)(hi:i≤xs.length):jZ h sz (eL t sz e xs) none (some (.int k (i:Int)))=some (.isl (t && !xs.isEmpty) sz ((xs.take i).map e)):=by
 cases xs with
 | nil =>
  have h0:i=0:=by simpa using hi
  subst h0
  simp[Bb,jZ,cK,asI]
 | cons x xs =>
  have h2:(i:Int)≤((xs.length+1:Nat):Int):=by simp at hi;omega
  rw[oO]
  simp only[jZ,List.length_cons,List.length_map,cK,asI]
  simp only[List.isEmpty_cons,Bool.not_false,Bool.and_true,true_or,if_true,Int.natCast_nonneg,h2,and_self,Int.toNat_natCast,List.drop_zero,Nat.sub_zero]
  rw[←List.map_cons,←List.map_take]
theorem uA{α:Type}(h:aA)(t:Bool)(sz:Nat)(e:α→DV)(xs:List α)(k:IntKind)(i:Nat)(hi:i≤xs.length):jZ h sz (eL t sz e xs) (some (.int k (i:Int))) none=some (.isl (t && !xs.isEmpty) sz ((xs.drop i).map e)):=by
 cases xs with
 | nil =>
  have h0:i=0:=by simpa using hi
  subst h0
  simp[Bb,jZ,cK,asI]
 | cons x xs =>
  have h2:(i:Int)≤((xs.length+1:Nat):Int):=by simp at hi;omega
  rw[oO]
  simp only[jZ,List.length_cons,List.length_map,cK,asI]
  simp only[List.isEmpty_cons,Bool.not_false,Bool.and_true,true_or,if_true,Int.natCast_nonneg,h2,and_self,Int.toNat_natCast]
  rw[←List.map_cons,←List.map_drop,List.take_of_length_le (by simp)]
theorem Fk{α:Type}(h:aA)(t:Bool)(sz:Nat)(e:α→DV)(xs:List α)(k:IntKind)(i:Nat)(hi:i+1≤xs.length):jZ h sz (eL t sz e xs) (some (.int k ((i:Int)+1))) none=some (.isl (t && !xs.isEmpty) sz ((xs.drop (i+1)).map e)):=by
 have:=uA h t sz e xs k (i+1) hi
 rwa[Int.natCast_add]at this
attribute [simp] Za F4 Xx Jp uA Fk
mutual
theorem DV.beq_refl:∀v:DV,DV.beq v v=true
 | .unk|.nilp|.nsl|.nmap|.nilf|.nili=>rfl
 | .bool _|.int _ _|.str _|.ptr ..|.sl ..|.map _|.tok _|.atl _=>by simp[DV.beq]
 | .iptr l xs o=>by simp[DV.beq,kX xs]
 | .isl l s xs=>by simp[DV.beq,kX xs]
 | .func f xs=>by simp[DV.beq,kX xs]
 | .iface t v=>by simp[DV.beq,DV.beq_refl v]
 | .agg xs=>by simp[DV.beq,kX xs]
 | .tup xs=>by simp[DV.beq,kX xs]
theorem kX:∀l:List DV,rQ l l=true
 | []=>rfl
 | x::xs=>by simp[rQ,DV.beq_refl x,kX xs]
end
inductive Dep:Nat→DV→Prop where
 | int (k:IntKind) (n:Int) {d:Nat}:Dep (d+1) (.int k n)
 | bool (b:Bool) {d:Nat}:Dep (d+1) (.bool b)
 | str (s:List UInt8) {d:Nat}:Dep (d+1) (.str s)
 | isl (t:Bool) (sz:Nat) (xs:List DV) {d:Nat} (h:∀x∈xs,Dep d x):Dep (d+1) (.isl t sz xs)
 | agg (xs:List DV) {d:Nat} (h:∀x∈xs,Dep d x):Dep (d+1) (.agg xs)
theorem Dep.belowN{d:Nat}{v:DV}(h:Dep d v):∀{n N:Nat},d≤n→Dm.cZ n N v=true:=by
 induction h with
 | int k n=>intro m N hm;obtain⟨q,rfl,_⟩:=bR hm;rfl
 | bool b=>intro m N hm;obtain⟨q,rfl,_⟩:=bR hm;rfl
 | str s=>intro m N hm;obtain⟨q,rfl,_⟩:=bR hm;rfl
 | isl t sz xs h ih=>intro m N hm;obtain⟨q,rfl,hq⟩:=bR hm;rfl
 | agg xs h ih =>
  intro m N hm;obtain⟨q,rfl,hq⟩:=bR hm
  simp only[Dm.cZ,List.all_eq_true]
  exact fun x hx=>ih x hx hq
theorem Dep.eL{α:Type}{d:Nat}(t:Bool)(sz:Nat){e:α→DV}{xs:List α}(h:∀x∈xs,Dep d (e x)):Dep (d+1) (eL t sz e xs):=by
 cases xs with
 | nil=>exact .isl _ _ _ (fun x hx=>by cases hx)
 | cons x r =>
  rw[oO,←List.map_cons]
  refine .isl _ _ _ fun y hy=>?_
  obtain⟨z,hz,rfl⟩:=List.mem_map.1 hy
  exact h z hz
theorem Dep.mono{d:Nat}{v:DV}(h:Dep d v):∀{e:Nat},d≤e→Dep e v:=by
 induction h with
 | int k n=>intro e he;obtain⟨q,rfl,_⟩:=bR he;exact .int _ _
 | bool b=>intro e he;obtain⟨q,rfl,_⟩:=bR he;exact .bool _
 | str s=>intro e he;obtain⟨q,rfl,_⟩:=bR he;exact .str _
 | isl t sz xs h ih=>intro e he;obtain⟨q,rfl,hq⟩:=bR he;exact .isl _ _ _ fun x hx=>ih x hx hq
 | agg xs h ih=>intro e he;obtain⟨q,rfl,hq⟩:=bR he;exact .agg _ fun x hx=>ih x hx hq
theorem oJ{cs:List DV}(h:∀x∈cs,lL 1 x):lL 20 (.agg cs):=(Ar h).mono (by decide)
theorem qQ{cs:List DV}(h:∀x∈cs,Unl 21 x):Unl 22 (.agg cs):=Tk h
theorem Kv(x:ID):lL 20 (eID x)∧Unl 22 (eID x):=⟨oJ (by
 intro x hx;simp only[List.mem_cons,List.not_mem_nil,or_false]at hx
 rcases hx with rfl|rfl<;>exact gV _ _),qQ (by
 intro x hx;simp only[List.mem_cons,List.not_mem_nil,or_false]at hx
 rcases hx with rfl|rfl<;>exact(qP _ _).mono (by decide))⟩
theorem Gc(a:mN):lL 20 (oP a)∧Unl 22 (oP a):=⟨oJ (by
 intro x hx;simp only[List.mem_cons,List.not_mem_nil,or_false]at hx
 rcases hx with rfl|rfl|rfl|rfl<;>first|exact gV _ _|exact wD _),qQ (by
 intro x hx;simp only[List.mem_cons,List.not_mem_nil,or_false]at hx
 rcases hx with rfl|rfl|rfl|rfl<;>first|exact(qP _ _).mono (by decide)|exact tP _)⟩
theorem Kx(a:bC):lL 20 (tA a)∧Unl 22 (tA a):=⟨oJ (by
 intro x hx;simp only[List.mem_cons,List.not_mem_nil,or_false]at hx
 rcases hx with rfl|rfl|rfl|rfl|rfl|rfl|rfl<;>first|exact gV _ _|exact wD _|exact Ei _),qQ (by
 intro x hx;simp only[List.mem_cons,List.not_mem_nil,or_false]at hx
 rcases hx with rfl|rfl|rfl|rfl|rfl|rfl|rfl<;>first|exact(qP _ _).mono (by decide)|exact tP _|exact(C0 _).mono (by decide))⟩
theorem Xg(a:A5):lL 20 (Sn a)∧Unl 22 (Sn a):=⟨oJ (by
 intro x hx;simp only[List.mem_cons,List.not_mem_nil,or_false]at hx
 rcases hx with rfl|rfl|rfl<;>first|exact gV _ _|exact wD _),qQ (by
 intro x hx;simp only[List.mem_cons,List.not_mem_nil,or_false]at hx
 rcases hx with rfl|rfl|rfl<;>first|exact(qP _ _).mono (by decide)|exact tP _)⟩
theorem Qm(n:Int):lL 20 (iT n)∧Unl 22 (iT n):=⟨(gV _ _).mono (by decide),(qP _ _).mono (by decide)⟩
theorem W2(n:Nat)(xs:List Int):aO (n+23) (eL false 1 iT xs)=true:=nM (fun x _=>(Qm x).2) _ (by omega)
theorem DS(n:Nat)(xs:List ID):aO (n+23) (eL false 2 eID xs)=true:=nM (fun x _=>(Kv x).2) _ (by omega)
theorem Om(n:Nat)(xs:List mN):aO (n+23) (eL false 4 oP xs)=true:=nM (fun x _=>(Gc x).2) _ (by omega)
theorem Ol(n:Nat)(xs:List bC):aO (n+23) (eL false 7 tA xs)=true:=nM (fun x _=>(Kx x).2) _ (by omega)
theorem V7(n:Nat)(xs:List A5):aO (n+23) (eL false 3 Sn xs)=true:=nM (fun x _=>(Xg x).2) _ (by omega)
attribute [simp] W2 DS Om Ol V7
end Go.Dm
/-
Arguments of a call from outside: what the frame tells of them,in the machine's form;a function with arguments that answers true.
-/
namespace Go.Dm
open Go.RowKit
theorem Zy {P : Program} {D : bA} (G : Df P D) {f : Nat} {fn : Func} {body : Code} (hf : P.funcs[f]? = some fn) (hb : fn.body = some body) (hn : fn.name ≠ "runtime.NumGoroutine") {ds : List DV} {vs : List Value} {h' : aA} (hr : fc D f ds fM = some (.bool true, h')) (w : World) (hg : De w) (hv : VRs (Bc w) ds vs) :
  Calls P f vs.toArray w fun e w'=>e=.returned (.bool true)∧T4 w w'∧∀b,b<w.heap.size→w'.heap[b]?=w.heap[b]?:=by
 obtain⟨n,he⟩:=yL.1 hr
 have hc:=Bk G n f ds fM _ h' (Bc w) vs he (RO w hg) hv
 have hen:=fZ hf hb hn vs.toArray w
 rcases hc with⟨v,w',fB,_⟩|⟨f',vals',fB,hcalls⟩
 ·have:(callFunc f vs.toArray).run P w=.ok (.value v) w':=fB
  rw[hen]at this
  cases this
 ·have h2:(callFunc f vs.toArray).run P w=.ok (.enter f' vals') w:=fB
  rw[hen]at h2
  cases h2
  refine hcalls.mono fun e w' hp=>?_
  obtain⟨v,e1,ρ',k1,k2,k3⟩:=hp
  exact⟨by rw[e1,k3.bool_inv],Mc k2,fun b hb=>k2.frame b hb fun h=>h⟩
structure Ic(c:Ctx)(w:World):Prop where
 w:c.w=w
 O:∀b,¬c.O b
 X:∀b,¬c.X b
theorem Ic.zero(w:World):Ic (Bc w) w:=⟨rfl,fun _ h=>h,fun _ h=>h⟩
theorem Ic.still{c:Ctx}{w:World}(h:Ic c w):Ic c.still w:=⟨h.w,h.O,h.X⟩
theorem Ul{α:Type}{p:Nat→α→Prop}:∀n,(∀i,i<n→∃ a,p i a)→∃ l:List α,l.length=n∧∀i (hi:i<l.length),p i l[i]
 | 0,_=>⟨[],rfl,fun i hi=>absurd hi (Nat.not_lt_zero _)⟩
 | n+1,h=>by
  obtain⟨l,hl,hp⟩:=Ul n fun i hi=>h i (Nat.lt_succ_of_lt hi)
  obtain⟨a,ha⟩:=h n (Nat.lt_succ_self n)
  refine⟨l++[a],by simp[hl],fun i hi=>?_⟩
  by_cases bB:i<l.length
  ·rw[List.getElem_append_left bB];exact hp i bB
  ·have:i=n:=by simp at hi;omega
   subst this
   rw[List.getElem_append_right (by omega)]
   simpa[hl]using ha
theorem Nx(b o n:Nat):(⟨b,o,none⟩:Addr).add n=⟨b,o+n,none⟩:=by
 unfold Addr.add
 split
 ·rename_i h;subst h;rfl
 ·rfl
theorem X4{w:World}{a:Addr}{v:Value}(h:w.cell? a=some v):a.spot=none∧a.block<w.heap.size:=by
 unfold World.cell? at h
 split at h
 ·rename_i hb
  refine⟨?_,?_⟩
  ·split at h
   ·cases h
   ·rename_i hs;cases hs2:a.spot with|none=>rfl|some x=>simp[hs2]at hs
  ·by_cases bB:a.block<w.heap.size
   ·exact bB
   ·rw[Array.getElem?_eq_none (by omega)]at hb;cases hb
 ·cases h
def iA(c:Ctx)(ds:List DV)(cs:List Value):Prop:=ds.length=cs.length∧∀i (h1:i<ds.length) (h2:i<cs.length),VR c ds[i] cs[i]∧(cs[i]).oneCell'=true
theorem iA.append{c:Ctx}{ds ds':List DV}{cs cs':List Value}(h:iA c ds cs)(h':iA c ds' cs'):iA c (ds++ds') (cs++cs'):=by
 refine⟨by rw[List.length_append,List.length_append,h.1,h'.1],fun i h1 h2=>?_⟩
 by_cases bB:i<ds.length
 ·rw[List.getElem_append_left bB,List.getElem_append_left (by rw[←h.1];exact bB)]
  exact h.2 i bB _
 ·rw[List.getElem_append_right (by omega),List.getElem_append_right (by rw[←h.1];omega)]
  have:i-cs.length=i-ds.length:=by rw[h.1]
  simp only[this]
  exact h'.2 (i-ds.length) (by rw[List.length_append]at h1;omega) _
theorem iA.one{c:Ctx}{d:DV}{v:Value}(h:VR c d v)(h1:v.oneCell'=true):iA c [d] [v]:=by
 refine⟨rfl,fun i h2 h3=>?_⟩
 have:i=0:=by simp at h2;omega
 subst this
 exact⟨h,h1⟩
theorem iA.nil{c:Ctx}:iA c [] []:=⟨rfl,fun i h=>absurd h (Nat.not_lt_zero _)⟩
section
variable {H:Type} {enc:TypeId×Value→H} {P:Program} {w:World} {sp:Nat→Bool} {rO:Bool}
theorem pN{t:TypeId}{cs:List Value}{fuel:Nat}{x:DataW H×List MemPlace}(ht:P.underlying t=some (.int .i64))(h:DataW.trod enc P w 0 sp rO fuel t cs=some x)(c:Ctx):∃ n:Int,iA c [.int .i64 n] cs:=by
 obtain⟨n,rfl,_,_⟩:=DataW.trod_int ht h
 exact⟨n,.one (.int _ _) rfl⟩
theorem Qd{α:Type}{t e:TypeId}{cs:List Value}{fuel sz:Nat}{x:DataW H×List MemPlace}(ht:P.underlying t=some (.slice e))(hz:P.cellsOf e=sz)(hz0:0<sz)(h:DataW.trod enc P w 0 sp rO fuel t cs=some x){c:Ctx}(hc:Ic c w)
  (en:α→DV) (good:α→Prop) (oC:∀ecs y n,DataW.trod enc P w 0 sp rO n e ecs=some y→∃ a,good a∧iA c.still (aF sz (en a)) ecs) :
  ∃ l:List α,(∀a∈l,good a)∧l.length≤maxLen∧iA c [eL false sz en l] cs:=by
 rcases DataW.trod_slice ht h with⟨rfl,_⟩|⟨a,len,cap,elems,rest,n,_,rfl,_,hb,hl,eU,hel1,hel2,_⟩
 ·exact⟨[],fun a h=>(by cases h),Nat.zero_le _,.one (.isl0 _ _) rfl⟩
 ·rw[hz]at hel2
  have B0:∀i,i<len→∃ p:α×List Value,good p.1∧w.cells? 0 (a.add (i*sz)) sz=some p.2∧iA c.still (aF sz (en p.1)) p.2:=fun i hi=>by
   have h1:=hel2 i hi
   rw[List.getElem?_eq_getElem (by omega)]at h1
   simp only[Option.bind_eq_some_iff]at h1
   obtain⟨ecs,h2,h3⟩:=h1
   obtain⟨b,h4,h5⟩:=oC _ _ _ h3
   exact⟨(b,ecs),h4,h2,h5⟩
  obtain⟨l,Ob,hlp⟩:=Ul len B0
  refine⟨l.map (·.1),?_,by rw[List.length_map,Ob];omega,.one ?_ rfl⟩
  ·intro b hb
   obtain⟨p,hp,rfl⟩:=List.mem_map.1 hb
   obtain⟨i,hi,rfl⟩:=List.mem_iff_getElem.1 hp
   exact(hlp i hi).1
  ·by_cases h0:len=0
   ·have:l=[]:=List.eq_nil_of_length_eq_zero (by omega)
    subst this
    subst h0
    exact .isl0 _ _
   ·have dA:l≠[]:=fun e=>h0 (by rw[←Ob,e];rfl)
    have hne':l.map (·.1)≠[]:=by simpa using dA
    have sG:∀i (hi:i<l.length) j,j<sz→w.cell? ((a.add (i*sz)).add j)=(l[i]).2[j]?∧(l[i]).2.length=sz:=fun i hi j hj=>by
     obtain⟨_,k2,k3⟩:=World.cells?_some (hlp i hi).2.1
     exact⟨k3 j hj,k2⟩
    have pB:0<l.length:=by omega
    have h00:=sG 0 pB 0 hz0
    have ha0:(a.add (0*sz)).add 0=a:=by simp[Addr.add]
    rw[ha0,List.getElem?_eq_getElem (by rw[h00.2];exact hz0)]at h00
    obtain⟨hs,hbk⟩:=X4 h00.1
    obtain⟨b,o,s⟩:=a
    simp only at hs hbk
    subst hs
    rw[DE false sz en hne']
    have BM:∀i (hi:i<l.length) j (hj:j<sz),w.cell? ⟨b,o+i*sz+j,none⟩=some ((l[i]).2[j]'(by rw[(sG i hi j hj).2];exact hj)):=fun i hi j hj=>by
     have k1:=(sG i hi j hj).1
     rw[Nx,Nx]at k1
     exact k1.trans (List.getElem?_eq_getElem _)
    refine .isl (fun i j=>(w.cell? ⟨b,o+i*sz+j,none⟩).getD undef) (by simp[Ob]) hl (by rw[hc.w];exact hbk) (hc.O b) (fun _=>hc.X b) ?_ ?_ ?_
    ·intro i hi
     simp only[List.length_map]at hi
     simp only[List.getElem_map]
     have:=(hlp i hi).2.2.1
     rw[this]
     exact(sG i hi 0 hz0).2
    ·intro i j hi hj
     simp only[List.length_map]at hi
     rw[hc.w,BM i hi j hj]
     have h5:=(hlp i hi).2.2
     have h6:=(sG i hi j hj).2
     exact⟨rfl,(h5.2 j (by rw[h5.1,h6];exact hj) (by rw[h6];exact hj)).2⟩
    ·intro i hi j hj
     simp only[List.length_map]at hi
     simp only[List.getElem_map]at hj ⊢
     have h5:=(hlp i hi).2.2
     have h6:=(sG i hi 0 hz0).2
     have nI:j<sz:=by rw[h5.1,h6]at hj;exact hj
     have h7:=(h5.2 j hj (by rw[h6];exact nI)).1
     have h8:(w.cell? ⟨b,o+i*sz+j,none⟩).getD undef=(l[i]).2[j]'(by rw[h6];exact nI):=by rw[BM i hi j nI];rfl
     simp only[h8]
     exact h7
theorem Y1{w':World}(hg:∀b,b<w.heap.size→w'.heap[b]?=w.heap[b]?){p:MemPlace}(hp:p.block<w.heap.size):w.sameAt w' p:=by
 cases p with
 | cell b off =>
  show w'.cell? ⟨b,off,none⟩=w.cell? ⟨b,off,none⟩
  unfold World.cell?
  rw[hg b hp]
 | map b=>exact hg b hp
theorem tQ{w':World}(hg:∀b,b<w.heap.size→w'.heap[b]?=w.heap[b]?)(sp':Nat→Bool):∀{ts:List TypeId} {vs:List Value} {ds:List (DataW H)} {ps:List MemPlace},DataW.TrodAll enc P w 0 sp' rO ts vs ds ps→(∀p∈ps,p.block<w.heap.size)→DataW.TrodAll enc P w' 0 sp' rO ts vs ds ps
 | [],[],[],_,h,_=>h
 | t::ts,v::vs,d::ds,ps,h,hl=>by
  obtain⟨p,q,⟨fuel,h1⟩,h2,rfl⟩:=h
  exact⟨p,q,⟨fuel,DataW.trod_carry _ _ _ _ h1 fun x hx=>Y1 hg (hl x (List.mem_append.2 (.inl hx)))⟩,tQ hg sp' h2 fun x hx=>hl x (List.mem_append.2 (.inr hx)),rfl⟩
end
end Go.Dm
