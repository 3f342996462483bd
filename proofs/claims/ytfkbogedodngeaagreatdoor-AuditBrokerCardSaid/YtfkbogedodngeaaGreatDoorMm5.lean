/- A part of the proof. -/
import Derived.Test.YtfkbogedodngeaaGreatDoorMm4
import Derived.IntWalk
import Derived.ChangeArms
import Derived.ChangeSame
set_option linter.all false
namespace Go.Dm
abbrev dJ:=Nat→DV
def tab(N:Nat)(f:dJ):Env:=(List.range N).map f
def upd(f:dJ)(d:Nat)(v:DV):dJ:=fun i=>if i=d then v else f i
def sY(f:dJ)(dst:Option Nat)(v:DV):dJ:=match dst with|some d=>upd f d v|none=>f
def rd(N:Nat)(f:dJ)(i:Nat):DV:=if i<N then f i else .unk
def MZ(args:List DV):dJ:=fun i=>args.getD i bR
theorem xJ(N:Nat)(f:dJ)(i:Nat):(tab N f)[i]?=if i<N then some (f i)else none:=by
 by_cases h:i<N
 ·simp[tab,h]
 ·simp only[tab,List.getElem?_map,if_neg h]
  rw[List.getElem?_eq_none (by simp;omega)];rfl
theorem Gr(N:Nat)(f:dJ)(i:Nat):((tab N f)[i]?).getD .unk=rd N f i:=by
 rw[xJ];unfold rd;split<;>rfl
theorem OQ(N:Nat)(f:dJ)(d:Nat)(v:DV):(tab N f).set d v=tab N (upd f d v):=by
 apply List.ext_getElem?
 intro i
 rw[List.getElem?_set,xJ,xJ]
 simp only[tab,List.length_map,List.length_range,upd]
 by_cases e:d=i
 ·subst e
  by_cases h:d<N<;>simp[h]
 ·have e':¬i=d:=fun q=>e q.symm
  simp only[if_neg e,if_neg e']
theorem rY(N:Nat)(f:dJ)(dst:Option Nat)(v:DV):put (tab N f) dst v=tab N (sY f dst v):=by
 cases dst with
 | none=>rfl
 | some d=>exact OQ N f d v
theorem HL(N:Nat)(args:List DV)(h:args.length≤N):args++List.replicate (N-args.length) bR=tab N (MZ args):=by
 apply List.ext_getElem?
 intro i
 rw[xJ,List.getElem?_append]
 unfold MZ
 by_cases h1:i<args.length
 ·rw[if_pos h1,if_pos (by omega)]
  simp[h1]
 ·rw[if_neg h1]
  by_cases h2:i<N
  ·rw[if_pos h2,List.getElem?_replicate,if_pos (by omega),List.getD_eq_getElem?_getD,List.getElem?_eq_none (by omega)];rfl
  ·rw[if_neg h2,List.getElem?_replicate,if_neg (by omega)]
theorem XK(N:Nat)(f:dJ)(i:Nat):Opd.eval (tab N f) (.t i)=rd N f i:=Gr N f i
theorem XL(env:Env)(v:DV):Opd.eval env (.c v)=v:=rfl
inductive Fr where
 | seq (b:aM)
 | block (id:Nat)
 | loop (b:aM)
noncomputable def zM(D:cL):List Fr→Ex→Env→aA→Res
 | [],e,env,h=>.ok e env h
 | .seq b::S,e,env,h=>match e with
  | .normal=>match ev D b env h with
   | .ok e env h=>zM D S e env h
   | .fail=>.fail
  | e=>zM D S e env h
 | .block id::S,e,env,h=>zM D S (match e with|.exit i=>if i=id then .normal else .exit i|e=>e) env h
 | .loop b::S,e,env,h=>match e with
  | .normal=>match ev D (.loop b) env h with
   | .ok e env h=>zM D S e env h
   | .fail=>.fail
  | e=>zM D S e env h
noncomputable def after(D:cL)(S:List Fr):Res→Res
 | .ok e env h=>zM D S e env h
 | .fail=>.fail
noncomputable def run(D:cL)(N:Nat)(S:List Fr)(c:aM)(f:dJ)(h:aA):Res:=after D S (ev D c (tab N f) h)
noncomputable def ret(D:cL)(N:Nat)(S:List Fr)(e:Ex)(f:dJ)(h:aA):Res:=zM D S e (tab N f) h
noncomputable def IW(D:cL)(N:Nat)(S:List Fr)(a b:aM)(f:dJ)(h:aA):DV→Res
 | .bool true=>run D N S a f h
 | .bool false=>run D N S b f h
 | _=>.fail
noncomputable def Bc(D:cL)(N:Nat)(S:List Fr)(ops:List aR)(f:dJ)(h:aA):Res :=
 match fL (fc D) ops (tab N f) h with
 | some (env,h)=>zM D S .normal env h
 | none=>.fail
noncomputable def CE(D:cL)(N:Nat)(S:List Fr)(dst:Option Nat)(r:List aR)(f:dJ):Option (DV×aA)→Res
 | some (v,h)=>Bc D N S r (sY f dst v) h
 | none=>.fail
noncomputable def CH(D:cL)(N:Nat)(S:List Fr)(o:aR)(w:Bool)(r:List aR)(f:dJ)(h:aA):DV→Res
 | .bool b=>if b=w then CE D N S o.dst r f (bO (fc D) o.op (tab N f) h)else Bc D N S r (sY f o.dst bR) h
 | .tup _=>Bc D N S r (sY f o.dst bR) h
 | _=>.fail
noncomputable def wB(D:cL)(N:Nat)(S:List Fr)(ops:List aR)(f:dJ)(hs:List aA)(L:cU):Res :=
 match eC (fc D) ops (tab N f) hs L with
 | some (env,h)=>zM D S .normal env h
 | none=>.fail
noncomputable def U5(D:cL)(N:Nat)(S:List Fr)(dst:Option Nat)(r:List aR)(f:dJ)(hs:List aA)(L:cU):Option (DV×aA)→Res
 | some (v,_)=>wB D N S r (sY f dst v) hs L
 | none=>.fail
noncomputable def U4(D:cL)(N:Nat)(S:List Fr)(dst:Option Nat)(r:List aR)(f:dJ)(hs:List aA)(L:cU):Option (DV×aA)→Res
 | some (v,h)=>wB D N S r (sY f dst v) (h::hs) L
 | none=>.fail
noncomputable def U3(D:cL)(N:Nat)(S:List Fr)(dst:Option Nat)(r:List aR)(f:dJ)(hs:List aA):Option (DV×aA×cU)→Res
 | some (v,h,L)=>wB D N S r (sY f dst v) (h::hs) L
 | none=>.fail
noncomputable def Vk(D:cL)(N:Nat)(S:List Fr)(dst:Option Nat)(op:DOp)(cm:Bool)(r:List aR)(f:dJ)(hs:List aA)(L:cU):Option aA→Res
 | some h0=>U5 D N S dst r f hs (L.see cm (mark (tab N f) op)) (aD h0 (tab N f) op)
 | none=>.fail
noncomputable def U6(D:cL)(N:Nat)(S:List Fr)(dst:Option Nat)(op:DOp)(r:List aR)(f:dJ)(h:aA)(gs:List aA)(L:cU):Option aA→Res
 | some h0=>U3 D N S dst r f (h::gs) (dD (fc D) h0.n gs.length L op (tab N f) h)
 | none=>.fail
noncomputable def Bd(D:cL)(N:Nat)(S:List Fr)(dst:Option Nat)(op:DOp)(snap:Nat)(cm:Bool)(r:List aR)(f:dJ)(hs:List aA)(L:cU):tQ→Res
 | .read=>if L.free snap (bT (tab N f) op)=true then Vk D N S dst op cm r f hs L (jM hs snap)else .fail
 | .write=>match hs with
  | h::_=>U4 D N S dst r f hs L (bO (fc D) op (tab N f) h)
  | []=>.fail
 | .create=>match hs with
  | h::gs=>U6 D N S dst op r f h gs L (jM hs snap)
  | []=>.fail
noncomputable def yQ(D:cL)(N:Nat)(S:List Fr)(dst:Option Nat)(k:tQ)(r:List aR)(f:dJ)(L:cU):List aA→Res
 | h::hs=>wB D N S r (sY f dst bR) (if k=.read then h::hs else h::h::hs) L
 | []=>.fail
noncomputable def Vm(D:cL)(N:Nat)(S:List Fr)(o:aR)(w:Bool)(r:List aR)(f:dJ)(hs:List aA)(L:cU):DV→Res
 | .bool b=>if b=w then Bd D N S o.dst o.op o.snap o.calm r f hs L o.kind else yQ D N S o.dst o.kind r f L hs
 | .tup _=>yQ D N S o.dst o.kind r f L hs
 | _=>.fail
noncomputable def Y2(D:cL)(as:List DV)(h:aA):DV→Option (DV×aA)
 | .func g cap=>fc D g (as++cap) h
 | _=>none
section
variable (D:cL) (N:Nat) (S:List Fr) (f:dJ) (h:aA)
theorem IM:run D N S .skip f h=ret D N S .normal f h:=by unfold run;rw[RQ];rfl
theorem IP(id:Nat):run D N S (.exit id) f h=ret D N S (.exit id) f h:=by unfold run;rw[RS];rfl
theorem PO:run D N S .ret f h=ret D N S .ret f h:=by unfold run;rw[XN];rfl
theorem PN(a b:aM):run D N S (.seq a b) f h=run D N (.seq b::S) a f h:=by
 unfold run
 rw[XM]
 cases ev D a (tab N f) h with
 | fail=>rfl
 | ok e env h1 =>
  cases e<;>simp only[after,zM]
theorem IR(c:Opd)(a b:aM):run D N S (.cond c a b) f h=IW D N S a b f h (c.eval (tab N f)):=by
 unfold run
 rw[RU]
 unfold IW
 split<;>simp_all[run,after]
theorem CC(id:Nat)(b:aM):run D N S (.block id b) f h=run D N (.block id::S) b f h:=by
 unfold run
 rw[LP]
 cases ev D b (tab N f) h with
 | fail=>rfl
 | ok e env h1 =>
  cases e with
  | exit i =>
   by_cases e:i=id
   ·simp only[after,zM,if_pos e]
   ·simp only[after,zM,if_neg e]
  | _=>rfl
theorem IN(b:aM):run D N S (.loop b) f h=run D N (.loop b::S) b f h:=by
 unfold run
 rw[RR]
 cases ev D b (tab N f) h with
 | fail=>rfl
 | ok e env h1 =>
  cases e<;>simp only[after,zM]
theorem F1(ops:List aR):run D N S (.region ops) f h=Bc D N S ops f h:=by
 unfold run Bc
 rw[ES]
 cases fL (fc D) ops (tab N f) h<;>rfl
theorem IQ(ops:List aR):run D N S (.draw ops) f h=wB D N S ops f [h] .start:=by
 unfold run wB
 rw[RT]
 cases eC (fc D) ops (tab N f) [h] .start<;>rfl
theorem CK(a b:aM):IW D N S a b f h (.bool true)=run D N S a f h:=rfl
theorem G4(a b:aM):IW D N S a b f h (.bool false)=run D N S b f h:=rfl
theorem IV(a b:aM)(t:Bool):IW D N S a b f h (.bool t)=if t=true then run D N S a f h else run D N S b f h:=by cases t<;>rfl
theorem PQ(e:Ex):ret D N [] e f h=.ok e (tab N f) h:=rfl
theorem PP(b:aM):ret D N (.seq b::S) .normal f h=run D N S b f h:=by
 unfold ret run;simp only[zM];cases ev D b (tab N f) h<;>rfl
theorem Qv(b:aM)(i:Nat):ret D N (.seq b::S) (.exit i) f h=ret D N S (.exit i) f h:=rfl
theorem Vo(b:aM):ret D N (.seq b::S) .ret f h=ret D N S .ret f h:=rfl
theorem CN(id:Nat):ret D N (.block id::S) .normal f h=ret D N S .normal f h:=rfl
theorem Lk(id:Nat):ret D N (.block id::S) .ret f h=ret D N S .ret f h:=rfl
theorem Ib(id i:Nat):ret D N (.block id::S) (.exit i) f h=ret D N S (if i=id then .normal else .exit i) f h:=rfl
theorem IX(b:aM):ret D N (.loop b::S) .normal f h=run D N S (.loop b) f h:=by
 unfold ret run;simp only[zM];cases ev D (.loop b) (tab N f) h<;>rfl
theorem Lj(b:aM)(i:Nat):ret D N (.loop b::S) (.exit i) f h=ret D N S (.exit i) f h:=rfl
theorem Qw(b:aM):ret D N (.loop b::S) .ret f h=ret D N S .ret f h:=rfl
theorem IS:Bc D N S [] f h=ret D N S .normal f h:=rfl
theorem CF(dst:Option Nat)(op:DOp)(k:tQ)(s:Nat)(cm:Bool)(r:List aR) :
  Bc D N S (⟨dst,op,none,k,s,cm⟩::r) f h=CE D N S dst r f (bO (fc D) op (tab N f) h):=by
 unfold Bc
 simp only[fL,iI]
 cases bO (fc D) op (tab N f) h with
 | none=>rfl
 | some p=>simp only[CE,rY];rfl
theorem F3(dst:Option Nat)(op:DOp)(t:Nat)(w:Bool)(k:tQ)(s:Nat)(cm:Bool)(r:List aR) :
  Bc D N S (⟨dst,op,some (t,w),k,s,cm⟩::r) f h=CH D N S ⟨dst,op,some (t,w),k,s,cm⟩ w r f h (rd N f t):=by
 unfold Bc
 simp only[fL,iI,xJ]
 unfold rd
 by_cases aZ:t<N
 ·simp only[if_pos aZ]
  cases hv:f t with
  | bool b =>
   simp only[CH]
   by_cases e:b=w
   ·subst e
    simp only[beq_self_eq_true,if_true]
    cases bO (fc D) op (tab N f) h with
    | none=>rfl
    | some p=>simp only[CE,rY];rfl
   ·have:(b == w)=false:=by simpa using e
    simp only[this,if_neg e,rY];rfl
  | tup l=>simp only[CH,rY];rfl
  | _=>rfl
 ·simp only[if_neg aZ];rfl
theorem CD(dst:Option Nat)(r:List aR)(v:DV):CE D N S dst r f (some (v,h))=Bc D N S r (sY f dst v) h:=rfl
theorem CG(o:aR)(w:Bool)(r:List aR)(b:Bool):CH D N S o w r f h (.bool b)=if b=w then CE D N S o.dst r f (bO (fc D) o.op (tab N f) h)else Bc D N S r (sY f o.dst bR) h:=rfl
theorem IT(o:aR)(w:Bool)(r:List aR)(l:List DV):CH D N S o w r f h (.tup l)=Bc D N S r (sY f o.dst bR) h:=rfl
variable (hs:List aA) (L:cU)
theorem IU:wB D N S [] f (h::hs) L=ret D N S .normal f h:=rfl
theorem Na(dst:Option Nat)(op:DOp)(k:tQ)(s:Nat)(cm:Bool)(r:List aR)(g:Option (Nat×Bool)) :
  wB D N S (⟨dst,op,g,k,s,cm⟩::r) f (h::hs) L=(match iI (tab N f) g with
   | none=>.fail
   | some true=>Bd D N S dst op s cm r f (h::hs) L k
   | some false=>yQ D N S dst k r f L (h::hs)):=by
 unfold wB
 simp only[eC]
 cases iI (tab N f) g with
 | none=>rfl
 | some t =>
  cases t with
  | false=>simp only[yQ,rY];rfl
  | true =>
   simp only[Bd]
   cases k with
   | read =>
    simp only
    by_cases rQ:L.free s (bT (tab N f) op)=true
    ·simp only[if_pos rQ,Vk]
     cases jM (h::hs) s with
     | none=>rfl
     | some h0 =>
      simp only
      cases aD h0 (tab N f) op with
      | none=>rfl
      | some p=>simp only[U5,rY];rfl
    ·simp only[if_neg rQ]
   | write =>
    simp only
    cases bO (fc D) op (tab N f) h with
    | none=>rfl
    | some p=>simp only[U4,rY];rfl
   | create =>
    simp only[U6]
    cases jM (h::hs) s with
    | none=>rfl
    | some h0 =>
     simp only
     cases dD (fc D) h0.n hs.length L op (tab N f) h with
     | none=>rfl
     | some p=>simp only[U3,rY];rfl
theorem CI(dst:Option Nat)(op:DOp)(k:tQ)(s:Nat)(cm:Bool)(r:List aR) :
  wB D N S (⟨dst,op,none,k,s,cm⟩::r) f (h::hs) L=Bd D N S dst op s cm r f (h::hs) L k:=by rw[Na];rfl
theorem F5(dst:Option Nat)(op:DOp)(t:Nat)(w:Bool)(k:tQ)(s:Nat)(cm:Bool)(r:List aR) :
  wB D N S (⟨dst,op,some (t,w),k,s,cm⟩::r) f (h::hs) L=Vm D N S ⟨dst,op,some (t,w),k,s,cm⟩ w r f (h::hs) L (rd N f t):=by
 rw[Na]
 simp only[iI,xJ]
 unfold rd
 by_cases aZ:t<N
 ·simp only[if_pos aZ]
  cases hv:f t with
  | bool b =>
   simp only[Vm]
   by_cases e:b=w
   ·subst e;simp
   ·have:(b == w)=false:=by simpa using e
    simp only[this,if_neg e]
  | _=>rfl
 ·simp only[if_neg aZ];rfl
theorem G2(o:aR)(w:Bool)(r:List aR)(b:Bool):Vm D N S o w r f hs L (.bool b)=if b=w then Bd D N S o.dst o.op o.snap o.calm r f hs L o.kind else yQ D N S o.dst o.kind r f L hs:=rfl
theorem CJ(o:aR)(w:Bool)(r:List aR)(l:List DV):Vm D N S o w r f hs L (.tup l)=yQ D N S o.dst o.kind r f L hs:=rfl
theorem F9(dst:Option Nat)(r:List aR):yQ D N S dst .read r f L (h::hs)=wB D N S r (sY f dst bR) (h::hs) L:=rfl
theorem Vh(dst:Option Nat)(r:List aR):yQ D N S dst .write r f L (h::hs)=wB D N S r (sY f dst bR) (h::h::hs) L:=rfl
theorem Qr(dst:Option Nat)(r:List aR):yQ D N S dst .create r f L (h::hs)=wB D N S r (sY f dst bR) (h::h::hs) L:=rfl
theorem G0(dst:Option Nat)(op:DOp)(s:Nat)(cm:Bool)(r:List aR):Bd D N S dst op s cm r f hs L .read=if L.free s (bT (tab N f) op)=true then Vk D N S dst op cm r f hs L (jM hs s)else .fail:=rfl
theorem Vi(dst:Option Nat)(op:DOp)(s:Nat)(cm:Bool)(r:List aR):Bd D N S dst op s cm r f (h::hs) L .write=U4 D N S dst r f (h::hs) L (bO (fc D) op (tab N f) h):=rfl
theorem Qs(dst:Option Nat)(op:DOp)(s:Nat)(cm:Bool)(r:List aR):Bd D N S dst op s cm r f (h::hs) L .create=U6 D N S dst op r f h hs L (jM (h::hs) s):=rfl
theorem G1(dst:Option Nat)(op:DOp)(cm:Bool)(r:List aR)(h0:aA):Vk D N S dst op cm r f hs L (some h0)=U5 D N S dst r f hs (L.see cm (mark (tab N f) op)) (aD h0 (tab N f) op):=rfl
theorem G3(dst:Option Nat)(op:DOp)(r:List aR)(h0:aA):U6 D N S dst op r f h hs L (some h0)=U3 D N S dst r f (h::hs) (dD (fc D) h0.n hs.length L op (tab N f) h):=rfl
theorem F8(dst:Option Nat)(r:List aR)(v:DV):U5 D N S dst r f hs L (some (v,h))=wB D N S r (sY f dst v) hs L:=rfl
theorem F7(dst:Option Nat)(r:List aR)(v:DV):U4 D N S dst r f hs L (some (v,h))=wB D N S r (sY f dst v) (h::hs) L:=rfl
theorem F6(dst:Option Nat)(r:List aR)(v:DV):U3 D N S dst r f hs (some (v,h,L))=wB D N S r (sY f dst v) (h::hs) L:=rfl
theorem BT(k:Nat):jM hs k=hs.reverse[k]?:=by
 unfold jM
 split
 ·rename_i hk;rw[List.getElem?_reverse hk]
 ·rename_i hk;rw[List.getElem?_eq_none (by simp;omega)]
theorem J3(g:Opd)(args:List Opd)(env:Env):bO (fc D) (.call g args) env h=Y2 D (args.map (Opd.eval env)) h (g.eval env):=by
 simp only[bO,Y2]
 split<;>simp_all
theorem Q4(as:List DV)(g:Nat)(cap:List DV):Y2 D as h (.func g cap)=fc D g (as++cap) h:=rfl
def fin(rs:List Mn):Res→Option (DV×aA)
 | .ok (.exit _) _ _=>none
 | .ok _ env h'=>match aT h' env rs with
  | some v=>some (v,h')
  | none=>none
 | .fail=>none
def LN(h:aA):Option DV→Option (DV×aA)
 | some v=>some (v,h)
 | none=>none
theorem RP(rs:List Mn)(env:Env):fin rs (.ok .ret env h)=LN h (aT h env rs):=by
 unfold fin LN;rfl
theorem O7(rs:List Mn)(env:Env):fin rs (.ok .normal env h)=LN h (aT h env rs):=by
 unfold fin LN;rfl
theorem EM(v:DV):LN h (some v)=some (v,h):=rfl
theorem aP(df:aS)(args:List DV)(hl:args.length≤df.ntmps):kY (ev D) df args h=fin df.results (run D df.ntmps [] df.body (MZ args) h):=by
 unfold kY run
 rw[HL _ _ hl]
 cases ev D df.body (tab df.ntmps (MZ args)) h with
 | fail=>rfl
 | ok e env h1=>cases e<;>rfl
theorem Lm(env:Env)(r:Mn):aT h env [r]=kQ h env r:=rfl
theorem G6(n:Nat):kQ h (tab N f) (.t n)=some (rd N f n):=by simp only[kQ,Gr]
theorem Ln(a:Nat)(n:Option Nat):kQ h (tab N f) (.cell a n)=kH h n (rd N f a):=by simp only[kQ,Gr]
end
def pY:aA:={objs:=[],n:=0,lim:=0}
noncomputable def dY(o:Option (DV×aA)):Option DV :=
 match o with
 | some (v,h')=>match resolve false h' cO v with
  | some d=>if bH cO d then some d else none
  | none=>none
 | none=>none
noncomputable def pcF(D:cL)(df:aS)(ds:List DV):Option DV:=dY (kY (ev D) df ds pY)
def dO(h:aA):Option DV→Option (DV×aA)
 | some d=>some (d,h)
 | none=>none
theorem Ah(h:aA)(d:DV):dO h (some d)=some (d,h):=rfl
noncomputable def tP(D:cL)(df:aS)(h:aA):Option (List DV)→Option (DV×aA)
 | some ds=>dO h (pcF D df ds)
 | none=>none
theorem vI(D:cL)(df:aS)(h:aA)(ds:List DV):tP D df h (some ds)=dO h (pcF D df ds):=rfl
theorem aY{D:cL}{f:Nat}{df:aS}(hh:D.hook f=none)(hf:D.fn f=some df)(hm:df.mode=.pure)(args:List DV)(h:aA) :
  fc D f args h=tP D df h (args.mapM (resolve true h cO)):=by
 rw[Ya,hh,hf]
 simp only
 unfold gF
 rw[hm]
 simp only
 cases args.mapM (resolve true h cO)with
 | none=>rfl
 | some ds =>
  simp only[tP,pcF,dY,pY,dO]
  cases kY (ev D) df ds {objs:=[],n:=0,lim:=0} with
  | none=>rfl
  | some p =>
   obtain⟨v,h'⟩:=p
   simp only
   cases resolve false h' cO v with
   | none=>rfl
   | some d =>
    simp only
    split<;>rfl
noncomputable def Y1(D:cL)(df:aS):Option (List DV×aA)→Option (DV×aA)
 | some (as,h)=>tP D df h (as.mapM (resolve true h cO))
 | none=>none
theorem Q3(D:cL)(df:aS)(as:List DV)(h:aA):Y1 D df (some (as,h))=tP D df h (as.mapM (resolve true h cO)):=rfl
theorem pU{D:cL}{f:Nat}{df:aS}(hh:D.hook f=none)(hf:D.fn f=some df)(hm:df.mode=.frz)(args:List DV)(h:aA) :
  fc D f args h=Y1 D df (uN iR h args):=by
 rw[Ya,hh,hf]
 simp only
 unfold gF
 rw[hm]
 simp only
 cases uN iR h args with
 | none=>rfl
 | some p =>
  obtain⟨as,h1⟩:=p
  simp only[Y1]
  cases as.mapM (resolve true h1 cO)with
  | none=>rfl
  | some ds =>
   simp only[tP,pcF,dY,pY,dO]
   cases kY (ev D) df ds {objs:=[],n:=0,lim:=0} with
   | none=>rfl
   | some p =>
    obtain⟨v,h'⟩:=p
    simp only
    cases resolve false h' cO v with
    | none=>rfl
    | some d =>
     simp only
     split<;>rfl
theorem Gh{D:cL}{f:Nat}{df:aS}(hh:D.hook f=none)(hf:D.fn f=some df)(hm:df.mode=.full)(args:List DV)(h:aA) :
  fc D f args h=kY (ev D) df args h:=by
 rw[Ya,hh,hf]
 simp only
 unfold gF
 rw[hm]
theorem mB{D:cL}{f:Nat}{hk:rT}(hh:D.hook f=some hk)(args:List DV)(h:aA):fc D f args h=hk h args:=by
 rw[Ya,hh]
end Go.Dm
/-
Part 1 of "De": equations by which 'simp' runs the machine's code over data that are partly unknown.
-/
namespace Go.Dm
def WF(h:aA):Prop:=h.objs.length=h.n
theorem GR:WF pY:=rfl
theorem WF.push{h:aA}{o:DO}(w:WF h):WF (h.push o):=by unfold WF at *;simp[aA.push,w]
theorem WF.set{h:aA}{id:Nat}{o:DO}(w:WF h):WF (h.set id o):=by unfold WF at *;simp[aA.set,w]
theorem WF.lim{h:aA}{l:Nat}(w:WF h):WF {h with lim:=l}:=w
theorem Rb{h:aA}{o o':DO}{id:Nat}(eO:id<h.n):(h.push o).set id o'=(h.set id o').push o:=by
 have e:h.n-id=(h.n-1-id)+1:=by omega
 simp[aA.push,aA.set]
 rw[e];rfl
theorem Vu{h:aA}{o o':DO}{id:Nat}:(h.push o).set id o'=if id<h.n then(h.set id o').push o else h.push o':=by
 split
 ·rename_i eO;exact Rb eO
 ·rename_i eO
  have e:h.n-id=0:=by omega
  simp[aA.push,aA.set]
  rw[e];rfl
theorem fU{h:aA}(w:WF h){id k:Nat}{o:DO}(eO:id<h.n):(h.set id o).get k=if k=id then some o else h.get k:=by
 unfold WF at w
 by_cases e:k=id
 ·subst e
  rw[if_pos rfl]
  simp only[aA.get,aA.set,if_pos eO]
  rw[List.getElem?_set,if_pos rfl,if_pos (by omega)]
  exact if_pos eO
 ·rw[if_neg e];exact bI eO e
theorem cI{h:aA}{id:Nat}{o:DO}(hg:h.get id=some o):id<h.n:=dQ hg
def JN(c a b:DV):Option DV:=match c with|.bool t=>some (if t then a else b)|_=>none
theorem J1(t:Bool)(a b:DV):JN (.bool t) a b=some (if t then a else b):=rfl
def xU:DV→Option DV
 | .ptr id sz idx off=>some (.ptr id sz idx off)
 | .iptr l cs off=>some (.iptr l cs off)
 | _=>none
theorem Lp(id sz idx off:Nat):xU (.ptr id sz idx off)=some (.ptr id sz idx off):=rfl
theorem It(l:Bool)(cs:List DV)(off:Nat):xU (.iptr l cs off)=some (.iptr l cs off):=rfl
def XO(neq:Bool):DV→DV→Option DV
 | .bool a,.bool b=>some (.bool (if neq then !(a == b)else a == b))
 | _,_=>none
theorem EU(neq a b:Bool):XO neq (.bool a) (.bool b)=some (.bool (if neq then !(a == b)else a == b)):=rfl
def Nu(neq:Bool):Option Bool→Option DV
 | some r=>some (.bool (if neq then !r else r))
 | none=>none
theorem O5(neq r:Bool):Nu neq (some r)=some (.bool (if neq then !r else r)):=rfl
def MM(k:IntKind):DV→Option DV|.int _ n=>some (.int k (k.wrap n))|_=>none
theorem FG(k k':IntKind)(n:Int):MM k (.int k' n)=some (.int k (k.wrap n)):=rfl
def R0:DV→Option DV|.str s=>some (.str s)|_=>none
theorem Q9(s:List UInt8):R0 (.str s)=some (.str s):=rfl
def vA(off:Nat):DV→Option DV
 | .ptr id sz idx o=>some (.ptr id sz idx (o+off))
 | .iptr l cs o=>some (.iptr l cs (o+off))
 | _=>none
theorem Jx(off id sz idx o:Nat):vA off (.ptr id sz idx o)=some (.ptr id sz idx (o+off)):=rfl
theorem Fs(off:Nat)(l:Bool)(cs:List DV)(o:Nat):vA off (.iptr l cs o)=some (.iptr l cs (o+off)):=rfl
def Jw(off:Nat)(n:Option Nat):DV→Option DV|.agg cs=>dG n cs off|_=>none
theorem O9(off:Nat)(n:Option Nat)(cs:List DV):Jw off n (.agg cs)=dG n cs off:=rfl
def bY(sz:Nat)(x i:DV):Option DV :=
 match asI i with
 | some i =>
  match x with
  | .sl id eG off len=>if sz=eG∧0≤i∧i<(len:Int)then some (.ptr id sz (off+i.toNat) 0)else none
  | .isl l eG xs=>if sz=eG∧0≤i then(match xs[i.toNat]? with|some e=>some (.iptr l (aK sz e) 0)|none=>none)else none
  | _=>none
 | none=>none
def tH(len esz:Nat)(x i:DV):Option DV :=
 match asI i with
 | some i =>
  if 0≤i∧i<(len:Int)then
   match x with
   | .ptr id sz idx o=>some (.ptr id sz idx (o+i.toNat*esz))
   | .iptr l cs o=>some (.iptr l cs (o+i.toNat*esz))
   | _=>none
  else none
 | none=>none
def M7(len esz:Nat)(n:Option Nat)(x i:DV):Option DV :=
 match asI i,x with
 | some i,.agg cs=>if 0≤i∧i<(len:Int)then dG n cs (i.toNat*esz)else none
 | _,_=>none
def qO(x i:DV):Option DV :=
 match asI i,x with
 | some i,.str s=>if 0≤i then(match s[i.toNat]? with|some b=>some (.int .u8 b.toNat)|none=>none)else none
 | _,_=>none
theorem Ls(s:List UInt8)(k:IntKind)(i:Nat){b:UInt8}(hb:s[i]?=some b):qO (.str s) (.int k (i:Int))=some (.int .u8 b.toNat):=by
 simp[qO,asI,hb]
def eQ(o:Option DV)(dflt lim:Nat):Option Nat :=
 match o with
 | none=>some dflt
 | some x=>match asI x with
  | some n=>if 0≤n∧n≤(lim:Int)then some n.toNat else none
  | none=>none
theorem Zb(env:Env)(o:Option Opd)(d l:Nat):bound env o d l=eQ (o.map (Opd.eval env)) d l:=by
 cases o<;>rfl
theorem xC(d l:Nat):eQ none d l=some d:=rfl
theorem vJ(k:IntKind)(n:Int)(d l:Nat)(h0:0≤n)(h1:n≤(l:Int)):eQ (some (.int k n)) d l=some n.toNat:=by
 simp[eQ,asI,h0,h1]
def nU(x:DV)(lo hi:Option DV):Option DV :=
 match x with
 | .str s=>match eQ hi s.length s.length with
  | some b=>match eQ lo 0 b with
   | some a=>some (.str ((s.drop a).take (b-a)))
   | none=>none
  | none=>none
 | _=>none
def mR(h:aA)(sz:Nat)(x:DV)(lo hi:Option DV):Option DV :=
 match x with
 | .nsl=>match eQ hi 0 0 with
  | some b=>match eQ lo 0 b with
   | some _=>some .nsl
   | none=>none
  | none=>none
 | .isl l eG xs=>if sz=eG∨xs=[]then match eQ hi xs.length xs.length with
   | some b=>match eQ lo 0 b with
    | some a=>some (.isl l sz ((xs.drop a).take (b-a)))
    | none=>none
   | none=>none
  else none
 | .sl id eG off len=>match h.get id with
  | some (.arr _ lN xs _)=>if sz=eG∧sz=lN∧off+len≤xs.length then match eQ hi len (xs.length-off)with
    | some b=>match eQ lo 0 b with
     | some a=>some (.sl id sz (off+a) (b-a))
     | none=>none
    | none=>none
   else none
  | _=>none
 | _=>none
def lenV(h:aA)(k:Nat):DV→Option DV
 | .str s=>if k=0 then some (.int .i64 s.length)else none
 | .nsl=>if k=1 then some (.int .i64 0)else none
 | .sl _ _ _ len=>if k=1 then some (.int .i64 len)else none
 | .isl _ _ xs=>if k=1 then some (.int .i64 xs.length)else none
 | .nmap=>if k=2 then some (.int .i64 0)else none
 | .map id=>match h.get id with|some (.mp es)=>if k=2 then some (.int .i64 es.length)else none|_=>none
 | _=>none
theorem KQ(h:aA)(s:List UInt8):lenV h 0 (.str s)=some (.int .i64 s.length):=rfl
theorem KR(h:aA):lenV h 1 .nsl=some (.int .i64 0):=rfl
theorem QR(h:aA)(id sz off len:Nat):lenV h 1 (.sl id sz off len)=some (.int .i64 len):=rfl
theorem KS(h:aA)(t:Bool)(sz:Nat)(xs:List DV):lenV h 1 (.isl t sz xs)=some (.int .i64 xs.length):=rfl
def Tb(h:aA)(ety sz bytes:Nat)(s:DV):Option (List DV)→Option (DV×aA)
 | some ys=>aU h ety sz bytes s ys
 | none=>none
theorem Ta(h:aA)(ety sz bytes:Nat)(s:DV)(ys:List DV):Tb h ety sz bytes s (some ys)=aU h ety sz bytes s ys:=rfl
def MJ(h:aA)(sz:Nat)(d:DV):Option (List DV)→Option (DV×aA)
 | some ys=>yZ h sz d ys
 | none=>none
theorem P9(h:aA)(sz:Nat)(d:DV)(ys:List DV):MJ h sz d (some ys)=yZ h sz d ys:=rfl
def Rp(mx:Bool):DV→DV→Option DV
 | .int k a,.int _ b=>some (.int k (if mx then(if a<b then b else a)else(if b<a then b else a)))
 | _,_=>none
theorem Wr(mx:Bool)(k k':IntKind)(a b:Int):Rp mx (.int k a) (.int k' b)=some (.int k (if mx then(if a<b then b else a)else(if b<a then b else a))):=rfl
def Ca(i:Nat):DV→Option DV|.tup vs=>vs[i]?|_=>none
theorem Sg(i:Nat)(vs:List DV):Ca i (.tup vs)=vs[i]?:=rfl
def Hj:Option aA→Option (DV×aA)
 | some h=>some (.tup [],h)
 | none=>none
theorem Uh(h:aA):Hj (some h)=some (.tup [],h):=rfl
def YE(h:aA)(ety sz:Nat)(x:DV):Option (DV×aA):=if bF sz x then some (.ptr h.n sz 0 0,h.push (.arr ety sz [x] (some 1)))else none
theorem SK{h:aA}{ety sz:Nat}{x:DV}(hs:bF sz x=true):YE h ety sz x=some (.ptr h.n sz 0 0,h.push (.arr ety sz [x] (some 1))):=if_pos hs
def YK(h:aA):Option (List DV)→Option (DV×aA)
 | some cs=>some (.agg cs,h)
 | none=>none
theorem GC(h:aA)(cs:List DV):YK h (some cs)=some (.agg cs,h):=rfl
def Hq(h:aA)(ety sz len:Nat):Option (List DV)→Option (DV×aA)
 | some xs=>some (.sl h.n sz 0 len,h.push (.arr ety sz xs (some len)))
 | none=>none
theorem Le(h:aA)(ety sz len:Nat)(xs:List DV):Hq h ety sz len (some xs)=some (.sl h.n sz 0 len,h.push (.arr ety sz xs (some len))):=rfl
section
variable (h:aA) (env:Env)
theorem OT(x:Opd):aD h env (.move x)=some (x.eval env,h):=rfl
theorem T6(c a b:Opd):aD h env (.pick c a b)=dO h (JN (c.eval env) (a.eval env) (b.eval env)):=by simp only[aD];cases c.eval env<;>rfl
theorem HV(ety sz:Nat)(z:DV):aD h env (.alloc ety sz z)=some (.ptr h.n sz 0 0,h.push (.arr ety sz [z] (some 1))):=rfl
theorem VJ(ety sz:Nat)(x:Opd):aD h env (.box ety sz x)=YE h ety sz (x.eval env):=rfl
theorem Ur(zero:List DV)(parts:List (Nat×Nat×Opd)):aD h env (.build zero parts)=YK h (gG zero (parts.map fun p=>(p.1,p.2.1,p.2.2.eval env))):=by
 simp only[aD];cases gG zero (parts.map fun p=>(p.1,p.2.1,p.2.2.eval env))<;>rfl
theorem yN(ety sz:Nat)(z:DV)(len:Nat)(parts:List (Nat×Opd)):aD h env (.buildSlice ety sz z len parts)=Hq h ety sz len (dM sz (List.replicate len z) (parts.map fun p=>(p.1,p.2.eval env))):=by
 simp only[aD];cases dM sz (List.replicate len z) (parts.map fun p=>(p.1,p.2.eval env))<;>rfl
theorem T7(n:Option Nat)(a:Opd):aD h env (.load n a)=dO h (kH h n (a.eval env)):=by simp only[aD];cases kH h n (a.eval env)<;>rfl
theorem Um(n:Nat)(a x:Opd):aD h env (.store n a x)=Hj (gY h n (a.eval env) (x.eval env)):=by simp only[aD];cases gY h n (a.eval env) (x.eval env)<;>rfl
theorem Eb(x:Opd):aD h env (.nilCheck x)=dO h (xU (x.eval env)):=by simp only[aD];cases x.eval env<;>rfl
theorem Ut(op:BinOp)(x y:Opd):aD h env (.arith op x y)=dO h (bZ op (x.eval env) (y.eval env)):=by simp only[aD];cases bZ op (x.eval env) (y.eval env)<;>rfl
theorem HR(neq:Bool)(x y:Opd):aD h env (.eqb neq x y)=dO h (XO neq (x.eval env) (y.eval env)):=by simp only[aD];cases x.eval env<;>cases y.eval env<;>rfl
theorem HT(neq:Bool)(ks:List Nat)(x y:Opd):aD h env (.eqa neq ks x y)=dO h (Nu neq (iW (.agg ks) (x.eval env) (y.eval env))):=by simp only[aD];cases iW (.agg ks) (x.eval env) (y.eval env)<;>rfl
theorem HQ(k:Nat)(neq:Bool)(x y:Opd):aD h env (.eqn k neq x y)=dO h (Nu neq (vL k (x.eval env) (y.eval env))):=by simp only[aD];cases vL k (x.eval env) (y.eval env)<;>rfl
theorem SV(op:UnOp)(x:Opd):aD h env (.un op x)=dO h (unD op (x.eval env)):=by simp only[aD];cases unD op (x.eval env)<;>rfl
theorem T9(k:IntKind)(x:Opd):aD h env (.conv k x)=dO h (MM k (x.eval env)):=by simp only[aD];cases x.eval env<;>rfl
theorem Us(x:Opd):aD h env (.asStr x)=dO h (R0 (x.eval env)):=by simp only[aD];cases x.eval env<;>rfl
theorem Av(off:Nat)(x:Opd):aD h env (.fieldAddr off x)=dO h (vA off (x.eval env)):=by simp only[aD];cases x.eval env<;>rfl
theorem Uq(off:Nat)(n:Option Nat)(x:Opd):aD h env (.field off n x)=dO h (Jw off n (x.eval env)):=by
 simp only[aD]
 cases x.eval env with
 | agg cs=>simp only[Jw];cases dG n cs off<;>rfl
 | _=>rfl
theorem Au(sz:Nat)(x i:Opd):aD h env (.indexAddr sz x i)=dO h (bY sz (x.eval env) (i.eval env)):=by
 simp only[aD,bY]
 cases asI (i.eval env)with
 | none=>rfl
 | some n =>
  simp only
  cases x.eval env with
  | sl id eG off len=>simp only;split<;>rfl
  | isl l eG xs =>
   simp only
   split
   ·cases xs[n.toNat]?<;>rfl
   ·rfl
  | _=>rfl
theorem Ed(len esz:Nat)(x i:Opd):aD h env (.indexArr len esz x i)=dO h (tH len esz (x.eval env) (i.eval env)):=by
 simp only[aD,tH]
 cases asI (i.eval env)with
 | none=>rfl
 | some n =>
  simp only
  split
  ·cases x.eval env<;>rfl
  ·rfl
theorem Uo(len esz:Nat)(n:Option Nat)(x i:Opd):aD h env (.index len esz n x i)=dO h (M7 len esz n (x.eval env) (i.eval env)):=by
 simp only[aD,M7]
 cases asI (i.eval env)with
 | none=>rfl
 | some m =>
  cases x.eval env with
  | agg cs =>
   simp only
   split
   ·cases dG n cs (m.toNat*esz)<;>rfl
   ·rfl
  | _=>rfl
theorem Ec(x i:Opd):aD h env (.indexStr x i)=dO h (qO (x.eval env) (i.eval env)):=by
 simp only[aD,qO]
 cases asI (i.eval env)with
 | none=>rfl
 | some m =>
  cases x.eval env with
  | str s =>
   simp only
   split
   ·cases s[m.toNat]?<;>rfl
   ·rfl
  | _=>rfl
theorem Ea(x:Opd)(lo hi:Option Opd):aD h env (.sliceStr x lo hi)=dO h (nU (x.eval env) (lo.map (Opd.eval env)) (hi.map (Opd.eval env))):=by
 simp only[aD,nU,Zb]
 cases x.eval env with
 | str s =>
  simp only
  cases eQ (hi.map (Opd.eval env)) s.length s.length with
  | none=>rfl
  | some b=>simp only;cases eQ (lo.map (Opd.eval env)) 0 b<;>rfl
 | _=>rfl
theorem Hm(sz:Nat)(x:Opd)(lo hi:Option Opd):aD h env (.sliceSl sz x lo hi)=dO h (mR h sz (x.eval env) (lo.map (Opd.eval env)) (hi.map (Opd.eval env))):=by
 simp only[aD,mR,Zb]
 cases x.eval env with
 | nsl =>
  simp only
  cases eQ (hi.map (Opd.eval env)) 0 0 with
  | none=>rfl
  | some b=>simp only;cases eQ (lo.map (Opd.eval env)) 0 b<;>rfl
 | isl l eG xs =>
  simp only
  split
  ·cases eQ (hi.map (Opd.eval env)) xs.length xs.length with
   | none=>rfl
   | some b=>simp only;cases eQ (lo.map (Opd.eval env)) 0 b<;>rfl
  ·rfl
 | sl id eG off len =>
  simp only
  cases h.get id with
  | none=>rfl
  | some o =>
   cases o with
   | arr e s xs c =>
    simp only
    split
    ·cases eQ (hi.map (Opd.eval env)) len (xs.length-off)with
     | none=>rfl
     | some b=>simp only;cases eQ (lo.map (Opd.eval env)) 0 b<;>rfl
    ·rfl
   | _=>rfl
 | _=>rfl
theorem HP(k:Nat)(x:Opd):aD h env (.len k x)=dO h (lenV h k (x.eval env)):=by
 simp only[aD,lenV]
 cases x.eval env with
 | map id =>
  simp only
  cases h.get id with
  | none=>rfl
  | some o=>cases o<;>simp only<;>first|rfl|(split<;>rfl)
 | _=>first|rfl|(simp only;split<;>rfl)
theorem Mx(ety sz bytes:Nat)(s x:Opd):aD h env (.append ety sz bytes s x)=Tb h ety sz bytes (s.eval env) (elems h sz (x.eval env)):=by
 simp only[aD];cases elems h sz (x.eval env)<;>rfl
theorem T8(sz:Nat)(d s:Opd):aD h env (.copy sz d s)=MJ h sz (d.eval env) (elems h sz (s.eval env)):=by
 simp only[aD];cases elems h sz (s.eval env)<;>rfl
theorem Mv(mx:Bool)(x y:Opd):aD h env (.minmax mx x y)=dO h (Rp mx (x.eval env) (y.eval env)):=by
 simp only[aD];cases x.eval env<;>cases y.eval env<;>rfl
theorem Un(f:FuncId)(cap:List Opd):aD h env (.makeFunc f cap)=some (.func f (cap.map (Opd.eval env)),h):=rfl
theorem D9:aD h env .makeMap=some (.map h.n,h.push (.mp [])):=rfl
theorem Hn(x:Opd)(i:Nat):aD h env (.extract x i)=dO h (Ca i (x.eval env)):=by
 simp only[aD]
 cases x.eval env with
 | tup vs=>simp only[Ca];cases vs[i]?<;>rfl
 | _=>rfl
theorem Qj(t:TypeId)(x:Opd):aD h env (.makeIface t x)=some (.iface t (x.eval env),h):=rfl
end
def wS(h:aA):DV→Option (List (DV×DV))
 | .nmap=>some []
 | .map id=>match h.get id with|some (.mp es)=>some es|_=>none
 | _=>none
def xX(q:EqT)(z:DV)(ok:Bool)(k:DV):Option (List (DV×DV))→Option DV
 | some es=>if(iW q k k).isSome then
   match sH q k es with
   | some (some (_,v))=>some (if ok then .tup [v,.bool true]else v)
   | some none=>some (if ok then .tup [z,.bool false]else z)
   | none=>none
  else none
 | none=>none
theorem Mw(h:aA)(env:Env)(q:EqT)(z:DV)(ok:Bool)(m k:Opd):aD h env (.lookup q z ok m k)=dO h (xX q z ok (k.eval env) (wS h (m.eval env))):=by
 have key:∀r:Option (List (DV×DV)),(match r with
   | some es=>if(iW q (k.eval env) (k.eval env)).isSome then
     match sH q (k.eval env) es with
     | some (some (_,v))=>some (if ok then DV.tup [v,.bool true]else v,h)
     | some none=>some (if ok then DV.tup [z,.bool false]else z,h)
     | none=>none
    else none
   | none=>none)=dO h (xX q z ok (k.eval env) r):=by
  intro r
  cases r with
  | none=>rfl
  | some es =>
   simp only[xX]
   split
   ·cases sH q (k.eval env) es with
    | none=>rfl
    | some x=>cases x<;>rfl
   ·rfl
 simp only[aD]
 rw[←key]
 cases m.eval env with
 | map id=>simp only[wS];cases h.get id with
  | none=>rfl
  | some o=>cases o<;>rfl
 | _=>rfl
def Ao(h:aA)(q:EqT)(m k x:DV):Option aA :=
 match m with
 | .map id=>match h.get id with
  | some (.mp es) =>
   if h.lim≤id∧(iW q k k).isSome=true then
    match sH q k es with
    | some (some (i,_))=>some (h.set id (.mp (es.set i (k,x))))
    | some none=>some (h.set id (.mp (es++[(k,x)])))
    | none=>none
   else none
  | _=>none
 | _=>none
theorem At(h:aA)(env:Env)(q:EqT)(m k x:Opd):aD h env (.mapUpdate q m k x)=Hj (Ao h q (m.eval env) (k.eval env) (x.eval env)):=by
 simp only[aD,Ao]
 cases m.eval env with
 | map id =>
  simp only
  cases h.get id with
  | none=>rfl
  | some o =>
   cases o with
   | mp es =>
    simp only
    split
    ·cases sH q (k.eval env) es with
     | none=>rfl
     | some y=>cases y with
      | none=>rfl
      | some p=>rfl
    ·rfl
   | _=>rfl
 | _=>rfl
section
variable (c:Nat→List DV→aA→Option (DV×aA)) (h:aA) (env:Env)
end
theorem bE{n:Int}(h1:-9223372036854775808≤n)(h2:n≤9223372036854775807):IntKind.i64.wrap n=n:=by
 exact Go.IntWalk.i64_in n ⟨h1,h2⟩
end Go.Dm
/-
Part 2 of "De": rows of data that are plain lists; rows that a call makes itself; what calls answer.
-/
namespace Go.Dm
def eL{α:Type}(t:Bool)(sz:Nat)(e:α→DV)(xs:List α):DV:=mkIsl t sz (xs.map e)
section eL
variable {α:Type} (t:Bool) (sz:Nat) (e:α→DV) (xs:List α)
theorem oO:eL t sz e []=.isl false 0 []:=rfl
theorem vC(x:α):eL t sz e (x::xs)=.isl t sz (e x::xs.map e):=rfl
theorem TL{xs:List α}(h:xs≠[]):eL t sz e xs=.isl t sz (xs.map e):=by
 cases xs with
 | nil=>exact absurd rfl h
 | cons x xs=>rfl
theorem QS(h:aA):lenV h 1 (eL t sz e xs)=some (.int .i64 xs.length):=by cases xs<;>simp[oO,vC,lenV]
theorem Dy:bF 1 (eL t sz e xs)=true:=by cases xs<;>rfl
theorem Nx:aK 1 (eL t sz e xs)=[eL t sz e xs]:=by cases xs<;>rfl
theorem LV(h:aA):elems h sz (eL t sz e xs)=some (xs.map e):=by cases xs<;>simp[oO,vC,elems]
theorem Lt{xs:List α}(k:IntKind){i:Nat}{a:α}(ha:xs[i]?=some a):bY sz (eL t sz e xs) (.int k (i:Int))=some (.iptr t (aK sz (e a)) 0):=by
 have dW:xs≠[]:=by intro h0;subst h0;simp at ha
 rw[TL t sz e dW]
 simp[bY,asI,ha]
theorem Ja{xs:List α}(k:IntKind){i:Int}{a:α}(h0:0≤i)(ha:xs[i.toNat]?=some a):bY sz (eL t sz e xs) (.int k i)=some (.iptr t (aK sz (e a)) 0):=by
 obtain⟨n,rfl⟩:=Int.eq_ofNat_of_zero_le h0
 exact Lt t sz e k ha
end eL
def gP(k:Nat)(d:DV):Prop:=∀tag h n,k≤n→resolve tag h n d=some d
def Unl(k:Nat)(d:DV):Prop:=∀n,k≤n→bH n d=true
theorem gP.mono{k m:Nat}{d:DV}(h:gP k d)(hk:k≤m):gP m d:=fun t hp n hn=>h t hp n (Nat.le_trans hk hn)
theorem Unl.mono{k m:Nat}{d:DV}(h:Unl k d)(hk:k≤m):Unl m d:=fun n hn=>h n (Nat.le_trans hk hn)
theorem cV{k n:Nat}(h:k+1≤n):∃ m,n=m+1∧k≤m:=⟨n-1,by omega,by omega⟩
theorem iS(k:IntKind)(n:Int):gP 1 (.int k n):=fun t h m hm=>by obtain⟨q,rfl,_⟩:=cV hm;rfl
theorem Nv(b:Bool):gP 1 (.bool b):=fun t h m hm=>by obtain⟨q,rfl,_⟩:=cV hm;rfl
theorem Xy(s:List UInt8):gP 1 (.str s):=fun t h m hm=>by obtain⟨q,rfl,_⟩:=cV hm;rfl
theorem Dl(l:Bool)(cs:List DV)(o:Nat):gP 1 (.iptr l cs o):=fun t h m hm=>by obtain⟨q,rfl,_⟩:=cV hm;rfl
theorem sF{α:Type}(t:Bool)(sz:Nat)(e:α→DV)(xs:List α):gP 1 (eL t sz e xs):=fun tg h m hm=>by
 obtain⟨q,rfl,_⟩:=cV hm
 cases xs<;>rfl
theorem mL{f:DV→Option DV}:∀{cs:List DV},(∀x∈cs,f x=some x)→cs.mapM f=some cs:=by
 intro cs
 induction cs with
 | nil=>intro _;rfl
 | cons x r ih =>
  intro h
  rw[List.mapM_cons,h x (List.mem_cons_self ..),ih (fun y hy=>h y (List.mem_cons_of_mem _ hy))];rfl
theorem Jr{k:Nat}{cs:List DV}(h:∀x∈cs,gP k x):gP (k+1) (.agg cs):=fun t hp m hm=>by
 obtain⟨q,rfl,hq⟩:=cV hm
 have:cs.mapM (resolve t hp q)=some cs:=mL fun x hx=>h x hx t hp q hq
 simp only[resolve,this]
theorem Dn{k:Nat}{f:Nat}{cs:List DV}(h:∀x∈cs,gP k x):gP (k+1) (.func f cs):=fun t hp m hm=>by
 obtain⟨q,rfl,hq⟩:=cV hm
 have:cs.mapM (resolve t hp q)=some cs:=mL fun x hx=>h x hx t hp q hq
 simp only[resolve,this]
theorem rU(k:IntKind)(n:Int):Unl 1 (.int k n):=fun m hm=>by obtain⟨q,rfl,_⟩:=cV hm;rfl
theorem GX(b:Bool):Unl 1 (.bool b):=fun m hm=>by obtain⟨q,rfl,_⟩:=cV hm;rfl
theorem S1(s:List UInt8):Unl 1 (.str s):=fun m hm=>by obtain⟨q,rfl,_⟩:=cV hm;rfl
theorem S2{k:Nat}{cs:List DV}(h:∀x∈cs,Unl k x):Unl (k+1) (.agg cs):=fun m hm=>by
 obtain⟨q,rfl,hq⟩:=cV hm
 simp only[bH,List.all_eq_true]
 exact fun x hx=>h x hx q hq
theorem kC{α:Type}{k sz:Nat}{e:α→DV}{xs:List α}(h:∀x∈xs,Unl k (e x)):Unl (k+1) (eL false sz e xs):=fun m hm=>by
 obtain⟨q,rfl,hq⟩:=cV hm
 cases xs with
 | nil=>rfl
 | cons x r =>
  simp only[vC,bH,Bool.not_false,Bool.true_and,List.all_eq_true]
  intro y hy
  rw[←List.map_cons (f:=e)]at hy
  obtain⟨z,hz,rfl⟩:=List.mem_map.1 hy
  exact h z hz q hq
class Plain {α:Type} (e:α→DV):Prop where
 flat:∀x,gP 20 (e x)
 unl:∀x,Unl 20 (e x)
inductive Own(lo:Nat)(h:aA)(v:DV)(ety sz:Nat)(xs:List DV):Prop where
 | nil (hv:v=.nsl) (hx:xs=[])
 | arr (id:Nat) (hv:v=.sl id sz 0 xs.length) (hg:h.get id=some (.arr ety sz xs none)) (aO:h.lim≤id) (fY:lo≤id)
structure Ext(lo:Nat)(h h':aA):Prop where
 le:lo≤h'.n
 lim:h'.lim=h.lim
 get:∀id,id<lo→h'.get id=h.get id
 wf:WF h'
theorem Ext.refl{lo:Nat}{h:aA}(cT:lo≤h.n)(w:WF h):Ext lo h h:=⟨cT,rfl,fun _ _=>rfl,w⟩
theorem Ext.trans{lo:Nat}{a b c:aA}(x:Ext lo a b)(y:Ext lo b c):Ext lo a c:=⟨y.le,y.lim.trans x.lim,fun id eO=>(y.get id eO).trans (x.get id eO),y.wf⟩
theorem Ext.push{lo:Nat}{h h':aA}{o:DO}(x:Ext lo h h'):Ext lo h (h'.push o) :=
 ⟨Nat.le_succ_of_le x.le,x.lim,fun id eO=>by rw[dC,if_neg (by have:=x.le;omega)];exact x.get id eO,x.wf.push⟩
theorem Ext.set{lo:Nat}{h h':aA}{id:Nat}{o:DO}(x:Ext lo h h')(eO:lo≤id)(aZ:id<h'.n):Ext lo h (h'.set id o) :=
 ⟨x.le,x.lim,fun k hk=>by rw[fU x.wf aZ,if_neg (by omega)];exact x.get k hk,x.wf.set⟩
theorem Own.push{lo:Nat}{h:aA}{o:DO}{v:DV}{ety sz:Nat}{xs:List DV}(w:Own lo h v ety sz xs):Own lo (h.push o) v ety sz xs:=by
 cases w with
 | nil hv hx=>exact .nil hv hx
 | arr id hv hg aO fY =>
  refine .arr id hv ?_ aO fY
  rw[dC,if_neg (by have:=cI hg;omega)];exact hg
theorem Own.start(lo:Nat)(h:aA)(ety sz:Nat):Own lo h .nsl ety sz []:=.nil rfl rfl
theorem Own.append{lo:Nat}{h:aA}{v:DV}{ety sz bytes:Nat}{xs ys:List DV}{A:Option (DV×aA)}(w:Own lo h v ety sz xs)(wf:WF h)(fY:lo≤h.n)(aO:h.lim≤h.n)(hA:aU h ety sz bytes v ys=A)
  (hb:(xs.length+ys.length)*bytes≤140737488355328) (Jk:1≤bytes):∃ v' h',A=some (v',h')∧Own lo h' v' ety sz (xs++ys)∧Ext lo h h':=by
 have hm:xs.length+ys.length≤140737488355328:=Nat.le_trans (Nat.le_mul_of_pos_right _ Jk) hb
 by_cases hy:ys=[]
 ·subst hy
  refine⟨v,h,?_,by simpa using w,.refl fY wf⟩
  rw[←hA]
  cases w with
  | nil hv hx=>subst hv;rfl
  | arr id hv hg _ _=>subst hv;rfl
 ·have Xj:ys.isEmpty=false:=by cases ys<;>simp_all
  have hyl:0<ys.length:=List.length_pos_iff.2 hy
  cases w with
  | nil hv hx =>
   subst hv;subst hx
   simp only[List.length_nil,Nat.zero_add]at hb hm
   refine⟨.sl h.n sz 0 ys.length,h.push (.arr ety sz ys none),?_,.arr h.n rfl iQ (by exact aO) fY,(Ext.refl fY wf).push⟩
   rw[←hA]
   simp only[aU,Xj]
   rw[if_neg (by simp),if_pos ⟨hb,by omega⟩]
  | arr id hv hg hl hi =>
   subst hv
   have aZ:=cI hg
   have e2:(h.set id DO.dead).n=h.n:=rfl
   refine⟨.sl h.n sz 0 (xs.length+ys.length),(h.set id .dead).push (.arr ety sz (xs++ys) none),?_,.arr h.n (by simp) ?_ (by exact aO) fY,(((Ext.refl fY wf).set hi aZ).push)⟩
   ·rw[←hA]
    simp only[aU,Xj,hg]
    simp only[Bool.false_eq_true,if_false,true_and,Nat.zero_add,Nat.le_refl]
    rw[if_pos ⟨hb,by omega⟩,if_neg (by omega),if_pos hl]
    simp
   ·exact iQ
end Go.Dm
/-
Part 3 of "De": what own rows show; what a pure call hands back; the program's data by plain structures.
-/
namespace Go.Dm
section Own
variable {lo:Nat} {h:aA} {v:DV} {ety sz:Nat} {xs:List DV}
theorem Own.lenV(w:Own lo h v ety sz xs):lenV h 1 v=some (.int .i64 xs.length):=by
 cases w with
 | nil hv hx=>subst hv;subst hx;rfl
 | arr id hv hg hl hi=>subst hv;rfl
theorem Own.elems(w:Own lo h v ety sz xs):elems h sz v=some xs:=by
 cases w with
 | nil hv hx=>subst hv;subst hx;rfl
 | arr id hv hg hl hi=>subst hv;simp[Dm.elems,hg]
theorem Own.ext{lo:Nat}{h h':aA}(w:Own lo h v ety sz xs)(x:Ext h.n h h'):Own lo h' v ety sz xs:=by
 cases w with
 | nil hv hx=>exact .nil hv hx
 | arr id hv hg hl hi=>exact .arr id hv ((x.get id (cI hg)).trans hg) (by rw[x.lim];exact hl) hi
theorem Own.resolve{α:Type}{e:α→DV}{ys:List α}{k n:Nat}(tag:Bool)(w:Own lo h v ety sz (ys.map e))(hf:∀y∈ys,gP k (e y))(hn:k+1≤n):resolve tag h n v=some (eL tag sz e ys):=by
 obtain⟨m,rfl,hm⟩:=cV hn
 cases w with
 | nil hv hx =>
  subst hv
  cases ys with
  | nil=>rfl
  | cons y r=>simp at hx
 | arr id hv hg hl hi =>
  subst hv
  have Bq:(ys.map e).mapM (Dm.resolve tag h m)=some (ys.map e):=mL fun x hx=>by
   obtain⟨y,hy,rfl⟩:=List.mem_map.1 hx
   exact hf y hy tag h m hm
  simp only[Dm.resolve,hg,true_and,Nat.zero_add,Nat.le_refl,if_true,List.drop_zero,List.take_length,Bq]
  rfl
end Own
theorem Wc{v d:DV}{h:aA}{k:Nat}(hr:resolve false h cO v=some d)(hu:Unl k d)(hk:k≤200):dY (some (v,h))=some d:=by
 simp only[dY,hr,hu cO hk,if_true]
theorem Own.out{lo:Nat}{h:aA}{v:DV}{ety sz:Nat}{α:Type}{e:α→DV}{ys:List α}{k:Nat}(w:Own lo h v ety sz (ys.map e))(hf:∀y∈ys,gP k (e y))(hu:∀y∈ys,Unl k (e y))(hk:k≤198) :
  dY (some (v,h))=some (eL false sz e ys) :=
 Wc (k:=k+1) (w.resolve false hf (by show k+1≤200;omega)) (kC hu) (by omega)
theorem fc_fn{D:cL}{f:Nat}{df:aS}(hh:D.hook f=none)(hf:D.fn f=some df)(args:List DV)(h:aA):fc D f args h=gF (ev D) df args h:=by
 rw[Ya,hh,hf]
theorem FD{α:Type}{xs:List α}{i:Nat}{a:α}{r:List α}(h:xs.drop i=a::r):i<xs.length∧xs[i]?=some a∧xs.drop (i+1)=r:=by
 have h1:i<xs.length:=by
  by_cases aZ:i<xs.length
  ·exact aZ
  ·rw[List.drop_eq_nil_of_le (by omega)]at h;cases h
 rw[List.drop_eq_getElem_cons h1]at h
 injection h with h2 h3
 exact⟨h1,by rw[List.getElem?_eq_getElem h1,h2],h3⟩
theorem cN{α:Type}{xs:List α}{i:Nat}{a:α}{r:List α}(h:xs.drop i=a::r):∃ hi:i<xs.length,xs[i]=a∧xs.drop (i+1)=r:=by
 obtain⟨h1,h2,h3⟩:=FD h
 exact⟨h1,by rw[List.getElem?_eq_getElem h1]at h2;injection h2,h3⟩
theorem cY{α:Type}{xs:List α}{i:Nat}(h:xs.drop i=[]):xs.length≤i:=List.drop_eq_nil_iff.1 h
structure ID where
 aW:Int
 seq:Int
 deriving DecidableEq,Inhabited
structure Val where
 isText:Bool
 n:Int
 text:List UInt8
 deriving DecidableEq,Inhabited
structure Att where
 name:List UInt8
 val:Val
 deriving DecidableEq,Inhabited
structure kM where
 name:List UInt8
 kind:Int
 lo:Int
 hi:Int
 text:List UInt8
 deriving DecidableEq,Inhabited
abbrev bN:=List kM
structure bD where
 id:ID
 pred:bN
 bP:Int
 deriving DecidableEq,Inhabited
structure bB where
 tree:ID
 sub:ID
 pred:bN
 cJ:Int
 up:Bool
 deriving DecidableEq,Inhabited
structure fQ where
 id:ID
 pred:bN
 deriving DecidableEq,Inhabited
structure aF where
 me:Int
 aL:List Int
 aG:List bD
 seen:List ID
 entries:List bB
 bJ:List fQ
 deriving DecidableEq,Inhabited
structure Msg where
 kind:Int
 tree:ID
 id:ID
 pred:bN
 AaA:List Att
 deriving DecidableEq,Inhabited
structure Out where
 to:Int
 m:Msg
 deriving DecidableEq,Inhabited
def cF(n:Int):DV:=.int .i64 n
def Cd(s:List UInt8):DV:=.str s
def XS(v:Val):DV:=.agg [.bool v.isText,.int .i64 v.n,.str v.text]
def eAtt(a:Att):DV:=.agg [.str a.name,.bool a.val.isText,.int .i64 a.val.n,.str a.val.text]
def bC(c:kM):DV:=.agg [.str c.name,.int .i64 c.kind,.int .i64 c.lo,.int .i64 c.hi,.str c.text]
def bQ(p:bN):DV:=eL false 5 bC p
def eID(x:ID):DV:=.agg [.int .i64 x.aW,.int .i64 x.seq]
def aJ(a:bD):DV:=.agg [.int .i64 a.id.aW,.int .i64 a.id.seq,bQ a.pred,.int .i64 a.bP]
def aN(e:bB):DV:=.agg [.int .i64 e.tree.aW,.int .i64 e.tree.seq,.int .i64 e.sub.aW,.int .i64 e.sub.seq,bQ e.pred,.int .i64 e.cJ,.bool e.up]
def cB(o:fQ):DV:=.agg [.int .i64 o.id.aW,.int .i64 o.id.seq,bQ o.pred]
structure dZ where
 aL:Bool
 aG:Bool
 seen:Bool
 entries:Bool
 bJ:Bool
def dZ.none:dZ:=⟨false,false,false,false,false⟩
def aI(t:dZ)(b:aF):DV:=.agg [.int .i64 b.me,eL t.aL 1 cF b.aL,eL t.aG 4 aJ b.aG,eL t.seen 2 eID b.seen,eL t.entries 7 aN b.entries,eL t.bJ 3 cB b.bJ]
def jW(o:Out):DV:=.agg [.int .i64 o.to,.int .i64 o.m.kind,.int .i64 o.m.tree.aW,.int .i64 o.m.tree.seq,.int .i64 o.m.id.aW,.int .i64 o.m.id.seq,bQ o.m.pred,eL false 4 eAtt o.m.AaA]
theorem CZ:Plain cF:=⟨fun _=>(iS _ _).mono (by decide),fun _=>(rU _ _).mono (by decide)⟩
theorem zQ:Plain bC:=⟨fun c=>(Jr (k:=1) (by
  intro x hx;simp only[List.mem_cons,List.not_mem_nil,or_false]at hx
  rcases hx with rfl|rfl|rfl|rfl|rfl<;>first|exact iS _ _|exact Xy _)).mono (by decide),fun c=>(S2 (k:=1) (by
  intro x hx;simp only[List.mem_cons,List.not_mem_nil,or_false]at hx
  rcases hx with rfl|rfl|rfl|rfl|rfl<;>first|exact rU _ _|exact S1 _)).mono (by decide)⟩
theorem vW(p:bN):Unl 21 (bQ p):=kC fun x _=>zQ.unl x
theorem Dk(p:bN):gP 1 (bQ p):=sF false 5 bC p
end Go.Dm
/-
Part 4 of "De": the words by which 'simp' walks.
-/
namespace Go.Dm
theorem Wd(D:cL)(g:Opd)(args:List Opd)(env:Env)(h:aA):bO (fc D) (.call g args) env h=Y2 D (args.map (Opd.eval env)) h (g.eval env):=J3 D h g args env
section
variable (c:Nat→List DV→aA→Option (DV×aA)) (h:aA) (env:Env)
theorem QE(x:Opd):bO c (.move x) env h=some (x.eval env,h):=rfl
theorem QD(x a b:Opd):bO c (.pick x a b) env h=dO h (JN (x.eval env) (a.eval env) (b.eval env)):=T6 ..
theorem JW(ety sz:Nat)(z:DV):bO c (.alloc ety sz z) env h=some (.ptr h.n sz 0 0,h.push (.arr ety sz [z] (some 1))):=rfl
theorem WG(ety sz:Nat)(x:Opd):bO c (.box ety sz x) env h=YE h ety sz (x.eval env):=rfl
theorem JT(zero:List DV)(parts:List (Nat×Nat×Opd)):bO c (.build zero parts) env h=YK h (gG zero (parts.map fun p=>(p.1,p.2.1,p.2.2.eval env))):=Ur ..
theorem Lo(ety sz:Nat)(z:DV)(len:Nat)(parts:List (Nat×Opd)):bO c (.buildSlice ety sz z len parts) env h=Hq h ety sz len (dM sz (List.replicate len z) (parts.map fun p=>(p.1,p.2.eval env))):=yN ..
theorem QF(n:Option Nat)(a:Opd):bO c (.load n a) env h=dO h (kH h n (a.eval env)):=T7 ..
theorem JQ(n:Nat)(a x:Opd):bO c (.store n a x) env h=Hj (gY h n (a.eval env) (x.eval env)):=Um ..
theorem Wf(x:Opd):bO c (.nilCheck x) env h=dO h (xU (x.eval env)):=Eb ..
theorem JV(op:BinOp)(x y:Opd):bO c (.arith op x y) env h=dO h (bZ op (x.eval env) (y.eval env)):=Ut ..
theorem WC(neq:Bool)(x y:Opd):bO c (.eqb neq x y) env h=dO h (XO neq (x.eval env) (y.eval env)):=HR ..
theorem WD(neq:Bool)(ks:List Nat)(x y:Opd):bO c (.eqa neq ks x y) env h=dO h (Nu neq (iW (.agg ks) (x.eval env) (y.eval env))):=HT ..
theorem WB(k:Nat)(neq:Bool)(x y:Opd):bO c (.eqn k neq x y) env h=dO h (Nu neq (vL k (x.eval env) (y.eval env))):=HQ ..
theorem j7(op:UnOp)(x:Opd):bO c (.un op x) env h=dO h (unD op (x.eval env)):=SV ..
theorem QH(k:IntKind)(x:Opd):bO c (.conv k x) env h=dO h (MM k (x.eval env)):=T9 ..
theorem JU(x:Opd):bO c (.asStr x) env h=dO h (R0 (x.eval env)):=Us ..
theorem Ri(off:Nat)(x:Opd):bO c (.fieldAddr off x) env h=dO h (vA off (x.eval env)):=Av ..
theorem JS(off:Nat)(n:Option Nat)(x:Opd):bO c (.field off n x) env h=dO h (Jw off n (x.eval env)):=Uq ..
theorem Rh(sz:Nat)(x i:Opd):bO c (.indexAddr sz x i) env h=dO h (bY sz (x.eval env) (i.eval env)):=Au ..
theorem Wi(len esz:Nat)(x i:Opd):bO c (.indexArr len esz x i) env h=dO h (tH len esz (x.eval env) (i.eval env)):=Ed ..
theorem JR(len esz:Nat)(n:Option Nat)(x i:Opd):bO c (.index len esz n x i) env h=dO h (M7 len esz n (x.eval env) (i.eval env)):=Uo ..
theorem Wh(x i:Opd):bO c (.indexStr x i) env h=dO h (qO (x.eval env) (i.eval env)):=Ec ..
theorem We(x:Opd)(lo hi:Option Opd):bO c (.sliceStr x lo hi) env h=dO h (nU (x.eval env) (lo.map (Opd.eval env)) (hi.map (Opd.eval env))):=Ea ..
theorem J4(sz:Nat)(x:Opd)(lo hi:Option Opd):bO c (.sliceSl sz x lo hi) env h=dO h (mR h sz (x.eval env) (lo.map (Opd.eval env)) (hi.map (Opd.eval env))):=Hm ..
theorem WA(k:Nat)(x:Opd):bO c (.len k x) env h=dO h (lenV h k (x.eval env)):=HP ..
theorem DF(ety sz bytes:Nat)(s x:Opd):bO c (.append ety sz bytes s x) env h=Tb h ety sz bytes (s.eval env) (elems h sz (x.eval env)):=Mx ..
theorem QG(sz:Nat)(d s:Opd):bO c (.copy sz d s) env h=MJ h sz (d.eval env) (elems h sz (s.eval env)):=T8 ..
theorem DD(mx:Bool)(x y:Opd):bO c (.minmax mx x y) env h=dO h (Rp mx (x.eval env) (y.eval env)):=Mv ..
theorem Wg(f:FuncId)(cap:List Opd):bO c (.makeFunc f cap) env h=some (.func f (cap.map (Opd.eval env)),h):=rfl
theorem J5:bO c .makeMap env h=some (.map h.n,h.push (.mp [])):=rfl
theorem J6(x:Opd)(i:Nat):bO c (.extract x i) env h=dO h (Ca i (x.eval env)):=Hn ..
theorem Rg(t:TypeId)(x:Opd):bO c (.makeIface t x) env h=some (.iface t (x.eval env),h):=rfl
theorem DE(q:EqT)(z:DV)(ok:Bool)(m k:Opd):bO c (.lookup q z ok m k) env h=dO h (xX q z ok (k.eval env) (wS h (m.eval env))):=Mw ..
theorem Rf(q:EqT)(m k x:Opd):bO c (.mapUpdate q m k x) env h=Hj (Ao h q (m.eval env) (k.eval env) (x.eval env)):=At ..
end
theorem OB(f:dJ)(d i:Nat)(v:DV):upd f d v i=if i=d then v else f i:=rfl
theorem MY(args:List DV)(i:Nat):MZ args i=args.getD i bR:=rfl
theorem CT(f:dJ)(d:Nat)(v:DV):sY f (some d) v=upd f d v:=rfl
theorem CU(f:dJ)(v:DV):sY f none v=f:=rfl
theorem e7(N:Nat)(f:dJ)(i:Nat):rd N f i=if i<N then f i else .unk:=rfl
theorem L5(h:aA)(n:Option Nat)(l:Bool)(cs:List DV)(off:Nat):kH h n (.iptr l cs off)=dG n cs off:=rfl
theorem i8(cs:List DV)(off:Nat):dG none cs off=cs[off]?:=rfl
theorem i7(n:Nat)(cs:List DV)(off:Nat):dG (some n) cs off=if off+n≤cs.length then some (.agg ((cs.drop off).take n))else none:=rfl
theorem Qh(n:Nat)(cs:List DV):bF n (.agg cs)=(cs.length == n):=rfl
theorem Qg(n:Nat)(k:IntKind)(m:Int):bF n (.int k m)=(n == 1):=rfl
theorem Lc(n:Nat)(b:Bool):bF n (.bool b)=(n == 1):=rfl
theorem Qb(n:Nat)(s:List UInt8):bF n (.str s)=(n == 1):=rfl
theorem Qc(n a b c d:Nat):bF n (.ptr a b c d)=(n == 1):=rfl
theorem Uk(n a b c d:Nat):bF n (.sl a b c d)=(n == 1):=rfl
theorem Qd(n:Nat):bF n .nsl=(n == 1):=rfl
theorem Qf(n:Nat)(t:Bool)(s:Nat)(xs:List DV):bF n (.isl t s xs)=(n == 1):=rfl
theorem Lb(n:Nat)(f:Nat)(cs:List DV):bF n (.func f cs)=(n == 1):=rfl
theorem Qe(n:Nat)(i:Nat):bF n (.map i)=(n == 1):=rfl
theorem Hk(n:Nat)(t:Nat)(d:DV):bF n (.iface t d)=(n == 1):=rfl
theorem La(n:Nat):bF n .nili=(n == 1):=rfl
theorem Kz(n:Nat):bF n .nilp=(n == 1):=rfl
theorem Ky(p:bN):bF 1 (bQ p)=true:=Dy ..
theorem HB(sz n:Nat)(e x:DV)(h:n=sz):turn sz 0 n e x=x:=by simp[turn,h]
theorem Zh(a b:Int):bZ .add (.int .i64 a) (.int .i64 b)=some (.int .i64 (IntKind.i64.wrap (a+b))):=by simp[bZ]
theorem Zf(a b:Int):bZ .sub (.int .i64 a) (.int .i64 b)=some (.int .i64 (IntKind.i64.wrap (a-b))):=by simp[bZ]
theorem Zg(a b:Int):bZ .mul (.int .i64 a) (.int .i64 b)=some (.int .i64 (IntKind.i64.wrap (a*b))):=by simp[bZ]
theorem FZ(k:IntKind)(a b:Int):bZ .eql (.int k a) (.int k b)=some (.bool (a == b)):=by simp[bZ]
theorem FU(k:IntKind)(a b:Int):bZ .neq (.int k a) (.int k b)=some (.bool (a != b)):=by simp[bZ]
theorem FV(k:IntKind)(a b:Int):bZ .lss (.int k a) (.int k b)=some (.bool (decide (a<b))):=by simp[bZ]
theorem FW(k:IntKind)(a b:Int):bZ .leq (.int k a) (.int k b)=some (.bool (decide (a≤b))):=by simp[bZ]
theorem FX(k:IntKind)(a b:Int):bZ .gtr (.int k a) (.int k b)=some (.bool (decide (b<a))):=by simp[bZ]
theorem FY(k:IntKind)(a b:Int):bZ .geq (.int k a) (.int k b)=some (.bool (decide (b≤a))):=by simp[bZ]
theorem FT(a b:List UInt8):bZ .eql (.str a) (.str b)=some (.bool (a == b)):=rfl
theorem FO(a b:List UInt8):bZ .neq (.str a) (.str b)=some (.bool (!(a == b))):=rfl
theorem FP(a b:List UInt8):bZ .lss (.str a) (.str b)=some (.bool (Go.Op.bytesLess a b)):=rfl
theorem FQ(a b:List UInt8):bZ .leq (.str a) (.str b)=some (.bool (Go.Op.bytesLess a b || a == b)):=rfl
theorem FR(a b:List UInt8):bZ .gtr (.str a) (.str b)=some (.bool (!(Go.Op.bytesLess a b || a == b))):=rfl
theorem FS(a b:List UInt8):bZ .geq (.str a) (.str b)=some (.bool (!Go.Op.bytesLess a b)):=rfl
theorem TR(b:Bool):unD .not (.bool b)=some (.bool (!b)):=rfl
theorem TS(k:IntKind)(n:Int):unD .neg (.int k n)=some (.int k (k.wrap (0-n))):=rfl
theorem LT(ks:List Nat)(xs ys:List DV):iW (.agg ks) (.agg xs) (.agg ys)=cK ks xs ys:=rfl
theorem tN(k:Nat)(x y:DV):iW (.prim k) x y=hJ k x y:=rfl
theorem Yx:cK [] [] []=some true:=rfl
theorem Yy(ks:List Nat)(a b:Int)(k:IntKind)(xs ys:List DV):cK (1::ks) (.int k a::xs) (.int k b::ys)=(cK ks xs ys).map ((a == b) && ·):=by
 simp only[cK,hJ,and_self,if_true];cases cK ks xs ys<;>rfl
theorem Yw(ks:List Nat)(a b:List UInt8)(xs ys:List DV):cK (2::ks) (.str a::xs) (.str b::ys)=(cK ks xs ys).map ((a == b) && ·):=by
 simp only[cK,hJ,if_true];cases cK ks xs ys<;>rfl
theorem Sv(ks:List Nat)(a b:Bool)(xs ys:List DV):cK (0::ks) (.bool a::xs) (.bool b::ys)=(cK ks xs ys).map ((a == b) && ·):=by
 simp only[cK,hJ,if_true];cases cK ks xs ys<;>rfl
theorem I8(k:IntKind)(a b:Int):hJ 1 (.int k a) (.int k b)=some (a == b):=by simp[hJ]
theorem qV(a b:List UInt8):hJ 2 (.str a) (.str b)=some (a == b):=by simp[hJ]
theorem Vw(a b:Bool):hJ 0 (.bool a) (.bool b)=some (a == b):=by simp[hJ]
theorem LO(cs:List DV):gG cs []=some cs:=rfl
theorem EO(cs:List DV)(off n:Nat)(v:DV)(r:List (Nat×Nat×DV))(hs:bF n v=true)(ho:off+n≤cs.length):gG cs ((off,n,v)::r)=gG (cs.take off++aK n v++cs.drop (off+n)) r:=by
 simp[gG,hs,ho]
theorem EP(sz:Nat)(xs:List DV):dM sz xs []=some xs:=rfl
theorem O8(sz:Nat)(xs:List DV)(i:Nat)(v:DV)(r:List (Nat×DV))(hs:bF sz v=true)(hi:i<xs.length):dM sz xs ((i,v)::r)=dM sz (xs.set i v) r:=by
 simp[dM,hs,hi]
theorem Yl(sz:Nat)(cs:List DV):aK sz (.agg cs)=cs:=rfl
theorem P6(sz:Nat)(k:IntKind)(n:Int):aK sz (.int k n)=[.int k n]:=rfl
theorem Yk(sz:Nat)(n:Bool):aK sz (.bool n)=[.bool n]:=rfl
theorem P1(sz:Nat)(n:List UInt8):aK sz (.str n)=[.str n]:=rfl
theorem P3(sz:Nat):aK sz .nsl=[.nsl]:=rfl
theorem EY(sz a b c d:Nat):aK sz (.sl a b c d)=[.sl a b c d]:=rfl
theorem P2(sz a b c d:Nat):aK sz (.ptr a b c d)=[.ptr a b c d]:=rfl
theorem P5(sz:Nat)(t:Bool)(s:Nat)(xs:List DV):aK sz (.isl t s xs)=[.isl t s xs]:=rfl
theorem Yj(sz:Nat)(f:Nat)(cs:List DV):aK sz (.func f cs)=[.func f cs]:=rfl
theorem P4(sz:Nat)(i:Nat):aK sz (.map i)=[.map i]:=rfl
theorem Sk(sz t:Nat)(d:DV):aK sz (.iface t d)=[.iface t d]:=rfl
theorem Yi(sz:Nat):aK sz .nili=[.nili]:=rfl
theorem Yh(sz:Nat):aK sz .nilp=[.nilp]:=rfl
theorem Yg(p:bN):aK 1 (bQ p)=[bQ p]:=Nx ..
theorem EW(h:aA)(sz:Nat):elems h sz .nsl=some []:=rfl
def KP(n:Option Nat)(sz off:Nat):Option DV→Option DV|some e=>dG n (aK sz e) off|none=>none
theorem L7(n:Option Nat)(sz off:Nat)(e:DV):KP n sz off (some e)=dG n (aK sz e) off:=rfl
def KO(n:Option Nat)(sz idx off:Nat):Option DO→Option DV
 | some (.arr _ eG xs _)=>if sz=eG then KP n sz off xs[idx]? else none
 | _=>none
theorem L6(n:Option Nat)(sz idx off ety eG:Nat)(xs:List DV)(cap:Option Nat):KO n sz idx off (some (.arr ety eG xs cap))=if sz=eG then KP n sz off xs[idx]? else none:=rfl
theorem KN(h:aA)(n:Option Nat)(id sz idx off:Nat):kH h n (.ptr id sz idx off)=KO n sz idx off (h.get id):=by
 simp only[kH,KO]
 cases h.get id with
 | none=>rfl
 | some o=>cases o with
  | arr e s xs c =>
   simp only
   split
   ·cases xs[idx]?<;>rfl
   ·rfl
  | _=>rfl
def D7(h:aA)(n id sz idx off ety:Nat)(xs:List DV)(cap:Option Nat)(x:DV):Option DV→Option aA
 | some e=>if(aK sz e).length=sz then some (h.set id (.arr ety sz (xs.set idx (turn sz off n e x)) cap))else none
 | none=>none
theorem Uj(h:aA)(n id sz idx off ety:Nat)(xs:List DV)(cap:Option Nat)(x e:DV):D7 h n id sz idx off ety xs cap x (some e)=if(aK sz e).length=sz then some (h.set id (.arr ety sz (xs.set idx (turn sz off n e x)) cap))else none:=rfl
def D6(h:aA)(n id sz idx off:Nat)(x:DV):Option DO→Option aA
 | some (.arr ety eG xs cap)=>if sz=eG∧h.lim≤id∧bF n x=true∧off+n≤sz then D7 h n id sz idx off ety xs cap x xs[idx]? else none
 | _=>none
theorem Ui(h:aA)(n id sz idx off:Nat)(x:DV)(ety eG:Nat)(xs:List DV)(cap:Option Nat):D6 h n id sz idx off x (some (.arr ety eG xs cap))=if sz=eG∧h.lim≤id∧bF n x=true∧off+n≤sz then D7 h n id sz idx off ety xs cap x xs[idx]? else none:=rfl
theorem BQ(h:aA)(n id sz idx off:Nat)(x:DV):gY h n (.ptr id sz idx off) x=D6 h n id sz idx off x (h.get id):=by
 simp only[gY,D6]
 cases h.get id with
 | none=>rfl
 | some o=>cases o with
  | arr e s xs c =>
   simp only
   split
   ·cases xs[idx]?<;>rfl
   ·rfl
  | _=>rfl
def Sj(sz eG off len:Nat):Option DO→Option (List DV)
 | some (.arr _ lN xs _)=>if sz=eG∧sz=lN∧off+len≤xs.length then some ((xs.drop off).take len)else none
 | _=>none
theorem wV(sz eG off len ety lN:Nat)(xs:List DV)(cap:Option Nat):Sj sz eG off len (some (.arr ety lN xs cap))=if sz=eG∧sz=lN∧off+len≤xs.length then some ((xs.drop off).take len)else none:=rfl
theorem LU(h:aA)(sz id eG off len:Nat):elems h sz (.sl id eG off len)=Sj sz eG off len (h.get id):=by
 simp only[elems,Sj]
 cases h.get id with
 | none=>rfl
 | some o=>cases o<;>rfl
def Cw(sz id off:Nat)(lo:Option DV):Option Nat→Option DV
 | some b=>match eQ lo 0 b with
  | some a=>some (.sl id sz (off+a) (b-a))
  | none=>none
 | none=>none
def E3(sz eG id off len:Nat)(lo hi:Option DV):Option DO→Option DV
 | some (.arr _ lN xs _)=>if sz=eG∧sz=lN∧off+len≤xs.length then Cw sz id off lo (eQ hi len (xs.length-off))else none
 | _=>none
theorem Uy(sz eG id off len:Nat)(lo hi:Option DV)(ety lN:Nat)(xs:List DV)(cap:Option Nat):E3 sz eG id off len lo hi (some (.arr ety lN xs cap))=if sz=eG∧sz=lN∧off+len≤xs.length then Cw sz id off lo (eQ hi len (xs.length-off))else none:=rfl
theorem BU(h:aA)(sz id eG off len:Nat)(lo hi:Option DV):mR h sz (.sl id eG off len) lo hi=E3 sz eG id off len lo hi (h.get id):=by
 simp only[mR,E3]
 cases h.get id with
 | none=>rfl
 | some o=>cases o with
  | arr e s xs c =>
   simp only
   split
   ·cases eQ hi len (xs.length-off)with
    | none=>rfl
    | some b=>first|(simp only[Cw];done)|(simp only[Cw];cases eQ lo 0 b<;>rfl)
   ·rfl
  | _=>rfl
def VK(sz id off b:Nat):Option Nat→Option DV
 | some a=>some (.sl id sz (off+a) (b-a))
 | none=>none
theorem BV(sz id off b a:Nat):VK sz id off b (some a)=some (.sl id sz (off+a) (b-a)):=rfl
theorem Uw(sz id off:Nat)(lo:Option DV)(b:Nat):Cw sz id off lo (some b)=VK sz id off b (eQ lo 0 b):=by
 simp only[Cw,VK]
def MK(h:aA)(sz eG id off len:Nat)(ys:List DV):Option DO→Option (DV×aA)
 | some (.arr ety lN xs cap)=>if sz=eG∧sz=lN∧off+len≤xs.length∧h.lim≤id then some (.int .i64 (ys.take len).length,h.set id (.arr ety sz (gZ xs (ys.take len) off) cap))else none
 | _=>none
theorem Q0(h:aA)(sz eG id off len:Nat)(ys:List DV)(ety lN:Nat)(xs:List DV)(cap:Option Nat):MK h sz eG id off len ys (some (.arr ety lN xs cap))=if sz=eG∧sz=lN∧off+len≤xs.length∧h.lim≤id then some (.int .i64 (ys.take len).length,h.set id (.arr ety sz (gZ xs (ys.take len) off) cap))else none:=rfl
theorem ML(h:aA)(sz id eG off len:Nat)(ys:List DV):yZ h sz (.sl id eG off len) ys=MK h sz eG id off len ys (h.get id):=by
 simp only[yZ,MK]
 cases h.get id with
 | none=>rfl
 | some o=>cases o<;>rfl
def MN(h:aA):DV→Option DV
 | .nsl=>some (.int .i64 0)
 | .sl id sz off _=>match h.get id with
  | some (.arr _ eG _ (some c))=>if sz=eG then some (.int .i64 (c-off:Nat))else none
  | some (.arr _ eG xs none)=>if sz=eG then some (.atl (xs.length-off))else none
  | _=>none
 | _=>none
theorem HU(h:aA)(env:Env)(x:Opd):aD h env (.cap x)=dO h (MN h (x.eval env)):=by
 simp only[aD,MN]
 cases x.eval env with
 | sl id sz off len =>
  simp only
  cases h.get id with
  | none=>rfl
  | some o=>cases o with
   | arr e s xs c=>cases c<;>simp only<;>split<;>rfl
   | _=>rfl
 | _=>rfl
theorem WE(c:Nat→List DV→aA→Option (DV×aA))(h:aA)(env:Env)(x:Opd):bO c (.cap x) env h=dO h (MN h (x.eval env)):=HU h env x
def SJ(sz off:Nat):Option DO→Option DV
 | some (.arr _ eG _ (some c))=>if sz=eG then some (.int .i64 (c-off:Nat))else none
 | some (.arr _ eG xs none)=>if sz=eG then some (.atl (xs.length-off))else none
 | _=>none
theorem SI(h:aA)(id sz off len:Nat):MN h (.sl id sz off len)=SJ sz off (h.get id):=by
 simp only[MN,SJ]
theorem FJ(sz off ety eG:Nat)(xs:List DV):SJ sz off (some (.arr ety eG xs none))=if sz=eG then some (.atl (xs.length-off))else none:=rfl
theorem FI(sz off ety eG:Nat)(xs:List DV)(c:Nat):SJ sz off (some (.arr ety eG xs (some c)))=if sz=eG then some (.int .i64 (c-off:Nat))else none:=rfl
theorem R7(a:Int)(n:Nat)(h:a≤(n:Int)):bZ .gtr (.int .i64 a) (.atl n)=some (.bool false):=by simp[bZ,h]
def Zk(h:aA)(ety sz bytes:Nat)(z s:DV)(x:DV):Option (DV×aA):=match asI x with
  | some n=>if 0≤n∧n≤140737488355328 then aU h ety sz bytes s (List.replicate n.toNat z)else none
  | none=>none
theorem J7(c:Nat→List DV→aA→Option (DV×aA))(h:aA)(env:Env)(ety sz bytes:Nat)(z:DV)(s x:Opd):bO c (.appendZ ety sz bytes z s x) env h=Zk h ety sz bytes z (s.eval env) (x.eval env):=rfl
theorem Sz(h:aA)(ety sz bytes:Nat)(z s:DV)(k:IntKind)(n:Int):Zk h ety sz bytes z s (.int k n)=if 0≤n∧n≤140737488355328 then aU h ety sz bytes s (List.replicate n.toNat z)else none:=rfl
theorem OZ{h:aA}{id:Nat}{o o':DO}:(h.set id o).set id o'=h.set id o':=by
 simp[aA.set]
theorem Tk{h:aA}{o:DO}:WF (h.push o)↔WF h:=⟨fun w=>by unfold WF at *;simpa[aA.push]using w,fun w=>w.push⟩
theorem A3{h:aA}{id:Nat}{o:DO}:WF (h.set id o)↔WF h:=⟨fun w=>by unfold WF at *;simpa[aA.set]using w,fun w=>w.set⟩
theorem O2{h:aA}{id k:Nat}{o:DO}(w:WF h)(eO:id<h.n):(h.set id o).get k=if k=id then some o else h.get k:=fU w eO
def wl(h:aA)(l:Nat):aA:={h with lim:=l}
theorem Z0{h:aA}{l:Nat}:WF (wl h l)↔WF h:=Iff.rfl
theorem WF.wl{h:aA}(w:WF h)(l:Nat):WF (Dm.wl h l):=w
def crV(h:aA)(L:cU):Option (DV×aA)→Option (DV×aA×cU)
 | some (v,h')=>some (v,wl h' h.lim,L)
 | none=>none
theorem MG(h:aA)(L:cU)(v:DV)(h':aA):crV h L (some (v,h'))=some (v,wl h' h.lim,L):=rfl
theorem gT(c:gO)(l r:Nat)(L:cU)(o:DOp)(env:Env)(h:aA)(hp:mC L env o=none)(hq:Bh env o=false):dD c l r L o env h=crV h L (bO c o env (wl h (max l h.lim))):=by
 unfold dD
 rw[hp,hq]
 simp only[nH,wl]
 cases bO c o env {h with lim:=max l h.lim} with
 | some p=>rfl
 | none=>rfl
def Rc:DV→Bool|.func g _=>U8 g|_=>false
theorem Vy(g:FuncId)(cap:List DV):Rc (.func g cap)=U8 g:=rfl
def pkC(r:Nat)(L:cU)(h:aA):Option (DV×aA)→Option (DV×aA×cU)
 | some (v,h')=>if(yA h h').all (fun id=>L.rds.all fun x=>!(Nat.beq x.1 id))=true then some (v,h',{L with pks:=(yA h h').map (fun id=>(r,id))++L.pks})else none
 | none=>none
theorem Me(c:gO)(l r:Nat)(L:cU)(g:Opd)(as:List Opd)(env:Env)(h:aA):dD c l r L (.call g as) env h=if Rc (g.eval env)=true then pkC r L h (bO c (.call g as) env h)else crV h L (bO c (.call g as) env (wl h (max l h.lim))):=by
 have hq:Bh env (.call g as)=Rc (g.eval env):=by simp only[Bh,Rc];cases g.eval env<;>rfl
 split
 ·rename_i ht
  unfold dD
  rw[show mC L env (.call g as)=none from rfl,hq,ht]
  simp only[mX,pkC]
  cases bO c (.call g as) env h<;>rfl
 ·rename_i hf
  exact gT _ _ _ _ _ _ _ rfl (by rw[hq];simpa using hf)
theorem Ki(c:gO)(l r:Nat)(L:cU)(e s:Nat)(z:DV)(env:Env)(h:aA):dD c l r L (.alloc e s z) env h=crV h L (bO c (.alloc e s z) env (wl h (max l h.lim))):=gT _ _ _ _ _ _ _ rfl rfl
theorem Sn(c:gO)(l r:Nat)(L:cU)(e s:Nat)(z:Opd)(env:Env)(h:aA):dD c l r L (.box e s z) env h=crV h L (bO c (.box e s z) env (wl h (max l h.lim))):=gT _ _ _ _ _ _ _ rfl rfl
theorem yJ(c:gO)(l r:Nat)(L:cU)(e s:Nat)(z:DV)(n:Nat)(ps:List (Nat×Opd))(env:Env)(h:aA):dD c l r L (.buildSlice e s z n ps) env h=crV h L (bO c (.buildSlice e s z n ps) env (wl h (max l h.lim))):=gT _ _ _ _ _ _ _ rfl rfl
theorem Md(c:gO)(l r:Nat)(L:cU)(s:Nat)(d x:Opd)(env:Env)(h:aA):dD c l r L (.copy s d x) env h=crV h L (bO c (.copy s d x) env (wl h (max l h.lim))):=gT _ _ _ _ _ _ _ rfl rfl
theorem Dr(c:gO)(l r:Nat)(L:cU)(env:Env)(h:aA):dD c l r L .makeMap env h=crV h L (bO c .makeMap env (wl h (max l h.lim))):=gT _ _ _ _ _ _ _ rfl rfl
def JG:DV→Option Nat|.ptr id ..=>some id|_=>none
def Hr:DV→Option Nat|.sl id ..=>some id|_=>none
def mapId:DV→Option Nat|.map id=>some id|_=>none
section
variable (env:Env)
theorem OM(n:Option Nat)(a:Opd):bT env (.load n a)=JG (a.eval env):=by simp only[bT];cases a.eval env<;>rfl
theorem Tp(sz:Nat)(x:Opd)(lo hi:Option Opd):bT env (.sliceSl sz x lo hi)=Hr (x.eval env):=by simp only[bT];cases x.eval env<;>rfl
theorem HF(x:Opd):bT env (.cap x)=Hr (x.eval env):=by simp only[bT];cases x.eval env<;>rfl
theorem HC(k:Nat)(x:Opd):bT env (.len k x)=mapId (x.eval env):=by simp only[bT];cases x.eval env<;>rfl
theorem Mq(q:EqT)(z:DV)(ok:Bool)(m k:Opd):bT env (.lookup q z ok m k)=mapId (m.eval env):=by simp only[bT];cases m.eval env<;>rfl
theorem OL(x:Opd):bT env (.move x)=none:=_root_.id rfl
theorem OK(c a b:Opd):bT env (.pick c a b)=none:=_root_.id rfl
theorem HG(z:List DV)(ps:List (Nat×Nat×Opd)):bT env (.build z ps)=none:=_root_.id rfl
theorem HI(op:BinOp)(x y:Opd):bT env (.arith op x y)=none:=_root_.id rfl
theorem TZ(n:Bool)(x y:Opd):bT env (.eqb n x y)=none:=_root_.id rfl
theorem UA(n:Bool)(ks:List Nat)(x y:Opd):bT env (.eqa n ks x y)=none:=_root_.id rfl
theorem TY(k:Nat)(n:Bool)(x y:Opd):bT env (.eqn k n x y)=none:=_root_.id rfl
theorem YR(op:UnOp)(x:Opd):bT env (.un op x)=none:=_root_.id rfl
theorem ON(k:IntKind)(x:Opd):bT env (.conv k x)=none:=_root_.id rfl
theorem HH(x:Opd):bT env (.asStr x)=none:=_root_.id rfl
theorem Tq(x:Opd):bT env (.nilCheck x)=none:=_root_.id rfl
theorem Ok(o:Nat)(x:Opd):bT env (.fieldAddr o x)=none:=_root_.id rfl
theorem HE(o:Nat)(n:Option Nat)(x:Opd):bT env (.field o n x)=none:=_root_.id rfl
theorem Oj(s:Nat)(x i:Opd):bT env (.indexAddr s x i)=none:=_root_.id rfl
theorem Tt(l e:Nat)(x i:Opd):bT env (.indexArr l e x i)=none:=_root_.id rfl
theorem HD(l e:Nat)(n:Option Nat)(x i:Opd):bT env (.index l e n x i)=none:=_root_.id rfl
theorem Ts(x i:Opd):bT env (.indexStr x i)=none:=_root_.id rfl
theorem To(x:Opd)(lo hi:Option Opd):bT env (.sliceStr x lo hi)=none:=_root_.id rfl
theorem Z4(b:Bool)(x y:Opd):bT env (.minmax b x y)=none:=_root_.id rfl
theorem Tr(f:FuncId)(c:List Opd):bT env (.makeFunc f c)=none:=_root_.id rfl
theorem A7(x:Opd)(i:Nat):bT env (.extract x i)=none:=_root_.id rfl
theorem Oi(t:TypeId)(x:Opd):bT env (.makeIface t x)=none:=_root_.id rfl
def DI:Option Nat→Option (Nat×lM)
 | some id=>some (id,none)
 | none=>none
theorem DG(id:Nat):DI (some id)=some (id,none):=_root_.id rfl
theorem DH:DI none=none:=_root_.id rfl
def JF(n:Option Nat):DV→Option (Nat×lM)
 | .ptr id sz i o=>some (id,some (n,sz,i,o))
 | _=>none
theorem CW(n:Option Nat)(id sz i o:Nat):JF n (.ptr id sz i o)=some (id,some (n,sz,i,o)):=_root_.id rfl
theorem I6(n:Option Nat)(l:Bool)(cs:List DV)(o:Nat):JF n (.iptr l cs o)=none:=_root_.id rfl
theorem QK(n:Option Nat)(a:Opd):mark env (.load n a)=JF n (a.eval env):=by simp only[mark];cases a.eval env<;>rfl
theorem JZ(sz:Nat)(x:Opd)(lo hi:Option Opd):mark env (.sliceSl sz x lo hi)=DI (Hr (x.eval env)):=by rw[←Tp env];simp only[mark];cases bT env (.sliceSl sz x lo hi)<;>rfl
theorem WN(x:Opd):mark env (.cap x)=DI (Hr (x.eval env)):=by rw[←HF env];simp only[mark];cases bT env (.cap x)<;>rfl
theorem WJ(k:Nat)(x:Opd):mark env (.len k x)=DI (mapId (x.eval env)):=by rw[←HC env];simp only[mark];cases bT env (.len k x)<;>rfl
theorem DL(q:EqT)(z:DV)(ok:Bool)(m k:Opd):mark env (.lookup q z ok m k)=DI (mapId (m.eval env)):=by rw[←Mq env];simp only[mark];cases bT env (.lookup q z ok m k)<;>rfl
theorem QJ(x:Opd):mark env (.move x)=none:=_root_.id rfl
theorem QI(c a b:Opd):mark env (.pick c a b)=none:=_root_.id rfl
theorem KC(z:List DV)(ps:List (Nat×Nat×Opd)):mark env (.build z ps)=none:=_root_.id rfl
theorem KE(op:BinOp)(x y:Opd):mark env (.arith op x y)=none:=_root_.id rfl
theorem WL(n:Bool)(x y:Opd):mark env (.eqb n x y)=none:=_root_.id rfl
theorem WM(n:Bool)(ks:List Nat)(x y:Opd):mark env (.eqa n ks x y)=none:=_root_.id rfl
theorem WK(k:Nat)(n:Bool)(x y:Opd):mark env (.eqn k n x y)=none:=_root_.id rfl
theorem l8(op:UnOp)(x:Opd):mark env (.un op x)=none:=_root_.id rfl
theorem QL(k:IntKind)(x:Opd):mark env (.conv k x)=none:=_root_.id rfl
theorem KD(x:Opd):mark env (.asStr x)=none:=_root_.id rfl
theorem Wn(x:Opd):mark env (.nilCheck x)=none:=_root_.id rfl
theorem Rn(o:Nat)(x:Opd):mark env (.fieldAddr o x)=none:=_root_.id rfl
theorem KB(o:Nat)(n:Option Nat)(x:Opd):mark env (.field o n x)=none:=_root_.id rfl
theorem Rm(s:Nat)(x i:Opd):mark env (.indexAddr s x i)=none:=_root_.id rfl
theorem Wq(l e:Nat)(x i:Opd):mark env (.indexArr l e x i)=none:=_root_.id rfl
theorem KA(l e:Nat)(n:Option Nat)(x i:Opd):mark env (.index l e n x i)=none:=_root_.id rfl
theorem Wp(x i:Opd):mark env (.indexStr x i)=none:=_root_.id rfl
theorem Wm(x:Opd)(lo hi:Option Opd):mark env (.sliceStr x lo hi)=none:=_root_.id rfl
theorem DK(b:Bool)(x y:Opd):mark env (.minmax b x y)=none:=_root_.id rfl
theorem Wo(f:FuncId)(c:List Opd):mark env (.makeFunc f c)=none:=_root_.id rfl
theorem K9(x:Opd)(i:Nat):mark env (.extract x i)=none:=_root_.id rfl
theorem Rl(t:TypeId)(x:Opd):mark env (.makeIface t x)=none:=_root_.id rfl
end
theorem CX(a b c d:Nat):JG (.ptr a b c d)=some a:=_root_.id rfl
theorem I7(l:Bool)(cs:List DV)(o:Nat):JG (.iptr l cs o)=none:=_root_.id rfl
theorem OW(a b c d:Nat):Hr (.sl a b c d)=some a:=_root_.id rfl
theorem HY:Hr .nsl=none:=_root_.id rfl
theorem OX{α:Type}(t:Bool)(sz:Nat)(e:α→DV)(xs:List α):Hr (eL t sz e xs)=none:=by cases xs<;>rfl
theorem DP(i:Nat):mapId (.map i)=some i:=_root_.id rfl
theorem KI{α:Type}(t:Bool)(sz:Nat)(e:α→DV)(xs:List α):mapId (eL t sz e xs)=none:=by cases xs<;>rfl
theorem KH(a b c d:Nat):mapId (.sl a b c d)=none:=_root_.id rfl
theorem DN:mapId .nsl=none:=_root_.id rfl
theorem DM(s:List UInt8):mapId (.str s)=none:=_root_.id rfl
theorem DS:cU.start=⟨[],[]⟩:=_root_.id rfl
theorem KM(L:cU)(t:Option (Nat×lM)):cU.see L true t=L:=_root_.id rfl
theorem QQ(L:cU)(t:Option (Nat×lM)):cU.see L false t=cU.read L t:=_root_.id rfl
theorem KK(r:List (Nat×lM))(p:List (Nat×Nat))(x:Nat×lM):cU.read ⟨r,p⟩ (some x)=⟨x::r,p⟩:=_root_.id rfl
theorem DT(L:cU):cU.read L none=L:=_root_.id rfl
theorem DW(r:List (Nat×lM))(s:Nat)(t:Option Nat):cU.free ⟨r,[]⟩ s t=true:=by cases t<;>rfl
theorem DU(L:cU)(s:Nat):cU.free L s none=true:=_root_.id rfl
theorem KL(r:List (Nat×lM))(p:Nat×Nat)(ps:List (Nat×Nat))(s id:Nat):cU.free ⟨r,p::ps⟩ s (some id)=((decide (p.1<s) || !decide (p.2=id)) && cU.free ⟨r,ps⟩ s (some id)):=by
 have e1:Nat.blt p.1 s=decide (p.1<s):=by rw[Bool.eq_iff_iff];simp[Nat.blt_eq]
 have e2:Nat.beq p.2 id=decide (p.2=id):=by rw[Bool.eq_iff_iff];simp
 simp only[cU.free,List.all_cons,e1,e2]
theorem R8(m:Option Nat)(z i o n idx off:Nat):qB (some (m,z,i,o)) n idx off=(!decide (i=idx) || decide (o+Gm m≤off) || decide (off+n≤o)):=by
 have e2:Nat.beq i idx=decide (i=idx):=by rw[Bool.eq_iff_iff];simp
 have e3:Nat.ble (o+Gm m) off=decide (o+Gm m≤off):=by rw[Bool.eq_iff_iff];simp
 have e4:Nat.ble (off+n) o=decide (off+n≤o):=by rw[Bool.eq_iff_iff];simp
 simp only[qB,e2,e3,e4]
theorem R9(n idx off:Nat):qB none n idx off=false:=_root_.id rfl
theorem Zz:Gm none=1:=_root_.id rfl
theorem Zy(n:Nat):Gm (some n)=n:=_root_.id rfl
def pkA(L:cU):Option Nat→Option Nat
 | some id=>if L.rds.all (fun x=>!decide (x.1=id))=true then some id else none
 | none=>none
theorem JL(r:List (Nat×lM))(p:List (Nat×Nat))(id:Nat):pkA ⟨r,p⟩ (some id)=if r.all (fun x=>!decide (x.1=id))=true then some id else none:=_root_.id rfl
theorem JM(L:cU):pkA L none=none:=_root_.id rfl
theorem i6(L:cU)(id:Nat):(L.rds.all fun x=>!(Nat.beq x.1 id))=(L.rds.all fun x=>!decide (x.1=id)):=by
 congr 1;funext x
 have e2:Nat.beq x.1 id=decide (x.1=id):=by rw[Bool.eq_iff_iff];simp
 rw[e2]
def pkS(L:cU)(n:Nat):DV→Option Nat
 | .ptr id _ idx off=>if L.rds.all (fun x=>!decide (x.1=id) || qB x.2 n idx off)=true then some id else none
 | _=>none
theorem PY(r:List (Nat×lM))(p:List (Nat×Nat))(n id sz idx off:Nat):pkS ⟨r,p⟩ n (.ptr id sz idx off)=if r.all (fun x=>!decide (x.1=id) || qB x.2 n idx off)=true then some id else none:=_root_.id rfl
theorem JK(L:cU)(n:Nat)(l:Bool)(cs:List DV)(o:Nat):pkS L n (.iptr l cs o)=none:=_root_.id rfl
theorem JI(L:cU)(env:Env)(n:Nat)(a x:Opd):mC L env (.store n a x)=pkS L n (a.eval env):=by
 simp only[mC]
 cases a.eval env<;>try rfl
 rename_i id sz idx off
 have:(L.rds.all fun x=>!(Nat.beq x.1 id) || qB x.2 n idx off)=(L.rds.all fun x=>!decide (x.1=id) || qB x.2 n idx off):=by
  congr 1;funext x
  have e2:Nat.beq x.1 id=decide (x.1=id):=by rw[Bool.eq_iff_iff];simp
  rw[e2]
 simp only[this];rfl
theorem DA(L:cU)(env:Env)(e s b:Nat)(a x:Opd):mC L env (.append e s b a x)=pkA L (Hr (a.eval env)):=by
 simp only[mC,pkA,Hr,i6];cases a.eval env<;>rfl
def pkV(L:cU)(r id:Nat):Option (DV×aA)→Option (DV×aA×cU)
 | some (v,h')=>some (v,h',⟨L.rds,(r,id)::L.pks⟩)
 | none=>none
theorem JJ(rs:List (Nat×lM))(ps:List (Nat×Nat))(r id:Nat)(v:DV)(h':aA):pkV ⟨rs,ps⟩ r id (some (v,h'))=some (v,h',⟨rs,(r,id)::ps⟩):=_root_.id rfl
def crP(c:gO)(l r:Nat)(L:cU)(o:DOp)(env:Env)(h:aA):Option Nat→Option (DV×aA×cU)
 | some id=>pkV L r id (aD h env o)
 | none=>crV h L (bO c o env (wl h (max l h.lim)))
theorem MH(c:gO)(l r:Nat)(L:cU)(o:DOp)(env:Env)(h:aA)(id:Nat):crP c l r L o env h (some id)=pkV L r id (aD h env o):=_root_.id rfl
theorem MI(c:gO)(l r:Nat)(L:cU)(o:DOp)(env:Env)(h:aA):crP c l r L o env h none=crV h L (bO c o env (wl h (max l h.lim))):=_root_.id rfl
theorem Ew(c:gO)(l r:Nat)(L:cU)(o:DOp)(env:Env)(h:aA)(hq:Bh env o=false):dD c l r L o env h=crP c l r L o env h (mC L env o):=by
 cases hp:mC L env o with
 | none=>rw[gT _ _ _ _ _ _ _ hp hq];rfl
 | some id =>
  unfold dD
  rw[hp]
  simp only[crP,pkV]
  cases aD h env o with
  | none=>rfl
  | some q=>rfl
theorem Kf(c:gO)(l r:Nat)(L:cU)(n:Nat)(a x:Opd)(env:Env)(h:aA):dD c l r L (.store n a x) env h=crP c l r L (.store n a x) env h (pkS L n (a.eval env)):=by rw[Ew _ _ _ _ _ _ _ rfl,JI]
theorem Fu(c:gO)(l r:Nat)(L:cU)(e s b:Nat)(a x:Opd)(env:Env)(h:aA):dD c l r L (.append e s b a x) env h=crP c l r L (.append e s b a x) env h (pkA L (Hr (a.eval env))):=by rw[Ew _ _ _ _ _ _ _ rfl,DA]
theorem Ad(c:gO)(l r:Nat)(L:cU)(q:EqT)(m k x:Opd)(env:Env)(h:aA):dD c l r L (.mapUpdate q m k x) env h=crV h L (bO c (.mapUpdate q m k x) env (wl h (max l h.lim))):=gT _ _ _ _ _ _ _ rfl rfl
theorem PU(t:Bool)(h:aA)(n:Nat)(k:IntKind)(m:Int):resolve t h (n+1) (.int k m)=some (.int k m):=rfl
theorem JC(t:Bool)(h:aA)(n:Nat)(m:Bool):resolve t h (n+1) (.bool m)=some (.bool m):=rfl
theorem PS(t:Bool)(h:aA)(n:Nat)(m:List UInt8):resolve t h (n+1) (.str m)=some (.str m):=rfl
theorem PT(t:Bool)(h:aA)(n:Nat):resolve t h (n+1) .nsl=some (.isl false 0 []):=rfl
theorem JA(t:Bool)(h:aA)(n:Nat)(l:Bool)(cs:List DV)(o:Nat):resolve t h (n+1) (.iptr l cs o)=some (.iptr l cs o):=rfl
theorem JB{α:Type}(t:Bool)(h:aA)(n:Nat)(t':Bool)(sz:Nat)(e:α→DV)(xs:List α):resolve t h (n+1) (eL t' sz e xs)=some (eL t' sz e xs):=sF t' sz e xs t h (n+1) (by omega)
theorem Vq(t:Bool)(h:aA)(n:Nat)(p:bN):resolve t h (n+1) (bQ p)=some (bQ p):=JB ..
theorem IZ(t:Bool)(h:aA)(n:Nat):resolve t h (n+1) .nili=some .nili:=rfl
theorem IY(t:Bool)(h:aA)(n:Nat):resolve t h (n+1) .nilp=some .nilp:=rfl
theorem Gi(t:Bool)(h:aA)(v:DV):resolve t h cO v=resolve t h (199+1) v:=rfl
def vQ(t:Bool)(h:aA)(n:Nat)(vs:List DV):Option (List DV):=vs.mapM (resolve t h n)
theorem PV(t:Bool)(h:aA)(n:Nat)(vs:List DV):vs.mapM (resolve t h n)=vQ t h n vs:=rfl
theorem JD(t:Bool)(h:aA)(n:Nat):vQ t h n []=some []:=rfl
def TM:Option DV→Option (List DV)→Option (List DV)
 | some x,some l=>some (x::l)
 | _,_=>none
theorem Q1(x:DV)(l:List DV):TM (some x) (some l)=some (x::l):=rfl
theorem CQ(t:Bool)(h:aA)(n:Nat)(v:DV)(vs:List DV):vQ t h n (v::vs)=TM (resolve t h n v) (vQ t h n vs):=by
 unfold vQ
 rw[List.mapM_cons]
 cases resolve t h n v<;>cases vs.mapM (resolve t h n)<;>rfl
def aggO:Option (List DV)→Option DV|some c=>some (.agg c)|none=>none
def YP:Option (List DV)→Option DV|some c=>some (.tup c)|none=>none
def o6(f:Nat):Option (List DV)→Option DV|some c=>some (.func f c)|none=>none
theorem GD(c:List DV):aggO (some c)=some (.agg c):=rfl
theorem Z3(c:List DV):YP (some c)=some (.tup c):=rfl
theorem EJ(f:Nat)(c:List DV):o6 f (some c)=some (.func f c):=rfl
theorem U7(t:Bool)(h:aA)(n:Nat)(cs:List DV):resolve t h (n+1) (.agg cs)=aggO (vQ t h n cs):=by
 simp only[resolve];unfold vQ;cases cs.mapM (resolve t h n)<;>rfl
theorem PR(t:Bool)(h:aA)(n:Nat)(cs:List DV):resolve t h (n+1) (.tup cs)=YP (vQ t h n cs):=by
 simp only[resolve];unfold vQ;cases cs.mapM (resolve t h n)<;>rfl
theorem Bf(t:Bool)(h:aA)(n:Nat)(f:Nat)(cs:List DV):resolve t h (n+1) (.func f cs)=o6 f (vQ t h n cs):=by
 simp only[resolve];unfold vQ;cases cs.mapM (resolve t h n)<;>rfl
def KU(t:Bool)(off:Nat):Option (List DV)→Option DV|some c=>some (.iptr t c off)|none=>none
theorem M4(t:Bool)(off:Nat)(c:List DV):KU t off (some c)=some (.iptr t c off):=rfl
def PW(t:Bool)(h:aA)(n sz off:Nat):Option DV→Option DV|some e=>KU t off (vQ t h n (aK sz e))|none=>none
theorem CR(t:Bool)(h:aA)(n sz off:Nat)(e:DV):PW t h n sz off (some e)=KU t off (vQ t h n (aK sz e)):=rfl
def Qy(t:Bool)(h:aA)(n sz idx off:Nat):Option DO→Option DV
 | some (.arr _ eG xs _)=>if sz=eG then PW t h n sz off xs[idx]? else none
 | _=>none
theorem Qx(t:Bool)(h:aA)(n sz idx off ety eG:Nat)(xs:List DV)(cap:Option Nat):Qy t h n sz idx off (some (.arr ety eG xs cap))=if sz=eG then PW t h n sz off xs[idx]? else none:=rfl
theorem G8(t:Bool)(h:aA)(n id sz idx off:Nat):resolve t h (n+1) (.ptr id sz idx off)=Qy t h n sz idx off (h.get id):=by
 simp only[resolve,Qy]
 cases h.get id with
 | none=>rfl
 | some o=>cases o with
  | arr e s xs c =>
   simp only
   split
   ·cases xs[idx]? with
    | none=>rfl
    | some x=>simp only[PW,vQ];cases(aK sz x).mapM (resolve t h n)<;>rfl
   ·rfl
  | _=>rfl
def QU(t:Bool)(sz:Nat):Option (List DV)→Option DV|some ys=>some (mkIsl t sz ys)|none=>none
theorem DZ(t:Bool)(sz:Nat)(ys:List DV):QU t sz (some ys)=some (mkIsl t sz ys):=rfl
def Da(t:Bool)(h:aA)(n sz off len:Nat):Option DO→Option DV
 | some (.arr _ eG xs _)=>if sz=eG∧off+len≤xs.length then QU t sz (vQ t h n ((xs.drop off).take len))else none
 | _=>none
theorem fB(t:Bool)(h:aA)(n sz off len ety eG:Nat)(xs:List DV)(cap:Option Nat):Da t h n sz off len (some (.arr ety eG xs cap))=if sz=eG∧off+len≤xs.length then QU t sz (vQ t h n ((xs.drop off).take len))else none:=rfl
theorem nV(t:Bool)(h:aA)(n id sz off len:Nat):resolve t h (n+1) (.sl id sz off len)=Da t h n sz off len (h.get id):=by
 simp only[resolve,Da]
 cases h.get id with
 | none=>rfl
 | some o=>cases o with
  | arr e s xs c =>
   simp only
   split
   ·simp only[vQ];cases((xs.drop off).take len).mapM (resolve t h n)<;>rfl
   ·rfl
  | _=>rfl
def i9(h:aA)(v:DV):Option DV :=
 match resolve false h (199+1) v with
 | some d=>if bH (199+1) d then some d else none
 | none=>none
theorem uJ(v:DV)(h:aA):dY (some (v,h))=i9 h v:=rfl
def Z2:Option DV→Option DV
 | some d=>if bH (199+1) d then some d else none
 | none=>none
theorem QB(h:aA)(v:DV):i9 h v=Z2 (resolve false h (199+1) v):=rfl
theorem GZ(k:IntKind)(n:Int):Z2 (some (.int k n))=some (.int k n):=rfl
theorem Z1(b:Bool):Z2 (some (.bool b))=some (.bool b):=rfl
theorem GY(b:List UInt8):Z2 (some (.str b))=some (.str b):=rfl
theorem OD(d:DV):Z2 (some d)=if bH 200 d=true then some d else none:=rfl
theorem TV(n:Nat)(k:IntKind)(m:Int):bH (n+1) (.int k m)=true:=rfl
theorem OJ(n:Nat)(m:Bool):bH (n+1) (.bool m)=true:=rfl
theorem TU(n:Nat)(m:List UInt8):bH (n+1) (.str m)=true:=rfl
theorem TX(n:Nat)(cs:List DV):bH (n+1) (.agg cs)=cs.all (bH n):=rfl
theorem TT(n:Nat)(cs:List DV):bH (n+1) (.tup cs)=cs.all (bH n):=rfl
theorem OE(n:Nat)(p:bN):bH (n+21) (bQ p)=true:=vW p (n+21) (by omega)
theorem OH(n:Nat)(sz:Nat):bH (n+1) (.isl false sz [])=true:=by simp[bH]
theorem OG(n:Nat):bH (n+1) .nili=true:=rfl
theorem OF(n:Nat):bH (n+1) .nilp=true:=rfl
theorem Vj(D:cL)(N:Nat)(S:List Fr)(f:dJ)(hs:List aA)(L:cU)(dst:Option Nat)(op:DOp)(s:Nat)(cm:Bool)(r:List aR)(hf:L.free s (bT (tab N f) op)=true) :
  Bd D N S dst op s cm r f hs L .read=Vk D N S dst op cm r f hs L (jM hs s):=by rw[G0,if_pos hf]
theorem wH{α:Type}(t:Bool)(sz:Nat)(e:α→DV)(xs:List α)(k:IntKind)(i:Int)(h0:0≤i):bY sz (eL t sz e xs) (.int k i)=(xs[i.toNat]?).map fun a=>.iptr t (aK sz (e a)) 0:=by
 cases hx:xs[i.toNat]? with
 | some a=>rw[Ja t sz e k h0 hx];rfl
 | none =>
  cases xs with
  | nil=>simp[oO,bY,asI]
  | cons x xs =>
   have hy:(List.map e (x::xs))[i.toNat]?=none:=by rw[List.getElem?_map,hx];rfl
   rw[vC,←List.map_cons]
   simp only[bY,asI,h0,and_self,if_true,hy,Option.map_none]
theorem wG{α:Type}(t:Bool)(sz:Nat)(e:α→DV)(xs:List α)(k:IntKind)(i:Nat):bY sz (eL t sz e xs) (.int k (i:Int))=(xs[i]?).map fun a=>.iptr t (aK sz (e a)) 0:=by
 rw[wH _ _ _ _ _ _ (Int.natCast_nonneg i)];simp
theorem Fj{α:Type}(t:Bool)(sz:Nat)(e:α→DV)(xs:List α)(k:IntKind)(i:Nat):bY sz (eL t sz e xs) (.int k ((i:Int)+1))=(xs[i+1]?).map fun a=>.iptr t (aK sz (e a)) 0:=by
 have:=wG t sz e xs k (i+1)
 rwa[Int.natCast_add]at this
theorem Oe{n:Int}(h1:0≤n)(h2:n≤18446744073709551615):IntKind.u64.wrap n=n:=by
 exact Go.IntWalk.u64_in n ⟨h1,h2⟩
theorem R6(a:Int):bZ .shr (.int .u64 a) (.int .u64 1)=some (.int .u64 (a.fdiv 2)):=by
 simp[bZ,IntKind.bits]
theorem half(i j:Nat):((i:Int)+j).fdiv 2=((i+j) / 2:Nat):=by
 rw[Int.fdiv_eq_ediv_of_nonneg _ (by decide)];omega
theorem Ai(k:IntKind)(n d l:Nat)(h:n≤l):eQ (some (.int k (n:Int))) d l=some n:=by
 rw[vJ _ _ _ _ (by omega) (by omega)];simp
theorem Zd(k:IntKind)(n d l:Nat)(h:n+1≤l):eQ (some (.int k ((n:Int)+1))) d l=some (n+1):=by
 rw[vJ _ _ _ _ (by omega) (by omega)];simp
theorem Zc(k:IntKind)(d l:Nat):eQ (some (.int k 0)) d l=some 0:=by
 rw[vJ _ _ _ _ (by omega) (by omega)];simp
theorem F4(D:cL)(N:Nat)(S:List Fr)(f:dJ)(h:aA)(o:aR)(w:Bool)(r:List aR):CH D N S o w r f h bR=Bc D N S r (sY f o.dst bR) h:=rfl
theorem Vl(D:cL)(N:Nat)(S:List Fr)(f:dJ)(hs:List aA)(L:cU)(o:aR)(w:Bool)(r:List aR):Vm D N S o w r f hs L bR=yQ D N S o.dst o.kind r f L hs:=rfl
theorem aC{b c:aM}(hb:b=c)(D:cL)(N:Nat)(S:List Fr)(f:dJ)(h:aA):run D N S (.loop b) f h=run D N (.loop b::S) c f h:=by
 rw[IN];rw[←hb]
theorem NW(h:aA)(o:DO):(h.push o).n=h.n+1:=_root_.id rfl
theorem Y9(h:aA)(o:DO):(h.push o).lim=h.lim:=_root_.id rfl
theorem TQ(h:aA)(id':Nat)(o:DO):(h.set id' o).n=h.n:=_root_.id rfl
theorem GQ(h:aA)(id':Nat)(o:DO):(h.set id' o).lim=h.lim:=_root_.id rfl
theorem YL(h:aA)(l:Nat):(wl h l).n=h.n:=_root_.id rfl
theorem NX(h:aA)(l:Nat):(wl h l).lim=l:=_root_.id rfl
theorem NY(h:aA)(l i:Nat):(wl h l).get i=h.get i:=_root_.id rfl
theorem GO(h:aA)(l:Nat)(o:DO):(wl h l).push o=wl (h.push o) l:=_root_.id rfl
theorem NV(h:aA)(l i:Nat)(o:DO):(wl h l).set i o=wl (h.set i o) l:=_root_.id rfl
theorem TP(h:aA)(a b:Nat):wl (wl h a) b=wl h b:=_root_.id rfl
theorem GN(h:aA):wl h h.lim=h:=_root_.id rfl
theorem Od(h:aA)(o:DO):wl (h.push o) h.lim=h.push o:=_root_.id rfl
theorem NZ(h:aA)(l:Nat)(hl:l=h.lim):wl h l=h:=by subst hl;rfl
theorem GP:pY.n=0:=_root_.id rfl
theorem Zw:pY.lim=0:=_root_.id rfl
abbrev eU8(b:UInt8):DV:=.int .u8 b.toNat
def OS(h:aA):Option (List UInt8)→Option (DV×aA)
 | some s=>some (.str s,h)
 | none=>none
def Dv(h:aA):Option (List DV)→Option (DV×aA)
 | some ys=>OS h (ys.mapM Sx)
 | none=>none
def Zl(h:aA)(ety sz bytes:Nat)(s:DV):DV→Option (DV×aA)
 | .str t=>aU h ety sz bytes s (t.map eU8)
 | _=>none
theorem Wj(c:Nat→List DV→aA→Option (DV×aA))(h:aA)(env:Env)(x:Opd):bO c (.bytesStr x) env h=Dv h (elems h 1 (x.eval env)):=by
 simp only[bO,aD]
 cases elems h 1 (x.eval env)with
 | none=>rfl
 | some ys=>cases hm:ys.mapM Sx<;>simp only[Dv,OS,hm]
theorem Kn(h:aA)(ys:List DV):Dv h (some ys)=OS h (ys.mapM Sx):=rfl
theorem BO(h:aA)(s:List UInt8):OS h (some s)=some (.str s,h):=rfl
theorem KG(xs:List UInt8):(xs.map eU8).mapM Sx=some xs:=by
 induction xs with
 | nil=>rfl
 | cons b xs ih =>
  have hb:Sx (eU8 b)=some b:=by simp[Sx,eU8]
  simp only[List.map_cons,List.mapM_cons,hb,ih]
  rfl
theorem J8(c:Nat→List DV→aA→Option (DV×aA))(h:aA)(env:Env)(ety sz bytes:Nat)(s x:Opd):bO c (.appendS ety sz bytes s x) env h=Zl h ety sz bytes (s.eval env) (x.eval env):=by
 simp only[bO,aD]
 cases x.eval env<;>rfl
theorem Td(h:aA)(ety sz bytes:Nat)(s:DV)(t:List UInt8):Zl h ety sz bytes s (.str t)=aU h ety sz bytes s (t.map eU8):=rfl
theorem JH(f:Nat):U8 f=([25,36]:List Nat).contains f:=rfl
attribute [simp] Vy JH
attribute [simp] Wj Kn BO KG J8 Td
attribute [simp] PN F1 CF IS CD PP CC IM PO IP CN Lk Ib Qv Vo PQ Lj Qw IX
 IR CK G4 IV XK XL e7 MY CT CU OB
 QE QD JW WG JT Lo QF JQ Wf JV WC WD WB j7 QH JU Ri JS Rh Wi JR Wh We J4 WA DF QG DD Wg J5 J6 Rg DE Rf
 Ah SK Qh Qg Lc Qb Qc Uk Qd Qf Lb Qe Hk La Kz Dy Ky
 TQ GQ dC NW GP Zw Y9 L5 KN L6 L7 BQ Ui Uj LU wV Uh HB OZ Tk A3 Z0 O2 GR YL NX NY GO NV TP GN Od NZ MG Me Ki Sn yJ Md Dr BU Uy Uw BV P9 ML Q0 WE HU SI FJ FI R7 J7 Sz i8 i7 Vu Yl P6 Yk P1 P3 EY P2 P5 Yj P4 Sk Yi Yh Nx Yg
 Jx Fs O9 QS KQ KR QR KS Zh Zf Zg FZ FU FV FW FX FY FT FO FP FQ FR FS TR TS
 LT tN Yx Yy Yw Sv I8 qV Vw O5 EU J1 FG Q9 Sg GC Le LO EO EP O8 Ta EW LV Lp It Wr
 Wd Q4 vI
 PV JD CQ Q1 GD Z3 EJ M4 PU JC PS PT JA JB Vq IZ IY U7 PR Bf Gi G8 Qx CR nV fB DZ
 RP O7 EM Lm G6 Ln uJ QB GZ Z1 GY OD TV OJ TU TX TT OE OH OG OF
 IQ IU CI F5 G2 CJ F9 Vh Qr Vj Vi Qs G1 G3 F8 F7 F6 OM Tp HF HC Mq OL OK HG HI TZ UA TY YR ON HH Tq Ok HE Oj Tt HD Ts To Z4 Tr A7 Oi
 CX I7 OW HY OX DP KI KH DN DM DS KM QQ KK R8 R9 Zz Zy PY JK DG DH CW I6 QK JZ WN WJ DL QJ QI KC KE WL WM WK l8 QL KD Wn Rn KB Rm Wq KA Wp Wm DK Wo K9 Rl DT DW DU KL JL JM JJ MH MI Kf Fu Ad BT F3 CG IT F4 Vl
 OT T6 HV VJ Ur yN T7 Um Eb Ut HR HT HQ SV T9 Us Av Uq Au Ed Uo Ec Ea Hm HP Mx T8 Mv Un D9 Hn Qj Mw At
 xC Ai Zd Zc vJ wG Fj wH bE Oe R6 half
end Go.Dm
/-
Part 5 of "De": copies of rows; rows with room left over behind a deletion.
-/
namespace Go.Dm
inductive OwnR(lo:Nat)(h:aA)(v:DV)(ety sz:Nat)(xs:List DV):Prop where
 | nil (hv:v=.nsl) (hx:xs=[])
 | arr (id:Nat) (sp:List DV) (cap:Option Nat) (hv:v=.sl id sz 0 xs.length) (hg:h.get id=some (.arr ety sz (xs++sp) cap)) (aO:h.lim≤id) (fY:lo≤id)
theorem Own.toR{lo:Nat}{h:aA}{v:DV}{ety sz:Nat}{xs:List DV}(w:Own lo h v ety sz xs):OwnR lo h v ety sz xs:=by
 cases w with
 | nil hv hx=>exact .nil hv hx
 | arr id hv hg hl hi=>exact .arr id [] none hv (by simpa using hg) hl hi
section OwnR
variable {lo:Nat} {h:aA} {v:DV} {ety sz:Nat} {xs:List DV}
theorem OwnR.push{o:DO}(w:OwnR lo h v ety sz xs):OwnR lo (h.push o) v ety sz xs:=by
 cases w with
 | nil hv hx=>exact .nil hv hx
 | arr id sp cap hv hg aO fY =>
  refine .arr id sp cap hv ?_ aO fY
  rw[dC,if_neg (by have:=cI hg;omega)];exact hg
theorem OwnR.ext{h':aA}(w:OwnR lo h v ety sz xs)(x:Ext h.n h h'):OwnR lo h' v ety sz xs:=by
 cases w with
 | nil hv hx=>exact .nil hv hx
 | arr id sp cap hv hg hl hi=>exact .arr id sp cap hv ((x.get id (cI hg)).trans hg) (by rw[x.lim];exact hl) hi
theorem OwnR.lenV(w:OwnR lo h v ety sz xs):lenV h 1 v=some (.int .i64 xs.length):=by
 cases w with
 | nil hv hx=>subst hv;subst hx;rfl
 | arr id sp cap hv hg hl hi=>subst hv;rfl
theorem OwnR.elems(w:OwnR lo h v ety sz xs):elems h sz v=some xs:=by
 cases w with
 | nil hv hx=>subst hv;subst hx;rfl
 | arr id sp cap hv hg hl hi=>subst hv;simp[Dm.elems,hg]
theorem OwnR.resolve{α:Type}{e:α→DV}{ys:List α}{k n:Nat}(tag:Bool)(w:OwnR lo h v ety sz (ys.map e))(hf:∀y∈ys,gP k (e y))(hn:k+1≤n):resolve tag h n v=some (eL tag sz e ys):=by
 obtain⟨m,rfl,hm⟩:=cV hn
 cases w with
 | nil hv hx =>
  subst hv
  cases ys with
  | nil=>rfl
  | cons y r=>simp at hx
 | arr id sp cap hv hg hl hi =>
  subst hv
  have Bq:(ys.map e).mapM (Dm.resolve tag h m)=some (ys.map e):=mL fun x hx=>by
   obtain⟨y,hy,rfl⟩:=List.mem_map.1 hx
   exact hf y hy tag h m hm
  simp only[Dm.resolve,hg,true_and,Nat.zero_add,List.length_append,Nat.le_add_right,if_true,List.drop_zero,List.take_left,Bq]
  rfl
theorem OwnR.bF(w:OwnR lo h v ety sz xs):bF 1 v=true:=by
 cases w with
 | nil hv hx=>subst hv;rfl
 | arr id sp cap hv hg hl hi=>subst hv;rfl
theorem OwnR.aK(w:OwnR lo h v ety sz xs):aK 1 v=[v]:=by
 cases w with
 | nil hv hx=>subst hv;rfl
 | arr id sp cap hv hg hl hi=>subst hv;rfl
theorem OwnR.out{α:Type}{e:α→DV}{ys:List α}{k:Nat}(w:OwnR lo h v ety sz (ys.map e))(hf:∀y∈ys,gP k (e y))(hu:∀y∈ys,Unl k (e y))(hk:k≤198) :
  dY (some (v,h))=some (eL false sz e ys) :=
 Wc (k:=k+1) (w.resolve false hf (by show k+1≤200;omega)) (kC hu) (by omega)
theorem OwnR.index(w:OwnR lo h v ety sz xs){i:Nat}{x:DV}(hx:xs[i]?=some x)(k:IntKind) :
  ∃ id sp cap,v=.sl id sz 0 xs.length∧h.get id=some (.arr ety sz (xs++sp) cap)∧h.lim≤id∧lo≤id∧bY sz v (.int k (i:Int))=some (.ptr id sz i 0)∧(xs++sp)[i]?=some x:=by
 have hi:i<xs.length:=by
  by_cases aZ:i<xs.length
  ·exact aZ
  ·rw[List.getElem?_eq_none (by omega)]at hx;cases hx
 cases w with
 | nil hv Bl=>subst Bl;simp at hi
 | arr id sp cap hv hg hl fY =>
  refine⟨id,sp,cap,hv,hg,hl,fY,?_,by rw[List.getElem?_append_left hi];exact hx⟩
  subst hv
  simp[bY,asI,hi]
end OwnR
theorem Own.bF{lo:Nat}{h:aA}{v:DV}{ety sz:Nat}{xs:List DV}(w:Own lo h v ety sz xs):bF 1 v=true:=w.toR.bF
theorem Own.aK{lo:Nat}{h:aA}{v:DV}{ety sz:Nat}{xs:List DV}(w:Own lo h v ety sz xs):aK 1 v=[v]:=w.toR.aK
theorem Own.wl{lo:Nat}{h:aA}{v:DV}{ety sz:Nat}{xs:List DV}(w:Own lo h v ety sz xs){m:Nat}(hm:m≤lo):Own lo (Dm.wl h m) v ety sz xs:=by
 cases w with
 | nil hv hx=>exact .nil hv hx
 | arr id hv hg hl hi=>exact .arr id hv hg (Nat.le_trans hm hi) hi
theorem Own.bU{lo:Nat}{h:aA}{v:DV}{ety sz:Nat}{xs:List DV}(w:Own lo h v ety sz xs)(wf:WF h){id:Nat}{o:DO}(eO:id<lo)(hn:id<h.n):Own lo (h.set id o) v ety sz xs:=by
 cases w with
 | nil hv hx=>exact .nil hv hx
 | arr k hv hg hl hi=>exact .arr k hv (by rw[fU wf hn,if_neg (by omega)];exact hg) hl hi
theorem Own.lower{lo lo':Nat}{h:aA}{v:DV}{ety sz:Nat}{xs:List DV}(w:Own lo h v ety sz xs)(hl:lo'≤lo):Own lo' h v ety sz xs:=by
 cases w with
 | nil hv hx=>exact .nil hv hx
 | arr k hv hg aO hi=>exact .arr k hv hg aO (Nat.le_trans hl hi)
theorem Ext.wl{lo:Nat}{h h':aA}(x:Ext lo h h')(m:Nat)(hm:m=h.lim):Ext lo h (Dm.wl h' m):=⟨x.le,hm,x.get,x.wf⟩
theorem Ext.lower{lo lo':Nat}{h h':aA}(x:Ext lo h h')(hl:lo'≤lo):Ext lo' h h':=⟨Nat.le_trans hl x.le,x.lim,fun id eO=>x.get id (by omega),x.wf⟩
def pN(ety:Nat)(h h':aA):Prop:=∀k o,h.get k=some o→(∀s xs c,o≠.arr ety s xs c)→h'.get k=some o
theorem pN.refl(ety:Nat)(h:aA):pN ety h h:=fun _ _ h _=>h
theorem pN.push{ety:Nat}{h h':aA}{o:DO}(x:pN ety h h'):pN ety h (h'.push o):=fun k ob hg dW=>by
 have:=x k ob hg dW
 rw[dC,if_neg (by have:=cI this;omega)];exact this
theorem pN.set{ety:Nat}{h h':aA}{id s:Nat}{xs:List DV}{c:Option Nat}{o:DO}(x:pN ety h h')(w:WF h')(hg:h.get id=some (.arr ety s xs c))(eO:id<h'.n):pN ety h (h'.set id o):=fun k ob hk dW=>by
 have RC:k≠id:=by
  intro e
  subst e
  rw[hg]at hk
  injection hk with hk
  exact dW _ _ _ hk.symm
 rw[fU w eO,if_neg RC]
 exact x k ob hk dW
theorem Own.keep{lo:Nat}{h h':aA}{v:DV}{ety e2 sz:Nat}{xs:List DV}(w:Own lo h v e2 sz xs)(x:pN ety h h')(hl:h'.lim=h.lim)(dW:e2≠ety):Own lo h' v e2 sz xs:=by
 cases w with
 | nil hv hx=>exact .nil hv hx
 | arr id hv hg aO fY =>
  exact .arr id hv (x _ _ hg (fun s ys c e=>by injection e with e1;exact dW e1)) (by rw[hl];exact aO) fY
theorem OwnR.keep{lo:Nat}{h h':aA}{v:DV}{ety e2 sz:Nat}{xs:List DV}(w:OwnR lo h v e2 sz xs)(x:pN ety h h')(hl:h'.lim=h.lim)(dW:e2≠ety):OwnR lo h' v e2 sz xs:=by
 cases w with
 | nil hv hx=>exact .nil hv hx
 | arr id sp cap hv hg aO fY =>
  exact .arr id sp cap hv (x _ _ hg (fun s ys c e=>by injection e with e1;exact dW e1)) (by rw[hl];exact aO) fY
theorem OwnR.bU{lo:Nat}{h:aA}{v:DV}{ety sz:Nat}{xs:List DV}(w:OwnR lo h v ety sz xs)(wf:WF h){id:Nat}{o:DO}(eO:id<lo)(hn:id<h.n):OwnR lo (h.set id o) v ety sz xs:=by
 cases w with
 | nil hv hx=>exact .nil hv hx
 | arr k sp cap hv hg hl hi=>exact .arr k sp cap hv (by rw[fU wf hn,if_neg (by omega)];exact hg) hl hi
theorem OwnR.lower{lo lo':Nat}{h:aA}{v:DV}{ety sz:Nat}{xs:List DV}(w:OwnR lo h v ety sz xs)(hl:lo'≤lo):OwnR lo' h v ety sz xs:=by
 cases w with
 | nil hv hx=>exact .nil hv hx
 | arr k sp cap hv hg aO hi=>exact .arr k sp cap hv hg aO (Nat.le_trans hl hi)
theorem Aj{h:aA}{id ety sz bytes len:Nat}{xs ys:List DV}{cap:Option Nat}(hg:h.get id=some (.arr ety sz xs cap))(cM:len+ys.length≤xs.length)(aO:h.lim≤id)(hb:(len+ys.length)*bytes≤140737488355328)(Jk:1≤bytes)(hy:ys≠[]) :
  aU h ety sz bytes (.sl id sz 0 len) ys=some (.sl id sz 0 (len+ys.length),h.set id (.arr ety sz (gZ xs ys len) cap)):=by
 have hm:len+ys.length≤140737488355328:=Nat.le_trans (Nat.le_mul_of_pos_right _ Jk) hb
 have Xj:ys.isEmpty=false:=by cases ys<;>simp_all
 simp only[aU,Xj,hg,Bool.false_eq_true,if_false,true_and,Nat.zero_add]
 rw[if_pos ⟨by omega,hb,by omega⟩,if_pos cM,if_pos aO]
theorem xF{h:aA}{id ety sz bytes len c:Nat}{xs ys:List DV}(hg:h.get id=some (.arr ety sz xs (some c)))(hl:len≤xs.length)(cM:xs.length<len+ys.length)(hb:(len+ys.length)*bytes≤140737488355328)(Jk:1≤bytes)(hy:ys≠[]) :
  aU h ety sz bytes (.sl id sz 0 len) ys=some (.sl h.n sz 0 (len+ys.length),h.push (.arr ety sz (xs.take len++ys) none)):=by
 have hm:len+ys.length≤140737488355328:=Nat.le_trans (Nat.le_mul_of_pos_right _ Jk) hb
 have Xj:ys.isEmpty=false:=by cases ys<;>simp_all
 simp only[aU,Xj,hg,Bool.false_eq_true,if_false,true_and,Nat.zero_add,List.drop_zero]
 rw[if_pos ⟨hl,hb,by omega⟩,if_neg (by omega)]
theorem OwnR.start(lo:Nat)(h:aA)(ety sz:Nat):OwnR lo h .nsl ety sz []:=.nil rfl rfl
theorem OwnR.fresh{lo:Nat}{h:aA}{ety sz:Nat}{xs:List DV}{cap:Option Nat}(aO:h.lim≤h.n)(fY:lo≤h.n):OwnR lo (h.push (.arr ety sz xs cap)) (.sl h.n sz 0 xs.length) ety sz xs:=.arr h.n [] cap rfl (by simp[dC]) aO fY
theorem OwnR.append{lo:Nat}{h:aA}{v:DV}{ety sz bytes:Nat}{xs ys:List DV}{A:Option (DV×aA)}(w:OwnR lo h v ety sz xs)(wf:WF h)(fY:lo≤h.n)(aO:h.lim≤h.n)(hA:aU h ety sz bytes v ys=A)
  (hb:(xs.length+ys.length)*bytes≤140737488355328) (Jk:1≤bytes):∃ v' h',A=some (v',h')∧OwnR lo h' v' ety sz (xs++ys)∧Ext lo h h'∧pN ety h h':=by
 have hm:xs.length+ys.length≤140737488355328:=Nat.le_trans (Nat.le_mul_of_pos_right _ Jk) hb
 by_cases hy:ys=[]
 ·subst hy
  refine⟨v,h,?_,by simpa using w,.refl fY wf,.refl _ _⟩
  rw[←hA]
  cases w with
  | nil hv hx=>subst hv;rfl
  | arr id sp cap hv hg _ _=>subst hv;rfl
 ·have Xj:ys.isEmpty=false:=by cases ys<;>simp_all
  have hyl:0<ys.length:=List.length_pos_iff.2 hy
  cases w with
  | nil hv hx =>
   subst hv;subst hx
   simp only[List.length_nil,Nat.zero_add]at hb hm
   refine⟨.sl h.n sz 0 ys.length,h.push (.arr ety sz ys none),?_,.arr h.n [] none rfl (by simp[dC]) (by exact aO) fY,(Ext.refl fY wf).push,(pN.refl _ _).push⟩
   rw[←hA]
   simp only[aU,Xj]
   rw[if_neg (by simp),if_pos ⟨hb,by omega⟩]
  | arr id sp cap hv hg hl hi =>
   subst hv
   have aZ:=cI hg
   by_cases Fm:xs.length+ys.length≤(xs++sp).length
   ·refine⟨.sl id sz 0 (xs.length+ys.length),h.set id (.arr ety sz (gZ (xs++sp) ys xs.length) cap),?_,.arr id (sp.drop ys.length) cap (by simp) ?_ (by exact hl) hi,(Ext.refl fY wf).set hi aZ,(pN.refl _ _).set wf hg aZ⟩
    ·rw[←hA];exact Aj hg Fm hl hb Jk hy
    ·rw[fU wf aZ,if_pos rfl]
     simp only[gZ,List.take_left',List.append_assoc]
     congr 3
     rw[List.drop_append]
     simp
   ·cases cap with
    | none =>
     refine⟨.sl h.n sz 0 (xs.length+ys.length),(h.set id .dead).push (.arr ety sz (xs++ys) none),?_,.arr h.n [] none (by simp) ?_ (by exact aO) fY,((Ext.refl fY wf).set hi aZ).push,((pN.refl _ _).set wf hg aZ).push⟩
     ·rw[←hA]
      simp only[aU,Xj,hg]
      simp only[Bool.false_eq_true,if_false,true_and,Nat.zero_add,List.drop_zero]
      rw[if_pos ⟨by simp,hb,by omega⟩,if_neg Fm,if_pos hl]
      simp
     ·simp
    | some c =>
     refine⟨.sl h.n sz 0 (xs.length+ys.length),h.push (.arr ety sz (xs++ys) none),?_,.arr h.n [] none (by simp) ?_ (by exact aO) fY,(Ext.refl fY wf).push,(pN.refl _ _).push⟩
     ·rw[←hA]
      rw[xF hg (by simp) (by omega) hb Jk hy]
      simp
     ·simp
structure dL(lo:Nat)(h:aA)(id ety sz:Nat)(xs:List DV):Prop where
 get:∃ sp cap,h.get id=some (.arr ety sz (xs++sp) cap)
 lim:h.lim≤id
 lo:lo≤id
theorem dL.toR{lo:Nat}{h:aA}{id ety sz:Nat}{xs:List DV}(w:dL lo h id ety sz xs):OwnR lo h (.sl id sz 0 xs.length) ety sz xs:=by
 obtain⟨⟨sp,cap,hg⟩,hl,hi⟩:=w
 exact .arr id sp cap rfl hg hl hi
theorem dL.lt{lo:Nat}{h:aA}{id ety sz:Nat}{xs:List DV}(w:dL lo h id ety sz xs):id<h.n:=by
 obtain⟨⟨sp,cap,hg⟩,_,_⟩:=w
 exact cI hg
theorem dL.fresh{lo:Nat}{h:aA}{ety sz:Nat}{xs:List DV}{cap:Option Nat}(aO:h.lim≤h.n)(fY:lo≤h.n):dL lo (h.push (.arr ety sz xs cap)) h.n ety sz xs:=⟨⟨[],cap,by simp[dC]⟩,aO,fY⟩
theorem dL.push{lo:Nat}{h:aA}{id ety sz:Nat}{xs:List DV}{o:DO}(w:dL lo h id ety sz xs):dL lo (h.push o) id ety sz xs:=by
 obtain⟨⟨sp,cap,hg⟩,hl,hi⟩:=w
 exact⟨⟨sp,cap,by rw[dC,if_neg (by have:=cI hg;omega)];exact hg⟩,hl,hi⟩
theorem dL.keep{lo:Nat}{h h':aA}{id ety e2 sz:Nat}{xs:List DV}(w:dL lo h id e2 sz xs)(x:pN ety h h')(hl:h'.lim=h.lim)(dW:e2≠ety):dL lo h' id e2 sz xs:=by
 obtain⟨⟨sp,cap,hg⟩,aO,hi⟩:=w
 exact⟨⟨sp,cap,x _ _ hg (fun s ys c e=>by injection e with e1;exact dW e1)⟩,by rw[hl];exact aO,hi⟩
theorem dL.bU{lo:Nat}{h:aA}{id ety sz:Nat}{xs:List DV}(w:dL lo h id ety sz xs)(wf:WF h){k:Nat}{o:DO}(eO:k<lo)(hn:k<h.n):dL lo (h.set k o) id ety sz xs:=by
 obtain⟨⟨sp,cap,hg⟩,hl,hi⟩:=w
 exact⟨⟨sp,cap,by rw[fU wf hn,if_neg (by omega)];exact hg⟩,hl,hi⟩
theorem dL.wl{lo:Nat}{h:aA}{id ety sz:Nat}{xs:List DV}(w:dL lo h id ety sz xs){m:Nat}(hm:m≤lo):dL lo (Dm.wl h m) id ety sz xs:=by
 obtain⟨⟨sp,cap,hg⟩,hl,hi⟩:=w
 exact⟨⟨sp,cap,hg⟩,Nat.le_trans hm hi,hi⟩
theorem dL.ext{lo:Nat}{h h':aA}{id ety sz:Nat}{xs:List DV}(w:dL lo h id ety sz xs)(x:Ext h.n h h'):dL lo h' id ety sz xs:=by
 have:=w.lt
 obtain⟨⟨sp,cap,hg⟩,hl,hi⟩:=w
 exact⟨⟨sp,cap,(x.get id this).trans hg⟩,by rw[x.lim];exact hl,hi⟩
theorem dL.append{lo:Nat}{h:aA}{id ety sz bytes:Nat}{xs ys:List DV}{A:Option (DV×aA)}{n:Nat}(w:dL lo h id ety sz xs)(hn:n=xs.length)(wf:WF h)(fY:lo≤h.n)(aO:h.lim≤h.n)(hA:aU h ety sz bytes (.sl id sz 0 n) ys=A)
  (hb:(xs.length+ys.length)*bytes≤140737488355328) (Jk:1≤bytes):∃ id' h',A=some (.sl id' sz 0 (xs.length+ys.length),h')∧dL lo h' id' ety sz (xs++ys)∧Ext lo h h'∧pN ety h h'∧(id'=id∨h.n≤id'):=by
 subst hn
 have hm:xs.length+ys.length≤140737488355328:=Nat.le_trans (Nat.le_mul_of_pos_right _ Jk) hb
 by_cases hy:ys=[]
 ·subst hy
  refine⟨id,h,?_,by simpa using w,.refl fY wf,.refl _ _,.inl rfl⟩
  rw[←hA];rfl
 ·have Xj:ys.isEmpty=false:=by cases ys<;>simp_all
  obtain⟨⟨sp,cap,hg⟩,hl,hi⟩:=w
  have aZ:=cI hg
  by_cases Fm:xs.length+ys.length≤(xs++sp).length
  ·refine⟨id,h.set id (.arr ety sz (gZ (xs++sp) ys xs.length) cap),?_,⟨⟨sp.drop ys.length,cap,?_⟩,hl,hi⟩,(Ext.refl fY wf).set hi aZ,(pN.refl _ _).set wf hg aZ,.inl rfl⟩
   ·rw[←hA];exact Aj hg Fm hl hb Jk hy
   ·rw[fU wf aZ,if_pos rfl]
    simp only[gZ,List.take_left',List.append_assoc]
    congr 3
    rw[List.drop_append]
    simp
  ·cases cap with
   | none =>
    refine⟨h.n,(h.set id .dead).push (.arr ety sz (xs++ys) none),?_,⟨⟨[],none,?_⟩,aO,fY⟩,((Ext.refl fY wf).set hi aZ).push,((pN.refl _ _).set wf hg aZ).push,.inr (Nat.le_refl _)⟩
    ·rw[←hA]
     simp only[aU,Xj,hg]
     simp only[Bool.false_eq_true,if_false,true_and,Nat.zero_add,List.drop_zero]
     rw[if_pos ⟨by simp,hb,by omega⟩,if_neg Fm,if_pos hl]
     simp
    ·simp
   | some c =>
    refine⟨h.n,h.push (.arr ety sz (xs++ys) none),?_,⟨⟨[],none,?_⟩,aO,fY⟩,(Ext.refl fY wf).push,(pN.refl _ _).push,.inr (Nat.le_refl _)⟩
    ·rw[←hA]
     rw[xF hg (by simp) (by omega) hb Jk hy]
     simp
    ·simp
theorem EX(h:aA)(t:Bool)(sz:Nat)(xs:List DV):elems h sz (.isl t sz xs)=some xs:=by simp[elems]
theorem HZ(t:Bool)(sz:Nat)(xs:List DV):Hr (.isl t sz xs)=none:=_root_.id rfl
theorem DQ(t:Bool)(sz:Nat)(xs:List DV):mapId (.isl t sz xs)=none:=_root_.id rfl
theorem Ux{α:Type}(h:aA)(t:Bool)(sz:Nat)(e:α→DV)(xs:List α)(k:IntKind)(i:Nat)(hi:i≤xs.length):mR h sz (eL t sz e xs) none (some (.int k (i:Int)))=some (.isl (t && !xs.isEmpty) sz ((xs.take i).map e)):=by
 cases xs with
 | nil =>
  have h0:i=0:=by simpa using hi
  subst h0
  simp[oO,mR,eQ,asI]
 | cons x xs =>
  have h2:(i:Int)≤((xs.length+1:Nat):Int):=by simp at hi;omega
  rw[vC]
  simp only[mR,List.length_cons,List.length_map,eQ,asI]
  simp only[List.isEmpty_cons,Bool.not_false,Bool.and_true,true_or,if_true,Int.natCast_nonneg,h2,and_self,Int.toNat_natCast,List.drop_zero,Nat.sub_zero]
  rw[←List.map_cons,←List.map_take]
theorem Aw{α:Type}(h:aA)(t:Bool)(sz:Nat)(e:α→DV)(xs:List α)(k:IntKind)(i:Nat)(hi:i≤xs.length):mR h sz (eL t sz e xs) (some (.int k (i:Int))) none=some (.isl (t && !xs.isEmpty) sz ((xs.drop i).map e)):=by
 cases xs with
 | nil =>
  have h0:i=0:=by simpa using hi
  subst h0
  simp[oO,mR,eQ,asI]
 | cons x xs =>
  have h2:(i:Int)≤((xs.length+1:Nat):Int):=by simp at hi;omega
  rw[vC]
  simp only[mR,List.length_cons,List.length_map,eQ,asI]
  simp only[List.isEmpty_cons,Bool.not_false,Bool.and_true,true_or,if_true,Int.natCast_nonneg,h2,and_self,Int.toNat_natCast]
  rw[←List.map_cons,←List.map_drop,List.take_of_length_le (by simp)]
theorem Qm{α:Type}(h:aA)(t:Bool)(sz:Nat)(e:α→DV)(xs:List α)(k:IntKind)(i:Nat)(hi:i+1≤xs.length):mR h sz (eL t sz e xs) (some (.int k ((i:Int)+1))) none=some (.isl (t && !xs.isEmpty) sz ((xs.drop (i+1)).map e)):=by
 have:=Aw h t sz e xs k (i+1) hi
 rwa[Int.natCast_add]at this
attribute [simp] EX HZ DQ Ux Aw Qm
mutual
theorem DV.beq_refl:∀v:DV,DV.beq v v=true
 | .unk|.nilp|.nsl|.nmap|.nilf|.nili=>rfl
 | .bool _|.int _ _|.str _|.ptr ..|.sl ..|.map _|.tok _|.atl _=>by simp[DV.beq]
 | .iptr l xs o=>by simp[DV.beq,qP xs]
 | .isl l s xs=>by simp[DV.beq,qP xs]
 | .func f xs=>by simp[DV.beq,qP xs]
 | .iface t v=>by simp[DV.beq,DV.beq_refl v]
 | .agg xs=>by simp[DV.beq,qP xs]
 | .tup xs=>by simp[DV.beq,qP xs]
theorem qP:∀l:List DV,yK l l=true
 | []=>rfl
 | x::xs=>by simp[yK,DV.beq_refl x,qP xs]
end
inductive Dep:Nat→DV→Prop where
 | int (k:IntKind) (n:Int) {d:Nat}:Dep (d+1) (.int k n)
 | bool (b:Bool) {d:Nat}:Dep (d+1) (.bool b)
 | str (s:List UInt8) {d:Nat}:Dep (d+1) (.str s)
 | isl (t:Bool) (sz:Nat) (xs:List DV) {d:Nat} (h:∀x∈xs,Dep d x):Dep (d+1) (.isl t sz xs)
 | agg (xs:List DV) {d:Nat} (h:∀x∈xs,Dep d x):Dep (d+1) (.agg xs)
theorem Dep.belowN{d:Nat}{v:DV}(h:Dep d v):∀{n N:Nat},d≤n→Dm.eZ n N v=true:=by
 induction h with
 | int k n=>intro m N hm;obtain⟨q,rfl,_⟩:=cV hm;rfl
 | bool b=>intro m N hm;obtain⟨q,rfl,_⟩:=cV hm;rfl
 | str s=>intro m N hm;obtain⟨q,rfl,_⟩:=cV hm;rfl
 | isl t sz xs h ih=>intro m N hm;obtain⟨q,rfl,hq⟩:=cV hm;rfl
 | agg xs h ih =>
  intro m N hm;obtain⟨q,rfl,hq⟩:=cV hm
  simp only[Dm.eZ,List.all_eq_true]
  exact fun x hx=>ih x hx hq
theorem Dep.eL{α:Type}{d:Nat}(t:Bool)(sz:Nat){e:α→DV}{xs:List α}(h:∀x∈xs,Dep d (e x)):Dep (d+1) (eL t sz e xs):=by
 cases xs with
 | nil=>exact .isl _ _ _ (fun x hx=>by cases hx)
 | cons x r =>
  rw[vC,←List.map_cons]
  refine .isl _ _ _ fun y hy=>?_
  obtain⟨z,hz,rfl⟩:=List.mem_map.1 hy
  exact h z hz
theorem MD(c:kM):Dep 2 (bC c):=.agg _ (by
 intro x hx;simp only[List.mem_cons,List.not_mem_nil,or_false]at hx
 rcases hx with rfl|rfl|rfl|rfl|rfl<;>first|exact .int _ _|exact .str _)
theorem MC(p:bN):Dep 3 (bQ p):=.eL _ _ fun c _=>MD c
theorem Dep.mono{d:Nat}{v:DV}(h:Dep d v):∀{e:Nat},d≤e→Dep e v:=by
 induction h with
 | int k n=>intro e he;obtain⟨q,rfl,_⟩:=cV he;exact .int _ _
 | bool b=>intro e he;obtain⟨q,rfl,_⟩:=cV he;exact .bool _
 | str s=>intro e he;obtain⟨q,rfl,_⟩:=cV he;exact .str _
 | isl t sz xs h ih=>intro e he;obtain⟨q,rfl,hq⟩:=cV he;exact .isl _ _ _ fun x hx=>ih x hx hq
 | agg xs h ih=>intro e he;obtain⟨q,rfl,hq⟩:=cV he;exact .agg _ fun x hx=>ih x hx hq
theorem SG(a:fQ):Dep 4 (cB a):=.agg _ (by
 intro x hx;simp only[List.mem_cons,List.not_mem_nil,or_false]at hx
 rcases hx with rfl|rfl|rfl<;>first|exact .int _ _|exact MC _)
theorem rG{cs:List DV}(h:∀x∈cs,gP 1 x):gP 20 (.agg cs):=(Jr h).mono (by decide)
theorem sV{cs:List DV}(h:∀x∈cs,Unl 21 x):Unl 22 (.agg cs):=S2 h
theorem Ii(x:ID):gP 20 (eID x)∧Unl 22 (eID x):=⟨rG (by
 intro x hx;simp only[List.mem_cons,List.not_mem_nil,or_false]at hx
 rcases hx with rfl|rfl<;>exact iS _ _),sV (by
 intro x hx;simp only[List.mem_cons,List.not_mem_nil,or_false]at hx
 rcases hx with rfl|rfl<;>exact(rU _ _).mono (by decide))⟩
theorem qE(a:bD):gP 20 (aJ a)∧Unl 22 (aJ a):=⟨rG (by
 intro x hx;simp only[List.mem_cons,List.not_mem_nil,or_false]at hx
 rcases hx with rfl|rfl|rfl|rfl<;>first|exact iS _ _|exact Dk _),sV (by
 intro x hx;simp only[List.mem_cons,List.not_mem_nil,or_false]at hx
 rcases hx with rfl|rfl|rfl|rfl<;>first|exact(rU _ _).mono (by decide)|exact vW _)⟩
theorem fW(a:bB):gP 20 (aN a)∧Unl 22 (aN a):=⟨rG (by
 intro x hx;simp only[List.mem_cons,List.not_mem_nil,or_false]at hx
 rcases hx with rfl|rfl|rfl|rfl|rfl|rfl|rfl<;>first|exact iS _ _|exact Dk _|exact Nv _),sV (by
 intro x hx;simp only[List.mem_cons,List.not_mem_nil,or_false]at hx
 rcases hx with rfl|rfl|rfl|rfl|rfl|rfl|rfl<;>first|exact(rU _ _).mono (by decide)|exact vW _|exact(GX _).mono (by decide))⟩
theorem xO(a:fQ):gP 20 (cB a)∧Unl 22 (cB a):=⟨rG (by
 intro x hx;simp only[List.mem_cons,List.not_mem_nil,or_false]at hx
 rcases hx with rfl|rfl|rfl<;>first|exact iS _ _|exact Dk _),sV (by
 intro x hx;simp only[List.mem_cons,List.not_mem_nil,or_false]at hx
 rcases hx with rfl|rfl|rfl<;>first|exact(rU _ _).mono (by decide)|exact vW _)⟩
theorem zR(n:Int):gP 20 (cF n)∧Unl 22 (cF n):=⟨(iS _ _).mono (by decide),(rU _ _).mono (by decide)⟩
theorem sZ(c:kM):gP 20 (bC c)∧Unl 22 (bC c):=⟨zQ.flat c,(zQ.unl c).mono (by decide)⟩
theorem OI(n:Nat)(xs:List Int):bH (n+23) (eL false 1 cF xs)=true:=kC (fun x _=>(zR x).2) _ (by omega)
theorem TW(n:Nat)(xs:List ID):bH (n+23) (eL false 2 eID xs)=true:=kC (fun x _=>(Ii x).2) _ (by omega)
theorem A6(n:Nat)(xs:List bD):bH (n+23) (eL false 4 aJ xs)=true:=kC (fun x _=>(qE x).2) _ (by omega)
theorem A5(n:Nat)(xs:List bB):bH (n+23) (eL false 7 aN xs)=true:=kC (fun x _=>(fW x).2) _ (by omega)
theorem S3(n:Nat)(xs:List fQ):bH (n+23) (eL false 3 cB xs)=true:=kC (fun x _=>(xO x).2) _ (by omega)
attribute [simp] OI TW A6 A5 S3
end Go.Dm
/-
Arguments of a call from outside: what the frame tells of them,in the machine's form;a function with arguments that answers true.
-/
namespace Go.Dm
open Go.RowKit
theorem GB {P : Program} {D : cL} (G : Mm P D) {f : Nat} {fn : Func} {body : Code} (hf : P.funcs[f]? = some fn) (hb : fn.body = some body) (hn : fn.name ≠ "runtime.NumGoroutine") {ds : List DV} {vs : List Value} {h' : aA} (hr : fc D f ds lQ = some (.bool true, h')) (w : World) (hg : Ml w) (hv : VRs (Sm w) ds vs) :
  Calls P f vs.toArray w fun e w'=>e=.returned (.bool true)∧NG w w'∧∀b,b<w.heap.size→w'.heap[b]?=w.heap[b]?:=by
 obtain⟨n,he⟩:=Gg.1 hr
 have hc:=Kl G n f ds lQ _ h' (Sm w) vs he (e6 w hg) hv
 have hen:=lD hf hb hn vs.toArray w
 rcases hc with⟨v,w',jN,_⟩|⟨f',vals',jN,hcalls⟩
 ·have:(callFunc f vs.toArray).run P w=.ok (.value v) w':=jN
  rw[hen]at this
  cases this
 ·have h2:(callFunc f vs.toArray).run P w=.ok (.enter f' vals') w:=jN
  rw[hen]at h2
  cases h2
  refine hcalls.mono fun e w' hp=>?_
  obtain⟨v,e1,ρ',k1,k2,k3⟩:=hp
  exact⟨by rw[e1,k3.bool_inv],Xt k2,fun b hb=>k2.frame b hb fun h=>h⟩
structure Fw(c:Ctx)(w:World):Prop where
 w:c.w=w
 O:∀b,¬c.O b
 X:∀b,¬c.X b
theorem Fw.zero(w:World):Fw (Sm w) w:=⟨rfl,fun _ h=>h,fun _ h=>h⟩
theorem Fw.still{c:Ctx}{w:World}(h:Fw c w):Fw c.still w:=⟨h.w,h.O,h.X⟩
theorem V7{α:Type}{p:Nat→α→Prop}:∀n,(∀i,i<n→∃ a,p i a)→∃ l:List α,l.length=n∧∀i (hi:i<l.length),p i l[i]
 | 0,_=>⟨[],rfl,fun i hi=>absurd hi (Nat.not_lt_zero _)⟩
 | n+1,h=>by
  obtain⟨l,hl,hp⟩:=V7 n fun i hi=>h i (Nat.lt_succ_of_lt hi)
  obtain⟨a,ha⟩:=h n (Nat.lt_succ_self n)
  refine⟨l++[a],by simp[hl],fun i hi=>?_⟩
  by_cases aZ:i<l.length
  ·rw[List.getElem_append_left aZ];exact hp i aZ
  ·have:i=n:=by simp at hi;omega
   subst this
   rw[List.getElem_append_right (by omega)]
   simpa[hl]using ha
theorem Zo(b o n:Nat):(⟨b,o,none⟩:Addr).add n=⟨b,o+n,none⟩:=by
 unfold Addr.add
 split
 ·rename_i h;subst h;rfl
 ·rfl
theorem OU{w:World}{a:Addr}{v:Value}(h:w.cell? a=some v):a.spot=none∧a.block<w.heap.size:=by
 unfold World.cell? at h
 split at h
 ·rename_i hb
  refine⟨?_,?_⟩
  ·split at h
   ·cases h
   ·rename_i hs;cases hs2:a.spot with|none=>rfl|some x=>simp[hs2]at hs
  ·by_cases aZ:a.block<w.heap.size
   ·exact aZ
   ·rw[Array.getElem?_eq_none (by omega)]at hb;cases hb
 ·cases h
def kG(c:Ctx)(ds:List DV)(cs:List Value):Prop:=ds.length=cs.length∧∀i (h1:i<ds.length) (h2:i<cs.length),VR c ds[i] cs[i]∧(cs[i]).oneCell'=true
theorem kG.append{c:Ctx}{ds ds':List DV}{cs cs':List Value}(h:kG c ds cs)(h':kG c ds' cs'):kG c (ds++ds') (cs++cs'):=by
 refine⟨by rw[List.length_append,List.length_append,h.1,h'.1],fun i h1 h2=>?_⟩
 by_cases aZ:i<ds.length
 ·rw[List.getElem_append_left aZ,List.getElem_append_left (by rw[←h.1];exact aZ)]
  exact h.2 i aZ _
 ·rw[List.getElem_append_right (by omega),List.getElem_append_right (by rw[←h.1];omega)]
  have:i-cs.length=i-ds.length:=by rw[h.1]
  simp only[this]
  exact h'.2 (i-ds.length) (by rw[List.length_append]at h1;omega) _
theorem kG.one{c:Ctx}{d:DV}{v:Value}(h:VR c d v)(h1:v.oneCell'=true):kG c [d] [v]:=by
 refine⟨rfl,fun i h2 h3=>?_⟩
 have:i=0:=by simp at h2;omega
 subst this
 exact⟨h,h1⟩
theorem kG.nil{c:Ctx}:kG c [] []:=⟨rfl,fun i h=>absurd h (Nat.not_lt_zero _)⟩
section
variable {H:Type} {enc:TypeId×Value→H} {P:Program} {w:World} {sp:Nat→Bool} {qH:Bool}
theorem pF{t:TypeId}{cs:List Value}{fuel:Nat}{x:DataW H×List MemPlace}(ht:P.underlying t=some (.int .i64))(h:DataW.trod enc P w 0 sp qH fuel t cs=some x)(c:Ctx):∃ n:Int,kG c [.int .i64 n] cs:=by
 obtain⟨n,rfl,_,_⟩:=DataW.trod_int ht h
 exact⟨n,.one (.int _ _) rfl⟩
theorem Ig{α:Type}{t e:TypeId}{cs:List Value}{fuel sz:Nat}{x:DataW H×List MemPlace}(ht:P.underlying t=some (.slice e))(hz:P.cellsOf e=sz)(hz0:0<sz)(h:DataW.trod enc P w 0 sp qH fuel t cs=some x){c:Ctx}(hc:Fw c w)
  (en:α→DV) (good:α→Prop) (mP:∀ecs y n,DataW.trod enc P w 0 sp qH n e ecs=some y→∃ a,good a∧kG c.still (aK sz (en a)) ecs) :
  ∃ l:List α,(∀a∈l,good a)∧l.length≤maxLen∧kG c [eL false sz en l] cs:=by
 rcases DataW.trod_slice ht h with⟨rfl,_⟩|⟨a,len,cap,elems,rest,n,_,rfl,_,hb,hl,jE,hel1,hel2,_⟩
 ·exact⟨[],fun a h=>(by cases h),Nat.zero_le _,.one (.isl0 _ _) rfl⟩
 ·rw[hz]at hel2
  have GL:∀i,i<len→∃ p:α×List Value,good p.1∧w.cells? 0 (a.add (i*sz)) sz=some p.2∧kG c.still (aK sz (en p.1)) p.2:=fun i hi=>by
   have h1:=hel2 i hi
   rw[List.getElem?_eq_getElem (by omega)]at h1
   simp only[Option.bind_eq_some_iff]at h1
   obtain⟨ecs,h2,h3⟩:=h1
   obtain⟨b,h4,h5⟩:=mP _ _ _ h3
   exact⟨(b,ecs),h4,h2,h5⟩
  obtain⟨l,Je,hlp⟩:=V7 len GL
  refine⟨l.map (·.1),?_,by rw[List.length_map,Je];omega,.one ?_ rfl⟩
  ·intro b hb
   obtain⟨p,hp,rfl⟩:=List.mem_map.1 hb
   obtain⟨i,hi,rfl⟩:=List.mem_iff_getElem.1 hp
   exact(hlp i hi).1
  ·by_cases h0:len=0
   ·have:l=[]:=List.eq_nil_of_length_eq_zero (by omega)
    subst this
    subst h0
    exact .isl0 _ _
   ·have dW:l≠[]:=fun e=>h0 (by rw[←Je,e];rfl)
    have N3:l.map (·.1)≠[]:=by simpa using dW
    have yV:∀i (hi:i<l.length) j,j<sz→w.cell? ((a.add (i*sz)).add j)=(l[i]).2[j]?∧(l[i]).2.length=sz:=fun i hi j hj=>by
     obtain⟨_,k2,k3⟩:=World.cells?_some (hlp i hi).2.1
     exact⟨k3 j hj,k2⟩
    have qY:0<l.length:=by omega
    have h00:=yV 0 qY 0 hz0
    have ha0:(a.add (0*sz)).add 0=a:=by simp[Addr.add]
    rw[ha0,List.getElem?_eq_getElem (by rw[h00.2];exact hz0)]at h00
    obtain⟨hs,hbk⟩:=OU h00.1
    obtain⟨b,o,s⟩:=a
    simp only at hs hbk
    subst hs
    rw[TL false sz en N3]
    have RJ:∀i (hi:i<l.length) j (hj:j<sz),w.cell? ⟨b,o+i*sz+j,none⟩=some ((l[i]).2[j]'(by rw[(yV i hi j hj).2];exact hj)):=fun i hi j hj=>by
     have k1:=(yV i hi j hj).1
     rw[Zo,Zo]at k1
     exact k1.trans (List.getElem?_eq_getElem _)
    refine .isl (fun i j=>(w.cell? ⟨b,o+i*sz+j,none⟩).getD undef) (by simp[Je]) hl (by rw[hc.w];exact hbk) (hc.O b) (fun _=>hc.X b) ?_ ?_ ?_
    ·intro i hi
     simp only[List.length_map]at hi
     simp only[List.getElem_map]
     have:=(hlp i hi).2.2.1
     rw[this]
     exact(yV i hi 0 hz0).2
    ·intro i j hi hj
     simp only[List.length_map]at hi
     rw[hc.w,RJ i hi j hj]
     have h5:=(hlp i hi).2.2
     have h6:=(yV i hi j hj).2
     exact⟨rfl,(h5.2 j (by rw[h5.1,h6];exact hj) (by rw[h6];exact hj)).2⟩
    ·intro i hi j hj
     simp only[List.length_map]at hi
     simp only[List.getElem_map]at hj ⊢
     have h5:=(hlp i hi).2.2
     have h6:=(yV i hi 0 hz0).2
     have sQ:j<sz:=by rw[h5.1,h6]at hj;exact hj
     have h7:=(h5.2 j hj (by rw[h6];exact sQ)).1
     have h8:(w.cell? ⟨b,o+i*sz+j,none⟩).getD undef=(l[i]).2[j]'(by rw[h6];exact sQ):=by rw[RJ i hi j sQ];rfl
     simp only[h8]
     exact h7
theorem PA{w':World}(hg:∀b,b<w.heap.size→w'.heap[b]?=w.heap[b]?){p:MemPlace}(hp:p.block<w.heap.size):w.sameAt w' p:=by
 cases p with
 | cell b off =>
  show w'.cell? ⟨b,off,none⟩=w.cell? ⟨b,off,none⟩
  unfold World.cell?
  rw[hg b hp]
 | map b=>exact hg b hp
theorem Ap{w':World}(hg:∀b,b<w.heap.size→w'.heap[b]?=w.heap[b]?)(sp':Nat→Bool):∀{ts:List TypeId} {vs:List Value} {ds:List (DataW H)} {ps:List MemPlace},DataW.TrodAll enc P w 0 sp' qH ts vs ds ps→(∀p∈ps,p.block<w.heap.size)→DataW.TrodAll enc P w' 0 sp' qH ts vs ds ps
 | [],[],[],_,h,_=>h
 | t::ts,v::vs,d::ds,ps,h,hl=>by
  obtain⟨p,q,⟨fuel,h1⟩,h2,rfl⟩:=h
  exact⟨p,q,⟨fuel,DataW.trod_carry _ _ _ _ h1 fun x hx=>PA hg (hl x (List.mem_append.2 (.inl hx)))⟩,Ap hg sp' h2 fun x hx=>hl x (List.mem_append.2 (.inr hx)),rfl⟩
end
end Go.Dm
