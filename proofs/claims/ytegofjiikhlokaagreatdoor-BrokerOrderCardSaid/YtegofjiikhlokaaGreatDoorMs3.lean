/- A part of the proof. -/
import Derived.Test.YtegofjiikhlokaaGreatDoorMs2
import Derived.Test.YtegofjiikhlokaaGreatDoorMs1
set_option linter.all false
namespace Go.Dm.Tc
set_option maxRecDepth 20000
def pV(c:fB):DV:=if c.kind=1 then .agg [.str c.name,.bool false,.int .i64 c.lo,.str []]else .agg [.str c.name,.bool true,.int .i64 0,.str c.text]
theorem vN(c:fB):jU 20 (pV c)∧Unl 22 (pV c):=by
 unfold pV
 split
 ·exact⟨jM (by simp[Dk,pP,fA]),lA (by
   intro x hx
   simp only[List.mem_cons,List.not_mem_nil,or_false]at hx
   rcases hx with rfl|rfl|rfl|rfl
   ·exact(vG _).mono (by decide)
   ·exact(wV _).mono (by decide)
   ·exact(lF _ _).mono (by decide)
   ·exact(vG _).mono (by decide))⟩
 ·exact⟨jM (by simp[Dk,pP,fA]),lA (by
   intro x hx
   simp only[List.mem_cons,List.not_mem_nil,or_false]at hx
   rcases hx with rfl|rfl|rfl|rfl
   ·exact(vG _).mono (by decide)
   ·exact(wV _).mono (by decide)
   ·exact(lF _ _).mono (by decide)
   ·exact(vG _).mono (by decide))⟩
theorem s223(n:Int):pcF D CM [.int .i64 n]=some (.agg [.bool false,.int .i64 n,.str []]):=by
 unfold pcF
 rw[aJ _ _ _ _ (by simp[CM])]
 simp[CM,turn]
theorem l193(t:Bool)(p:bI)(hl:p.length≤1000000) :
  ∀(rest done:bI) (i:Nat) (v:DV) (f:cY) (h:aA),p.drop i=rest→p=done++rest→f 3=v→f 7=eL t 5 aO p→f 8=.int .i64 p.length→f 9=.int .i64 i→OwnR 0 h v 108 4 (done.map pV)→h.lim=0→WF h →
  dC (fin [.t 2] (run D 31 [.block 0,.seq H5] (.loop Qg) f h))=some (eL false 4 pV p):=by
 intro rest
 induction rest with
 | nil =>
  intro done i v f h hd hp h3 h7 h8 h9 ho aM wf
  have hi:=bR hd
  have:¬(i<p.length):=by omega
  have vB:done=p:=by simpa using hp.symm
  subst vB
  have r1:resolve false h 200 v=some (eL false 4 pV done):=ho.resolve false (fun y _=>(vN y).1) (by decide)
  rw[aC Qg.eq_1]
  simp[H5,h8,h9,this,h3,r1]
  exact eV (fun y _=>(vN y).2) 200 (by decide)
 | cons c rest ih =>
  intro done i v f h hd hp h3 h7 h8 h9 ho aM wf
  obtain⟨hi,he,fI⟩:=cB hd
  have vB:p=(done++[c])++rest:=by simpa using hp
  have hdl:done.length+1≤1000000:=by have:=congrArg List.length vB;simp at this;omega
  have Tr:=M9 c.text
  simp only[uU]at Tr
  rw[aC Qg.eq_1]
  by_cases hk:c.kind=1
  ·simp[h3,h7,h8,h9,hi,he,aO,aM,wf,turn,A6,Tr,e223,s223,hk]
   generalize hA:aY _ _ _ _ _ _=A
   obtain⟨v',K,rfl,p',x,_⟩:=OwnR.append (ho.push.push.push) (by simp[wf]) (Nat.zero_le _) (by simp[aM]) hA (by simp;omega) (by decide)
   clear hA
   simp[h9]
   rw[aX (by omega) (by omega)]
   generalize hF:upd _ 9 _=F
   refine ih (done++[c]) (i+1) v' F K fI vB ?_ ?_ ?_ ?_ ?_ ?_ x.wf
   ·rw[←hF];simp
   ·rw[←hF];simp[h7]
   ·rw[←hF];simp[h8]
   ·rw[←hF];simp
   ·simpa[pV,hk]using p'
   ·rw[x.lim];simp[aM]
  ·simp[h3,h7,h8,h9,hi,he,aO,aM,wf,turn,A6,Tr,hk]
   generalize hA:aY _ _ _ _ _ _=A
   obtain⟨v',K,rfl,p',x,_⟩:=OwnR.append (ho.push.push.push) (by simp[wf]) (Nat.zero_le _) (by simp[aM]) hA (by simp;omega) (by decide)
   clear hA
   simp[h9]
   rw[aX (by omega) (by omega)]
   generalize hF:upd _ 9 _=F
   refine ih (done++[c]) (i+1) v' F K fI vB ?_ ?_ ?_ ?_ ?_ ?_ x.wf
   ·rw[←hF];simp
   ·rw[←hF];simp[h7]
   ·rw[←hF];simp[h8]
   ·rw[←hF];simp
   ·simpa[pV,hk]using p'
   ·rw[x.lim];simp[aM]
theorem s193(t:Bool)(p:bI)(hl:p.length≤1000000):pcF D CW [eL t 5 aO p]=some (eL false 4 pV p):=by
 unfold pcF
 rw[aJ _ _ _ _ (by simp[CW])]
 simp[CW]
 refine l193 t p hl p [] 0 .nsl _ pB rfl rfl ?_ ?_ ?_ ?_ (.nil rfl rfl) ?_ ?_<;>simp
def rU(a b:bI):Bool:=hJ (mT [] (a++b))
theorem Js{c:fB}(h:dD c=true):kH c.kind:=by
 unfold dD at h
 unfold kH
 simp only[Bool.and_eq_true]at h
 have h2:=h.2
 repeat' split at h2
 all_goals first
  | (rename_i e;exact .inl e)
  | (rename_i e;exact .inr (.inr e))
  | (rename_i e;exact .inr (.inl e))
  | (cases h2;done)
theorem Jt:∀{p:bI} {n:Option (List UInt8)},mJ n p=true→∀c∈p,dD c=true
 | [],_,_,c,h=>by cases h
 | x::r,n,h,c,hc=>by
  simp only[mJ,Bool.and_eq_true]at h
  rcases List.mem_cons.1 hc with rfl|hc
  ·exact h.1.1
  ·exact Jt h.2 c hc
theorem bZ.one{p:bI}(h:bZ p):∀c∈p,dD c=true∧c.name.length≤1000000:=by
 intro c hc
 have h1:=h.right
 unfold tM at h1
 simp only[Bool.and_eq_true]at h1
 exact⟨Jt h1.1 c hc,h.names.2 c hc⟩
theorem Ow:∀(l:bI) {out o:bI},out.length≤5→mT out l=some o→o.length≤5
 | [],out,o,h,he=>by simp only[mT,Option.some.injEq]at he;subst he;exact h
 | c::r,out,o,h,he=>by
  simp only[mT]at he
  split at he
  ·rename_i o1 h1
   refine Ow r ?_ he
   unfold zE at h1
   repeat' split at h1
   all_goals first
    | (cases h1;done)
    | (cases h1;simp only[List.length_set];exact h)
    | (cases h1;simp only[List.length_append,List.length_cons,List.length_take,List.length_drop];omega)
  ·cases he
theorem s154(a b:bI)(ha:bZ a)(hb:bZ b):∃ x,pcF D DH [bF a,bF b]=some (.tup [x,.bool (rU a b)]):=by
 have GK:=ha.len
 have hlb:=hb.len
 have uM:∀c∈a++b,dD c=true∧c.name.length≤1000000:=fun c hc=>(List.mem_append.1 hc).elim (ha.one c) (hb.one c)
 have hm:=s192 true (a++b) (by simp;omega) uM fun c hc=>Js (uM c hc).1
 unfold pcF
 rw[aJ _ _ _ _ (by simp[DH])]
 simp only[bF]
 simp[DH]
 generalize hA:aY _ _ _ _ _ _=A
 obtain⟨v1,K1,rfl,p1,x1,_⟩:=OwnR.append (lo:=0) (OwnR.fresh (lo:=0) (xs:=[]) (by simp) (by simp)) (by simp) (Nat.zero_le _) (by simp) hA (by simp;omega) (by decide)
 clear hA
 simp
 generalize hA:aY _ _ _ _ _ _=A
 obtain⟨v2,K2,rfl,p2,x2,_⟩:=OwnR.append p1 x1.wf (Nat.zero_le _) (by rw[x1.lim];simp) hA (by simp;omega) (by decide)
 clear hA
 have hp:OwnR 0 K2 v2 96 5 ((a++b).map aO):=by simpa using p2
 have r1:resolve true K2 200 v2=some (eL true 5 aO (a++b)):=hp.resolve true (fun y _=>(lZ y).1) (by decide)
 unfold rU
 cases hk:mT [] (a++b)with
 | none =>
  rw[hk]at hm
  obtain⟨T,w,hw⟩:=hm
  simp[e192,r1,hw,hJ,uD,Gi,aI]
 | some out =>
  rw[hk]at hm
  simp only[wG]at hm
  have hol:out.length≤1000000:=by
   have:=Ow (a++b) (out:=[]) (by simp) hk
   omega
  have hs:=s193 false out hol
  have hu:bJ 199 (eL false 4 pV out)=true:=eV (fun y _=>(vN y).2) 199 (by decide)
  simp[e192,r1,hm,hJ,uD,Gi,aI,e193,hs,hu]
theorem s104(a b:bI)(ha:bZ a)(hb:bZ b):pcF D DX [bF a,bF b]=some (.bool (rU a b)):=by
 obtain⟨x,hx⟩:=s154 a b ha hb
 unfold pcF
 rw[aJ _ _ _ _ (by simp[DX])]
 simp[DX,e154,hx]
end Go.Dm.Tc
namespace Go.Dm.Tc
theorem ZH(nm:List UInt8)(k lo hi:Int)(tx:List UInt8)(s:List UInt8) :
  pcF D Qn [.agg [.str nm,.int .i64 k,.int .i64 lo,.int .i64 hi,.str tx],.agg [.bool true,.int .i64 0,.str s]]=some (.bool (jA ⟨nm,k,lo,hi,tx⟩ s)):=by
 unfold pcF
 rw[aJ _ _ _ _ (by simp[Qn])]
 by_cases k1:k=1
 ·subst k1
  simp[Qn,jA]
 ·by_cases k2:k=2
  ·subst k2
   simp[Qn,jA]
  ·by_cases k3:k=3
   ·subst k3
    simp[Qn,jA,UV,SE]
   ·simp[Qn,jA,k1,k2,k3]
def tA(a b:fB):fB :=
 if a.kind=1∧b.kind=1 then {a with lo:=mxI a.lo b.lo,hi:=mnI a.hi b.hi}
 else if a.kind=1∨b.kind=1 then a
 else if a.kind=2 then a
 else if b.kind=2 then b
 else if b.text.length≤a.text.length then a else b
theorem s183(a b:fB)(ha:kH a.kind)(hb:kH b.kind):pcF D zC [aO a,aO b]=some (.tup [aO (tA a b),.bool (hJ (gV a b))]):=by
 obtain⟨nm,k,lo,hi,tx⟩:=a
 obtain⟨nm',k',lo',kE,tx'⟩:=b
 simp only[kH]at ha hb
 unfold pcF
 rw[aJ _ _ _ _ (by simp[zC])]
 rcases ha with rfl|rfl|rfl
 ·rcases hb with rfl|rfl|rfl
  ·by_cases h:mnI hi kE<mxI lo lo'
   ·have h':¬mxI lo lo'≤mnI hi kE:=by omega
    simp only[mnI,mxI]at h h'
    simp[zC,aO,gV,tA,mnI,mxI,h,h',turn,aI,hJ]
   ·have h':mxI lo lo'≤mnI hi kE:=by omega
    simp only[mnI,mxI]at h h'
    simp[zC,aO,gV,tA,mnI,mxI,h,h',turn,aI,hJ]
  ·simp[zC,aO,gV,tA,turn,aI,hJ]
  ·simp[zC,aO,gV,tA,turn,aI,hJ]
 ·rcases hb with rfl|rfl|rfl
  ·simp[zC,aO,gV,tA,turn,aI,hJ]
  ·have hh:=ZH nm' 2 lo' kE tx' tx
   cases hq:jA ⟨nm',2,lo',kE,tx'⟩ tx<;>rw[hq]at hh<;>simp[zC,aO,gV,tA,turn,aI,hJ,x6,hh,hq]
  ·have hh:=ZH nm' 3 lo' kE tx' tx
   cases hq:jA ⟨nm',3,lo',kE,tx'⟩ tx<;>rw[hq]at hh<;>simp[zC,aO,gV,tA,turn,aI,hJ,x6,hh,hq]
 ·rcases hb with rfl|rfl|rfl
  ·simp[zC,aO,gV,tA,turn,aI,hJ]
  ·have hh:=ZH nm 3 lo hi tx tx'
   cases hq:jA ⟨nm,3,lo,hi,tx⟩ tx'<;>rw[hq]at hh<;>simp[zC,aO,gV,tA,turn,aI,hJ,x6,hh,hq]
  ·by_cases hl:tx.length<tx'.length
   ·have Kv:¬(tx'.length:Int)≤tx.length:=by omega
    have S5:¬tx'.length≤tx.length:=by omega
    cases hq:iQ tx' tx<;>simp[zC,aO,gV,tA,turn,aI,hJ,UV,SE,hq,hl,Kv,S5]
   ·have Kv:(tx'.length:Int)≤tx.length:=by omega
    have S5:tx'.length≤tx.length:=by omega
    cases hq:iQ tx tx'<;>simp[zC,aO,gV,tA,turn,aI,hJ,UV,SE,hq,hl,Kv,S5]
theorem NW{a b x:fB}(ha:kH a.kind)(hb:kH b.kind)(h:gV a b=some x):tA a b=x:=by
 obtain⟨nm,k,lo,hi,tx⟩:=a
 obtain⟨nm',k',lo',kE,tx'⟩:=b
 simp only[kH]at ha hb
 rcases ha with rfl|rfl|rfl<;>rcases hb with rfl|rfl|rfl<;>simp[gV,tA]at h ⊢
 all_goals first
  | exact h.2
  | (obtain⟨_,h⟩:=h;exact h)
  | (split at h<;>simp at h<;>simp_all<;>omega)
end Go.Dm.Tc
namespace Go.Dm.Tc
def sO(out:bI)(c:fB):Option bI :=
 if fF (eS c.name) out=true then(match out[aU (eS c.name) out]? with
  | some x=>(match gV x c with|some b=>some (out.set (aU (eS c.name) out) b)|none=>none)
  | none=>none)
 else some (out.take (aU (eS c.name) out)++c::out.drop (aU (eS c.name) out))
def jY:bI→bI→Option bI
 | out,[]=>some out
 | out,c::r=>match sO out c with
  | some o=>jY o r
  | none=>none
theorem Yu{out:bI}{c:fB}{o:bI}(h:sO out c=some o):out.length≤o.length∧o.length≤out.length+1:=by
 unfold sO at h
 have:=dB (eS c.name) out
 repeat' split at h
 all_goals first
  | (cases h;done)
  | (cases h;simp only[List.length_set];omega)
  | (cases h;simp only[List.length_append,List.length_cons,List.length_take,List.length_drop];omega)
theorem Ov:∀(l:bI) {out o:bI},jY out l=some o→out.length≤o.length
 | [],out,o,he=>by simp only[jY,Option.some.injEq]at he;subst he;exact Nat.le_refl _
 | c::r,out,o,he=>by
  simp only[jY]at he
  split at he
  ·rename_i o1 h1;exact Nat.le_trans (Yu h1).1 (Ov r he)
  ·cases he
theorem Tm:∀(l:bI) {out:bI},out.length≤5→hJ (mT out l)=(match jY out l with|some o=>decide (o.length≤5)|none=>false)
 | [],out,h=>by simp[mT,jY,hJ,h]
 | c::r,out,h=>by
  simp only[mT,jY]
  by_cases hh:fF (eS c.name) out=true
  ·have e:zE out c=sO out c:=by
    unfold zE sO
    rw[if_pos hh,if_pos hh]
    try rfl
   rw[e]
   cases hi:sO out c with
   | none=>rfl
   | some o =>
    have hl:o.length≤5:=by
     unfold sO at hi
     rw[if_pos hh]at hi
     repeat' split at hi
     all_goals first
      | (cases hi;done)
      | (cases hi;simpa using h)
    exact Tm r hl
  ·by_cases h5:out.length=5
   ·have e1:zE out c=none:=by simp only[zE,hh,h5];rfl
    rw[e1]
    cases hi:sO out c with
    | none=>rfl
    | some o =>
     have hl:6≤o.length:=by
      unfold sO at hi
      rw[if_neg hh]at hi
      cases hi
      have:=dB (eS c.name) out
      simp only[List.length_append,List.length_cons,List.length_take,List.length_drop]
      omega
     simp only[hJ]
     cases hm:jY o r with
     | none=>rfl
     | some p =>
      have:=Ov r hm
      simp only
      rw[decide_eq_false (by omega)]
   ·have e:zE out c=sO out c:=by simp only[zE,sO,if_neg hh,if_neg h5]
    rw[e]
    cases hi:sO out c with
    | none=>rfl
    | some o=>exact Tm r (by have:=(Yu hi).2;omega)
theorem yU{out:bI}{c:fB}{o:bI}(hk:∀x∈out,kH x.kind)(hc:kH c.kind)(h:sO out c=some o):∀x∈o,kH x.kind:=by
 unfold sO at h
 split at h
 ·rename_i hh
  obtain⟨x,hx,At,bD⟩:=Hx hh
  rw[hx]at h
  simp only at h
  split at h
  ·rename_i b hb
   cases h
   intro y hy
   rcases List.mem_or_eq_of_mem_set hy with h1|h1
   ·exact hk y h1
   ·subst h1;exact Kn (hk x (List.mem_of_getElem? hx)) hc hb
  ·cases h
 ·cases h
  intro y hy
  rcases List.mem_append.1 hy with h1|h1
  ·exact hk y (List.mem_of_mem_take h1)
  ·rcases List.mem_cons.1 h1 with rfl|h1
   ·exact hc
   ·exact hk y (List.mem_of_mem_drop h1)
theorem _root_.Go.Dm.OwnR.mapId{lo:Nat}{h:aA}{v:DV}{ety sz:Nat}{xs:List DV}(w:OwnR lo h v ety sz xs):Dm.mapId v=none:=by
 cases w with
 | nil hv _=>subst hv;rfl
 | arr _ _ _ hv=>subst hv;rfl
theorem n146(S:List Fr)(H:aA)(out:bI)(c:fB)(v:DV)(cid:Nat)(cp:Option Nat)(hl:out.length≤1000000)(gc:H.get cid=some (.arr 96 5 [aO c] cp))(ho:OwnR 0 H v 96 5 (out.map aO))(P:Res→Prop) :
  ∀(n j:Nat) (f:cY),aU (eS c.name) out-j=n→j≤aU (eS c.name) out→f 4=v→f 6=.ptr cid 5 0 0→f 7=.int .i64 j →
  (∀F:cY,F 7=.int .i64 (aU (eS c.name) out:Nat)→(∀r,r<13→r≠7→F r=f r)→P (run D 78 S wX F H)) →
  P (run D 78 (.block 2::.seq wX::S) (.loop Qy) f H):=by
 intro n
 have cJ:=ho.lenV
 simp only[List.length_map]at cJ
 simp only[aO]at gc
 have hmv:=ho.mapId
 have k:∀r q:Nat,r<13→13≤q→¬r=q:=fun r q h1 h2=>by omega
 induction n with
 | zero =>
  intro j f hn hj h4 h6 h7 hP
  have dV:aU (eS c.name) out=j:=by omega
  rw[aC Qy.eq_1]
  by_cases bD:j<out.length
  ·have hnot:Go.Op.bytesLess out[j].name c.name=false:=by
    have:=NL (cm:=eS c.name) (xs:=out) (by omega)
    simp only[dV]at this
    have h2:=mt yX.2 this
    simpa using h2
   obtain⟨id,sp,cap,hv,hg,_,_,Gf,hx⟩:=ho.index (i:=j) (x:=aO out[j]) (by simp[bD]) .i64
   simp only[aO]at hx
   simp[h4,h6,h7,cJ,bD,Gf,hg,hx,gc,hnot,hmv,-List.getElem?_map]
   exact hP _ (by simp[h7,dV]) fun r hr eG=>by simp[k r _ hr]
  ·simp[h4,h6,h7,cJ,bD,hmv]
   exact hP _ (by simp[h7,dV]) fun r hr eG=>by simp[k r _ hr]
 | succ n ih =>
  intro j f hn hj h4 h6 h7 hP
  have bD:j<out.length:=by have:=dB (eS c.name) out;omega
  have Zb:Go.Op.bytesLess out[j].name c.name=true:=yX.1 (AU (cm:=eS c.name) (by omega) bD)
  obtain⟨id,sp,cap,hv,hg,_,_,Gf,hx⟩:=ho.index (i:=j) (x:=aO out[j]) (by simp[bD]) .i64
  simp only[aO]at hx
  rw[aC Qy.eq_1]
  simp[h4,h6,h7,cJ,bD,Gf,hg,hx,gc,Zb,hmv,-List.getElem?_map]
  rw[aX (by omega) (by omega)]
  generalize hF:upd _ 7 _=F
  refine ih (j+1) F (by omega) (by omega) (by rw[←hF];simp[h4]) (by rw[←hF];simp[h6]) (by rw[←hF];simp) fun F' a b=>hP F' a fun r hr eG=>?_
  rw[b r hr eG,←hF]
  simp[k r _ hr,eG]
end Go.Dm.Tc
namespace Go.Dm.Tc
def sI(o:Option bI)(r:Option DV):Prop :=
 match o with
 | some out=>r=some (.tup [eL false 5 aO out,.bool true])
 | none=>r=some (.tup [.isl false 0 [],.bool false])
theorem m8{cm:fB→Int}{out:bI}(h:fF cm out=false)(hl:aU cm out<out.length):¬cm out[aU cm out]=0:=by
 unfold fF at h
 rw[List.getElem?_eq_getElem hl]at h
 simpa using h
theorem m146(t:Bool)(l:bI)(hl:l.length≤1000000)(hr:∀c∈l,kH c.kind) :
  ∀(rest:bI) (i:Nat) (out:bI) (v:DV) (f:cY) (h:aA),l.drop i=rest→(∀c∈out,kH c.kind)→out.length≤i→f 4=v→f 10=eL t 5 aO l→f 11=.int .i64 l.length→f 12=.int .i64 i →
  OwnR 0 h v 96 5 (out.map aO)→h.lim=0→WF h →
  sI (jY out rest) (dC (fin [.t 2,.t 3] (run D 78 [.block 0,.seq J0] (.loop Qx) f h))):=by
 intro rest
 induction rest with
 | nil =>
  intro i out v f h hd hk h5 h4 iA lI gQ ho aM wf
  have hi:=bR hd
  have:¬(i<l.length):=by omega
  have r1:resolve false h 199 v=some (eL false 5 aO out):=ho.resolve false (fun y _=>(lZ y).1) (by decide)
  rw[aC Qx.eq_1]
  simp[J0,lI,gQ,this,h4,jY,sI,aI,r1]
  exact eV (fun y _=>(lZ y).2) 199 (by decide)
 | cons c rest ih =>
  intro i out v f h hd hk h5 h4 iA lI gQ ho aM wf
  obtain⟨hi,he,fI⟩:=cB hd
  have hc:=hr c (by rw[←he];exact List.getElem_mem hi)
  rw[aC Qx.eq_1]
  simp[h4,iA,lI,gQ,hi,he,aO,aM,wf,turn]
  generalize hF:upd _ 7 _=F
  have o1:OwnR 0 (h.push (.arr 96 5 [aO c] (some 1))) v 96 5 (out.map aO):=ho.push
  refine n146 _ (h.push (.arr 96 5 [aO c] (some 1))) out c v h.n (some 1) (by omega) (by simp) o1 (fun r=>sI (jY out (c::rest)) (dC (fin [.t 2,.t 3] r))) _ 0 F rfl (Nat.zero_le _) (by rw[←hF];simp[h4]) (by rw[←hF];simp) (by rw[←hF];simp) fun F' q7 qr=>?_
  have q4:F' 4=v:=by rw[qr 4 (by decide) (by decide),←hF];simp[h4]
  have q6:F' 6=.ptr h.n 5 0 0:=by rw[qr 6 (by decide) (by decide),←hF];simp
  have q10:F' 10=eL t 5 aO l:=by rw[qr 10 (by decide) (by decide),←hF];simp[iA]
  have q11:F' 11=.int .i64 l.length:=by rw[qr 11 (by decide) (by decide),←hF];simp[lI]
  have q12:F' 12=.int .i64 i:=by rw[qr 12 (by decide) (by decide),←hF];simp[gQ]
  clear hF qr
  have cJ:∀o,lenV (h.push o) 1 v=some (.int .i64 out.length):=fun o=>by simpa using(ho.push (o:=o)).lenV
  have hmv:=ho.mapId
  have n0:¬0=h.n+1:=by omega
  by_cases bD:aU (eS c.name) out<out.length
  ·obtain⟨id,sp,cap,hv,hg,_,_,Gf,hx⟩:=ho.index (i:=aU (eS c.name) out) (x:=aO out[aU (eS c.name) out]) (by simp[bD]) .i64
   have Ky:=bB hg
   have eG:¬id=h.n:=by omega
   have Kt:¬h.n=id:=by omega
   have Tw:¬id=h.n+1:=by omega
   have hxm:out[aU (eS c.name) out]∈out:=List.getElem_mem bD
   generalize Bw:out[aU (eS c.name) out]=x at *
   have hx?:out[aU (eS c.name) out]?=some x:=by rw[List.getElem?_eq_getElem bD,Bw]
   have hb:=s183 x c (hk x hxm) hc
   simp only[aO]at hx hb
   cases hh:fF (eS c.name) out with
   | true =>
    obtain⟨x2,VV,At,_⟩:=Hx hh
    have:x2=x:=Option.some.inj (VV.symm.trans hx?)
    subst this
    have OD:x2.name=c.name:=Dv.1 At
    rw[OD]at hb
    cases hj:gV x2 c with
    | none =>
     rw[hj]at hb
     simp only[hJ]at hb
     have rZ:sO out c=none:=by simp only[sO,hh,if_true,hx?,hj]
     rw[show jY out (c::rest)=none from by simp only[jY,rZ]]
     simp[wX,q4,q6,q7,cJ,hmv,bD,Gf,hg,hx,eG,Kt,Ky,aO,OD,e183,hb,aM,wf,turn,aI,sI,-List.getElem?_map]
    | some b =>
     rw[hj]at hb
     have hje:=NW (hk x2 hxm) hc hj
     rw[hje]at hb
     simp only[hJ]at hb
     have rZ:sO out c=some (out.set (aU (eS c.name) out) b):=by simp only[sO,hh,if_true,hx?,hj]
     rw[show jY out (c::rest)=jY (out.set (aU (eS c.name) out) b) rest from by simp only[jY,rZ]]
     have lC:∀p1 p2 p3,elems (((h.push p1).push p2).push p3) 5 v=some (out.map aO):=fun p1 p2 p3=>ho.push.push.push.elems
     simp[wX,q4,q6,q7,cJ,hmv,bD,Gf,hg,hx,eG,Kt,Ky,aO,OD,e183,hb,aM,wf,turn,lC,-List.getElem?_map]
     generalize hA:aY _ _ _ _ _ _=A
     obtain⟨i1,K1,rfl,u1,x1,y1,j1⟩:=(fW.fresh (lo:=h.n+2) (ety:=96) (sz:=5) (xs:=[]) (cap:=some 0) (by simp[aM]) (by simp)).append (n:=0) rfl (by simp[wf]) (by simp) (by simp[aM]) hA (by simp;omega) (by decide)
     clear hA
     have a1:=x1.get (h.n+1) (by omega)
     have b1:=x1.lim
     simp[aM]at a1 b1
     obtain⟨⟨sp1,cap1,g1⟩,l1,l2⟩:=u1
     have hlt1:=bB g1
     have hix1:bS 5 (.sl i1 5 0 out.length) (.int .i64 (aU (eS c.name) out:Nat))=some (.ptr i1 5 (aU (eS c.name) out) 0):=by simp[bS,asI,bD]
     have BC:(List.map aO out++sp1)[aU (eS c.name) out]?=some (.agg [.str x2.name,.int .i64 x2.kind,.int .i64 x2.lo,.int .i64 x2.hi,.str x2.text]):=by
      rw[List.getElem?_append_left (by simpa using bD),List.getElem?_map,hx?];rfl
     simp[Ix,q4,q7,q12,a1,hix1,g1,b1,hlt1,BC,x1.wf,-List.getElem?_map]
     rw[aX (by omega) (by omega)]
     generalize hF:upd _ 12 _=F2
     have hin2:=yU hk hc rZ
     refine ih (i+1) (out.set (aU (eS c.name) out) b) (.sl i1 5 0 out.length) F2 _ fI hin2 (by simp;omega) ?_ ?_ ?_ ?_ (.arr i1 sp1 cap1 (by simp) ?_ ?_ (Nat.zero_le _)) ?_ ?_
     ·rw[←hF];simp
     ·rw[←hF];simp[q10]
     ·rw[←hF];simp[q11]
     ·rw[←hF];simp
     ·simp[hlt1,x1.wf,List.map_set,aO,List.set_append,bD]
     ·simp[b1]
     ·simp[b1]
     ·simp[x1.wf]
   | false =>
    have OD:¬x.name=c.name:=fun e=>by
     have:=m8 hh bD
     rw[Bw]at this
     exact this (Dv.2 e)
    have rZ:sO out c=some (out.take (aU (eS c.name) out)++c::out.drop (aU (eS c.name) out)):=by simp[sO,hh]
    have Pa:=dB (eS c.name) out
    simp only[List.length_map]at hv
    generalize sL:aU (eS c.name) out=k at *
    subst hv
    have BH:jY out (c::rest)=jY (out.take k++c::out.drop k) rest:=by simp only[jY,rZ]
    rw[BH]
    have Tu:¬h.n+1=h.n:=by omega
    have Tx:k≤out.length+sp.length:=by omega
    have pO:min k out.length=k:=by omega
    have He:List.take k (List.map aO out++sp)=(out.take k).map aO:=by rw[List.take_append_of_le_length (by simpa using Pa),List.map_take]
    have Tv:¬h.n+1=id:=by omega
    have IV:List.take (out.length-k) (List.drop k (List.map aO out++sp))=(out.drop k).map aO:=by
     rw[List.drop_append_of_le_length (by simpa using Pa),List.take_left' (by simp),List.map_drop]
    have hsum:k+(out.length-k)=out.length:=by omega
    simp[wX,q4,q6,q7,bD,Gf,hg,hx,eG,Kt,Tw,Ky,aO,OD,aM,wf,turn,Pa,Tx,Tu,He,pO,-List.getElem?_map]
    generalize hA:aY _ _ _ _ _ _=A
    obtain⟨i1,K1,rfl,u1,x1,y1,j1⟩:=(fW.fresh (lo:=h.n+1) (ety:=96) (sz:=5) (xs:=[]) (cap:=some 0) (by simp[aM]) (by simp)).append (n:=0) rfl (by simp[wf]) (by simp) (by simp[aM]) hA (by simp;omega) (by decide)
    clear hA
    have a0:=x1.get h.n (by omega)
    have a1:=x1.get id (by omega)
    have b1:=x1.lim
    have w1:=x1.wf
    have n1:=x1.le
    have ul1:=u1.lo
    have m0:¬id=i1:=by omega
    have m1:¬i1=id:=by omega
    have m2:¬h.n=i1:=by omega
    have m3:¬i1=h.n:=by omega
    simp[hg,eG,Tw,aM,Tu]at a0 a1 b1 u1
    simp[q4,q6,q7,a0,a1,b1,w1,m0,m1,m2,m3,Pa,Tx,Tv,Tu,pO,aO]
    generalize hA:aY _ _ _ _ _ _=A
    obtain⟨i2,K2,rfl,u2,x2,y2,j2⟩:=(u1.push (o:=_)).append (by simp[pO]) (by simp[w1]) (by simp;omega) (by simp[b1]) hA (by simp;omega) (by decide)
    clear hA
    have c1:=x2.get id (by omega)
    have d1:=x2.lim
    have n2:=x2.le
    have r1:¬id=K1.n:=by omega
    simp[a1,b1,r1]at c1 d1 u2
    simp[q4,q6,q7,eG,hg,c1,d1,x2.wf,m0,m1,m2,m3,Pa,Tx,Tv,Tu,pO,IV,hsum]
    generalize hA:aY _ _ _ _ _ _=A
    obtain⟨i3,K3,rfl,u3,x3,y3,j3⟩:=u2.append (by simp[pO]) x2.wf n2 (by omega) hA (by simp;omega) (by decide)
    clear hA
    have d3:=x3.lim
    simp[Ix,q12,pO]
    rw[aX (by omega) (by omega)]
    generalize hF:upd _ 12 _=F2
    have u4:=u3.toR.lower (Nat.zero_le _)
    have u5:OwnR 0 K3 (.sl i3 5 0 (k+1+(out.length-k))) 96 5 ((out.take k++c::out.drop k).map aO):=by
     have e2:((out.take k++c::out.drop k).map aO).length=k+1+(out.length-k):=by simp[pO];omega
     rw[←e2]
     simpa[aO]using u4
    refine ih (i+1) _ _ F2 K3 fI (yU hk hc rZ) (by simp;omega) ?_ ?_ ?_ ?_ u5 (by omega) x3.wf
    ·rw[←hF];simp[pO]
    ·rw[←hF];simp[q10]
    ·rw[←hF];simp[q11]
    ·rw[←hF];simp
  ·have hh:fF (eS c.name) out=false:=by unfold fF;rw[List.getElem?_eq_none (by omega)]
   have rZ:sO out c=some (out.take (aU (eS c.name) out)++c::out.drop (aU (eS c.name) out)):=by simp[sO,hh]
   cases ho with
   | nil hv hx =>
    have ho0:out=[]:=by simpa using hx
    subst hv
    subst ho0
    have dV:aU (eS c.name) ([]:bI)=0:=rfl
    rw[dV]at q7 rZ bD
    have BH:jY [] (c::rest)=jY [c] rest:=by simp only[jY,rZ];rfl
    rw[BH]
    have Tu:¬h.n+1=h.n:=by omega
    have Cw:∀H,iI H 5 .nsl none (some (.int .i64 0))=some .nsl:=fun _=>rfl
    have TR:∀H,iI H 5 .nsl (some (.int .i64 0)) none=some .nsl:=fun _=>rfl
    simp[wX,q4,q6,q7,aO,aM,wf,turn,Tu,Cw]
    generalize hA:aY _ _ _ _ _ _=A
    obtain⟨i1,K1,rfl,u1,x1,y1,j1⟩:=(fW.fresh (lo:=h.n+1) (ety:=96) (sz:=5) (xs:=[]) (cap:=some 0) (by simp[aM]) (by simp)).append (n:=0) rfl (by simp[wf]) (by simp) (by simp[aM]) hA (by simp) (by decide)
    clear hA
    have a0:=x1.get h.n (by omega)
    have b1:=x1.lim
    have w1:=x1.wf
    have n1:=x1.le
    have ul1:=u1.lo
    have m2:¬h.n=i1:=by omega
    have m3:¬i1=h.n:=by omega
    simp[aM,Tu]at a0 b1 u1
    simp[q4,q6,q7,a0,b1,w1,m2,m3,Tu,aO]
    generalize hA:aY _ _ _ _ _ _=A
    obtain⟨i2,K2,rfl,u2,x2,y2,j2⟩:=(u1.push (o:=_)).append (by simp) (by simp[w1]) (by simp;omega) (by simp[b1]) hA (by simp) (by decide)
    clear hA
    have d1:=x2.lim
    have n2:=x2.le
    simp[b1]at d1 u2
    simp[q4,q6,q7,d1,x2.wf,m2,m3,Tu,TR]
    generalize hA:aY _ _ _ _ _ _=A
    obtain⟨i3,K3,rfl,u3,x3,y3,j3⟩:=u2.append (by simp) x2.wf n2 (by omega) hA (by simp) (by decide)
    clear hA
    have d3:=x3.lim
    simp[Ix,q12]
    rw[aX (by omega) (by omega)]
    generalize hF:upd _ 12 _=F2
    have u4:=u3.toR.lower (Nat.zero_le _)
    refine ih (i+1) _ _ F2 K3 fI (yU hk hc rZ) (by simp) ?_ ?_ ?_ ?_ (by simpa[aO]using u4) (by omega) x3.wf
    ·rw[←hF];simp
    ·rw[←hF];simp[q10]
    ·rw[←hF];simp[q11]
    ·rw[←hF];simp
   | arr id sp cap hv hg Nu dV =>
    have Ky:=bB hg
    have eG:¬id=h.n:=by omega
    have Kt:¬h.n=id:=by omega
    have Tw:¬id=h.n+1:=by omega
    have Pa:=dB (eS c.name) out
    simp only[List.length_map]at hv
    generalize sL:aU (eS c.name) out=k at *
    subst hv
    have BH:jY out (c::rest)=jY (out.take k++c::out.drop k) rest:=by simp only[jY,rZ]
    rw[BH]
    have Tu:¬h.n+1=h.n:=by omega
    have Tx:k≤out.length+sp.length:=by omega
    have pO:min k out.length=k:=by omega
    have He:List.take k (List.map aO out++sp)=(out.take k).map aO:=by rw[List.take_append_of_le_length (by simpa using Pa),List.map_take]
    have Tv:¬h.n+1=id:=by omega
    have IV:List.take (out.length-k) (List.drop k (List.map aO out++sp))=(out.drop k).map aO:=by
     rw[List.drop_append_of_le_length (by simpa using Pa),List.take_left' (by simp),List.map_drop]
    have hsum:k+(out.length-k)=out.length:=by omega
    simp[wX,q4,q6,q7,bD,hg,eG,Kt,Tw,Ky,aO,aM,wf,turn,Pa,Tx,Tu,He,pO,-List.getElem?_map]
    generalize hA:aY _ _ _ _ _ _=A
    obtain⟨i1,K1,rfl,u1,x1,y1,j1⟩:=(fW.fresh (lo:=h.n+1) (ety:=96) (sz:=5) (xs:=[]) (cap:=some 0) (by simp[aM]) (by simp)).append (n:=0) rfl (by simp[wf]) (by simp) (by simp[aM]) hA (by simp;omega) (by decide)
    clear hA
    have a0:=x1.get h.n (by omega)
    have a1:=x1.get id (by omega)
    have b1:=x1.lim
    have w1:=x1.wf
    have n1:=x1.le
    have ul1:=u1.lo
    have m0:¬id=i1:=by omega
    have m1:¬i1=id:=by omega
    have m2:¬h.n=i1:=by omega
    have m3:¬i1=h.n:=by omega
    simp[hg,eG,Tw,aM,Tu]at a0 a1 b1 u1
    simp[q4,q6,q7,a0,a1,b1,w1,m0,m1,m2,m3,Pa,Tx,Tv,Tu,pO,aO]
    generalize hA:aY _ _ _ _ _ _=A
    obtain⟨i2,K2,rfl,u2,x2,y2,j2⟩:=(u1.push (o:=_)).append (by simp[pO]) (by simp[w1]) (by simp;omega) (by simp[b1]) hA (by simp;omega) (by decide)
    clear hA
    have c1:=x2.get id (by omega)
    have d1:=x2.lim
    have n2:=x2.le
    have r1:¬id=K1.n:=by omega
    simp[a1,b1,r1]at c1 d1 u2
    simp[q4,q6,q7,eG,hg,c1,d1,x2.wf,m0,m1,m2,m3,Pa,Tx,Tv,Tu,pO,IV,hsum]
    generalize hA:aY _ _ _ _ _ _=A
    obtain⟨i3,K3,rfl,u3,x3,y3,j3⟩:=u2.append (by simp[pO]) x2.wf n2 (by omega) hA (by simp;omega) (by decide)
    clear hA
    have d3:=x3.lim
    simp[Ix,q12,pO]
    rw[aX (by omega) (by omega)]
    generalize hF:upd _ 12 _=F2
    have u4:=u3.toR.lower (Nat.zero_le _)
    have u5:OwnR 0 K3 (.sl i3 5 0 (k+1+(out.length-k))) 96 5 ((out.take k++c::out.drop k).map aO):=by
     have e2:((out.take k++c::out.drop k).map aO).length=k+1+(out.length-k):=by simp[pO];omega
     rw[←e2]
     simpa[aO]using u4
    refine ih (i+1) _ _ F2 K3 fI (yU hk hc rZ) (by simp;omega) ?_ ?_ ?_ ?_ u5 (by omega) x3.wf
    ·rw[←hF];simp[pO]
    ·rw[←hF];simp[q10]
    ·rw[←hF];simp[q11]
    ·rw[←hF];simp
theorem s146(t:Bool)(l:bI)(hl:l.length≤1000000)(hr:∀c∈l,kH c.kind):sI (jY [] l) (pcF D DL [eL t 5 aO l]):=by
 unfold pcF
 rw[aJ _ _ _ _ (by simp[DL])]
 simp[DL]
 refine m146 t l hl hr l 0 [] .nsl _ pB rfl (by simp) (by simp) ?_ ?_ ?_ ?_ (.nil rfl rfl) ?_ ?_<;>simp
theorem s95(a b:bI)(ha:bZ a)(hb:bZ b):pcF D t95 [bF a,bF b]=some (.bool (rU a b)):=by
 have GK:=ha.len
 have hlb:=hb.len
 have uM:∀c∈a++b,dD c=true∧c.name.length≤1000000:=fun c hc=>(List.mem_append.1 hc).elim (ha.one c) (hb.one c)
 have hm:=s146 true (a++b) (by simp;omega) fun c hc=>Js (uM c hc).1
 unfold pcF
 rw[aJ _ _ _ _ (by simp[t95])]
 simp only[bF]
 simp[t95]
 generalize hA:aY _ _ _ _ _ _=A
 obtain⟨v1,K1,rfl,p1,x1,_⟩:=OwnR.append (lo:=0) (OwnR.fresh (lo:=0) (xs:=[]) (by simp) (by simp)) (by simp) (Nat.zero_le _) (by simp) hA (by simp;omega) (by decide)
 clear hA
 simp
 generalize hA:aY _ _ _ _ _ _=A
 obtain⟨v2,K2,rfl,p2,x2,_⟩:=OwnR.append p1 x1.wf (Nat.zero_le _) (by rw[x1.lim];simp) hA (by simp;omega) (by decide)
 clear hA
 have hp:OwnR 0 K2 v2 96 5 ((a++b).map aO):=by simpa using p2
 have r1:resolve true K2 200 v2=some (eL true 5 aO (a++b)):=hp.resolve true (fun y _=>(lZ y).1) (by decide)
 unfold rU
 rw[Tm (a++b) (out:=[]) (by simp)]
 cases hk:jY [] (a++b)with
 | none =>
  rw[hk]at hm
  simp only[sI]at hm
  simp[e146,r1,hm,aI]
 | some out =>
  rw[hk]at hm
  simp only[sI]at hm
  simp[e146,r1,hm,aI]
  omega
end Go.Dm.Tc
namespace Go.Dm.Tc
structure iR where
 to:Int
 kind:Int
 tree:ID
 id:ID
 pred:bI
 deriving DecidableEq,Inhabited
def fM(o:iR):DV:=.agg [.int .i64 o.to,.int .i64 o.kind,.int .i64 o.tree.aS,.int .i64 o.tree.seq,.int .i64 o.id.aS,.int .i64 o.id.seq,bF o.pred,.isl false 0 []]
def jZ(es:List DV)(os:List iR):Prop:=es.length=os.length∧∀(tag:Bool) (h:aA) (n:Nat),21≤n→es.mapM (resolve tag h n)=some (os.map fM)
theorem jZ.nil:jZ [] []:=⟨rfl,fun _ _ _ _=>rfl⟩
theorem jZ.append{a b:List DV}{x y:List iR}(h1:jZ a x)(h2:jZ b y):jZ (a++b) (x++y):=by
 refine⟨by simp[h1.1,h2.1],fun tag h n hn=>?_⟩
 rw[List.mapM_append,h1.2 tag h n hn,h2.2 tag h n hn]
 simp
def tY(to k tc td ic id:Int)(pd ad:DV):DV:=.agg [.int .i64 to,.int .i64 k,.int .i64 tc,.int .i64 td,.int .i64 ic,.int .i64 id,pd,ad]
def D7(pd:DV)(p:bI):Prop:=pd=bF p∨(pd=.nsl∧p=[])
def QC(ad:DV):Prop:=ad=.nsl∨ad=.isl false 0 []
theorem D7.res{pd:DV}{p:bI}(h:D7 pd p)(tag:Bool)(hp:aA)(n:Nat)(hn:20≤n):resolve tag hp n pd=some (bF p):=by
 obtain⟨m,rfl⟩:∃ m,n=m+1:=⟨n-1,by omega⟩
 rcases h with rfl|⟨rfl,rfl⟩
 ·exact Xo ..
 ·rfl
theorem QC.res{ad:DV}(h:QC ad)(tag:Bool)(hp:aA)(n:Nat)(hn:20≤n):resolve tag hp n ad=some (.isl false 0 []):=by
 obtain⟨m,rfl⟩:∃ m,n=m+1:=⟨n-1,by omega⟩
 rcases h with rfl|rfl
 ·rfl
 ·rfl
theorem MF{to k tc td ic id:Int}{pd ad:DV}{p:bI}(hp:D7 pd p)(ha:QC ad)(tag:Bool)(h:aA)(n:Nat)(hn:21≤n):resolve tag h n (tY to k tc td ic id pd ad)=some (fM ⟨to,k,⟨tc,td⟩,⟨ic,id⟩,p⟩):=by
 obtain⟨m,rfl⟩:∃ m,n=m+1:=⟨n-1,by omega⟩
 obtain⟨q,rfl⟩:∃ q,m=q+1:=⟨m-1,by omega⟩
 have h1:=hp.res tag h (q+1) (by omega)
 have h2:=ha.res tag h (q+1) (by omega)
 unfold tY fM
 rw[AN]
 simp[h1,h2]
theorem jZ.one{to k tc td ic id:Int}{pd ad:DV}{p:bI}(hp:D7 pd p)(ha:QC ad):jZ [tY to k tc td ic id pd ad] [⟨to,k,⟨tc,td⟩,⟨ic,id⟩,p⟩] :=
 ⟨rfl,fun tag h n hn=>by simp only[List.mapM_cons,List.mapM_nil,MF hp ha tag h n hn];rfl⟩
theorem fO(o:iR):jU 20 (fM o)∧Unl 22 (fM o):=⟨jM (by
  intro x hx
  simp only[List.mem_cons,List.not_mem_nil,or_false]at hx
  rcases hx with rfl|rfl|rfl|rfl|rfl|rfl|rfl|rfl
  all_goals first|exact fA _ _|exact eM false 5 aO o.pred|exact fun t h m hm=>by obtain⟨q,rfl,_⟩:=cM hm;rfl),lA (by
  intro x hx
  simp only[List.mem_cons,List.not_mem_nil,or_false]at hx
  rcases hx with rfl|rfl|rfl|rfl|rfl|rfl|rfl|rfl
  all_goals first|exact(lF _ _).mono (by decide)|exact(tT o.pred).mono (by decide)|exact fun n hn=>by obtain⟨q,rfl,_⟩:=cM (k:=20) hn;simp[bJ])⟩
theorem pX{lo:Nat}{h:aA}{v:DV}{ety:Nat}{es:List DV}{os:List iR}(w:OwnR lo h v ety 8 es)(r:jZ es os)(tag:Bool){n:Nat}(hn:22≤n):resolve tag h n v=some (eL tag 8 fM os):=by
 obtain⟨m,rfl,hm⟩:=cM (k:=21) hn
 cases w with
 | nil hv hx =>
  subst hv;subst hx
  have:os=[]:=List.length_eq_zero_iff.1 r.1.symm
  subst this;rfl
 | arr id sp cap hv hg hl hi =>
  subst hv
  have Eb:=r.2 tag h m hm
  simp only[Dm.resolve,hg,true_and,Nat.zero_add,List.length_append,Nat.le_add_right,if_true,List.drop_zero,List.take_left,Eb]
  rfl
def lL(aL:List Int)(but k tc td ic id:Int)(p:bI):List iR:=(aL.filter fun n=>!decide (n=but)).map fun n=>⟨n,k,⟨tc,td⟩,⟨ic,id⟩,p⟩
def gU(aL:List Int)(but k tc td ic id:Int)(pd ad:DV):List DV:=(aL.filter fun n=>!decide (n=but)).map fun n=>tY n k tc td ic id pd ad
theorem rR{but k tc td ic id:Int}{pd ad:DV}{p:bI}(hp:D7 pd p)(ha:QC ad):∀(aL:List Int),jZ (gU aL but k tc td ic id pd ad) (lL aL but k tc td ic id p)
 | []=>jZ.nil
 | x::r=>by
  have ih:=rR (but:=but) (k:=k) (tc:=tc) (td:=td) (ic:=ic) (id:=id) hp ha r
  unfold gU lL at *
  by_cases hx:x=but
  ·simp only[List.filter_cons,hx,decide_true,Bool.not_true,Bool.false_eq_true,if_false];exact ih
  ·simp only[List.filter_cons,hx,decide_false,Bool.not_false,if_true,List.map_cons]
   exact jZ.append (jZ.one (to:=x) hp ha) ih
theorem l103(t:dG)(b:aF)(but k tc td ic id:Int)(pd ad:DV)(N:Nat)(ta tb:Nat)(hl:b.aL.length≤1000000)(h0:aA)(g0:h0.get N=some (.arr ta 6 [aH t b] (some 1)))(g1:h0.get (N+1)=some (.arr tb 7 [.agg [.int .i64 k,.int .i64 tc,.int .i64 td,.int .i64 ic,.int .i64 id,pd,ad]] (some 1)))(Nu:h0.lim≤N) :
  ∀(rest:List Int) (i:Nat) (es:List DV) (v:DV) (f:cY) (h:aA),b.aL.drop i=rest→es.length≤i→f 1=.int .i64 but→f 3=.ptr N 6 0 0→f 5=.ptr (N+1) 7 0 0→f 7=v→f 11=eL t.aL 1 bQ b.aL→f 12=.int .i64 b.aL.length→f 13=.int .i64 i→OwnR (N+2) h v 100 8 es→Ext (N+2) h0 h →
  ∃ v' h',fin [.t 6] (run D 28 [.block 0,.seq K9] (.loop Rp) f h)=some (v',h')∧OwnR (N+2) h' v' 100 8 (es++gU rest but k tc td ic id pd ad)∧Ext (N+2) h0 h':=by
 intro rest
 induction rest with
 | nil =>
  intro i es v f h hd he h1 h3 h5 h7 lI gQ nC ho x
  have hi:=bR hd
  have:¬(i<b.aL.length):=by omega
  rw[aC Rp.eq_1]
  simp[K9,gQ,nC,this,h7]
  first
   | exact⟨_,_,⟨rfl,rfl⟩,by simpa[gU]using ho,x⟩
   | exact⟨by simpa[gU]using ho,x⟩
 | cons y rest ih =>
  intro i es v f h hd he h1 h3 h5 h7 lI gQ nC ho x
  obtain⟨hi,qQ,fI⟩:=cB hd
  have a0:=(x.get N (by omega)).trans g0
  have a1:=(x.get (N+1) (by omega)).trans g1
  rw[aC Rp.eq_1]
  by_cases hy:y=but
  ·subst hy
   simp[h1,h3,h5,h7,lI,gQ,nC,hi,qQ,bQ]
   rw[aX (by omega) (by omega)]
   generalize hF:upd _ 13 _=F
   have hr:gU (y::rest) y k tc td ic id pd ad=gU rest y k tc td ic id pd ad:=by simp[gU]
   rw[hr]
   refine ih (i+1) es v F h fI (by omega) ?_ ?_ ?_ ?_ ?_ ?_ ?_ ho x
   all_goals (rw[←hF];simp[h1,h3,h5,h7,lI,gQ])
  ·simp[h1,h3,h5,h7,lI,gQ,nC,hi,qQ,hy,a1,bQ]
   generalize hA:aY _ _ _ _ _ _=A
   obtain⟨v',K,rfl,p',x',_⟩:=OwnR.append (ho.push) (by simp[x.wf]) (by have:=x.le;simp;omega) (by have:=x.le;have:=x.lim;simp;omega) hA (by simp;omega) (by decide)
   clear hA
   simp[nC]
   rw[aX (by omega) (by omega)]
   generalize hF:upd _ 13 _=F
   have hr:gU (y::rest) but k tc td ic id pd ad=tY y k tc td ic id pd ad::gU rest but k tc td ic id pd ad:=by simp[gU,hy]
   obtain⟨v2,K2,k1,k2,k3⟩:=ih (i+1) (es++[tY y k tc td ic id pd ad]) v' F K fI (by simp;omega) (by rw[←hF];simp[h1]) (by rw[←hF];simp[h3]) (by rw[←hF];simp[h5]) (by rw[←hF];simp) (by rw[←hF];simp[lI]) (by rw[←hF];simp[gQ]) (by rw[←hF];simp) (by simpa[tY]using p') (x.push.trans x')
   exact⟨v2,K2,k1,by rw[hr];simpa using k2,k3⟩
theorem q103{h:aA}{A:Option (DV×aA)}{t:dG}{b:aF}{but k tc td ic id:Int}{pd ad:DV}(hA:fc D 103 [aH t b,.int .i64 but,.agg [.int .i64 k,.int .i64 tc,.int .i64 td,.int .i64 ic,.int .i64 id,pd,ad]] h=A)(hl:b.aL.length≤1000000)(wf:WF h)(aM:h.lim≤h.n) :
  ∃ v' h',A=some (v',h')∧OwnR h.n h' v' 100 8 (gU b.aL but k tc td ic id pd ad)∧Ext h.n h h':=by
 subst hA
 rw[e103,aJ _ _ _ _ (by simp[KQ])]
 simp[KQ]
 generalize hF:upd _ 13 _=F
 generalize hH:aA.push _ _=H0
 have hn:h.n+2≤H0.n:=by rw[←hH];simp
 have g0:H0.get h.n=some (.arr 36 6 [aH t b] (some 1)):=by rw[←hH];simp
 have g1:H0.get (h.n+1)=some (.arr 44 7 [.agg [.int .i64 k,.int .i64 tc,.int .i64 td,.int .i64 ic,.int .i64 id,pd,ad]] (some 1)):=by rw[←hH];simp
 have hw:WF H0:=by rw[←hH];simp[wf]
 have hm:H0.lim≤h.n:=by rw[←hH];simpa using aM
 obtain⟨v',h',k1,k2,k3⟩:=l103 t b but k tc td ic id pd ad h.n _ _ hl H0 g0 g1 hm b.aL 0 [] .nsl F H0 rfl (by simp) (by rw[←hF];simp) (by rw[←hF];simp) (by rw[←hF];simp) (by rw[←hF];simp) (by rw[←hF];simp) (by rw[←hF];simp) (by rw[←hF];simp) (.nil rfl rfl) (.refl hn hw)
 refine⟨v',h',k1,by simpa using k2.lower (by omega:h.n≤h.n+2),?_⟩
 have k4:=k3.lower (by omega:h.n≤h.n+2)
 refine⟨k4.le,by rw[k4.lim,←hH];simp,fun id fS=>?_,k4.wf⟩
 rw[k4.get id fS,←hH]
 have e1:¬id=h.n:=by omega
 have e2:¬id=h.n+1:=by omega
 simp[e1,e2]
theorem l100(t:dG)(b:aF)(but k tc td ic id:Int)(pd ad:DV)(N:Nat)(ta tb:Nat)(hl:b.aL.length≤1000000)(h0:aA)(g0:h0.get N=some (.arr ta 6 [aH t b] (some 1)))(g1:h0.get (N+1)=some (.arr tb 7 [.agg [.int .i64 k,.int .i64 tc,.int .i64 td,.int .i64 ic,.int .i64 id,pd,ad]] (some 1)))(Nu:h0.lim≤N) :
  ∀(rest:List Int) (i:Nat) (es:List DV) (v:DV) (f:cY) (h:aA),b.aL.drop i=rest→es.length≤i→f 1=.int .i64 but→f 3=.ptr N 6 0 0→f 5=.ptr (N+1) 7 0 0→f 7=v→f 11=eL t.aL 1 bQ b.aL→f 12=.int .i64 b.aL.length→f 13=.int .i64 i→OwnR (N+2) h v 100 8 es→Ext (N+2) h0 h →
  ∃ v' h',fin [.t 6] (run D 28 [.block 0,.seq L4] (.loop Rq) f h)=some (v',h')∧OwnR (N+2) h' v' 100 8 (es++gU rest but k tc td ic id pd ad)∧Ext (N+2) h0 h':=by
 intro rest
 induction rest with
 | nil =>
  intro i es v f h hd he h1 h3 h5 h7 lI gQ nC ho x
  have hi:=bR hd
  have:¬(i<b.aL.length):=by omega
  rw[aC Rq.eq_1]
  simp[L4,gQ,nC,this,h7]
  first
   | exact⟨_,_,⟨rfl,rfl⟩,by simpa[gU]using ho,x⟩
   | exact⟨by simpa[gU]using ho,x⟩
 | cons y rest ih =>
  intro i es v f h hd he h1 h3 h5 h7 lI gQ nC ho x
  obtain⟨hi,qQ,fI⟩:=cB hd
  have a0:=(x.get N (by omega)).trans g0
  have a1:=(x.get (N+1) (by omega)).trans g1
  rw[aC Rq.eq_1]
  by_cases hy:y=but
  ·subst hy
   simp[h1,h3,h5,h7,lI,gQ,nC,hi,qQ,bQ]
   rw[aX (by omega) (by omega)]
   generalize hF:upd _ 13 _=F
   have hr:gU (y::rest) y k tc td ic id pd ad=gU rest y k tc td ic id pd ad:=by simp[gU]
   rw[hr]
   refine ih (i+1) es v F h fI (by omega) ?_ ?_ ?_ ?_ ?_ ?_ ?_ ho x
   all_goals (rw[←hF];simp[h1,h3,h5,h7,lI,gQ])
  ·simp[h1,h3,h5,h7,lI,gQ,nC,hi,qQ,hy,a1,bQ]
   generalize hA:aY _ _ _ _ _ _=A
   obtain⟨v',K,rfl,p',x',_⟩:=OwnR.append (ho.push) (by simp[x.wf]) (by have:=x.le;simp;omega) (by have:=x.le;have:=x.lim;simp;omega) hA (by simp;omega) (by decide)
   clear hA
   simp[nC]
   rw[aX (by omega) (by omega)]
   generalize hF:upd _ 13 _=F
   have hr:gU (y::rest) but k tc td ic id pd ad=tY y k tc td ic id pd ad::gU rest but k tc td ic id pd ad:=by simp[gU,hy]
   obtain⟨v2,K2,k1,k2,k3⟩:=ih (i+1) (es++[tY y k tc td ic id pd ad]) v' F K fI (by simp;omega) (by rw[←hF];simp[h1]) (by rw[←hF];simp[h3]) (by rw[←hF];simp[h5]) (by rw[←hF];simp) (by rw[←hF];simp[lI]) (by rw[←hF];simp[gQ]) (by rw[←hF];simp) (by simpa[tY]using p') (x.push.trans x')
   exact⟨v2,K2,k1,by rw[hr];simpa using k2,k3⟩
theorem q100{h:aA}{A:Option (DV×aA)}{t:dG}{b:aF}{but k tc td ic id:Int}{pd ad:DV}(hA:fc D 100 [aH t b,.int .i64 but,.agg [.int .i64 k,.int .i64 tc,.int .i64 td,.int .i64 ic,.int .i64 id,pd,ad]] h=A)(hl:b.aL.length≤1000000)(wf:WF h)(aM:h.lim≤h.n) :
  ∃ v' h',A=some (v',h')∧OwnR h.n h' v' 100 8 (gU b.aL but k tc td ic id pd ad)∧Ext h.n h h':=by
 subst hA
 rw[e100,aJ _ _ _ _ (by simp[KR])]
 simp[KR]
 generalize hF:upd _ 13 _=F
 generalize hH:aA.push _ _=H0
 have hn:h.n+2≤H0.n:=by rw[←hH];simp
 have g0:H0.get h.n=some (.arr 36 6 [aH t b] (some 1)):=by rw[←hH];simp
 have g1:H0.get (h.n+1)=some (.arr 44 7 [.agg [.int .i64 k,.int .i64 tc,.int .i64 td,.int .i64 ic,.int .i64 id,pd,ad]] (some 1)):=by rw[←hH];simp
 have hw:WF H0:=by rw[←hH];simp[wf]
 have hm:H0.lim≤h.n:=by rw[←hH];simpa using aM
 obtain⟨v',h',k1,k2,k3⟩:=l100 t b but k tc td ic id pd ad h.n _ _ hl H0 g0 g1 hm b.aL 0 [] .nsl F H0 rfl (by simp) (by rw[←hF];simp) (by rw[←hF];simp) (by rw[←hF];simp) (by rw[←hF];simp) (by rw[←hF];simp) (by rw[←hF];simp) (by rw[←hF];simp) (.nil rfl rfl) (.refl hn hw)
 refine⟨v',h',k1,by simpa using k2.lower (by omega:h.n≤h.n+2),?_⟩
 have k4:=k3.lower (by omega:h.n≤h.n+2)
 refine⟨k4.le,by rw[k4.lim,←hH];simp,fun id fS=>?_,k4.wf⟩
 rw[k4.get id fS,←hH]
 have e1:¬id=h.n:=by omega
 have e2:¬id=h.n+1:=by omega
 simp[e1,e2]
end Go.Dm.Tc
namespace Go.Dm.Tc
theorem ZJ(tc td sc sd:Int)(p:bI)(q:Int)(u:Bool):pcF D DW [.agg [.int .i64 tc,.int .i64 td,.int .i64 sc,.int .i64 sd,bF p,.int .i64 q,.bool u]]=some (.agg [.int .i64 3,.int .i64 tc,.int .i64 td,.int .i64 sc,.int .i64 sd,bF p,.isl false 0 []]):=by
 unfold pcF
 rw[aJ _ _ _ _ (by simp[DW])]
 simp[DW,turn]
theorem s97(tc td sc sd:Int)(p:bI)(q:Int)(u:Bool):pcF D t97 [.agg [.int .i64 tc,.int .i64 td,.int .i64 sc,.int .i64 sd,bF p,.int .i64 q,.bool u]]=some (.agg [.int .i64 3,.int .i64 tc,.int .i64 td,.int .i64 sc,.int .i64 sd,bF p,.isl false 0 []]):=by
 unfold pcF
 rw[aJ _ _ _ _ (by simp[t97])]
 simp[t97,turn]
structure ZL(b:aF)(k:Nat):Prop where
 aL:b.aL.length≤100000
 adv:b.aR.length≤100000
 seen:b.seen.length≤100000
 own:b.bU.length≤100000
 ent:b.entries.length+k≤100000
theorem ZL.sized{b:aF}{k:Nat}(h:ZL b k):fT b:=⟨h.aL,h.adv,h.seen,by have:=h.ent;omega,h.own⟩
theorem ZL.less{b:aF}{k m:Nat}(h:ZL b k)(hm:m≤k):ZL b m:=⟨h.aL,h.adv,h.seen,h.own,by have:=h.ent;omega⟩
theorem uY(b:aF)(e:aV):(dY b e).1.aL=b.aL∧(dY b e).1.aR=b.aR∧(dY b e).1.seen=b.seen∧(dY b e).1.bU=b.bU∧(dY b e).1.me=b.me∧(dY b e).1.entries.length≤b.entries.length+1:=by
 unfold dY
 split
 ·exact⟨rfl,rfl,rfl,rfl,rfl,by simp only[Yw];omega⟩
 ·exact⟨rfl,rfl,rfl,rfl,rfl,by simp⟩
theorem ZL.add{b:aF}{k:Nat}(h:ZL b (k+1))(e:aV):ZL (dY b e).1 k:=by
 obtain⟨h1,h2,h3,h4,_,h5⟩:=uY b e
 have:=h.ent
 exact⟨by rw[h1];exact h.aL,by rw[h2];exact h.adv,by rw[h3];exact h.seen,by rw[h4];exact h.own,by omega⟩
def bV(bL:Int)(x:ID)(p:bI)(st:aF×List iR)(o:fV):aF×List iR :=
 if rU o.pred p=true then((dY st.1 ⟨x,o.id,o.pred,-1,false⟩).1,if(dY st.1 ⟨x,o.id,o.pred,-1,false⟩).2=true then st.2++[⟨bL,3,x,o.id,o.pred⟩]else st.2)
 else st
def bK(b:aF)(bL:Int)(x:ID)(p:bI):aF×List iR :=
 if(bH b ⟨x,p,bL⟩).2=true then b.bU.foldl (bV bL x p) ((bH b ⟨x,p,bL⟩).1,lL b.aL bL 1 x.aS x.seq 0 0 p)else(b,[])
def zB:DV:=.agg [.int .i64 0,.nsl,.nsl,.nsl,.nsl,.nsl]
theorem l31(xc xd bL:Int)(p:bI)(hp:bZ p)(t:Bool)(bU:List fV)(ho:∀o∈bU,bZ o.pred)(hl:bU.length≤100000)(tx tb tn:Nat) :
  ∀(rest:List fV) (i:Nat) (nb:aF) (outs:List iR) (es:List DV) (v:DV) (f:cY) (h:aA),bU.drop i=rest→bT nb→ZL nb rest.length→jZ es outs→es.length+rest.length≤1000000 →
  f 1=.int .i64 bL→f 3=bF p→f 6=.ptr 1 2 0 0→f 8=.ptr 2 6 0 0→f 4=.ptr 0 6 0 0→f 11=v→f 35=eL t 3 cT bU→f 36=.int .i64 bU.length→f 37=.int .i64 i →
  h.get 1=some (.arr tx 2 [.agg [.int .i64 xc,.int .i64 xd]] (some 1))→h.get 2=some (.arr tb 6 [zB] (some 1))→h.get 0=some (.arr tn 6 [aH .none nb] (some 1))→OwnR 3 h v 100 8 es→h.lim=0→3≤h.n→WF h →
  dC (fin [.cell 8 (some 6),.t 9] (run D 69 [.block 0,.seq KI] (.loop Z7) f h))=some (.tup [aH .none (rest.foldl (bV bL ⟨xc,xd⟩ p) (nb,outs)).1,eL false 8 fM (rest.foldl (bV bL ⟨xc,xd⟩ p) (nb,outs)).2]):=by
 intro rest
 induction rest with
 | nil =>
  intro i nb outs es v f h hd sA hz hr Ba h1 h3 h6 h8 hB hO hW hL hI g1 g2 gB hv aM hn wf
  have hi:=bR hd
  have:¬(i<bU.length):=by omega
  have l2:2<h.n:=by omega
  have n2:¬0=2:=by decide
  have r1:=fun o=>pX (hv.aW (o:=o) wf (by decide:2<3) l2) hr false (n:=199) (by decide)
  have hu:bJ 199 (eL false 8 fM outs)=true:=eV (fun y _=>(fO y).2) 199 (by decide)
  rw[aC Z7.eq_1]
  simp only[zB]at g2
  simp[KI,hL,hI,this,h8,hB,hO,gB,g2,aM,l2,wf,turn,aI,r1,hu]
 | cons o rest ih =>
  intro i nb outs es v f h hd sA hz hr Ba h1 h3 h6 h8 hB hO hW hL hI g1 g2 gB hv aM hn wf
  obtain⟨hi,he,fI⟩:=cB hd
  have Hu:=ho o (by rw[←he];exact List.getElem_mem hi)
  obtain⟨⟨oc,od⟩,op⟩:=o
  simp only at Hu
  have hm:=s95 op p Hu hp
  have oN:=AZ sA hz.sized xc xd oc od Hu (-1) false
  have lS:=sA.add (e:=⟨⟨xc,xd⟩,⟨oc,od⟩,op,-1,false⟩) (by simp[fE]) Hu
  have Cw:=hz.add ⟨⟨xc,xd⟩,⟨oc,od⟩,op,-1,false⟩
  obtain⟨m,eE⟩:∃ m,h.n=m+3:=⟨h.n-3,by omega⟩
  simp only[List.length_cons]at Ba
  rw[aC Z7.eq_1]
  simp only[List.foldl_cons]
  cases hq:rU op p with
  | false =>
   rw[hq]at hm
   have dK:bV bL ⟨xc,xd⟩ p (nb,outs) ⟨⟨oc,od⟩,op⟩=(nb,outs):=by simp[bV,hq]
   rw[dK]
   simp[hL,hI,hW,hi,he,cT,h3,aM,wf,turn,e95,hm]
   rw[aX (by omega) (by omega)]
   generalize hF:upd _ 37 _=F
   refine ih (i+1) nb outs es v F _ fI sA (hz.less (by simp)) hr (by omega) ?_ ?_ ?_ ?_ ?_ ?_ ?_ ?_ ?_ ?_ ?_ ?_ hv.push ?_ ?_ ?_
   all_goals first
    | (rw[←hF];simp[h1,h3,h6,h8,hB,hO,hW,hL];done)
    | (simp[eE,g1,g2,gB,aM,wf];done)
    | (simp[eE];omega)
  | true =>
   rw[hq]at hm
   cases hu:(dY nb ⟨⟨xc,xd⟩,⟨oc,od⟩,op,-1,false⟩).2 with
   | false =>
    rw[hu]at oN
    have dK:bV bL ⟨xc,xd⟩ p (nb,outs) ⟨⟨oc,od⟩,op⟩=((dY nb ⟨⟨xc,xd⟩,⟨oc,od⟩,op,-1,false⟩).1,outs):=by simp[bV,hq,hu]
    rw[dK]
    simp[hL,hI,hW,hi,he,cT,h3,h6,hB,eE,g1,gB,aM,wf,turn,e95,hm,e96,oN]
    rw[aX (by omega) (by omega)]
    generalize hF:upd _ 37 _=F
    refine ih (i+1) _ outs es v F _ fI lS Cw hr (by omega) ?_ ?_ ?_ ?_ ?_ ?_ ?_ ?_ ?_ ?_ ?_ ?_ (((hv.aW wf (by decide:0<3) (by omega)).push).push) ?_ ?_ ?_
    all_goals first
     | (rw[←hF];simp[h1,h3,h6,h8,hB,hO,hW,hL];done)
     | (simp[eE,g1,g2,gB,aM,wf];done)
     | (simp[eE];omega)
   | true =>
    rw[hu]at oN
    have dK:bV bL ⟨xc,xd⟩ p (nb,outs) ⟨⟨oc,od⟩,op⟩=((dY nb ⟨⟨xc,xd⟩,⟨oc,od⟩,op,-1,false⟩).1,outs++[⟨bL,3,⟨xc,xd⟩,⟨oc,od⟩,op⟩]):=by simp[bV,hq,hu]
    rw[dK]
    simp[hL,hI,hW,hi,he,cT,h1,h3,h6,hB,hO,eE,g1,gB,aM,wf,turn,e95,hm,e96,oN,e97,s97]
    generalize hA:aY _ _ _ _ _ _=A
    obtain⟨v',K,rfl,p',x',_⟩:=OwnR.append ((((hv.aW wf (by decide:0<3) (by omega)).push).push).push) (by simp[wf]) (by simp[eE]<;>omega) (by simp[aM]) hA (by simp;omega) (by decide)
    clear hA
    have a1:=x'.get 1 (by decide)
    have a2:=x'.get 2 (by decide)
    have aB:=x'.get 0 (by decide)
    have al:=x'.lim
    simp[eE,g1,g2,gB,aM,wf]at a1 a2 aB al
    have Aw:=jZ.append hr (jZ.one (to:=bL) (k:=3) (tc:=xc) (td:=xd) (ic:=oc) (id:=od) (pd:=bF op) (ad:=.isl false 0 []) (.inl rfl) (.inr rfl))
    simp[hI]
    rw[aX (by omega) (by omega)]
    generalize hF:upd _ 37 _=F
    refine ih (i+1) _ _ _ v' F K fI lS Cw Aw (by simp;omega) ?_ ?_ ?_ ?_ ?_ ?_ ?_ ?_ ?_ a1 a2 aB (by simpa[tY]using p') al x'.le x'.wf
    all_goals (rw[←hF];simp[h1,h3,h6,h8,hB,hO,hW,hL])
theorem s31(b:aF)(xc xd bL:Int)(p:bI)(hi:bT b)(hz:ZL b b.bU.length)(hp:bZ p)(hf:fE b bL=true)(iG:b.aR.length<100000∧b.seen.length<100000) :
  pcF D t31 [aH .none b,.int .i64 bL,.agg [.int .i64 xc,.int .i64 xd],bF p]=some (.tup [aH .none (bK b bL ⟨xc,xd⟩ p).1,eL false 8 fM (bK b bL ⟨xc,xd⟩ p).2]):=by
 have rY:pcF D t99 [aH .none b,.agg [.int .i64 xc,.int .i64 xd,bF p,.int .i64 bL]]=some (.tup [aH .none (bH b ⟨⟨xc,xd⟩,p,bL⟩).1,.bool (bH b ⟨⟨xc,xd⟩,p,bL⟩).2]):=by
  first
   | exact AY hi hz.sized xc xd p bL
   | exact AY .none hi hz.sized xc xd p bL
 have lS:=hi.learn (a:=⟨⟨xc,xd⟩,p,bL⟩) hf hp
 have Cw:ZL (bH b ⟨⟨xc,xd⟩,p,bL⟩).1 b.bU.length:=by
  obtain⟨h1,h2,h3,h4,h5⟩:=hz
  unfold bH
  split
  ·exact⟨h1,h2,h3,h4,h5⟩
  ·refine⟨h1,?_,?_,h4,h5⟩
   ·have:=dB (fun a:bC=>bW a.id ⟨xc,xd⟩) b.aR
    simp only[gX,List.length_append,List.length_cons,List.length_take,List.length_drop];omega
   ·have:=dB (fun a:ID=>bW a ⟨xc,xd⟩) b.seen
    simp only[gX,List.length_append,List.length_cons,List.length_take,List.length_drop];omega
 unfold pcF
 rw[aJ _ _ _ _ (by simp[t31])]
 cases hq:(bH b ⟨⟨xc,xd⟩,p,bL⟩).2 with
 | false =>
  rw[hq]at rY
  have ha:bK b bL ⟨xc,xd⟩ p=(b,[]):=by simp[bK,hq]
  rw[ha]
  have hb:(bH b ⟨⟨xc,xd⟩,p,bL⟩).1=b:=by
   unfold bH at hq ⊢
   split at hq
   ·rename_i hs;rw[if_pos hs]
   ·cases hq
  rw[hb]at rY
  simp[t31,e99,rY,turn,aI,hY]
 | true =>
  rw[hq]at rY
  have ha:bK b bL ⟨xc,xd⟩ p=b.bU.foldl (bV bL ⟨xc,xd⟩ p) ((bH b ⟨⟨xc,xd⟩,p,bL⟩).1,lL b.aL bL 1 xc xd 0 0 p):=by simp[bK,hq]
  rw[ha]
  simp[t31,e99,rY,turn]
  generalize hA:fc D _ _ _=A
  obtain⟨v1,K,rfl,o1,x1⟩:=q100 hA (Nat.le_trans Cw.aL (by decide)) (by simp) (by simp)
  clear hA
  have Da:(bH b ⟨⟨xc,xd⟩,p,bL⟩).1.aL=b.aL:=by unfold bH;split<;>rfl
  have howns:(bH b ⟨⟨xc,xd⟩,p,bL⟩).1.bU=b.bU:=by unfold bH;split<;>rfl
  have a0:=x1.get 0 (by simp)
  have a1:=x1.get 1 (by simp)
  have a2:=x1.get 2 (by simp)
  have aB:=x1.get 0 (by simp)
  have al:=x1.lim
  simp at a0 a1 a2 aB al o1
  simp[a0,aB,howns]
  generalize hF:upd _ 37 _=F
  have gZ:=rR (but:=bL) (k:=1) (tc:=xc) (td:=xd) (ic:=0) (id:=0) (pd:=bF p) (ad:=.nsl) (.inl rfl) (.inl rfl) b.aL
  have cJ:(gU b.aL bL 1 xc xd 0 0 (bF p) .nsl).length≤b.aL.length:=by unfold gU;rw[List.length_map];exact List.length_filter_le ..
  have z1:=hz.aL
  have z2:=hz.own
  try simp only[Da]at o1
  refine l31 xc xd bL p hp false b.bU hi.po z2 _ _ _ b.bU 0 _ _ _ v1 F K rfl lS Cw gZ (by omega) ?_ ?_ ?_ ?_ ?_ ?_ ?_ ?_ ?_ a1 a2 aB o1 al (by have:=x1.le;simpa using this) x1.wf
  all_goals first|(rw[←hF];simp;done)|(rw[←hF];simp[dG.none])
theorem l33(xc xd bL:Int)(p:bI)(hp:bZ p)(t:Bool)(bU:List fV)(ho:∀o∈bU,bZ o.pred)(hl:bU.length≤100000)(tx tb tn:Nat) :
  ∀(rest:List fV) (i:Nat) (nb:aF) (outs:List iR) (es:List DV) (v:DV) (f:cY) (h:aA),bU.drop i=rest→bT nb→ZL nb rest.length→jZ es outs→es.length+rest.length≤1000000 →
  f 1=.int .i64 bL→f 3=bF p→f 6=.ptr 1 2 0 0→f 8=.ptr 2 6 0 0→f 10=.ptr 3 6 0 0→f 12=v→f 36=eL t 3 cT bU→f 37=.int .i64 bU.length→f 38=.int .i64 i →
  h.get 1=some (.arr tx 2 [.agg [.int .i64 xc,.int .i64 xd]] (some 1))→h.get 2=some (.arr tb 6 [zB] (some 1))→h.get 3=some (.arr tn 6 [aH .none nb] (some 1))→OwnR 4 h v 100 8 es→h.lim=0→4≤h.n→WF h →
  dC (fin [.cell 8 (some 6),.t 9] (run D 70 [.block 0,.seq KG] (.loop Z5) f h))=some (.tup [aH .none (rest.foldl (bV bL ⟨xc,xd⟩ p) (nb,outs)).1,eL false 8 fM (rest.foldl (bV bL ⟨xc,xd⟩ p) (nb,outs)).2]):=by
 intro rest
 induction rest with
 | nil =>
  intro i nb outs es v f h hd sA hz hr Ba h1 h3 h6 h8 hB hO hW hL hI g1 g2 gB hv aM hn wf
  have hi:=bR hd
  have:¬(i<bU.length):=by omega
  have l2:2<h.n:=by omega
  have n2:¬3=2:=by decide
  have r1:=fun o=>pX (hv.aW (o:=o) wf (by decide:2<4) l2) hr false (n:=199) (by decide)
  have hu:bJ 199 (eL false 8 fM outs)=true:=eV (fun y _=>(fO y).2) 199 (by decide)
  rw[aC Z5.eq_1]
  simp only[zB]at g2
  simp[KG,hL,hI,this,h8,hB,hO,gB,g2,aM,l2,wf,turn,aI,r1,hu]
 | cons o rest ih =>
  intro i nb outs es v f h hd sA hz hr Ba h1 h3 h6 h8 hB hO hW hL hI g1 g2 gB hv aM hn wf
  obtain⟨hi,he,fI⟩:=cB hd
  have Hu:=ho o (by rw[←he];exact List.getElem_mem hi)
  obtain⟨⟨oc,od⟩,op⟩:=o
  simp only at Hu
  have hm:=s104 op p Hu hp
  have oN:=kAdd sA hz.sized xc xd oc od Hu (-1) false
  have lS:=sA.add (e:=⟨⟨xc,xd⟩,⟨oc,od⟩,op,-1,false⟩) (by simp[fE]) Hu
  have Cw:=hz.add ⟨⟨xc,xd⟩,⟨oc,od⟩,op,-1,false⟩
  obtain⟨m,eE⟩:∃ m,h.n=m+4:=⟨h.n-4,by omega⟩
  simp only[List.length_cons]at Ba
  rw[aC Z5.eq_1]
  simp only[List.foldl_cons]
  cases hq:rU op p with
  | false =>
   rw[hq]at hm
   have dK:bV bL ⟨xc,xd⟩ p (nb,outs) ⟨⟨oc,od⟩,op⟩=(nb,outs):=by simp[bV,hq]
   rw[dK]
   simp[hL,hI,hW,hi,he,cT,h3,aM,wf,turn,y8,hm]
   rw[aX (by omega) (by omega)]
   generalize hF:upd _ 38 _=F
   refine ih (i+1) nb outs es v F _ fI sA (hz.less (by simp)) hr (by omega) ?_ ?_ ?_ ?_ ?_ ?_ ?_ ?_ ?_ ?_ ?_ ?_ hv.push ?_ ?_ ?_
   all_goals first
    | (rw[←hF];simp[h1,h3,h6,h8,hB,hO,hW,hL];done)
    | (simp[eE,g1,g2,gB,aM,wf];done)
    | (simp[eE];omega)
  | true =>
   rw[hq]at hm
   cases hu:(dY nb ⟨⟨xc,xd⟩,⟨oc,od⟩,op,-1,false⟩).2 with
   | false =>
    rw[hu]at oN
    have dK:bV bL ⟨xc,xd⟩ p (nb,outs) ⟨⟨oc,od⟩,op⟩=((dY nb ⟨⟨xc,xd⟩,⟨oc,od⟩,op,-1,false⟩).1,outs):=by simp[bV,hq,hu]
    rw[dK]
    simp[hL,hI,hW,hi,he,cT,h3,h6,hB,eE,g1,gB,aM,wf,turn,y8,hm,UY,oN]
    rw[aX (by omega) (by omega)]
    generalize hF:upd _ 38 _=F
    refine ih (i+1) _ outs es v F _ fI lS Cw hr (by omega) ?_ ?_ ?_ ?_ ?_ ?_ ?_ ?_ ?_ ?_ ?_ ?_ (((hv.aW wf (by decide:3<4) (by omega)).push).push) ?_ ?_ ?_
    all_goals first
     | (rw[←hF];simp[h1,h3,h6,h8,hB,hO,hW,hL];done)
     | (simp[eE,g1,g2,gB,aM,wf];done)
     | (simp[eE];omega)
   | true =>
    rw[hu]at oN
    have dK:bV bL ⟨xc,xd⟩ p (nb,outs) ⟨⟨oc,od⟩,op⟩=((dY nb ⟨⟨xc,xd⟩,⟨oc,od⟩,op,-1,false⟩).1,outs++[⟨bL,3,⟨xc,xd⟩,⟨oc,od⟩,op⟩]):=by simp[bV,hq,hu]
    rw[dK]
    simp[hL,hI,hW,hi,he,cT,h1,h3,h6,hB,hO,eE,g1,gB,aM,wf,turn,y8,hm,UY,oN,y7,ZJ]
    generalize hA:aY _ _ _ _ _ _=A
    obtain⟨v',K,rfl,p',x',_⟩:=OwnR.append ((((hv.aW wf (by decide:3<4) (by omega)).push).push).push) (by simp[wf]) (by simp[eE]<;>omega) (by simp[aM]) hA (by simp;omega) (by decide)
    clear hA
    have a1:=x'.get 1 (by decide)
    have a2:=x'.get 2 (by decide)
    have aB:=x'.get 3 (by decide)
    have al:=x'.lim
    simp[eE,g1,g2,gB,aM,wf]at a1 a2 aB al
    have Aw:=jZ.append hr (jZ.one (to:=bL) (k:=3) (tc:=xc) (td:=xd) (ic:=oc) (id:=od) (pd:=bF op) (ad:=.isl false 0 []) (.inl rfl) (.inr rfl))
    simp[hI]
    rw[aX (by omega) (by omega)]
    generalize hF:upd _ 38 _=F
    refine ih (i+1) _ _ _ v' F K fI lS Cw Aw (by simp;omega) ?_ ?_ ?_ ?_ ?_ ?_ ?_ ?_ ?_ a1 a2 aB (by simpa[tY]using p') al x'.le x'.wf
    all_goals (rw[←hF];simp[h1,h3,h6,h8,hB,hO,hW,hL])
theorem s33(b:aF)(xc xd bL:Int)(p:bI)(hi:bT b)(hz:ZL b b.bU.length)(hp:bZ p)(hf:fE b bL=true)(iG:b.aR.length<100000∧b.seen.length<100000) :
  pcF D t33 [aH .none b,.int .i64 bL,.agg [.int .i64 xc,.int .i64 xd],bF p]=some (.tup [aH .none (bK b bL ⟨xc,xd⟩ p).1,eL false 8 fM (bK b bL ⟨xc,xd⟩ p).2]):=by
 have rY:pcF D We [aH .none b,.agg [.int .i64 xc,.int .i64 xd,bF p,.int .i64 bL]]=some (.tup [aH .none (bH b ⟨⟨xc,xd⟩,p,bL⟩).1,.bool (bH b ⟨⟨xc,xd⟩,p,bL⟩).2]):=by
  first
   | exact NV hi hz.sized xc xd p bL
   | exact NV .none hi hz.sized xc xd p bL
 have lS:=hi.learn (a:=⟨⟨xc,xd⟩,p,bL⟩) hf hp
 have Cw:ZL (bH b ⟨⟨xc,xd⟩,p,bL⟩).1 b.bU.length:=by
  obtain⟨h1,h2,h3,h4,h5⟩:=hz
  unfold bH
  split
  ·exact⟨h1,h2,h3,h4,h5⟩
  ·refine⟨h1,?_,?_,h4,h5⟩
   ·have:=dB (fun a:bC=>bW a.id ⟨xc,xd⟩) b.aR
    simp only[gX,List.length_append,List.length_cons,List.length_take,List.length_drop];omega
   ·have:=dB (fun a:ID=>bW a ⟨xc,xd⟩) b.seen
    simp only[gX,List.length_append,List.length_cons,List.length_take,List.length_drop];omega
 unfold pcF
 rw[aJ _ _ _ _ (by simp[t33])]
 cases hq:(bH b ⟨⟨xc,xd⟩,p,bL⟩).2 with
 | false =>
  rw[hq]at rY
  have ha:bK b bL ⟨xc,xd⟩ p=(b,[]):=by simp[bK,hq]
  rw[ha]
  have hb:(bH b ⟨⟨xc,xd⟩,p,bL⟩).1=b:=by
   unfold bH at hq ⊢
   split at hq
   ·rename_i hs;rw[if_pos hs]
   ·cases hq
  rw[hb]at rY
  simp[t33,e102,rY,turn,aI,hY]
 | true =>
  rw[hq]at rY
  have ha:bK b bL ⟨xc,xd⟩ p=b.bU.foldl (bV bL ⟨xc,xd⟩ p) ((bH b ⟨⟨xc,xd⟩,p,bL⟩).1,lL b.aL bL 1 xc xd 0 0 p):=by simp[bK,hq]
  rw[ha]
  simp[t33,e102,rY,turn]
  generalize hA:fc D _ _ _=A
  obtain⟨v1,K,rfl,o1,x1⟩:=q103 hA (Nat.le_trans hz.aL (by decide)) (by simp) (by simp)
  clear hA
  have Da:(bH b ⟨⟨xc,xd⟩,p,bL⟩).1.aL=b.aL:=by unfold bH;split<;>rfl
  have howns:(bH b ⟨⟨xc,xd⟩,p,bL⟩).1.bU=b.bU:=by unfold bH;split<;>rfl
  have a0:=x1.get 0 (by simp)
  have a1:=x1.get 1 (by simp)
  have a2:=x1.get 2 (by simp)
  have aB:=x1.get 3 (by simp)
  have al:=x1.lim
  simp at a0 a1 a2 aB al o1
  simp[a0,aB,howns]
  generalize hF:upd _ 38 _=F
  have gZ:=rR (but:=bL) (k:=1) (tc:=xc) (td:=xd) (ic:=0) (id:=0) (pd:=bF p) (ad:=.nsl) (.inl rfl) (.inl rfl) b.aL
  have cJ:(gU b.aL bL 1 xc xd 0 0 (bF p) .nsl).length≤b.aL.length:=by unfold gU;rw[List.length_map];exact List.length_filter_le ..
  have z1:=hz.aL
  have z2:=hz.own
  try simp only[Da]at o1
  refine l33 xc xd bL p hp false b.bU hi.po z2 _ _ _ b.bU 0 _ _ _ v1 F K rfl lS Cw gZ (by omega) ?_ ?_ ?_ ?_ ?_ ?_ ?_ ?_ ?_ a1 a2 aB o1 al (by have:=x1.le;simpa using this) x1.wf
  all_goals first|(rw[←hF];simp;done)|(rw[←hF];simp[dG.none])
end Go.Dm.Tc
namespace Go.Dm.Tc
theorem _root_.Go.Dm.OwnR.wl{lo:Nat}{h:aA}{v:DV}{ety sz:Nat}{xs:List DV}(w:OwnR lo h v ety sz xs){m:Nat}(hm:m≤lo):OwnR lo (Dm.wl h m) v ety sz xs:=by
 cases w with
 | nil hv hx=>exact .nil hv hx
 | arr id sp cap hv hg hl hi=>exact .arr id sp cap hv hg (Nat.le_trans hm hi) hi
def bN(b:aF)(bL:Int)(x:ID):aF×List iR :=
 if(bX b x bL).2=true then((bX b x bL).1,lL b.aL bL 2 x.aS x.seq 0 0 [])else(b,[])
theorem s59(b:aF)(xc xd bL:Int)(hi:bT b)(hz:fT b) :
  pcF D t59 [aH .none b,.int .i64 bL,.agg [.int .i64 xc,.int .i64 xd]]=some (.tup [aH .none (bN b bL ⟨xc,xd⟩).1,eL false 8 fM (bN b bL ⟨xc,xd⟩).2]):=by
 have hf:pcF D Mv [aH .none b,.agg [.int .i64 xc,.int .i64 xd],.int .i64 bL]=some (.tup [aH .none (bX b ⟨xc,xd⟩ bL).1,.bool (bX b ⟨xc,xd⟩ bL).2]):=by
  first
   | exact Ys hi hz xc xd bL
   | exact Ys .none hi hz xc xd bL
 have Da:(bX b ⟨xc,xd⟩ bL).1.aL=b.aL:=by
  unfold bX
  repeat' split
  all_goals rfl
 unfold pcF
 rw[aJ _ _ _ _ (by simp[t59])]
 cases hq:(bX b ⟨xc,xd⟩ bL).2 with
 | false =>
  have ha:bN b bL ⟨xc,xd⟩=(b,[]):=by simp[bN,hq]
  have hb:(bX b ⟨xc,xd⟩ bL).1=b:=by
   unfold bX at hq ⊢
   split
   ·rfl
   ·rename_i a he
    rw[he]at hq
    simp only at hq
    split
    ·rename_i hs;rw[if_pos hs]at hq;cases hq
    ·rfl
  rw[hq,hb]at hf
  rw[ha]
  simp[t59,e126,hf,turn,aI,hY]
 | true =>
  have ha:bN b bL ⟨xc,xd⟩=((bX b ⟨xc,xd⟩ bL).1,lL b.aL bL 2 xc xd 0 0 []):=by simp[bN,hq]
  rw[hq]at hf
  rw[ha]
  simp[t59,e126,hf,turn,aI]
  generalize hA:fc D _ _ _=A
  obtain⟨v1,K,rfl,o1,x1⟩:=q100 hA (by have:=hz.aL;first|omega|(rw[Da];omega)) (by simp) (by simp)
  clear hA
  have a0:=x1.get 0 (by simp)
  have a1:=x1.get 1 (by simp)
  have a2:=x1.get 2 (by simp)
  have al:=x1.lim
  simp at a0 a1 a2 al o1
  try simp only[Da]at o1
  have gZ:=rR (but:=bL) (k:=2) (tc:=xc) (td:=xd) (ic:=0) (id:=0) (pd:=.nsl) (ad:=.nsl) (p:=[]) (.inr ⟨rfl,rfl⟩) (.inl rfl) b.aL
  have hn:=x1.le
  simp at hn
  have l2:2<K.n:=by omega
  have r1:∀o,resolve false (Dm.wl (K.set 2 o) 0) 199 v1=some (eL false 8 fM (lL b.aL bL 2 xc xd 0 0 [])):=fun o=>pX ((o1.aW (o:=o) x1.wf (by decide) l2).wl (Nat.zero_le _)) gZ false (by decide)
  have hu:bJ 199 (eL false 8 fM (lL b.aL bL 2 xc xd 0 0 []))=true:=eV (fun y _=>(fO y).2) 199 (by decide)
  simp[a0,a1,a2,al,l2,x1.wf,turn,aI,r1,hu]
theorem s34(b:aF)(xc xd bL:Int)(hi:bT b)(hz:fT b) :
  pcF D t34 [aH .none b,.int .i64 bL,.agg [.int .i64 xc,.int .i64 xd]]=some (.tup [aH .none (bN b bL ⟨xc,xd⟩).1,eL false 8 fM (bN b bL ⟨xc,xd⟩).2]):=by
 have hf:pcF D Wd [aH .none b,.agg [.int .i64 xc,.int .i64 xd],.int .i64 bL]=some (.tup [aH .none (bX b ⟨xc,xd⟩ bL).1,.bool (bX b ⟨xc,xd⟩ bL).2]):=by
  first
   | exact BA hi hz xc xd bL
   | exact BA .none hi hz xc xd bL
 have Da:(bX b ⟨xc,xd⟩ bL).1.aL=b.aL:=by
  unfold bX
  repeat' split
  all_goals rfl
 unfold pcF
 rw[aJ _ _ _ _ (by simp[t34])]
 cases hq:(bX b ⟨xc,xd⟩ bL).2 with
 | false =>
  have ha:bN b bL ⟨xc,xd⟩=(b,[]):=by simp[bN,hq]
  have hb:(bX b ⟨xc,xd⟩ bL).1=b:=by
   unfold bX at hq ⊢
   split
   ·rfl
   ·rename_i a he
    rw[he]at hq
    simp only at hq
    split
    ·rename_i hs;rw[if_pos hs]at hq;cases hq
    ·rfl
  rw[hq,hb]at hf
  rw[ha]
  simp[t34,e107,hf,turn,aI,hY]
 | true =>
  have ha:bN b bL ⟨xc,xd⟩=((bX b ⟨xc,xd⟩ bL).1,lL b.aL bL 2 xc xd 0 0 []):=by simp[bN,hq]
  rw[hq]at hf
  rw[ha]
  simp[t34,e107,hf,turn,aI]
  generalize hA:fc D _ _ _=A
  obtain⟨v1,K,rfl,o1,x1⟩:=q103 hA (by have:=hz.aL;first|omega|(rw[Da];omega)) (by simp) (by simp)
  clear hA
  have a0:=x1.get 0 (by simp)
  have a1:=x1.get 1 (by simp)
  have a2:=x1.get 2 (by simp)
  have al:=x1.lim
  simp at a0 a1 a2 al o1
  try simp only[Da]at o1
  have gZ:=rR (but:=bL) (k:=2) (tc:=xc) (td:=xd) (ic:=0) (id:=0) (pd:=.nsl) (ad:=.nsl) (p:=[]) (.inr ⟨rfl,rfl⟩) (.inl rfl) b.aL
  have hn:=x1.le
  simp at hn
  have l2:2<K.n:=by omega
  have r1:∀o,resolve false (Dm.wl (K.set 2 o) 0) 199 v1=some (eL false 8 fM (lL b.aL bL 2 xc xd 0 0 [])):=fun o=>pX ((o1.aW (o:=o) x1.wf (by decide) l2).wl (Nat.zero_le _)) gZ false (by decide)
  have hu:bJ 199 (eL false 8 fM (lL b.aL bL 2 xc xd 0 0 []))=true:=eV (fun y _=>(fO y).2) 199 (by decide)
  simp[a0,a1,a2,al,l2,x1.wf,turn,aI,r1,hu]
end Go.Dm.Tc
namespace Go.Dm.Tc
def subOwn(b:aF)(x:ID)(p:bI):aF:={b with bU:=gX (fun o=>o.id) ⟨x,p⟩ b.bU}
def eC(x:ID)(p:bI)(st:aF×List iR)(a:bC):aF×List iR :=
 if rU p a.pred=true then((dY st.1 ⟨a.id,x,p,-1,false⟩).1,if(dY st.1 ⟨a.id,x,p,-1,false⟩).2=true then st.2++[⟨a.bO,3,a.id,x,p⟩]else st.2)
 else st
def fC(b:aF)(x:ID)(p:bI):aF×List iR :=
 if fF (fun o:fV=>bW o.id x) b.bU=true then(b,[])else b.aR.foldl (eC x p) (subOwn b x p,[])
theorem l29(xc xd:Int)(p:bI)(hp:bZ p)(t:Bool)(pA:List bC)(ho:∀o∈pA,bZ o.pred)(hl:pA.length≤100000)(tx tb tn:Nat) :
  ∀(rest:List bC) (i:Nat) (nb:aF) (outs:List iR) (es:List DV) (v:DV) (f:cY) (h:aA),pA.drop i=rest→bT nb→ZL nb rest.length→jZ es outs→es.length+rest.length≤1000000 →
  f 2=bF p→f 3=.ptr 0 6 0 0→f 4=.ptr 1 2 0 0→f 6=.ptr 2 6 0 0→f 9=v→f 65=eL t 4 aG pA→f 66=.int .i64 pA.length→f 67=.int .i64 i →
  h.get 1=some (.arr tx 2 [.agg [.int .i64 xc,.int .i64 xd]] (some 1))→h.get 2=some (.arr tb 6 [zB] (some 1))→h.get 0=some (.arr tn 6 [aH .none nb] (some 1))→OwnR 3 h v 100 8 es→h.lim=0→3≤h.n→WF h →
  dC (fin [.cell 6 (some 6),.t 7] (run D 99 [.block 2,.seq Vy] (.loop Iq) f h))=some (.tup [aH .none (rest.foldl (eC ⟨xc,xd⟩ p) (nb,outs)).1,eL false 8 fM (rest.foldl (eC ⟨xc,xd⟩ p) (nb,outs)).2]):=by
 intro rest
 induction rest with
 | nil =>
  intro i nb outs es v f h hd sA hz hr Ba h2 h3 h4 h6 h9 hW hL hI g1 g2 gB hv aM hn wf
  have hi:=bR hd
  have:¬(i<pA.length):=by omega
  have l2:2<h.n:=by omega
  have r1:=fun o=>pX (hv.aW (o:=o) wf (by decide:2<3) l2) hr false (n:=199) (by decide)
  have hu:bJ 199 (eL false 8 fM outs)=true:=eV (fun y _=>(fO y).2) 199 (by decide)
  rw[aC Iq.eq_1]
  simp only[zB]at g2
  simp[Vy,hL,hI,this,h3,h6,h9,gB,g2,aM,l2,wf,turn,aI,r1,hu]
 | cons o rest ih =>
  intro i nb outs es v f h hd sA hz hr Ba h2 h3 h4 h6 h9 hW hL hI g1 g2 gB hv aM hn wf
  obtain⟨hi,he,fI⟩:=cB hd
  have Hu:=ho o (by rw[←he];exact List.getElem_mem hi)
  obtain⟨⟨oc,od⟩,op,oq⟩:=o
  simp only at Hu
  have hm:=s95 p op hp Hu
  have oN:=AZ sA hz.sized oc od xc xd hp (-1) false
  have lS:=sA.add (e:=⟨⟨oc,od⟩,⟨xc,xd⟩,p,-1,false⟩) (by simp[fE]) hp
  have Cw:=hz.add ⟨⟨oc,od⟩,⟨xc,xd⟩,p,-1,false⟩
  obtain⟨m,eE⟩:∃ m,h.n=m+3:=⟨h.n-3,by omega⟩
  simp only[List.length_cons]at Ba
  rw[aC Iq.eq_1]
  simp only[List.foldl_cons]
  cases hq:rU p op with
  | false =>
   rw[hq]at hm
   have dK:eC ⟨xc,xd⟩ p (nb,outs) ⟨⟨oc,od⟩,op,oq⟩=(nb,outs):=by simp[eC,hq]
   rw[dK]
   simp[hL,hI,hW,hi,he,aG,h2,aM,wf,turn,e95,hm]
   rw[aX (by omega) (by omega)]
   generalize hF:upd _ 67 _=F
   refine ih (i+1) nb outs es v F _ fI sA (hz.less (by simp)) hr (by omega) ?_ ?_ ?_ ?_ ?_ ?_ ?_ ?_ ?_ ?_ ?_ hv.push ?_ ?_ ?_
   all_goals first
    | (rw[←hF];simp[h2,h3,h4,h6,h9,hW,hL];done)
    | (simp[eE,g1,g2,gB,aM,wf];done)
    | (simp[eE]<;>omega)
  | true =>
   rw[hq]at hm
   cases hu:(dY nb ⟨⟨oc,od⟩,⟨xc,xd⟩,p,-1,false⟩).2 with
   | false =>
    rw[hu]at oN
    have dK:eC ⟨xc,xd⟩ p (nb,outs) ⟨⟨oc,od⟩,op,oq⟩=((dY nb ⟨⟨oc,od⟩,⟨xc,xd⟩,p,-1,false⟩).1,outs):=by simp[eC,hq,hu]
    rw[dK]
    simp[hL,hI,hW,hi,he,aG,h2,h3,h4,eE,g1,gB,aM,wf,turn,e95,hm,e96,oN]
    rw[aX (by omega) (by omega)]
    generalize hF:upd _ 67 _=F
    refine ih (i+1) _ outs es v F _ fI lS Cw hr (by omega) ?_ ?_ ?_ ?_ ?_ ?_ ?_ ?_ ?_ ?_ ?_ (((hv.aW wf (by decide:0<3) (by omega)).push).push) ?_ ?_ ?_
    all_goals first
     | (rw[←hF];simp[h2,h3,h4,h6,h9,hW,hL];done)
     | (simp[eE,g1,g2,gB,aM,wf];done)
     | (simp[eE]<;>omega)
   | true =>
    rw[hu]at oN
    have dK:eC ⟨xc,xd⟩ p (nb,outs) ⟨⟨oc,od⟩,op,oq⟩=((dY nb ⟨⟨oc,od⟩,⟨xc,xd⟩,p,-1,false⟩).1,outs++[⟨oq,3,⟨oc,od⟩,⟨xc,xd⟩,p⟩]):=by simp[eC,hq,hu]
    rw[dK]
    simp[hL,hI,hW,hi,he,aG,h2,h3,h4,h9,eE,g1,gB,aM,wf,turn,e95,hm,e96,oN,e97,s97]
    generalize hA:aY _ _ _ _ _ _=A
    obtain⟨v',K,rfl,p',x',_⟩:=OwnR.append ((((hv.aW wf (by decide:0<3) (by omega)).push).push).push) (by simp[wf]) (by simp[eE]<;>omega) (by simp[aM]) hA (by simp;omega) (by decide)
    clear hA
    have a1:=x'.get 1 (by decide)
    have a2:=x'.get 2 (by decide)
    have aB:=x'.get 0 (by decide)
    have al:=x'.lim
    simp[eE,g1,g2,gB,aM,wf]at a1 a2 aB al
    have Aw:=jZ.append hr (jZ.one (to:=oq) (k:=3) (tc:=oc) (td:=od) (ic:=xc) (id:=xd) (pd:=bF p) (ad:=.isl false 0 []) (.inl rfl) (.inr rfl))
    simp[hI]
    rw[aX (by omega) (by omega)]
    generalize hF:upd _ 67 _=F
    refine ih (i+1) _ _ _ v' F K fI lS Cw Aw (by simp;omega) ?_ ?_ ?_ ?_ ?_ ?_ ?_ ?_ a1 a2 aB (by simpa[tY]using p') al x'.le x'.wf
    all_goals (rw[←hF];simp[h2,h3,h4,h6,h9,hW,hL])
end Go.Dm.Tc
namespace Go.Dm.Tc
theorem ON{lo:Nat}{h:aA}{i ety:Nat}{os:List fV}{n:Nat}(o:fW lo h i ety 3 (os.map cT))(hn:n=os.length):iW h (.sl i 3 0 n)=some (eL false 3 cT os,h.set i .dead):=by
 subst hn
 obtain⟨⟨sp,cap,hg⟩,hl,_⟩:=o
 have hb:(List.take os.length (List.map cT os++sp)).all (gG 200 0)=true:=by
  rw[List.take_left' (by simp),List.all_eq_true]
  intro x hx
  obtain⟨y,_,rfl⟩:=List.mem_map.1 hx
  exact(VC y).belowN (by decide)
 simp only[iW,hg,hl,List.drop_zero,hb,List.length_append,List.length_map,Nat.zero_add,Nat.le_add_right,and_self,if_true]
 rw[List.take_left' (by simp)]
 cases os<;>rfl
theorem n29(xc xd:Int)(p:bI)(hp:bZ p)(t:Bool)(pA:List bC)(ho:∀o∈pA,bZ o.pred)(hl:pA.length≤100000)(tx tb tn:Nat)(nb:aF)(sA:bT nb)(iw:Nat) :
  ∀(rest:List bC) (i:Nat) (f:cY) (h:aA),pA.drop i=rest→ZL nb rest.length →
  f 2=bF p→f 3=.ptr 0 6 0 0→f 4=.ptr 1 2 0 0→f 6=.ptr 2 6 0 0→f 9=.nsl→f 65=eL t 4 aG pA→f 66=.int .i64 pA.length→f 67=.int .i64 i →
  h.get 1=some (.arr tx 2 [.agg [.int .i64 xc,.int .i64 xd]] (some 1))→h.get 2=some (.arr tb 6 [zB] (some 1)) →
  h.get 0=some (.arr tn 6 [.agg [.int .i64 nb.me,eL false 1 bQ nb.aL,eL false 4 aG nb.aR,eL false 2 eID nb.seen,eL false 7 aD nb.entries,.sl iw 3 0 nb.bU.length]] (some 1))→fW 3 h iw 98 3 (nb.bU.map cT)→h.lim=0→3≤h.n→WF h →
  dC (fin [.cell 6 (some 6),.t 7] (run D 99 [.block 2,.seq Vy] (.loop Iq) f h))=some (.tup [aH .none (rest.foldl (eC ⟨xc,xd⟩ p) (nb,[])).1,eL false 8 fM (rest.foldl (eC ⟨xc,xd⟩ p) (nb,[])).2]):=by
 intro rest
 induction rest with
 | nil =>
  intro i f h hd hz h2 h3 h4 h6 h9 hW hL hI g1 g2 gB hv aM hn wf
  have hi:=bR hd
  have:¬(i<pA.length):=by omega
  have l2:2<h.n:=by omega
  have r1:∀o,resolve false (h.set 2 o) 198 (.sl iw 3 0 nb.bU.length)=some (eL false 3 cT nb.bU):=fun o=>by
   have:=(hv.aW (o:=o) wf (by decide:2<3) l2).toR.resolve (n:=198) false (fun y _=>(lY y).1) (by decide)
   simpa using this
  have hu:=X5 174 nb.bU
  rw[aC Iq.eq_1]
  simp only[zB]at g2
  simp[Vy,hL,hI,this,h3,h6,h9,gB,g2,aM,l2,wf,turn,aI,r1]
  exact⟨rfl,rfl⟩
 | cons o rest ih =>
  intro i f h hd hz h2 h3 h4 h6 h9 hW hL hI g1 g2 gB hv aM hn wf
  obtain⟨hi,he,fI⟩:=cB hd
  have Hu:=ho o (by rw[←he];exact List.getElem_mem hi)
  obtain⟨⟨oc,od⟩,op,oq⟩:=o
  simp only at Hu
  have hm:=s95 p op hp Hu
  have oN:=AZ sA hz.sized oc od xc xd hp (-1) false
  have lS:=sA.add (e:=⟨⟨oc,od⟩,⟨xc,xd⟩,p,-1,false⟩) (by simp[fE]) hp
  have Cw:=hz.add ⟨⟨oc,od⟩,⟨xc,xd⟩,p,-1,false⟩
  obtain⟨m,eE⟩:∃ m,h.n=m+3:=⟨h.n-3,by omega⟩
  have S6:=hv.lt
  have UC:=hv.lo
  have k0:¬iw=0:=by omega
  have k1:¬iw=1:=by omega
  have k2:¬iw=2:=by omega
  have k0':¬0=iw:=by omega
  have k1':¬1=iw:=by omega
  have k2':¬2=iw:=by omega
  have k3:¬iw=m+3:=by omega
  have k4:¬iw=m+3+1:=by omega
  have k5:iw<m+3:=by omega
  have k6:iw<m+3+1:=by omega
  have tC:∀o1 o2,iW ((h.push o1).push o2) (.sl iw 3 0 nb.bU.length)=some (eL false 3 cT nb.bU,((h.push o1).push o2).set iw .dead):=fun o1 o2=>ON (hv.push.push) rfl
  have Hh:DV.agg [.int .i64 nb.me,eL false 1 bQ nb.aL,eL false 4 aG nb.aR,eL false 2 eID nb.seen,eL false 7 aD nb.entries,eL false 3 cT nb.bU]=aH .none nb:=rfl
  rw[aC Iq.eq_1]
  simp only[List.foldl_cons]
  cases hq:rU p op with
  | false =>
   rw[hq]at hm
   have dK:eC ⟨xc,xd⟩ p (nb,[]) ⟨⟨oc,od⟩,op,oq⟩=(nb,[]):=by simp[eC,hq]
   rw[dK]
   simp[hL,hI,hW,hi,he,aG,h2,aM,wf,turn,e95,hm]
   rw[aX (by omega) (by omega)]
   generalize hF:upd _ 67 _=F
   refine ih (i+1) F _ fI (hz.less (by simp)) ?_ ?_ ?_ ?_ ?_ ?_ ?_ ?_ ?_ ?_ ?_ hv.push ?_ ?_ ?_
   all_goals first
    | (rw[←hF];simp[h2,h3,h4,h6,h9,hW,hL];done)
    | (simp[eE,g1,g2,gB,aM,wf];done)
    | (simp[eE]<;>omega)
  | true =>
   rw[hq]at hm
   cases hu:(dY nb ⟨⟨oc,od⟩,⟨xc,xd⟩,p,-1,false⟩).2 with
   | false =>
    rw[hu]at oN
    have dK:eC ⟨xc,xd⟩ p (nb,[]) ⟨⟨oc,od⟩,op,oq⟩=((dY nb ⟨⟨oc,od⟩,⟨xc,xd⟩,p,-1,false⟩).1,[]):=by simp[eC,hq,hu]
    rw[dK]
    simp[hL,hI,hW,hi,he,aG,h2,h3,h4,eE,g1,gB,aM,wf,turn,e95,hm,e96,tC,Hh,oN,k0,k1,k2,k0',k1',k2',k3,k4,k5,k6]
    rw[aX (by omega) (by omega)]
    generalize hF:upd _ 67 _=F
    refine l29 xc xd p hp t pA ho hl tx tb tn rest (i+1) _ [] [] .nsl F _ fI lS Cw jZ.nil (by have:=hz.ent;simp at this ⊢;omega) ?_ ?_ ?_ ?_ ?_ ?_ ?_ ?_ ?_ ?_ ?_ (.nil rfl rfl) ?_ ?_ ?_
    all_goals first
     | (rw[←hF];simp[h2,h3,h4,h6,h9,hW,hL];done)
     | (simp[eE,g1,g2,gB,aM,wf,k0,k1,k2,k0',k1',k2',k3,k4,k5,k6];done)
     | (simp[eE]<;>omega)
   | true =>
    rw[hu]at oN
    have dK:eC ⟨xc,xd⟩ p (nb,[]) ⟨⟨oc,od⟩,op,oq⟩=((dY nb ⟨⟨oc,od⟩,⟨xc,xd⟩,p,-1,false⟩).1,[⟨oq,3,⟨oc,od⟩,⟨xc,xd⟩,p⟩]):=by simp[eC,hq,hu]
    rw[dK]
    simp[hL,hI,hW,hi,he,aG,h2,h3,h4,h9,eE,g1,gB,aM,wf,turn,e95,hm,e96,tC,Hh,oN,k0,k1,k2,k0',k1',k2',k3,k4,k5,k6,e97,s97]
    generalize hA:aY _ _ _ _ _ _=A
    obtain⟨v',K,rfl,p',x',_⟩:=OwnR.append (lo:=3) (OwnR.start 3 _ 100 8) (by simp[wf]) (by simp[eE]<;>omega) (by simp[aM]) hA (by simp) (by decide)
    clear hA
    have a1:=x'.get 1 (by decide)
    have a2:=x'.get 2 (by decide)
    have aB:=x'.get 0 (by decide)
    have al:=x'.lim
    simp[eE,g1,g2,gB,aM,wf,k0,k1,k2,k0',k1',k2',k3,k4,k5,k6]at a1 a2 aB al
    have Aw:=jZ.one (to:=oq) (k:=3) (tc:=oc) (td:=od) (ic:=xc) (id:=xd) (pd:=bF p) (ad:=.isl false 0 []) (.inl rfl) (.inr rfl)
    simp[hI]
    rw[aX (by omega) (by omega)]
    generalize hF:upd _ 67 _=F
    refine l29 xc xd p hp t pA ho hl tx tb tn rest (i+1) _ _ _ v' F K fI lS Cw Aw (by have:=hz.ent;simp at this;simp;omega) ?_ ?_ ?_ ?_ ?_ ?_ ?_ ?_ a1 a2 aB (by simpa[tY]using p') al x'.le x'.wf
    all_goals (rw[←hF];simp[h2,h3,h4,h6,h9,hW,hL])
end Go.Dm.Tc
namespace Go.Dm.Tc
theorem o29(S:List Fr)(h:aA)(x0 x1 x2 x3 x4:DV)(t:Bool)(l:List fV)(c d:Int)(ta tb:Nat)(hl:l.length≤1000000)
  (g0:h.get 0=some (.arr tb 6 [.agg [x0,x1,x2,x3,x4,eL t 3 cT l]] (some 1))) (g1:h.get 1=some (.arr ta 2 [.agg [.int .i64 c,.int .i64 d]] (some 1))) :
  ∀(n i:Nat) (f:cY),aU (fun b=>bW b.id ⟨c,d⟩) l-i=n→i≤aU (fun b=>bW b.id ⟨c,d⟩) l→f 3=.ptr 0 6 0 0→f 4=.ptr 1 2 0 0→f 8=.int .i64 i →
  ∃ f',run D 99 (.block 0::.seq Og::S) (.loop Z9) f h=run D 99 S Og f' h∧f' 3=.ptr 0 6 0 0∧f' 4=.ptr 1 2 0 0∧f' 2=f 2∧f' 6=f 6∧f' 8=.int .i64 (aU (fun b=>bW b.id ⟨c,d⟩) l):=by
 intro n
 induction n with
 | zero =>
  intro i f hn hi h2 h3 h6
  have dV:aU (fun b=>bW b.id ⟨c,d⟩) l=i:=by omega
  rw[aC Z9.eq_1]
  by_cases bD:i<l.length
  ·have j8:=Cs (fun b:fV=>bW b.id ⟨c,d⟩) hi (List.getElem?_eq_getElem bD)
   have Zg:kN ⟨l[i].id.aS,l[i].id.seq⟩ ⟨c,d⟩=false:=by
    unfold kN
    simp only[decide_eq_false_iff_not]
    intro hc
    have:=j8.1 hc
    omega
   simp[h2,h3,h6,g0,g1,bD,cT,e94,s94,Zg]
   exact⟨_,rfl,by simp[h2],by simp[h3],by simp,by simp,by simp[h6,dV]⟩
  ·simp[h2,h3,h6,g0,g1,bD]
   exact⟨_,rfl,by simp[h2],by simp[h3],by simp,by simp,by simp[h6,dV]⟩
 | succ n ih =>
  intro i f hn hi h2 h3 h6
  have bD:i<l.length:=by have:=dB (fun b:fV=>bW b.id ⟨c,d⟩) l;omega
  have Zg:kN ⟨l[i].id.aS,l[i].id.seq⟩ ⟨c,d⟩=true:=Tn (fun b:fV=>bW b.id ⟨c,d⟩) (by omega) (List.getElem?_eq_getElem bD)
  rw[aC Z9.eq_1]
  simp[h2,h3,h6,g0,g1,bD,cT,e94,s94,Zg]
  rw[aX (by omega) (by omega)]
  generalize hF:upd _ 8 _=F
  obtain⟨f',k1,k2,k3,k4,k5,k6⟩:=ih (i+1) F (by omega) (by omega) (by rw[←hF];simp[h2]) (by rw[←hF];simp[h3]) (by rw[←hF];simp)
  exact⟨f',k1,k2,k3,by rw[k4,←hF];simp,by rw[k5,←hF];simp,k6⟩
theorem GI{α:Type}(key:α→ID)(a:α)(l:List α):(gX key a l).length=l.length+1:=by
 unfold gX
 have:=dB (fun b=>bW (key b) (key a)) l
 simp only[List.length_append,List.length_cons,List.length_take,List.length_drop]
 omega
theorem BK{l:List fV}(hr:dU (l.map (·.id)))(x:ID):fF (fun o:fV=>bW o.id x) l=false→∀o∈l,o.id≠x:=by
 intro hh o ho
 have hf:=Dd (fun a:fV=>a.id) hr x
 cases hq:l.find? (fun b=>decide (b.id=x))with
 | none=>exact(zW (fun a:fV=>a.id) x).1 hq o ho
 | some a=>rw[hq]at hf;rw[hf.1]at hh;cases hh
theorem bT.subOwn{b:aF}(h:bT b){x:ID}{p:bI}(hp:bZ p)(hn:∀o∈b.bU,o.id≠x):bT (subOwn b x p):=by
 obtain⟨h1,h2,h3,h4,h5,h6,h7,h8,h9,iA,lI,gQ,nC⟩:=h
 refine⟨h1,h2,h3,h4,pN (fun o:fV=>o.id) ⟨x,p⟩ h5 hn,h6,h7,h8,h9,?_,lI,gQ,nC⟩
 intro o ho
 unfold Tc.subOwn gX at ho
 simp only at ho
 rcases List.mem_append.1 ho with h|h
 ·exact iA o (List.mem_of_mem_take h)
 ·rcases List.mem_cons.1 h with rfl|h
  ·exact hp
  ·exact iA o (List.mem_of_mem_drop h)
theorem s29(b:aF)(xc xd:Int)(p:bI)(hi:bT b)(hz:ZL b b.aR.length)(hp:bZ p)(ho:b.bU.length<100000) :
  pcF D t29 [aH .none b,.agg [.int .i64 xc,.int .i64 xd],bF p]=some (.tup [aH .none (fC b ⟨xc,xd⟩ p).1,eL false 8 fM (fC b ⟨xc,xd⟩ p).2]):=by
 unfold pcF
 rw[aJ _ _ _ _ (by simp[t29])]
 obtain⟨me,aL,adv,seen,ent,own⟩:=b
 simp[t29]
 generalize hF:upd _ 8 _=F
 generalize hH:aA.push _ _=H
 simp only at ho
 obtain⟨f',k1,k2,k3,k4,k5,k6⟩:=o29 [] H (.int .i64 me) (eL false 1 bQ aL) (eL false 4 aG adv) (eL false 2 eID seen) (eL false 7 aD ent) false own xc xd _ _ (by omega) (by rw[←hH];simp[aH,dG.none];rfl) (by rw[←hH];simp;rfl) _ 0 F rfl (Nat.zero_le _) (by rw[←hF];simp) (by rw[←hF];simp) (by rw[←hF];simp)
 rw[k1]
 have g0:H.get 0=some (.arr 36 6 [.agg [.int .i64 me,eL false 1 bQ aL,eL false 4 aG adv,eL false 2 eID seen,eL false 7 aD ent,eL false 3 cT own]] (some 1)):=by rw[←hH];simp[aH,dG.none]
 have g1:H.get 1=some (.arr 40 2 [.agg [.int .i64 xc,.int .i64 xd]] (some 1)):=by rw[←hH];simp
 have g2:H.get 2=some (.arr 36 6 [.agg [.int .i64 0,.nsl,.nsl,.nsl,.nsl,.nsl]] (some 1)):=by rw[←hH];simp
 have BF:H.n=3:=by rw[←hH];simp
 have aM:H.lim=0:=by rw[←hH];simp
 have wf:WF H:=by rw[←hH];simp
 have q2:f' 2=bF p:=by rw[k4,←hF];simp
 have q6:f' 6=.ptr 2 6 0 0:=by rw[k5,←hF];simp
 clear k1 hH hF k4 k5
 have iG:=dB (fun b:fV=>bW b.id ⟨xc,xd⟩) own
 cases hh:fF (fun o:fV=>bW o.id ⟨xc,xd⟩) own with
 | true =>
  have ha:fC ⟨me,aL,adv,seen,ent,own⟩ ⟨xc,xd⟩ p=(⟨me,aL,adv,seen,ent,own⟩,[]):=by simp only[fC,hh,if_true]
  rw[ha]
  unfold fF at hh
  split at hh
  ·rename_i o hox
   have bD:=(List.getElem?_eq_some_iff.1 hox).1
   have hoe:=(List.getElem?_eq_some_iff.1 hox).2
   have fS:o.id=⟨xc,xd⟩:=by have:=of_decide_eq_true hh;exact uW.1 this
   have c1:o.id.aS=xc:=by rw[fS]
   have c2:o.id.seq=xd:=by rw[fS]
   simp[Og,k2,k3,k6,q6,g0,g1,g2,bD,hoe,cT,c1,c2,aM,BF,wf,turn,aI]
   exact⟨rfl,rfl⟩
  ·cases hh
 | false =>
  have ha:fC ⟨me,aL,adv,seen,ent,own⟩ ⟨xc,xd⟩ p=adv.foldl (eC ⟨xc,xd⟩ p) (subOwn ⟨me,aL,adv,seen,ent,own⟩ ⟨xc,xd⟩ p,[]):=by simp only[fC,hh];rfl
  rw[ha]
  have wR:=BK hi.ro ⟨xc,xd⟩ hh
  have hinv:=hi.subOwn hp wR
  have hkey:∀(bD:aU (fun b:fV=>bW b.id ⟨xc,xd⟩) own<own.length),¬(own[aU (fun b:fV=>bW b.id ⟨xc,xd⟩) own].id.aS=xc∧own[aU (fun b:fV=>bW b.id ⟨xc,xd⟩) own].id.seq=xd):=fun bD hc=>wR _ (List.getElem_mem bD) (ID.ext'.2 hc)
  generalize sL:aU (fun b:fV=>bW b.id ⟨xc,xd⟩) own=k at *
  have pO:min k own.length=k:=by omega
  have ofr:fW 3 (H.push (.arr 98 3 [] (some 0))) 3 98 3 []:=by have:=fW.fresh (lo:=3) (h:=H) (ety:=98) (sz:=3) (xs:=[]) (cap:=some 0) (by omega) (by omega);rw[BF]at this;exact this
  by_cases bD:k<own.length
  have Fe:=hkey bD
  simp[Og,k2,k3,k6,q2,g0,g1,g2,bD,iG,cT,Fe,aM,BF,wf,turn]
  rotate_left
  simp[Og,k2,k3,k6,q2,g0,g1,g2,bD,iG,cT,aM,BF,wf,turn]
  all_goals
   generalize hA:aY _ _ _ _ _ _=A
   obtain⟨i1,K1,rfl,o1,x1,y1,j1⟩:=ofr.append (n:=0) rfl wf.push (by simp;omega) (by simp[aM]) hA (by simp;omega) (by decide)
   clear hA
   have a0:=x1.get 0 (by decide)
   have a1:=x1.get 1 (by decide)
   have a2:=x1.get 2 (by decide)
   have q1:=x1.lim
   have w1:=x1.wf
   have n1:=x1.le
   have u1:=o1.lo
   have m0:¬0=i1:=by omega
   have m1:¬i1=0:=by omega
   have m2:¬i1=1:=by omega
   have m3:¬1=i1:=by omega
   simp[g0,g1,g2,BF,aM]at a0 a1 a2 q1 o1
   simp[k2,k3,q2,g0,g1,a0,a1,a2,q1,w1,m0,m1,m2,m3,iG,BF]
   generalize hA:aY _ _ _ _ _ _=A
   obtain⟨i2,K2,rfl,o2,x2,y2,j2⟩:=(o1.push (o:=_)).append (by simp[iG]) (by simp[w1]) (by simp;omega) (by simp[q1]) hA (by simp;omega) (by decide)
   clear hA
   have b0:=x2.get 0 (by decide)
   have b1:=x2.get 1 (by decide)
   have b2:=x2.get 2 (by decide)
   have p2:=x2.lim
   have w2:=x2.wf
   have n2:=x2.le
   have u2:=o2.lo
   have c0:¬0=K1.n:=by omega
   have c1:¬1=K1.n:=by omega
   have c2:¬2=K1.n:=by omega
   have m4:¬i2=0:=by omega
   have m5:¬i2=1:=by omega
   simp[a0,a1,a2,q1,c0,c1,c2]at b0 b1 b2 p2 o2
   simp[k2,k3,k6,g0,g1,a0,b0,b1,b2,p2,m0,m1,m2,m3,m4,m5,iG,BF]
   generalize hA:aY _ _ _ _ _ _=A
   obtain⟨i3,K3,rfl,o3,x3,y3,j3⟩:=o2.append (by simp[iG]) w2 n2 (by omega) hA (by simp;omega) (by decide)
   clear hA
   have d0:=x3.get 0 (by decide)
   have d1:=x3.get 1 (by decide)
   have d2:=x3.get 2 (by decide)
   have p3:=x3.lim
   have w3:=x3.wf
   have n3:=x3.le
   have l3:0<K3.n:=by omega
   rw[b0]at d0
   rw[b1]at d1
   rw[b2]at d2
   rw[p2]at p3
   simp[k2,k3,g0,b0,d0,p3,w3,l3,turn,pO]
   generalize hF2:upd _ 67 _=F2
   have cJ:(List.take k (List.map cT own)++[DV.agg [.int .i64 xc,.int .i64 xd,bF p]]++List.drop k (List.map cT own))=(subOwn ⟨me,aL,adv,seen,ent,own⟩ ⟨xc,xd⟩ p).bU.map cT:=by simp[subOwn,gX,sL,cT]
   rw[cJ]at o3
   have Ze:(subOwn ⟨me,aL,adv,seen,ent,own⟩ ⟨xc,xd⟩ p).bU.length=k+1+(own.length-k):=by simp[subOwn,gX,sL,pO];omega
   have TR:ZL (subOwn ⟨me,aL,adv,seen,ent,own⟩ ⟨xc,xd⟩ p) adv.length:=⟨hz.aL,hz.adv,hz.seen,by rw[Ze];omega,hz.ent⟩
   refine n29 xc xd p hp false adv hi.pa hz.adv 40 36 36 _ hinv i3 adv 0 F2 _ rfl TR ?_ ?_ ?_ ?_ ?_ ?_ ?_ ?_ ?_ ?_ ?_ (o3.aW w3 (by decide) l3) ?_ ?_ ?_
   all_goals first
    | (rw[←hF2];simp[q2,k2,k3,q6];done)
    | (simp[d1,d2,p3,w3,l3,zB];done)
    | (rw[Ze];simp[w3,l3,subOwn];done)
    | (simp;omega)
end Go.Dm.Tc
namespace Go.Dm.Tc
def jX(to:Int)(gN:List aV):List iR:=gN.map fun e=>⟨to,3,e.tree,e.sub,e.pred⟩
def eT(b:aF)(t s:ID)(q:Int):aF×List iR :=
 if(cF b t s q).2.2=true then((cF b t s q).1,jX (dO b t) (cF b t s q).2.1++[⟨dO b t,4,t,s,[]⟩])else((cF b t s q).1,[])
theorem l98(S:List Fr)(t:Bool)(gN:List aV)(hl:gN.length≤100000)(to:Int)(h0:aA)(aM:h0.lim≤4)(P:Res→Prop) :
  ∀(rest:List aV) (i:Nat) (outs:List iR) (es:List DV) (v:DV) (f:cY) (h:aA),gN.drop i=rest→jZ es outs→(es.length≤i∧i≤gN.length)→f 12=.int .i64 to→f 13=v→f 36=eL t 7 aD gN→f 37=.int .i64 gN.length→f 38=.int .i64 i→OwnR 4 h v 100 8 es→Ext 4 h0 h →
  (∀f' h' v' qR,f' 13=v'→f' 12=.int .i64 to→(∀r,r<12→f' r=f r)→qR.length≤gN.length→jZ qR (outs++jX to rest)→OwnR 4 h' v' 100 8 qR→Ext 4 h0 h'→P (run D 59 S Vu f' h')) →
  P (run D 59 (.block 0::.seq Vu::S) (.loop Y2) f h):=by
 intro rest
 induction rest with
 | nil =>
  intro i outs es v f h hd hr he gQ nC IX E4 OJ ho x hP
  have hi:=bR hd
  have:¬(i<gN.length):=by omega
  have k:∀r q:Nat,r<12→12≤q→¬r=q:=fun r q h1 h2=>by omega
  rw[aC Y2.eq_1]
  simp[E4,OJ,this]
  refine hP _ h v es (by simp[nC]) (by simp[gQ]) (fun r IQ=>by simp[k r _ IQ]) (by omega) (by simpa[jX]using hr) ho x
 | cons e rest ih =>
  intro i outs es v f h hd hr he gQ nC IX E4 OJ ho x hP
  obtain⟨hi,qQ,fI⟩:=cB hd
  obtain⟨⟨tc,td⟩,⟨sc,sd⟩,p,q,u⟩:=e
  have hnl:=x.le
  have Ec:=x.lim
  have k:∀r q:Nat,r<12→12≤q→¬r=q:=fun r q h1 h2=>by omega
  rw[aC Y2.eq_1]
  have Nu:h.lim≤h.n:=by omega
  simp[gQ,nC,IX,E4,OJ,hi,qQ,aD,x.wf,turn,Nu,e97,s97]
  generalize hA:aY _ _ _ _ _ _=A
  obtain⟨v',K,rfl,p',x',_⟩:=OwnR.append (ho.push.push) (by simp[x.wf]) (by simp;omega) (by simp;omega) hA (by simp;omega) (by decide)
  clear hA
  simp[OJ]
  rw[aX (by omega) (by omega)]
  generalize hF:upd _ 38 _=F
  have Aw:=jZ.append hr (jZ.one (to:=to) (k:=3) (tc:=tc) (td:=td) (ic:=sc) (id:=sd) (pd:=bF p) (ad:=.isl false 0 []) (.inl rfl) (.inr rfl))
  refine ih (i+1) _ _ v' F K fI Aw ⟨by simp;omega,by omega⟩ ?_ ?_ ?_ ?_ ?_ (by simpa[tY]using p') ((x.push.push).trans x') ?_
  all_goals first
   | (rw[←hF];simp[gQ,nC,IX,E4];done)
   | skip
  intro f' h' v2 qR a1 a2 a3 a4 a5 a6 a7
  refine hP f' h' v2 qR a1 a2 (fun r IQ=>?_) a4 (by simpa[jX]using a5) a6 a7
  rw[a3 r IQ,←hF]
  simp[k r _ IQ]
theorem Vt{b:aF}(h:bT b){t s:ID}{q:Int}(hu:(cF b t s q).2.2=true):(cF b t s q).1.aR=b.aR∧∃ a,fR b t=some a:=by
 rcases lM h t s q with⟨e,_⟩|⟨e,_,_,_,_,ht⟩|⟨e,hm,hi,_,_,r',u',ht,_⟩
 ·rw[e]at hu;cases hu
 ·rw[ht]at hu;cases hu
 ·rw[ht]
  refine⟨rfl,?_⟩
  obtain⟨a,ha,_⟩:=iJ.1 (h.ent e hm)
  have:e.tree=t:=by simp only[isE,Bool.and_eq_true,decide_eq_true_eq]at hi;first|exact hi.1|exact hi.2
  exact⟨a,by rw[←this];exact ha⟩
theorem Il{b:aF}(h:bT b)(t s:ID)(q:Int):(cF b t s q).2.1.length≤b.entries.length:=by
 exact Vr b t s q
theorem s98(b:aF)(tc td sc sd q:Int)(hi:bT b)(hz:fT b) :
  pcF D t98 [aH .none b,.agg [.int .i64 tc,.int .i64 td],.agg [.int .i64 sc,.int .i64 sd],.int .i64 q]=some (.tup [aH .none (eT b ⟨tc,td⟩ ⟨sc,sd⟩ q).1,eL false 8 fM (eT b ⟨tc,td⟩ ⟨sc,sd⟩ q).2]):=by
 have ht:=d8 hi hz tc td sc sd q
 unfold pcF
 rw[aJ _ _ _ _ (by simp[t98])]
 cases hu:(cF b ⟨tc,td⟩ ⟨sc,sd⟩ q).2.2 with
 | false =>
  rw[hu]at ht
  have hd:eT b ⟨tc,td⟩ ⟨sc,sd⟩ q=((cF b ⟨tc,td⟩ ⟨sc,sd⟩ q).1,[]):=by simp[eT,hu]
  rw[hd]
  simp[t98,e149,ht,turn,aI,hY]
 | true =>
  rw[hu]at ht
  obtain⟨Df,a,ha⟩:=Vt hi hu
  have hd:eT b ⟨tc,td⟩ ⟨sc,sd⟩ q=((cF b ⟨tc,td⟩ ⟨sc,sd⟩ q).1,jX (dO b ⟨tc,td⟩) (cF b ⟨tc,td⟩ ⟨sc,sd⟩ q).2.1++[⟨dO b ⟨tc,td⟩,4,⟨tc,td⟩,⟨sc,sd⟩,[]⟩]):=by simp[eT,hu]
  rw[hd]
  have wJ:=uQ (fun a:bC=>decide (a.id=⟨tc,td⟩)) b.aR
  have IW:b.aR.find? (fun a=>decide (a.id=⟨tc,td⟩))=some a:=ha
  rw[IW]at wJ
  obtain⟨j,hj,IS⟩:=wJ
  have hFi:pcF D Wc [aH .none (cF b ⟨tc,td⟩ ⟨sc,sd⟩ q).1,.agg [.int .i64 tc,.int .i64 td]]=some (.int .i64 j):=by
   have:=Cm (.int .i64 (cF b ⟨tc,td⟩ ⟨sc,sd⟩ q).1.me) (eL false 1 bQ (cF b ⟨tc,td⟩ ⟨sc,sd⟩ q).1.aL) (eL false 2 eID (cF b ⟨tc,td⟩ ⟨sc,sd⟩ q).1.seen) (eL false 7 aD (cF b ⟨tc,td⟩ ⟨sc,sd⟩ q).1.entries) (eL false 3 cT (cF b ⟨tc,td⟩ ⟨sc,sd⟩ q).1.bU) false (cF b ⟨tc,td⟩ ⟨sc,sd⟩ q).1.aR tc td (by rw[Df];have:=hz.adv;omega)
   rw[Df,hj]at this
   simpa[gY,aH,dG.none,Df]using this
  have xL:dO b ⟨tc,td⟩=a.bO:=by rw[eN,ha];rfl
  have Uz:j<b.aR.length:=(List.getElem?_eq_some_iff.1 IS).1
  have hjg:b.aR[j]=a:=(List.getElem?_eq_some_iff.1 IS).2
  rw[xL]
  simp[t98,e149,ht,turn,Dr,hFi,Df,Uz,hjg,aG]
  generalize hF:upd _ 38 _=F
  generalize hH:aA.push _ _=H0
  have hul:(cF b ⟨tc,td⟩ ⟨sc,sd⟩ q).2.1.length≤100000:=Nat.le_trans (Il hi ..) hz.ent
  generalize (cF b ⟨tc,td⟩ ⟨sc,sd⟩ q).2.1=gN at *
  generalize Bx:(cF b ⟨tc,td⟩ ⟨sc,sd⟩ q).1=b1 at *
  have l8:H0.n=4:=by rw[←hH];simp
  have tB:H0.lim=0:=by rw[←hH];simp
  have hw0:WF H0:=by rw[←hH];simp
  refine l98 [] false gN hul a.bO H0 (by omega) (fun r=>dC (fin [.cell 8 (some 6),.t 9] r)=some (.tup [aH .none b1,eL false 8 fM (jX a.bO gN++[⟨a.bO,4,⟨tc,td⟩,⟨sc,sd⟩,[]⟩])])) gN 0 [] [] .nsl F H0 rfl jZ.nil ⟨by simp,Nat.zero_le _⟩ (by rw[←hF];simp) (by rw[←hF];simp) (by rw[←hF];simp) (by rw[←hF];simp) (by rw[←hF];simp) (.nil rfl rfl) (.refl (by omega) hw0) fun f' h' v' qR q13 q12 qr lC hrw TW x=>?_
  have q4:f' 4=.ptr 0 6 0 0:=by rw[qr 4 (by decide),←hF];simp
  have q5:f' 5=.ptr 1 2 0 0:=by rw[qr 5 (by decide),←hF];simp
  have q6:f' 6=.ptr 2 2 0 0:=by rw[qr 6 (by decide),←hF];simp
  have q8:f' 8=.ptr 3 6 0 0:=by rw[qr 8 (by decide),←hF];simp
  have a0:h'.get 0=some (.arr 36 6 [aH .none b1] (some 1)):=(x.get 0 (by decide)).trans (by rw[←hH];simp)
  have a1:h'.get 1=some (.arr 40 2 [.agg [.int .i64 tc,.int .i64 td]] (some 1)):=(x.get 1 (by decide)).trans (by rw[←hH];simp)
  have a2:h'.get 2=some (.arr 40 2 [.agg [.int .i64 sc,.int .i64 sd]] (some 1)):=(x.get 2 (by decide)).trans (by rw[←hH];simp)
  have a3:h'.get 3=some (.arr 36 6 [.agg [.int .i64 0,.nsl,.nsl,.nsl,.nsl,.nsl]] (some 1)):=(x.get 3 (by decide)).trans (by rw[←hH];simp)
  have al:h'.lim=0:=x.lim.trans tB
  obtain⟨m,eE⟩:∃ m,h'.n=m+4:=⟨h'.n-4,by have:=x.le;omega⟩
  have gZ:=jZ.append hrw (jZ.one (to:=a.bO) (k:=4) (tc:=tc) (td:=td) (ic:=sc) (id:=sd) (pd:=.nsl) (ad:=.nsl) (p:=[]) (.inr ⟨rfl,rfl⟩) (.inl rfl))
  simp only[List.nil_append]at gZ
  cases TW with
  | nil hv hx =>
   subst hv
   subst hx
   simp[Vu,q4,q5,q6,q8,q12,q13,a0,a1,a2,a3,al,eE,x.wf]
   generalize hA:aY _ _ _ _ _ _=A
   obtain⟨v2,K,rfl,p',x',_⟩:=OwnR.append (lo:=4) (OwnR.start 4 _ 100 8) (by simp[x.wf]) (by simp[eE]<;>omega) (by simp[eE,al]) hA (by simp<;>omega) (by decide)
   clear hA
   have b0:=x'.get 0 (by decide)
   have b1':=x'.get 1 (by decide)
   have b2:=x'.get 2 (by decide)
   have b3:=x'.get 3 (by decide)
   have bl:=x'.lim
   have bn:=x'.le
   have l3:3<K.n:=by omega
   simp[eE,a0,a1,a2,a3,al]at b0 b1' b2 b3 bl p'
   have r1:∀o,resolve false (Dm.wl (K.set 3 o) 0) 199 v2=some (eL false 8 fM (jX a.bO gN++[⟨a.bO,4,⟨tc,td⟩,⟨sc,sd⟩,[]⟩])):=fun o=>pX ((by simpa[tY]using(p'.aW (o:=o) x'.wf (by decide) l3).wl (Nat.zero_le _)):OwnR 4 (Dm.wl (K.set 3 o) 0) v2 100 8 _) gZ false (by decide)
   have Ea:bJ 199 (eL false 8 fM (jX a.bO gN++[⟨a.bO,4,⟨tc,td⟩,⟨sc,sd⟩,[]⟩]))=true:=eV (fun y _=>(fO y).2) 199 (by decide)
   simp[q8,b0,b1',b2,b3,bl,al,l3,x'.wf,turn,aI,r1,Ea]
  | arr id sp cap hv hg Nu dV =>
   subst hv
   have Ky:=bB hg
   have e0:¬0=id:=by omega
   have e1:¬1=id:=by omega
   have e2:¬2=id:=by omega
   simp[Vu,q4,q5,q6,q8,q12,q13,a0,a1,a2,a3,al,eE,x.wf,e0,e1,e2]
   generalize hA:aY _ _ _ _ _ _=A
   obtain⟨v2,K,rfl,p',x',_⟩:=OwnR.append (lo:=4) (OwnR.push (.arr id sp cap rfl hg Nu dV)) (by simp[x.wf]) (by simp[eE]<;>omega) (by simp[eE,al]) hA (by simp<;>omega) (by decide)
   clear hA
   have b0:=x'.get 0 (by decide)
   have b1':=x'.get 1 (by decide)
   have b2:=x'.get 2 (by decide)
   have b3:=x'.get 3 (by decide)
   have bl:=x'.lim
   have bn:=x'.le
   have l3:3<K.n:=by omega
   simp[eE,a0,a1,a2,a3,al]at b0 b1' b2 b3 bl p'
   have r1:∀o,resolve false (K.set 3 o) 199 v2=some (eL false 8 fM (jX a.bO gN++[⟨a.bO,4,⟨tc,td⟩,⟨sc,sd⟩,[]⟩])):=fun o=>pX ((by simpa[tY]using p'.aW (o:=o) x'.wf (by decide) l3):OwnR 4 (K.set 3 o) v2 100 8 _) gZ false (by decide)
   have Ea:bJ 199 (eL false 8 fM (jX a.bO gN++[⟨a.bO,4,⟨tc,td⟩,⟨sc,sd⟩,[]⟩]))=true:=eV (fun y _=>(fO y).2) 199 (by decide)
   simp[q8,b0,b1',b2,b3,bl,al,l3,x'.wf,turn,aI,r1,Ea]
end Go.Dm.Tc
namespace Go.Dm.Tc
def gJ(b:aF)(q:Int)(t s:ID)(p:bI):aF×List iR :=
 ((dY b ⟨t,s,p,q,false⟩).1,if(dY b ⟨t,s,p,q,false⟩).2=true then[⟨dO b t,3,t,s,p⟩]else[])
theorem BY{b:aF}{e:aV}(hu:(dY b e).2=true):∃ a,fR b e.tree=some a:=by
 unfold dY at hu
 split at hu
 ·rename_i hm
  obtain⟨a,ha,_⟩:=vP.1 hm
  exact⟨a,ha⟩
 ·cases hu
theorem AdH{b c:aF}(Df:c.aR=b.aR)(hz:fT b){tc td:Int}{a:bC}(ha:fR b ⟨tc,td⟩=some a) :
  ∃ j:Nat,pcF D Wc [aH .none c,.agg [.int .i64 tc,.int .i64 td]]=some (.int .i64 j)∧∃ hj:j<b.aR.length,b.aR[j]=a:=by
 have wJ:=uQ (fun a:bC=>decide (a.id=⟨tc,td⟩)) b.aR
 have IW:b.aR.find? (fun a=>decide (a.id=⟨tc,td⟩))=some a:=ha
 rw[IW]at wJ
 obtain⟨j,hj,IS⟩:=wJ
 refine⟨j,?_,(List.getElem?_eq_some_iff.1 IS)⟩
 have:=Cm (.int .i64 c.me) (eL false 1 bQ c.aL) (eL false 2 eID c.seen) (eL false 7 aD c.entries) (eL false 3 cT c.bU) false c.aR tc td (by rw[Df];have:=hz.adv;omega)
 rw[Df,hj]at this
 simpa[gY,aH,dG.none,Df]using this
theorem s61(b:aF)(k tc td sc sd q:Int)(p:bI)(hi:bT b)(hz:fT b) :
  pcF D t61 [aH .none b,.int .i64 q,.agg [.int .i64 k,.int .i64 tc,.int .i64 td,.int .i64 sc,.int .i64 sd,bF p,.isl false 0 []]]=some (.tup [aH .none (eT b ⟨tc,td⟩ ⟨sc,sd⟩ q).1,eL false 8 fM (eT b ⟨tc,td⟩ ⟨sc,sd⟩ q).2]):=by
 have hd:=s98 b tc td sc sd q hi hz
 have Ea:∀os:List iR,bJ 199 (eL false 8 fM os)=true:=fun os=>eV (fun y _=>(fO y).2) 199 (by decide)
 unfold pcF
 rw[aJ _ _ _ _ (by simp[t61])]
 simp[t61,e98,hd,turn,aI,Ea]
theorem s60(b:aF)(k tc td sc sd q:Int)(p:bI)(hi:bT b)(hz:fT b)(hp:bZ p) :
  pcF D t60 [aH .none b,.int .i64 q,.agg [.int .i64 k,.int .i64 tc,.int .i64 td,.int .i64 sc,.int .i64 sd,bF p,.isl false 0 []]]=some (.tup [aH .none (gJ b q ⟨tc,td⟩ ⟨sc,sd⟩ p).1,eL false 8 fM (gJ b q ⟨tc,td⟩ ⟨sc,sd⟩ p).2]):=by
 have oN:=AZ hi hz tc td sc sd hp q false
 unfold pcF
 rw[aJ _ _ _ _ (by simp[t60])]
 cases hu:(dY b ⟨⟨tc,td⟩,⟨sc,sd⟩,p,q,false⟩).2 with
 | false =>
  rw[hu]at oN
  have hd:gJ b q ⟨tc,td⟩ ⟨sc,sd⟩ p=((dY b ⟨⟨tc,td⟩,⟨sc,sd⟩,p,q,false⟩).1,[]):=by simp[gJ,hu]
  rw[hd]
  simp[t60,e96,oN,turn,aI,hY]
 | true =>
  rw[hu]at oN
  obtain⟨a,ha⟩:=BY hu
  obtain⟨j,hFi,Uz,hjg⟩:=AdH (uY b ⟨⟨tc,td⟩,⟨sc,sd⟩,p,q,false⟩).2.1 hz ha
  have Df:=(uY b ⟨⟨tc,td⟩,⟨sc,sd⟩,p,q,false⟩).2.1
  have xL:dO b ⟨tc,td⟩=a.bO:=by rw[eN,ha];rfl
  have hd:gJ b q ⟨tc,td⟩ ⟨sc,sd⟩ p=((dY b ⟨⟨tc,td⟩,⟨sc,sd⟩,p,q,false⟩).1,[⟨a.bO,3,⟨tc,td⟩,⟨sc,sd⟩,p⟩]):=by simp[gJ,hu,xL]
  rw[hd]
  have ri:∀h,resolve false h 197 (.isl false 0 [])=some (.isl false 0 []):=fun _=>rfl
  simp[t60,ri,e96,oN,turn,Dr,hFi,Df,Uz,hjg,aG,e97,s97,aI]
  have Ea:bJ 199 (eL false 8 fM [⟨a.bO,3,⟨tc,td⟩,⟨sc,sd⟩,p⟩])=true:=eV (fun y _=>(fO y).2) 199 (by decide)
  exact⟨Ea,rfl⟩
end Go.Dm.Tc
namespace Go.Dm.Tc
def fG(x:ID)(st:aF×List iR)(a:bC):aF×List iR:=((eT st.1 a.id x (-1)).1,st.2++(eT st.1 a.id x (-1)).2)
def endOwn(b:aF)(x:ID):aF:={b with bU:=bM (fun o=>o.id) x b.bU}
def dH(b:aF)(x:ID):aF×List iR :=
 if(bM (fun o:fV=>o.id) x b.bU).length=b.bU.length then(b,[])else b.aR.foldl (fG x) (endOwn b x,[])
theorem Jp:∀(os:List iR),jZ (os.map fM) os:=fun os=>⟨by simp,fun tag h n hn=>pK fun x hx=>by
 obtain⟨o,_,rfl⟩:=List.mem_map.1 hx
 exact(fO o).1 tag h n (by omega)⟩
theorem jI(b:aF)(t s:ID)(q:Int):(eT b t s q).1=(cF b t s q).1:=by unfold eT;split<;>rfl
theorem Lz{b:aF}(h:bT b)(t s:ID)(q:Int):(eT b t s q).2.length≤b.entries.length+1:=by
 unfold eT
 split
 ·have:=Il h t s q;simp[jX];exact this
 ·simp
theorem ZL.take{b:aF}(h:ZL b 0)(hi:bT b)(t s:ID)(q:Int):ZL (cF b t s q).1 0:=by
 obtain⟨h1,h2,h3,h4,h5⟩:=h
 rcases lM hi t s q with⟨e,_⟩|⟨e,_,_,_,_,ht⟩|⟨e,hm,_,_,_,r',u',ht,hr,_⟩
 ·rw[e];exact⟨h1,h2,h3,h4,h5⟩
 ·rw[ht]
  have:=List.length_filter_le (fun x=>!isE t s x) b.entries
  exact⟨h1,h2,h3,h4,by simp only;omega⟩
 ·rw[ht]
  have:=List.length_filter_le (fun x=>!isE t s x) b.entries
  have h6:=hr.len
  exact⟨h1,h2,h3,h4,by simp only;omega⟩
theorem l30(xc xd:Int)(t:Bool)(pA:List bC)(hl:pA.length≤1000)(tx tb tn:Nat) :
  ∀(rest:List bC) (i:Nat) (nb:aF) (outs:List iR) (es:List DV) (v:DV) (f:cY) (h:aA),pA.drop i=rest→bT nb→ZL nb 0→jZ es outs→es.length≤i*100001 →
  f 2=.ptr 0 6 0 0→f 3=.ptr 1 2 0 0→f 4=.ptr 2 6 0 0→f 9=v→f 40=eL t 4 aG pA→f 41=.int .i64 pA.length→f 42=.int .i64 i →
  h.get 1=some (.arr tx 2 [.agg [.int .i64 xc,.int .i64 xd]] (some 1))→h.get 2=some (.arr tb 6 [zB] (some 1))→h.get 0=some (.arr tn 6 [aH .none nb] (some 1))→OwnR 3 h v 100 8 es→h.lim=0→3≤h.n→WF h →
  dC (fin [.cell 4 (some 6),.t 5] (run D 63 [.block 2,.seq Vx] (.loop Ip) f h))=some (.tup [aH .none (rest.foldl (fG ⟨xc,xd⟩) (nb,outs)).1,eL false 8 fM (rest.foldl (fG ⟨xc,xd⟩) (nb,outs)).2]):=by
 intro rest
 induction rest with
 | nil =>
  intro i nb outs es v f h hd sA hz hr Ba h2 h3 h4 h9 hW hL hI g1 g2 gB hv aM hn wf
  have hi:=bR hd
  have:¬(i<pA.length):=by omega
  have l2:2<h.n:=by omega
  have r1:=fun o=>pX (hv.aW (o:=o) wf (by decide:2<3) l2) hr false (n:=199) (by decide)
  have hu:bJ 199 (eL false 8 fM outs)=true:=eV (fun y _=>(fO y).2) 199 (by decide)
  rw[aC Ip.eq_1]
  simp only[zB]at g2
  simp[Vx,hL,hI,this,h2,h4,h9,gB,g2,aM,l2,wf,turn,aI,r1,hu]
 | cons o rest ih =>
  intro i nb outs es v f h hd sA hz hr Ba h2 h3 h4 h9 hW hL hI g1 g2 gB hv aM hn wf
  obtain⟨hi,he,fI⟩:=cB hd
  obtain⟨⟨oc,od⟩,op,oq⟩:=o
  have Ef:=s98 nb oc od xc xd (-1) sA hz.sized
  have lS:bT (eT nb ⟨oc,od⟩ ⟨xc,xd⟩ (-1)).1:=by rw[jI];exact sA.take ..
  have Cw:ZL (eT nb ⟨oc,od⟩ ⟨xc,xd⟩ (-1)).1 0:=by rw[jI];exact hz.take sA ..
  have hdl:=Lz sA ⟨oc,od⟩ ⟨xc,xd⟩ (-1)
  have uO:=hz.ent
  obtain⟨m,eE⟩:∃ m,h.n=m+3:=⟨h.n-3,by omega⟩
  rw[aC Ip.eq_1]
  simp only[List.foldl_cons]
  have dK:fG ⟨xc,xd⟩ (nb,outs) ⟨⟨oc,od⟩,op,oq⟩=((eT nb ⟨oc,od⟩ ⟨xc,xd⟩ (-1)).1,outs++(eT nb ⟨oc,od⟩ ⟨xc,xd⟩ (-1)).2):=rfl
  rw[dK]
  generalize hB1:(eT nb ⟨oc,od⟩ ⟨xc,xd⟩ (-1)).1=b1 at *
  generalize hO1:(eT nb ⟨oc,od⟩ ⟨xc,xd⟩ (-1)).2=o1 at *
  have lC:∀p1 p2 p3,elems (((h.push p1).push p2).push p3) 8 v=some es:=fun p1 p2 p3=>hv.push.push.push.elems
  simp[hL,hI,hW,hi,he,aG,h2,h3,h4,h9,eE,g1,gB,aM,wf,turn,e98,Ef,lC]
  have ofr:∀p1 p2,fW (m+5) (((h.push p1).push p2).push (.arr 100 8 [] (some 0))) (m+3+1+1) 100 8 []:=fun p1 p2=>by
   have:=fW.fresh (lo:=m+5) (h:=(h.push p1).push p2) (ety:=100) (sz:=8) (xs:=[]) (cap:=some 0) (by simp[aM]) (by simp[eE])
   simpa[eE]using this
  have hi1000:i*100001≤1000*100001:=Nat.mul_le_mul_right _ (by omega)
  generalize hA:aY _ _ _ _ _ _=A
  obtain⟨i1,K1,rfl,u1,x1,y1,j1⟩:=(ofr _ _).append (n:=0) rfl (by simp[wf]) (by simp[eE]) (by simp[aM]) hA (by simp;omega) (by decide)
  clear hA
  have a0:=x1.get 0 (by omega)
  have a1:=x1.get 1 (by omega)
  have a2:=x1.get 2 (by omega)
  have a4:=x1.get (m+3+1) (by omega)
  have al:=x1.lim
  have an:=x1.le
  have ul:=u1.lo
  simp[eE,g1,g2,gB,aM,wf]at a0 a1 a2 a4 al u1
  have m4:¬m+3+1=i1:=by omega
  simp[h9,m4]
  generalize hA:aY _ _ _ _ _ _=A
  obtain⟨i2,K2,rfl,u2,x2,y2,j2⟩:=u1.append (by simp) x1.wf an (by omega) hA (by simp;omega) (by decide)
  clear hA
  have b0:=x2.get 0 (by omega)
  have b1':=x2.get 1 (by omega)
  have b2:=x2.get 2 (by omega)
  have bl:=x2.lim
  have bn:=x2.le
  have l0:0<K2.n:=by omega
  rw[a0]at b0
  rw[a1]at b1'
  rw[a2]at b2
  rw[al]at bl
  simp[hI,h2,b0,bl,l0,x2.wf,turn]
  rw[aX (by omega) (by omega)]
  generalize hF:upd _ 42 _=F
  have Aw:=jZ.append hr (Jp o1)
  have TS:OwnR 3 (K2.set 0 (.arr tn 6 [aH .none b1] (some 1))) (.sl i2 8 0 (es.length+o1.length)) 100 8 (es++o1.map fM):=by
   have:=(u2.toR.aW (o:=.arr tn 6 [aH .none b1] (some 1)) x2.wf (by omega:0<m+5) l0).lower (by omega:3≤m+5)
   simpa using this
  refine ih (i+1) b1 (outs++o1) _ _ F _ fI lS Cw Aw (by simp[Nat.add_mul];omega) ?_ ?_ ?_ ?_ ?_ ?_ ?_ ?_ ?_ ?_ TS ?_ ?_ ?_
  all_goals first
   | (rw[←hF];simp[h2,h3,h4,h9,hW,hL];done)
   | (simp[b0,b1',b2,bl,l0,x2.wf];done)
   | (simp;omega)
end Go.Dm.Tc
namespace Go.Dm.Tc
theorem m30(S:List Fr)(xc xd:Int)(t:Bool)(bU:List fV)(hl:bU.length≤100000)(tx:Nat)(h0:aA)(g1:h0.get 1=some (.arr tx 2 [.agg [.int .i64 xc,.int .i64 xd]] (some 1)))(aM:h0.lim=0)(P:Res→Prop) :
  ∀(rest:List fV) (i:Nat) (eU:List fV) (v:DV) (f:cY) (h:aA),bU.drop i=rest→(eU.length≤i∧i≤bU.length)→f 3=.ptr 1 2 0 0→f 6=v→f 15=eL t 3 cT bU→f 16=.int .i64 bU.length→f 17=.int .i64 i→OwnR 3 h v 98 3 (eU.map cT)→Ext 3 h0 h →
  (∀f' h' v',f' 6=v'→(∀r,r<6→f' r=f r)→OwnR 3 h' v' 98 3 ((eU++bM (fun o=>o.id) ⟨xc,xd⟩ rest).map cT)→Ext 3 h0 h'→P (run D 63 S Vw f' h')) →
  P (run D 63 (.block 0::.seq Vw::S) (.loop Z8) f h):=by
 intro rest
 induction rest with
 | nil =>
  intro i eU v f h hd he h3 h6 zI zV Dg ho x hP
  have hi:=bR hd
  have:¬(i<bU.length):=by omega
  have k:∀r q:Nat,r<6→6≤q→¬r=q:=fun r q h1 h2=>by omega
  rw[aC Z8.eq_1]
  simp[zV,Dg,this]
  exact hP _ h v (by simp[h6]) (fun r hr=>by simp[k r _ hr]) (by simpa[bM]using ho) x
 | cons o rest ih =>
  intro i eU v f h hd he h3 h6 zI zV Dg ho x hP
  obtain⟨hi,qQ,fI⟩:=cB hd
  obtain⟨⟨oc,od⟩,op⟩:=o
  have a1:=(x.get 1 (by decide)).trans g1
  have al:=x.lim.trans aM
  obtain⟨m,eE⟩:∃ m,h.n=m+3:=⟨h.n-3,by have:=x.le;omega⟩
  have k:∀r q:Nat,r<6→6≤q→¬r=q:=fun r q h1 h2=>by omega
  rw[aC Z8.eq_1]
  by_cases hx:oc=xc∧od=xd
  ·obtain⟨rfl,rfl⟩:=hx
   simp[h3,h6,zI,zV,Dg,hi,qQ,cT,x.wf,al,a1,eE,turn]
   rw[aX (by omega) (by omega)]
   generalize hF:upd _ 17 _=F
   refine ih (i+1) eU v F _ fI (by omega) ?_ ?_ ?_ ?_ ?_ ho.push x.push fun f' h' v' q6 qr q8 q9=>?_
   all_goals first
    | (rw[←hF];simp[h3,h6,zI,zV];done)
    | skip
   refine hP f' h' v' q6 (fun r hr=>?_) (by simpa[bM]using q8) q9
   rw[qr r hr,←hF]
   simp[k r _ hr]
  ·have uJ:¬(oc=xc∧od=xd):=hx
   have VV:¬oc=xc∨¬od=xd:=by omega
   have fS:¬(⟨oc,od⟩:ID)=⟨xc,xd⟩:=fun e=>hx (by injection e with e1 e2;exact⟨e1,e2⟩)
   simp[h3,h6,zI,zV,Dg,hi,qQ,cT,x.wf,al,a1,eE,turn,uJ,VV]
   generalize hA:aY _ _ _ _ _ _=A
   obtain⟨v',K,rfl,p',x',_⟩:=OwnR.append (ho.push.push) (by simp[x.wf]) (by simp[eE]<;>omega) (by simp[al]) hA (by simp;omega) (by decide)
   clear hA
   simp[Dg,VV]
   rw[aX (by omega) (by omega)]
   generalize hF:upd _ 17 _=F
   refine ih (i+1) (eU++[⟨⟨oc,od⟩,op⟩]) v' F K fI (by simp;omega) ?_ ?_ ?_ ?_ ?_ (by simpa[cT]using p') ((x.push.push).trans x') fun f' h' v2 q6 qr q8 q9=>?_
   all_goals first
    | (rw[←hF];simp[h3,h6,zI,zV];done)
    | skip
   refine hP f' h' v2 q6 (fun r hr=>?_) (by simpa[bM,fS]using q8) q9
   rw[qr r hr,←hF]
   simp[k r _ hr]
end Go.Dm.Tc
namespace Go.Dm.Tc
theorem r30(xc xd:Int)(t:Bool)(pA:List bC)(hl:pA.length≤1000)(tx tb tn:Nat)(nb:aF)(sA:bT nb)(hz:ZL nb 0)(w:DV)(f:cY)(h:aA)
  (h2:f 2=.ptr 0 6 0 0) (h3:f 3=.ptr 1 2 0 0) (h4:f 4=.ptr 2 6 0 0) (h9:f 9=.nsl) (hW:f 40=eL t 4 aG pA) (hL:f 41=.int .i64 pA.length) (hI:f 42=.int .i64 0)
  (g1:h.get 1=some (.arr tx 2 [.agg [.int .i64 xc,.int .i64 xd]] (some 1))) (g2:h.get 2=some (.arr tb 6 [zB] (some 1))) (gB:h.get 0=some (.arr tn 6 [.agg [.int .i64 nb.me,eL false 1 bQ nb.aL,eL false 4 aG nb.aR,eL false 2 eID nb.seen,eL false 7 aD nb.entries,w]] (some 1)))
  (hv:OwnR 3 h w 98 3 (nb.bU.map cT)) (aM:h.lim=0) (hn:3≤h.n) (wf:WF h) :
  dC (fin [.cell 4 (some 6),.t 5] (run D 63 [.block 2,.seq Vx] (.loop Ip) f h))=some (.tup [aH .none (pA.foldl (fG ⟨xc,xd⟩) (nb,[])).1,eL false 8 fM (pA.foldl (fG ⟨xc,xd⟩) (nb,[])).2]):=by
 cases pA with
 | nil =>
  have l2:2<h.n:=by omega
  have r1:∀o,resolve false (h.set 2 o) 198 w=some (eL false 3 cT nb.bU):=fun o=>(hv.aW (o:=o) wf (by decide:2<3) l2).resolve (n:=198) false (fun y _=>(lY y).1) (by decide)
  rw[aC Ip.eq_1]
  simp only[zB]at g2
  simp only[List.length_nil]at hL
  simp[Vx,hL,hI,h2,h4,h9,gB,g2,aM,l2,wf,turn,aI,r1]
  exact⟨rfl,rfl⟩
 | cons o rest =>
  have hi:0<(o::rest).length:=by simp
  obtain⟨⟨oc,od⟩,op,oq⟩:=o
  have Ef:=s98 nb oc od xc xd (-1) sA hz.sized
  have lS:bT (eT nb ⟨oc,od⟩ ⟨xc,xd⟩ (-1)).1:=by rw[jI];exact sA.take ..
  have Cw:ZL (eT nb ⟨oc,od⟩ ⟨xc,xd⟩ (-1)).1 0:=by rw[jI];exact hz.take sA ..
  have hdl:=Lz sA ⟨oc,od⟩ ⟨xc,xd⟩ (-1)
  have uO:=hz.ent
  obtain⟨m,eE⟩:∃ m,h.n=m+3:=⟨h.n-3,by omega⟩
  rw[aC Ip.eq_1]
  simp only[List.foldl_cons]
  have dK:fG ⟨xc,xd⟩ (nb,[]) ⟨⟨oc,od⟩,op,oq⟩=((eT nb ⟨oc,od⟩ ⟨xc,xd⟩ (-1)).1,(eT nb ⟨oc,od⟩ ⟨xc,xd⟩ (-1)).2):=by simp[fG]
  rw[dK]
  generalize hB1:(eT nb ⟨oc,od⟩ ⟨xc,xd⟩ (-1)).1=b1 at *
  generalize hO1:(eT nb ⟨oc,od⟩ ⟨xc,xd⟩ (-1)).2=o1 at *
  simp only[List.length_cons]at hL
  cases hv with
  | nil hv hx =>
   subst hv
   have Hh:DV.agg [.int .i64 nb.me,eL false 1 bQ nb.aL,eL false 4 aG nb.aR,eL false 2 eID nb.seen,eL false 7 aD nb.entries,.isl false 0 []]=aH .none nb:=by
    have:nb.bU=[]:=by simpa using hx
    unfold aH
    rw[this];rfl
   simp[hL,hI,hW,aG,h2,h3,h4,h9,eE,g1,gB,aM,wf,turn,e98,Hh,Ef]
   have ofr:∀p1 p2,fW (m+5) (((h.push p1).push p2).push (.arr 100 8 [] (some 0))) (m+3+1+1) 100 8 []:=fun p1 p2=>by
    have:=fW.fresh (lo:=m+5) (h:=(h.push p1).push p2) (ety:=100) (sz:=8) (xs:=[]) (cap:=some 0) (by simp[aM]) (by simp[eE])
    simpa[eE]using this
   generalize hA:aY _ _ _ _ _ _=A
   obtain⟨i1,K1,rfl,u1,x1,y1,j1⟩:=(ofr _ _).append (n:=0) rfl (by simp[wf]) (by simp[eE]) (by simp[aM]) hA (by simp) (by decide)
   clear hA
   have a0:=x1.get 0 (by omega)
   have a1:=x1.get 1 (by omega)
   have a2:=x1.get 2 (by omega)
   have a4:=x1.get (m+3+1) (by omega)
   have al:=x1.lim
   have an:=x1.le
   have ul:=u1.lo
   simp[eE,g1,g2,gB,aM,wf]at a0 a1 a2 a4 al u1
   have m4:¬m+3+1=i1:=by omega
   simp[h9,m4]
   generalize hA:aY _ _ _ _ _ _=A
   obtain⟨i2,K2,rfl,u2,x2,y2,j2⟩:=u1.append (by simp) x1.wf an (by omega) hA (by simp;omega) (by decide)
   clear hA
   have b0:=x2.get 0 (by omega)
   have b1':=x2.get 1 (by omega)
   have b2:=x2.get 2 (by omega)
   have bl:=x2.lim
   have bn:=x2.le
   have l0:0<K2.n:=by omega
   rw[a0]at b0
   rw[a1]at b1'
   rw[a2]at b2
   rw[al]at bl
   simp[hI,h2,b0,bl,l0,x2.wf,turn]
   generalize hF:upd _ 42 _=F
   have TS:OwnR 3 (K2.set 0 (.arr tn 6 [aH .none b1] (some 1))) (.sl i2 8 0 o1.length) 100 8 (o1.map fM):=by
    have:=(u2.toR.aW (o:=.arr tn 6 [aH .none b1] (some 1)) x2.wf (by omega:0<m+5) l0).lower (by omega:3≤m+5)
    simpa using this
   refine l30 xc xd t (⟨⟨oc,od⟩,op,oq⟩::rest) hl tx tb tn rest 1 b1 o1 _ _ F _ rfl lS Cw (Jp o1) (by simp;omega) ?_ ?_ ?_ ?_ ?_ ?_ ?_ ?_ ?_ ?_ TS ?_ ?_ ?_
   all_goals first
    | (rw[←hF];simp[h2,h3,h4,h9,hW,hL];done)
    | (simp[b0,b1',b2,bl,l0,x2.wf];done)
    | (simp;omega)
  | arr iw sp cap hv hg Nu dV =>
   have ho:fW 3 h iw 98 3 (nb.bU.map cT):=⟨⟨sp,cap,hg⟩,Nu,dV⟩
   have S6:=ho.lt
   subst hv
   simp only[List.length_map]at gB
   have k0:¬iw=0:=by omega
   have k1:¬iw=1:=by omega
   have k2:¬iw=2:=by omega
   have k0':¬0=iw:=by omega
   have k1':¬1=iw:=by omega
   have k2':¬2=iw:=by omega
   have k3:¬iw=m+3:=by omega
   have k4:¬iw=m+3+1:=by omega
   have k5:iw<m+3:=by omega
   have k6:iw<m+3+1:=by omega
   have tC:∀p1,iW (h.push p1) (.sl iw 3 0 nb.bU.length)=some (eL false 3 cT nb.bU,(h.push p1).set iw .dead):=fun p1=>ON ho.push rfl
   have Hh:DV.agg [.int .i64 nb.me,eL false 1 bQ nb.aL,eL false 4 aG nb.aR,eL false 2 eID nb.seen,eL false 7 aD nb.entries,eL false 3 cT nb.bU]=aH .none nb:=rfl
   simp[hL,hI,hW,aG,h2,h3,h4,h9,eE,g1,gB,aM,wf,turn,e98,Hh,Ef,tC,k0,k1,k2,k0',k1',k2',k3,k4,k5,k6]
   have ofr:∀p1 p2,fW (m+5) ((((h.set iw .dead).push p1).push p2).push (.arr 100 8 [] (some 0))) (m+3+1+1) 100 8 []:=fun p1 p2=>by
    have:=fW.fresh (lo:=m+5) (h:=((h.set iw .dead).push p1).push p2) (ety:=100) (sz:=8) (xs:=[]) (cap:=some 0) (by simp[aM]) (by simp[eE])
    simpa[eE]using this
   generalize hA:aY _ _ _ _ _ _=A
   obtain⟨i1,K1,rfl,u1,x1,y1,j1⟩:=(ofr _ _).append (n:=0) rfl (by simp[wf]) (by simp[eE]) (by simp[aM]) hA (by simp) (by decide)
   clear hA
   have a0:=x1.get 0 (by omega)
   have a1:=x1.get 1 (by omega)
   have a2:=x1.get 2 (by omega)
   have a4:=x1.get (m+3+1) (by omega)
   have al:=x1.lim
   have an:=x1.le
   have ul:=u1.lo
   simp[eE,g1,g2,gB,aM,wf,k0,k1,k2,k0',k1',k2',k3,k4,k5,k6]at a0 a1 a2 a4 al u1
   have m4:¬m+3+1=i1:=by omega
   simp[h9,m4]
   generalize hA:aY _ _ _ _ _ _=A
   obtain⟨i2,K2,rfl,u2,x2,y2,j2⟩:=u1.append (by simp) x1.wf an (by omega) hA (by simp;omega) (by decide)
   clear hA
   have b0:=x2.get 0 (by omega)
   have b1':=x2.get 1 (by omega)
   have b2:=x2.get 2 (by omega)
   have bl:=x2.lim
   have bn:=x2.le
   have l0:0<K2.n:=by omega
   rw[a0]at b0
   rw[a1]at b1'
   rw[a2]at b2
   rw[al]at bl
   simp[hI,h2,b0,bl,l0,x2.wf,turn]
   generalize hF:upd _ 42 _=F
   have TS:OwnR 3 (K2.set 0 (.arr tn 6 [aH .none b1] (some 1))) (.sl i2 8 0 o1.length) 100 8 (o1.map fM):=by
    have:=(u2.toR.aW (o:=.arr tn 6 [aH .none b1] (some 1)) x2.wf (by omega:0<m+5) l0).lower (by omega:3≤m+5)
    simpa using this
   refine l30 xc xd t (⟨⟨oc,od⟩,op,oq⟩::rest) hl tx tb tn rest 1 b1 o1 _ _ F _ rfl lS Cw (Jp o1) (by simp;omega) ?_ ?_ ?_ ?_ ?_ ?_ ?_ ?_ ?_ ?_ TS ?_ ?_ ?_
   all_goals first
    | (rw[←hF];simp[h2,h3,h4,h9,hW,hL];done)
    | (simp[b0,b1',b2,bl,l0,x2.wf];done)
    | (simp;omega)
end Go.Dm.Tc
namespace Go.Dm.Tc
theorem bT.endOwn{b:aF}(h:bT b)(x:ID):bT (endOwn b x):=by
 obtain⟨h1,h2,h3,h4,h5,h6,h7,h8,h9,iA,lI,gQ,nC⟩:=h
 refine⟨h1,h2,h3,h4,nV (fun o:fV=>o.id) x h5,h6,h7,h8,h9,?_,lI,gQ,nC⟩
 intro o ho
 exact iA o ((List.mem_filter.1 ho).1)
theorem ZL.endOwn{b:aF}(h:ZL b 0)(x:ID):ZL (endOwn b x) 0 :=
 ⟨h.aL,h.adv,h.seen,Nat.le_trans (List.length_filter_le ..) h.own,h.ent⟩
theorem s30(b:aF)(xc xd:Int)(hi:bT b)(hz:ZL b 0)(ha:b.aR.length≤1000) :
  pcF D t30 [aH .none b,.agg [.int .i64 xc,.int .i64 xd]]=some (.tup [aH .none (dH b ⟨xc,xd⟩).1,eL false 8 fM (dH b ⟨xc,xd⟩).2]):=by
 unfold pcF
 rw[aJ _ _ _ _ (by simp[t30])]
 simp[t30]
 generalize hF:upd _ 17 _=F
 generalize hH:aA.push _ _=H
 have g0:H.get 0=some (.arr 36 6 [aH .none b] (some 1)):=by rw[←hH];simp
 have g1:H.get 1=some (.arr 40 2 [.agg [.int .i64 xc,.int .i64 xd]] (some 1)):=by rw[←hH];simp
 have g2:H.get 2=some (.arr 36 6 [.agg [.int .i64 0,.nsl,.nsl,.nsl,.nsl,.nsl]] (some 1)):=by rw[←hH];simp
 have BF:H.n=3:=by rw[←hH];simp
 have aM:H.lim=0:=by rw[←hH];simp
 have wf:WF H:=by rw[←hH];simp
 refine m30 [] xc xd false b.bU hz.own _ H g1 aM (fun r=>dC (fin [.cell 4 (some 6),.t 5] r)=some (.tup [aH .none (dH b ⟨xc,xd⟩).1,eL false 8 fM (dH b ⟨xc,xd⟩).2])) b.bU 0 [] .nsl F H rfl ⟨Nat.zero_le _,Nat.zero_le _⟩ (by rw[←hF];simp) (by rw[←hF];simp) (by rw[←hF];simp[dG.none]) (by rw[←hF];simp) (by rw[←hF];simp) (.nil rfl rfl) (.refl (by omega) wf) fun f' h' v' q6 qr TW x=>?_
 have q2:f' 2=.ptr 0 6 0 0:=by rw[qr 2 (by decide),←hF];simp
 have q3:f' 3=.ptr 1 2 0 0:=by rw[qr 3 (by decide),←hF];simp
 have q4:f' 4=.ptr 2 6 0 0:=by rw[qr 4 (by decide),←hF];simp
 have a0:=(x.get 0 (by decide)).trans g0
 have a1:=(x.get 1 (by decide)).trans g1
 have a2:=(x.get 2 (by decide)).trans g2
 have al:=x.lim.trans aM
 have hn:=x.le
 have l0:0<h'.n:=by omega
 have l2:2<h'.n:=by omega
 simp only[List.nil_append]at TW
 have cJ:=TW.lenV
 simp only[List.length_map]at cJ
 by_cases he:(bM (fun o:fV=>o.id) ⟨xc,xd⟩ b.bU).length=b.bU.length
 ·have hu:dH b ⟨xc,xd⟩=(b,[]):=by simp only[dH,he,if_true]
  rw[hu]
  rw[he]at cJ
  simp[Vw,q2,q3,q4,q6,a0,a1,a2,al,cJ,l2,x.wf,turn,aI,hY]
 ·have hu:dH b ⟨xc,xd⟩=b.aR.foldl (fG ⟨xc,xd⟩) (endOwn b ⟨xc,xd⟩,[]):=by simp only[dH,if_neg he]
  rw[hu]
  have qQ:¬((bM (fun o:fV=>o.id) ⟨xc,xd⟩ b.bU).length:Int)=b.bU.length:=by omega
  simp[Vw,q2,q3,q4,q6,a0,a1,a2,al,cJ,he,qQ,l0,l2,x.wf,turn,TW.bE,TW.aP]
  generalize hF2:upd _ 42 _=F2
  refine r30 xc xd false b.aR ha 40 36 36 (endOwn b ⟨xc,xd⟩) (hi.endOwn _) (hz.endOwn _) v' F2 _ ?_ ?_ ?_ ?_ ?_ ?_ ?_ ?_ ?_ ?_ (TW.aW x.wf (by decide) l0) ?_ ?_ ?_
  all_goals first
   | (rw[←hF2];simp[q2,q3,q4];done)
   | (rw[←hF2];simp[q2,q3,q4,dG.none];done)
   | (simp[a1,l0,x.wf];rfl)
   | (simp[a1,a2,al,l0,x.wf,zB];done)
   | (simp[l0,x.wf];rfl)
   | (simp;omega)
end Go.Dm.Tc
namespace Go.Dm.Tc
theorem tX(t:Bool)(h:aA)(n:Nat):resolve t h (n+1) (.isl false 0 [])=some (.isl false 0 []):=rfl
def dS(b:aF)(q k:Int)(t s:ID)(p:bI):aF×List iR :=
 if k=1 then bK b q t p else if k=2 then bN b q t else if k=3 then gJ b q t s p else eT b t s q
theorem s23(b:aF)(q k tc td sc sd:Int)(p:bI)(hi:bT b)(hz:ZL b b.bU.length)(hp:bZ p)(hf:fE b q=true)(iG:b.aR.length<100000∧b.seen.length<100000)(hk:k=1∨k=2∨k=3∨k=4) :
  pcF D t23 [aH .none b,.int .i64 q,.agg [.int .i64 k,.int .i64 tc,.int .i64 td,.int .i64 sc,.int .i64 sd,bF p,.isl false 0 []]]=some (.tup [aH .none (dS b q k ⟨tc,td⟩ ⟨sc,sd⟩ p).1,eL false 8 fM (dS b q k ⟨tc,td⟩ ⟨sc,sd⟩ p).2,.isl false 0 []]):=by
 have h1:=s31 b tc td q p hi hz hp hf iG
 have h2:=s59 b tc td q hi hz.sized
 have h3:=s60 b k tc td sc sd q p hi hz.sized hp
 have h4:=s61 b k tc td sc sd q p hi hz.sized
 have Ea:∀os:List iR,bJ 199 (eL false 8 fM os)=true:=fun os=>eV (fun y _=>(fO y).2) 199 (by decide)
 unfold pcF
 rw[aJ _ _ _ _ (by simp[t23])]
 rcases hk with rfl|rfl|rfl|rfl
 ·simp[t23,dS,e31,h1,turn,aI,Ea]
 ·simp[t23,dS,e59,h2,turn,aI,Ea]
 ·simp[t23,dS,e60,tX,h3,turn,aI,Ea]
 ·simp[t23,dS,e61,tX,h4,turn,aI,Ea]
def fN(b:aF)(n:Int):Int:=(b.aL[(aT n 0 b.aL.length).toNat]?).getD (-1)
theorem s27(t:dG)(b:aF)(n:Int)(hz:fT b):pcF D t27 [aH t b,.int .i64 n]=some (.int .i64 (fN b n)):=by
 unfold fN
 have hw:=s8 n 0 b.aL.length (by omega) (by decide) (by have:=hz.aL;omega)
 obtain⟨w1,w2⟩:=cZ n (lo:=0) (hi:=b.aL.length) (by omega)
 generalize aT n 0 b.aL.length=w at *
 obtain⟨k,rfl⟩:∃ k:Nat,w=k:=⟨w.toNat,by omega⟩
 unfold pcF
 rw[aJ _ _ _ _ (by simp[t27])]
 by_cases hk:k<b.aL.length
 ·simp[t27,e8,hw,hk,bQ]
 ·simp[t27,e8,hw,hk]
end Go.Dm.Tc
namespace Go.Dm.Tc
structure wP(a b:aF)(k:Nat):Prop where
 me:b.me=a.me
 aL:b.aL=a.aL
 adv:b.aR=a.aR
 seen:b.seen=a.seen
 own:b.bU=a.bU
 ent:b.entries.length≤a.entries.length+k
theorem wP.refl(a:aF)(k:Nat):wP a a k:=⟨rfl,rfl,rfl,rfl,rfl,by omega⟩
theorem wP.trans{a b c:aF}{j k:Nat}(h1:wP a b j)(h2:wP b c k):wP a c (j+k) :=
 ⟨h2.me.trans h1.me,h2.aL.trans h1.aL,h2.adv.trans h1.adv,h2.seen.trans h1.seen,h2.own.trans h1.own,by have:=h1.ent;have:=h2.ent;omega⟩
theorem wP.mono{a b:aF}{j k:Nat}(h:wP a b j)(hk:j≤k):wP a b k:=⟨h.me,h.aL,h.adv,h.seen,h.own,by have:=h.ent;omega⟩
theorem Ps(b:aF)(e:aV):wP b (dY b e).1 1:=by
 obtain⟨h1,h2,h3,h4,h5,h6⟩:=uY b e
 exact⟨h5,h1,h2,h3,h4,h6⟩
theorem D2(bL:Int)(x:ID)(p:bI):∀(l:List fV) (st:aF×List iR),bT st.1→(∀o∈l,bZ o.pred)→bT (l.foldl (bV bL x p) st).1∧wP st.1 (l.foldl (bV bL x p) st).1 l.length
 | [],st,h,_=>⟨h,.refl _ _⟩
 | o::r,st,h,hp=>by
  have h1:bT (bV bL x p st o).1∧wP st.1 (bV bL x p st o).1 1:=by
   unfold bV
   split
   ·exact⟨h.add (by simp[fE]) (hp o (List.mem_cons_self ..)),Ps ..⟩
   ·exact⟨h,.refl _ _⟩
  have h2:=D2 bL x p r (bV bL x p st o) h1.1 fun o ho=>hp o (List.mem_cons_of_mem _ ho)
  exact⟨h2.1,(h1.2.trans h2.2).mono (by simp only[List.length_cons];omega)⟩
theorem Wf(x:ID)(p:bI)(hp:bZ p):∀(l:List bC) (st:aF×List iR),bT st.1→bT (l.foldl (eC x p) st).1∧wP st.1 (l.foldl (eC x p) st).1 l.length
 | [],st,h=>⟨h,.refl _ _⟩
 | o::r,st,h=>by
  have h1:bT (eC x p st o).1∧wP st.1 (eC x p st o).1 1:=by
   unfold eC
   split
   ·exact⟨h.add (by simp[fE]) hp,Ps ..⟩
   ·exact⟨h,.refl _ _⟩
  have h2:=Wf x p hp r (eC x p st o) h1.1
  exact⟨h2.1,(h1.2.trans h2.2).mono (by simp only[List.length_cons];omega)⟩
theorem Zt(x:ID):∀(l:List bC) (st:aF×List iR),bT st.1→bT (l.foldl (fG x) st).1∧wP st.1 (l.foldl (fG x) st).1 0
 | [],st,h=>⟨h,.refl _ _⟩
 | o::r,st,h=>by
  have h1:bT (fG x st o).1∧wP st.1 (fG x st o).1 0:=by
   unfold fG
   rw[jI]
   refine⟨h.take ..,?_⟩
   have hl:=Vs h o.id x (-1)
   rw[Of]at hl ⊢
   exact⟨rfl,rfl,rfl,rfl,rfl,hl⟩
  have h2:=Zt x r (fG x st o) h1.1
  exact⟨h2.1,(h1.2.trans h2.2).mono (by omega)⟩
end Go.Dm.Tc
namespace Go.Dm.Tc
theorem Sb(n:Nat):(n+1)*(n+1)=n*n+n+n+1:=by rw[Nat.add_mul,Nat.mul_add];omega
theorem wP.sz{a b:aF}{k n:Nat}(h:wP a b k)(z:SzK a n)(hk:k≤n+n+1):SzK b (n+1):=by
 obtain⟨h1,h2,h3,h4,h5,h6⟩:=h
 obtain⟨z1,z2,z3,z4,z5⟩:=z
 have:=Sb n
 exact⟨by rw[h2];exact z1,by rw[h3];omega,by rw[h4];omega,by rw[h5];omega,by omega⟩
theorem sG{b:aF}{n:Nat}(h:bT b)(z:SzK b n){bL:Int}{x:ID}{p:bI}(hf:fE b bL=true)(hp:bZ p):bT (bK b bL x p).1∧SzK (bK b bL x p).1 (n+1):=by
 unfold bK
 split
 ·rename_i hq
  have hi:=h.learn (a:=⟨x,p,bL⟩) hf hp
  have hk:=D2 bL x p b.bU ((bH b ⟨x,p,bL⟩).1,lL b.aL bL 1 x.aS x.seq 0 0 p) hi h.po
  refine⟨hk.1,?_⟩
  obtain⟨h1,h2,h3,h4,h5,h6⟩:=hk.2
  have z':=z.learn ⟨x,p,bL⟩
  have he:(bH b ⟨x,p,bL⟩).1.entries=b.entries:=by unfold bH;split<;>rfl
  have hn:(bH b ⟨x,p,bL⟩).1.aL=b.aL:=by unfold bH;split<;>rfl
  have ho:(bH b ⟨x,p,bL⟩).1.bU=b.bU:=by unfold bH;split<;>rfl
  obtain⟨z1,z2,z3,z4,z5⟩:=z
  have:=Sb n
  simp only at h2 h3 h4 h5 h6
  rw[he]at h6
  exact⟨by rw[h2,hn];exact z1,by rw[h3];exact z'.adv,by rw[h4];exact z'.seen,by rw[h5,ho];omega,by omega⟩
 ·exact⟨h,z.mono (by omega)⟩
theorem tU{b:aF}{n:Nat}(h:bT b)(z:SzK b n)(bL:Int)(x:ID):bT (bN b bL x).1∧SzK (bN b bL x).1 (n+1):=by
 unfold bN
 split
 ·exact⟨h.forget x bL,(z.forget x bL).mono (by omega)⟩
 ·exact⟨h,z.mono (by omega)⟩
theorem Kd{b:aF}{n:Nat}(h:bT b)(z:SzK b n){q:Int}{t s:ID}{p:bI}(hf:fE b q=true)(hp:bZ p):bT (gJ b q t s p).1∧SzK (gJ b q t s p).1 (n+1) :=
 ⟨h.add hf hp,z.add _⟩
theorem Pl{b:aF}{n:Nat}(h:bT b)(z:SzK b n)(t s:ID)(q:Int):bT (eT b t s q).1∧SzK (eT b t s q).1 (n+1):=by
 rw[jI]
 exact⟨h.take ..,(z.take h ..).mono (by omega)⟩
theorem Ja{b:aF}{n:Nat}(h:bT b)(z:SzK b n){x:ID}{p:bI}(hp:bZ p):bT (fC b x p).1∧SzK (fC b x p).1 (n+1):=by
 unfold fC
 split
 ·exact⟨h,z.mono (by omega)⟩
 ·rename_i hh
  have hi:=h.subOwn hp (BK h.ro x (by simpa using hh))
  have hk:=Wf x p hp b.aR (subOwn b x p,[]) hi
  refine⟨hk.1,?_⟩
  obtain⟨h1,h2,h3,h4,h5,h6⟩:=hk.2
  have hl:(subOwn b x p).bU.length=b.bU.length+1:=GI ..
  obtain⟨z1,z2,z3,z4,z5⟩:=z
  have:=Sb n
  simp only at h2 h3 h4 h5 h6
  exact⟨by rw[h2];exact z1,by rw[h3];exact Nat.le_succ_of_le z2,by rw[h4];exact Nat.le_succ_of_le z3,by rw[h5,hl];omega,by have:(subOwn b x p).entries=b.entries:=rfl;rw[this]at h6;omega⟩
theorem Eg{b:aF}{n:Nat}(h:bT b)(z:SzK b n)(x:ID):bT (dH b x).1∧SzK (dH b x).1 (n+1):=by
 unfold dH
 split
 ·exact⟨h,z.mono (by omega)⟩
 ·have hk:=Zt x b.aR (endOwn b x,[]) (h.endOwn x)
  have z':SzK (endOwn b x) n:=⟨z.aL,z.adv,z.seen,Nat.le_trans (List.length_filter_le ..) z.own,z.ent⟩
  exact⟨hk.1,hk.2.sz z' (by omega)⟩
end Go.Dm.Tc
