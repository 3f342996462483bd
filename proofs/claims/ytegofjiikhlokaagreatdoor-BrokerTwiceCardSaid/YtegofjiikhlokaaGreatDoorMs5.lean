/- A part of the proof. -/
import Derived.Test.YtegofjiikhlokaaGreatDoorMs4
import Derived.Test.YtegofjiikhlokaaGreatDoorMs2
set_option linter.all false
namespace Go.Dm.Tc
theorem N3(x:Fi):1≤(xB x).kind∧(xB x).kind≤5:=dB x.kind (by decide)
theorem N2(x:Fi):cB (xB x).pred:=by
 unfold xB
 simp only
 split
 ·exact fC ..
 ·exact cB.nil
theorem Xh(x:Fi):(xB x).gN.length≤5∧((xB x).kind≠5→(xB x).gN=[]):=by
 have:=EU x.thas x.tvals
 unfold xB
 simp only
 split
 ·exact⟨this,fun h=>absurd (by assumption) h⟩
 ·exact⟨by simp,fun _=>rfl⟩
theorem JV{b:aH}{n k:Nat}(hz:SzK b n)(hn:n≤20)(hk:k≤n):ZL b k :=
 ⟨by have:=hz.aM;omega,by have:=hz.adv;omega,by have:=hz.seen;omega,by have:=hz.own;omega,by have:=hz.ent;have:=Nat.mul_le_mul hn hn;omega⟩
theorem Zy(bK:Int)(x:ID)(p:bJ):∀(l:List fT) (st:aH×List jN),(l.foldl (dJ bK x p) st).1.aM=st.1.aM
 | [],_=>rfl
 | o::r,st=>by
  rw[List.foldl_cons,Zy bK x p r]
  unfold dJ
  split
  ·rw[Dq]
  ·rfl
theorem CV(b:aH)(q k:Int)(t s:ID)(p:bJ):(fZ b q k t s p).1.aM=b.aM:=by
 unfold fZ
 split
 ·unfold bW
  split
  ·rw[Zy];unfold bM;split<;>rfl
  ·rfl
 ·split
  ·unfold bS
   split
   ·unfold bU;split
    ·rfl
    ·split<;>rfl
   ·rfl
  ·split
   ·unfold gI;simp only;rw[Dq]
   ·rw[jW,Ed]
set_option maxRecDepth 16000 in
set_option maxHeartbeats 4000000 in
theorem r3(hR:pcF D t14 []=some (.bool true))(k:A8)(x:Fi)(bK:Int)(hk:∀z∈k.steps,z.has.length≤9223372036854775807)(hx:x.has.length≤9223372036854775807) :
  pcF D t3 [xQ k,wC x,.int .i64 bK]=some (.bool true):=by
 have hB:=s7 false k.aM k.steps hk
 have hM:=s9 x hx
 obtain⟨hi,hz⟩:=Tr k.aM k.steps
 have htr:=S6 k.aM k.steps
 have hJ:=Zo k.aM k.steps
 generalize vY k.aM k.steps=b at *
 have mk:=N3 x
 have mp:=N2 x
 have ma:=Xh x
 generalize xB x=m at *
 have z:=hz.sized (by decide)
 have eG:=hJ.ne
 have hnl:=hz.aM
 have w5:=s8 bK 0 ((b.aM.length:Int)-1) (by omega) (by decide) (by omega)
 have b5:=dB bK (lo:=0) (hi:=(b.aM.length:Int)-1) (by omega)
 generalize aS bK 0 ((b.aM.length:Int)-1)=F0 at *
 obtain⟨j,rfl⟩:∃ j:Nat,F0=j:=⟨F0.toNat,by omega⟩
 have hj:j<b.aM.length:=by omega
 have hwl:IntKind.i64.wrap ((b.aM.length:Int)-1)=(b.aM.length:Int)-1:=aT (by omega) (by omega)
 obtain⟨f,hf⟩:∃ f,b.aM[j]=f:=⟨_,rfl⟩
 have VB:hU b f=true:=by unfold hU;rw[←hf];simp
 unfold pcF
 rw[aJ _ _ _ _ (by simp[t3])]
 by_cases h5:m.kind=5
 ·obtain⟨N,C,hS,_,n1,n2⟩:=p10 b f m h5 hi z (by omega) (htr m.tree) hz.own
  have o1:=x12 m mp.names.1 (by omega) N n1
  have o2:=x13 m (by omega) C n2
  have hSame:=MY .none hi z .none b
  rw[decide_eq_true rfl]at hSame
  obtain⟨kd,⟨tc,td⟩,⟨ic,id⟩,pr,at'⟩:=m
  simp only at h5
  subst h5
  simp only[vU,wC]at hM hS
  simp[t3,xQ,wC,e7,hB,e8,w5,hwl,hj,hf,bO,e9,hM,e10,hS,turn,e11,hSame,e12,o1,e13,o2,e14,hR]
 ·have hk:m.kind=1∨m.kind=2∨m.kind=3∨m.kind=4:=by omega
  have tQ:=ma.2 h5
  obtain⟨kd,⟨tc,td⟩,⟨ic,id⟩,pr,at'⟩:=m
  simp only at h5 hk tQ mp
  subst tQ
  have hS:=s10 b f kd tc td ic id pr hi (JV hz (by decide) hz.own) mp VB (by have:=hz.adv;have:=hz.seen;omega) hk
  obtain⟨hic,hzc⟩:=CW (q:=f) (k:=kd) (t:=⟨tc,td⟩) (s:=⟨ic,id⟩) (p:=pr) hi hz VB mp
  have htw:=t6 (q:=f) (k:=kd) (t:=⟨tc,td⟩) (s:=⟨ic,id⟩) hi VB mp
  have hfc:hU (fZ b f kd ⟨tc,td⟩ ⟨ic,id⟩ pr).1 f=true:=by
   have hnr:=CV b f kd ⟨tc,td⟩ ⟨ic,id⟩ pr
   unfold hU at VB ⊢
   rw[hnr];exact VB
  generalize (fZ b f kd ⟨tc,td⟩ ⟨ic,id⟩ pr).1=c at *
  generalize (fZ b f kd ⟨tc,td⟩ ⟨ic,id⟩ pr).2=os at *
  have hQ:=s15 c f kd tc td ic id pr hic (JV hzc (by decide) hzc.own) mp hfc (by have:=hzc.adv;have:=hzc.seen;omega) hk htw
  simp only[vU,wC,iD]at hM
  simp[t3,xQ,wC,e7,hB,e8,w5,hwl,hj,hf,bO,e9,hM,e10,tW,hS,turn,h5,e15,hQ,e14,hR]
end Go.Dm.Tc
/-
BrokerTwice: chapter 14's runs,run;the law.
-/
namespace Go.Dm.Tc
theorem s14:pcF D t14 []=some (.bool true):=nX (n:=5000) (args:=[]) e14 rfl (by kernel_rfl)
theorem s3(k:A8)(x:Fi)(bK:Int)(hk:∀z∈k.steps,z.has.length≤9223372036854775807)(hx:x.has.length≤9223372036854775807):pcF D t3 [xQ k,wC x,.int .i64 bK]=some (.bool true) :=
 r3 s14 k x bK hk hx
end Go.Dm.Tc
