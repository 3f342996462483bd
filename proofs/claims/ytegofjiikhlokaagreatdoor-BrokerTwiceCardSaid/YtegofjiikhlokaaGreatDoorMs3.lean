/- A part of the proof. -/
import Derived.Test.YtegofjiikhlokaaGreatDoorMs2
import Derived.Test.YtegofjiikhlokaaGreatDoorMs1
set_option linter.all false
namespace Go.Dm.Tc
set_option maxRecDepth 20000
def yA(p:bJ):Prop:=(p.map (·.name)).Pairwise fun a b=>Go.Op.bytesLess a b=true
theorem TZ{a b:List UInt8}(h1:¬Go.Lib.compareBytes a b<0)(h2:Go.Lib.compareBytes a b≠0):Go.Op.bytesLess b a=true:=by
 have go:∀(a b:List UInt8),Go.Op.bytesLess a b=true∨a=b∨Go.Op.bytesLess b a=true:=by
  intro a
  induction a with
  | nil=>intro b;cases b<;>simp[Go.Op.bytesLess]
  | cons x a ih =>
   intro b
   cases b with
   | nil=>simp[Go.Op.bytesLess]
   | cons y b =>
    simp only[Go.Op.bytesLess]
    by_cases h1:x<y
    ·simp[h1]
    ·by_cases h2:y<x
     ·simp[h2]
     ·have:=II h1 h2
      subst this
      rcases ih b with h|h|h<;>simp[h]
 rcases go a b with h|h|h
 ·exact absurd (yQ.2 h) h1
 ·exact absurd (Dn.2 h) h2
 ·exact h
theorem yA.mono{p:bJ}(h:yA p)(s:List UInt8):∀i j (hi:i<p.length) (hj:j<p.length),i≤j→eO s p[j]<0→eO s p[i]<0:=by
 intro i j hi hj SY hc
 unfold eO at *
 rw[yQ]at *
 rcases Nat.lt_or_eq_of_le SY with bC|rfl
 ·have:=List.pairwise_iff_getElem.1 h i j (by simpa using hi) (by simpa using hj) bC
  simp only[List.getElem_map]at this
  exact xX this hc
 ·exact hc
theorem Y9{α:Type}{cm:α→Int}{xs:List α}{q:Nat}(hq:q<aV cm xs)(hl:q<xs.length):cm xs[q]<0:=by
 have:=List.not_of_lt_findIdx hq
 simpa using this
theorem MN{α:Type}{cm:α→Int}{xs:List α}(hl:aV cm xs<xs.length):¬cm xs[aV cm xs]<0:=by
 intro hc
 have h1:(fun x=>!decide (cm x<0)) (xs[aV cm xs])=true:=List.findIdx_getElem (w:=hl)
 have h2:(!decide (cm xs[aV cm xs]<0))=true:=h1
 rw[decide_eq_true hc]at h2
 cases h2
def yX(out:bJ)(c:eQ):Option bJ :=
 if eZ (eO c.name) out=true then(match out[aV (eO c.name) out]? with
  | some x=>(match gU x c with|some b=>some (out.set (aV (eO c.name) out) b)|none=>none)
  | none=>none)
 else if out.length=5 then none else some (out.take (aV (eO c.name) out)++c::out.drop (aV (eO c.name) out))
def mR:bJ→bJ→Option bJ
 | out,[]=>some out
 | out,c::r=>match yX out c with
  | some o=>mR o r
  | none=>none
theorem O1{a b x:eQ}(hn:a.name=b.name)(h:gU a b=some x):x.name=a.name:=by
 unfold gU at h
 repeat' split at h
 all_goals first
  | (cases h;done)
  | (cases h;first|rfl|exact hn.symm)
theorem Ke{a b x:eQ}(ha:kD a.kind)(hb:kD b.kind)(h:gU a b=some x):kD x.kind:=by
 unfold gU at h
 repeat' split at h
 all_goals first
  | (cases h;done)
  | (cases h;first|exact ha|exact hb)
theorem Hs{cm:eQ→Int}{out:bJ}(h:eZ cm out=true):∃ x,out[aV cm out]?=some x∧cm x=0∧aV cm out<out.length:=by
 unfold eZ at h
 split at h
 ·rename_i x hx
  exact⟨x,hx,by simpa using h,(List.getElem?_eq_some_iff.1 hx).1⟩
 ·cases h
theorem Z6{out:bJ}{c:eQ}{o:bJ}(hu:yA out)(hk:∀x∈out,kD x.kind)(hl:out.length≤5)(hc:kD c.kind)(h:yX out c=some o):yA o∧(∀x∈o,kD x.kind)∧o.length≤5:=by
 unfold yX at h
 split at h
 ·rename_i hh
  obtain⟨x,hx,Ao,bC⟩:=Hs hh
  rw[hx]at h
  simp only at h
  split at h
  ·rename_i b hb
   cases h
   have hxm:x∈out:=List.mem_of_getElem? hx
   have NG:b.name=x.name:=O1 (Dn.1 Ao) hb
   refine⟨?_,fun y hy=>?_,by simpa using hl⟩
   ·unfold yA at hu ⊢
    have:(out.set (aV (eO c.name) out) b).map (·.name)=out.map (·.name):=by
     rw[List.map_set]
     refine List.ext_getElem? fun i=>?_
     rw[List.getElem?_set]
     split
     ·rename_i e;subst e
      simp only[List.length_map,bC,if_true,List.getElem?_map,hx,Option.map_some,NG]
     ·rfl
    rw[this];exact hu
   ·rcases List.mem_or_eq_of_mem_set hy with h1|h1
    ·exact hk y h1
    ·subst h1;exact Ke (hk x hxm) hc hb
  ·cases h
 ·rename_i hh
  split at h
  ·cases h
  ·rename_i h5
   cases h
   refine⟨?_,fun y hy=>?_,by simp;omega⟩
   ·unfold yA at hu ⊢
    generalize sK:aV (eO c.name) out=k at *
    rw[List.map_append,List.map_cons,List.map_take,List.map_drop,List.pairwise_append,List.pairwise_cons]
    have hJ:∀n∈(out.map (·.name)).take k,Go.Op.bytesLess n c.name=true:=by
     intro n hn
     obtain⟨i,hi,rfl⟩:=List.mem_iff_getElem.1 hn
     simp only[List.length_take,List.length_map]at hi
     simp only[List.getElem_take,List.getElem_map]
     have:=Y9 (cm:=eO c.name) (xs:=out) (q:=i) (by rw[sK];omega) (by omega)
     exact yQ.1 this
    have nN:∀n∈(out.map (·.name)).drop k,Go.Op.bytesLess c.name n=true:=by
     intro n hn
     obtain⟨i,hi,rfl⟩:=List.mem_iff_getElem.1 hn
     simp only[List.length_drop,List.length_map]at hi
     simp only[List.getElem_drop,List.getElem_map]
     have HK:k<out.length:=by omega
     have h0:¬eO c.name out[k]<0:=by
      have:=MN (cm:=eO c.name) (xs:=out) (by rw[sK];exact HK)
      simp only[sK]at this
      exact this
     have h1:eO c.name out[k]≠0:=by
      intro e
      apply hh
      unfold eZ
      rw[sK,List.getElem?_eq_getElem HK]
      simp[e]
     have h2:=TZ h0 h1
     by_cases rY:i=0
     ·subst rY;simpa using h2
     ·have:=List.pairwise_iff_getElem.1 hu k (k+i) (by simpa using HK) (by simp;omega) (by omega)
      simp only[List.getElem_map]at this
      exact xX h2 this
    refine⟨hu.sublist (List.take_sublist ..),⟨nN,hu.sublist (List.drop_sublist ..)⟩,?_⟩
    intro x hx y hy
    rcases List.mem_cons.1 hy with rfl|hy
    ·exact hJ x hx
    ·exact xX (hJ x hx) (nN y hy)
   ·rcases List.mem_append.1 hy with h1|h1
    ·exact hk y (List.mem_of_mem_take h1)
    ·rcases List.mem_cons.1 h1 with rfl|h1
     ·exact hc
     ·exact hk y (List.mem_of_mem_drop h1)
theorem Nv(t:Bool)(h:aA)(ty:Nat)(k:IntKind)(m:Int):resolve t h 200 (.iface ty (.int k m))=some (.iface ty (.int k m)):=rfl
theorem s55(s:List UInt8)(i:Int)(ty:Nat)(e:Int):∃ T v,pcF D t55 [.str s,.int .i64 i,.iface ty (.int .i64 e)]=some (.iface T v)∧(∀h,resolve false h 199 (.iface T v)=some (.iface T v))∧bI 199 (.iface T v)=true:=by
 unfold pcF
 rw[aJ _ _ _ _ (by simp[t55])]
 simp[t55,uC,Gd]
 exact⟨_,_,rfl,fun _=>rfl,rfl⟩
end Go.Dm.Tc
/-
What functions compute,part 32: pred.Make.
-/
namespace Go.Dm.Tc
theorem l192(S:List Fr)(t:Bool)(l:bJ)(hl:l.length≤1000000)(hr:∀c∈l,dC c=true∧c.name.length≤1000000)(P:Res→Prop) :
  ∀(rest:bJ) (i:Nat) (f:cT) (h:aA),l.drop i=rest→f 0=eL t 5 aO l→f 3=.nili→f 13=eL t 5 aO l→f 14=.int .i64 l.length→f 15=.int .i64 i→h.lim=0→WF h →
  (∀f' h',f' 0=eL t 5 aO l→f' 3=.nili→h'.lim=0→WF h'→P (run D 75 S Pm f' h')) →
  P (run D 75 (.block 0::.seq Pm::S) (.loop Pl) f h):=by
 intro rest
 induction rest with
 | nil =>
  intro i f h hd h0 h3 lY Gc zC aL wf hP
  have hi:=bH hd
  have:¬(i<l.length):=by omega
  rw[aC Pl.eq_1]
  simp[Gc,zC,this]
  refine hP _ _ ?_ ?_ aL wf<;>simp[h0,h3]
 | cons c rest ih =>
  intro i f h hd h0 h3 lY Gc zC aL wf hP
  obtain⟨hi,he,eJ⟩:=bR hd
  have hc:=hr c (by rw[←he];exact List.getElem_mem hi)
  have hs:=s138 c.name c.kind c.lo c.hi c.text hc.2
  have uL:dC ⟨c.name,c.kind,c.lo,c.hi,c.text⟩=true:=hc.1
  rw[uL]at hs
  rw[aC Pl.eq_1]
  simp[lY,Gc,zC,hi,he,aO,aL,wf,turn,e138,hs]
  rw[aT (by omega) (by omega)]
  generalize hF:upd _ 15 _=F
  refine ih (i+1) F _ eJ ?_ ?_ ?_ ?_ ?_ ?_ ?_ hP
  ·rw[←hF];simp[h0]
  ·rw[←hF];simp[h3]
  ·rw[←hF];simp[lY]
  ·rw[←hF];simp[Gc]
  ·rw[←hF];simp
  ·simp[aL]
  ·simp[wf]
def wA(o:Option bJ)(r:Option DV):Prop :=
 match o with
 | some out=>r=some (.tup [eL false 5 aO out,.nili])
 | none=>∃ T v,r=some (.tup [.isl false 0 [],.iface T v])
theorem m192(t:Bool)(l:bJ)(hl:l.length≤1000000)(hr:∀c∈l,kD c.kind) :
  ∀(rest:bJ) (i:Nat) (out:bJ) (v:DV) (f:cT) (h:aA),l.drop i=rest→yA out→(∀c∈out,kD c.kind)→out.length≤5→f 3=.nili→f 27=eL t 5 aO l→f 28=.int .i64 l.length→f 29=.int .i64 i→f 6=v →
  Own 0 h v 96 5 (out.map aO)→h.lim=0→WF h →
  wA (mR out rest) (cW (fin [.t 2,.t 3] (run D 75 [.block 2,.seq D2] (.loop Pk) f h))):=by
 intro rest
 induction rest with
 | nil =>
  intro i out v f h hd hu hk h5 h3 TG VG ZV h6 ho aL wf
  have hi:=bH hd
  have:¬(i<l.length):=by omega
  have r1:resolve false h 199 v=some (eL false 5 aO out):=ho.toR.resolve false (fun y _=>(lW y).1) (by decide)
  rw[aC Pk.eq_1]
  simp[D2,VG,ZV,this,h6,h3,mR,wA,aI,r1]
  exact eS (fun y _=>(lW y).2) 199 (by decide)
 | cons c rest ih =>
  intro i out v f h hd hu hk h5 h3 TG VG ZV h6 ho aL wf
  obtain⟨hi,he,eJ⟩:=bR hd
  have hc:=hr c (by rw[←he];exact List.getElem_mem hi)
  have n0:0≤h.n:=Nat.zero_le _
  have r1:∀o,resolve true (h.push o) 200 v=some (eL true 5 aO out):=fun o=>ho.push.toR.resolve true (fun y _=>(lW y).1) (by decide)
  have hs:=s218 true out c.name (by omega) (hu.mono c.name)
  rw[aC Pk.eq_1]
  cases hh:eZ (eO c.name) out with
  | true =>
   obtain⟨x,hx,Ao,bC⟩:=Hs hh
   rw[hh]at hs
   cases ho with
   | nil hv hx=>simp at hx;subst hx;simp at bC
   | arr id hv hg Nf dS =>
    have Dy:bQ 5 v (.int .i64 (aV (eO c.name) out:Nat))=some (.ptr id 5 (aV (eO c.name) out) 0):=by rw[hv];simp[bQ,asI,bC]
    have Kq:=bB hg
    have eG:¬id=h.n:=by omega
    have Kl:¬h.n=id:=by omega
    have Sv:¬id=h.n+1:=by omega
    have hidn2:id<h.n+1+1:=by omega
    have hxm:x∈out:=List.mem_of_getElem? hx
    have hb:=s221 x c (hk x hxm) hc
    have uG:out[aV (eO c.name) out]=x:=by rw[List.getElem?_eq_getElem bC]at hx;exact Option.some.inj hx
    cases hj:gU x c with
    | none =>
     rw[hj]at hb
     simp only[aO,Option.getD,gK]at hb
     obtain⟨T,w,hw,Z8,US⟩:=s55 [112,114,101,100] i 65 5
     simp[TG,VG,ZV,hi,he,h6,h3,r1,aL,wf,turn,TR,hs,hg,Dy,Kq,bC,uG,eG,Kl,Sv,hidn2,e221,hb,e55,hw,Z8,US,Nv,aI,aO,mR,yX,hh,hx,hj,wA]
    | some b =>
     rw[hj]at hb
     simp only[aO,Option.getD,gK]at hb
     have rX:yX out c=some (out.set (aV (eO c.name) out) b):=by simp[yX,hh,hx,hj]
     obtain⟨g1,g2,g3⟩:=Z6 hu hk h5 hc rX
     have AD:mR out (c::rest)=mR (out.set (aV (eO c.name) out) b) rest:=by simp only[mR,rX]
     have hidn1:id<h.n+1:=by omega
     rw[AD]
     simp[TG,VG,ZV,hi,he,h6,h3,r1,aL,wf,turn,TR,hs,hg,Dy,Kq,hidn1,bC,uG,eG,Kl,Sv,hidn2,e221,hb,aO]
     rw[aT (by omega) (by omega)]
     generalize hF:upd _ 29 _=F
     refine ih (i+1) _ v F _ eJ g1 g2 g3 ?_ ?_ ?_ ?_ ?_ (.arr id (by rw[hv];simp) ?_ ?_ (Nat.zero_le _)) ?_ ?_
     ·rw[←hF];simp[h3]
     ·rw[←hF];simp[TG]
     ·rw[←hF];simp[VG]
     ·rw[←hF];simp
     ·rw[←hF];simp[h6]
     ·simp[eG,Kl,Sv,Kq,wf,List.map_set,aO]
     ·simp[aL]
     ·simp[aL]
     ·simp[wf]
  | false =>
   rw[hh]at hs
   by_cases hf:out.length=5
   ·obtain⟨T,w,hw,Z8,US⟩:=s55 [112,114,101,100] i 65 7
    have ZR:lenV (h.push (.arr 96 5 [aO c] (some 1))) 1 v=some (.int .i64 out.length):=by simpa using ho.push.toR.lenV
    simp only[aO]at ZR
    simp[TG,VG,ZV,hi,he,h6,h3,r1,aL,wf,turn,TR,hs,ZR,hf,e55,hw,Z8,US,Nv,aI,aO,mR,yX,hh,wA]
   ·have ZR:lenV (h.push (.arr 96 5 [aO c] (some 1))) 1 v=some (.int .i64 out.length):=by simpa using ho.push.toR.lenV
    simp only[aO]at ZR
    have hf':¬(out.length:Int)=5:=by omega
    have rX:yX out c=some (out.take (aV (eO c.name) out)++c::out.drop (aV (eO c.name) out)):=by simp[yX,hh,hf]
    obtain⟨g1,g2,g3⟩:=Z6 hu hk h5 hc rX
    have AD:mR out (c::rest)=mR (out.take (aV (eO c.name) out)++c::out.drop (aV (eO c.name) out)) rest:=by simp only[mR,rX]
    rw[AD]
    simp[TG,VG,ZV,hi,he,h6,h3,r1,aL,wf,turn,TR,hs,ZR,hf,hf',aO]
    generalize hA:fc D _ _ _=A
    obtain⟨v',K,rfl,p,x,_⟩:=q222 hA 0 out c (vety:=96) (c:=1) ho.push.push (by simp[aO]) (cZ _ _) (by omega) (by simp[wf]) (Nat.zero_le _) (by simp[aL])
    clear hA
    simp[ZV]
    rw[aT (by omega) (by omega)]
    generalize hF:upd _ 29 _=F
    refine ih (i+1) _ v' F K eJ g1 g2 g3 ?_ ?_ ?_ ?_ ?_ p ?_ x.wf
    ·rw[←hF];simp[h3]
    ·rw[←hF];simp[TG]
    ·rw[←hF];simp[VG]
    ·rw[←hF];simp
    ·rw[←hF];simp
    ·rw[x.lim];simp[aL]
theorem s192(t:Bool)(l:bJ)(hl:l.length≤1000000)(hr:∀c∈l,dC c=true∧c.name.length≤1000000)(hk:∀c∈l,kD c.kind):wA (mR [] l) (pcF D BU [eL t 5 aO l]):=by
 unfold pcF
 rw[aJ _ _ _ _ (by simp[BU])]
 simp[BU]
 generalize hF:upd _ 15 _=F
 refine l192 [] t l hl hr (fun r=>wA (mR [] l) (cW (fin [.t 2,.t 3] r))) l 0 F oH rfl ?_ ?_ ?_ ?_ ?_ ?_ ?_ fun f' h' k0 k3 klim kwf=>?_
 ·rw[←hF];simp
 ·rw[←hF];simp
 ·rw[←hF];simp
 ·rw[←hF];simp
 ·rw[←hF];simp
 ·simp
 ·simp
 ·simp[Pm,k0]
  refine m192 t l hl hk l 0 [] .nsl _ h' rfl (by simp[yA]) (by simp) (by simp) ?_ ?_ ?_ ?_ ?_ (.nil rfl rfl) klim kwf<;>simp[k3]
end Go.Dm.Tc
/-
What functions compute,part 33: rel.Sample,rel.Joint,rel.Meets.
-/
namespace Go.Dm.Tc
def pU(c:eQ):DV:=if c.kind=1 then .agg [.str c.name,.bool false,.int .i64 c.lo,.str []]else .agg [.str c.name,.bool true,.int .i64 0,.str c.text]
theorem vH(c:eQ):jP 20 (pU c)∧Unl 22 (pU c):=by
 unfold pU
 split
 ·exact⟨jJ (by simp[Dc,rG,fL]),kX (by
   intro x hx
   simp only[List.mem_cons,List.not_mem_nil,or_false]at hx
   rcases hx with rfl|rfl|rfl|rfl
   ·exact(uY _).mono (by decide)
   ·exact(wP _).mono (by decide)
   ·exact(lC _ _).mono (by decide)
   ·exact(uY _).mono (by decide))⟩
 ·exact⟨jJ (by simp[Dc,rG,fL]),kX (by
   intro x hx
   simp only[List.mem_cons,List.not_mem_nil,or_false]at hx
   rcases hx with rfl|rfl|rfl|rfl
   ·exact(uY _).mono (by decide)
   ·exact(wP _).mono (by decide)
   ·exact(lC _ _).mono (by decide)
   ·exact(uY _).mono (by decide))⟩
theorem s223(n:Int):pcF D BJ [.int .i64 n]=some (.agg [.bool false,.int .i64 n,.str []]):=by
 unfold pcF
 rw[aJ _ _ _ _ (by simp[BJ])]
 simp[BJ,turn]
theorem l193(t:Bool)(p:bJ)(hl:p.length≤1000000) :
  ∀(rest done:bJ) (i:Nat) (v:DV) (f:cT) (h:aA),p.drop i=rest→p=done++rest→f 3=v→f 7=eL t 5 aO p→f 8=.int .i64 p.length→f 9=.int .i64 i→OwnR 0 h v 108 4 (done.map pU)→h.lim=0→WF h →
  cW (fin [.t 2] (run D 31 [.block 0,.seq D1] (.loop Pj) f h))=some (eL false 4 pU p):=by
 intro rest
 induction rest with
 | nil =>
  intro done i v f h hd hp h3 h7 h8 h9 ho aL wf
  have hi:=bH hd
  have:¬(i<p.length):=by omega
  have qQ:done=p:=by simpa using hp.symm
  subst qQ
  have r1:resolve false h 200 v=some (eL false 4 pU done):=ho.resolve false (fun y _=>(vH y).1) (by decide)
  rw[aC Pj.eq_1]
  simp[D1,h8,h9,this,h3,r1]
  exact eS (fun y _=>(vH y).2) 200 (by decide)
 | cons c rest ih =>
  intro done i v f h hd hp h3 h7 h8 h9 ho aL wf
  obtain⟨hi,he,eJ⟩:=bR hd
  have qQ:p=(done++[c])++rest:=by simpa using hp
  have hdl:done.length+1≤1000000:=by have:=congrArg List.length qQ;simp at this;omega
  have Sp:=I7 c.text
  simp only[uQ]at Sp
  rw[aC Pj.eq_1]
  by_cases hk:c.kind=1
  ·simp[h3,h7,h8,h9,hi,he,aO,aL,wf,turn,Yw,Sp,e223,s223,hk]
   generalize hA:aY _ _ _ _ _ _=A
   obtain⟨v',K,rfl,p',x,_⟩:=OwnR.append (ho.push.push.push) (by simp[wf]) (Nat.zero_le _) (by simp[aL]) hA (by simp;omega) (by decide)
   clear hA
   simp[h9]
   rw[aT (by omega) (by omega)]
   generalize hF:upd _ 9 _=F
   refine ih (done++[c]) (i+1) v' F K eJ qQ ?_ ?_ ?_ ?_ ?_ ?_ x.wf
   ·rw[←hF];simp
   ·rw[←hF];simp[h7]
   ·rw[←hF];simp[h8]
   ·rw[←hF];simp
   ·simpa[pU,hk]using p'
   ·rw[x.lim];simp[aL]
  ·simp[h3,h7,h8,h9,hi,he,aO,aL,wf,turn,Yw,Sp,hk]
   generalize hA:aY _ _ _ _ _ _=A
   obtain⟨v',K,rfl,p',x,_⟩:=OwnR.append (ho.push.push.push) (by simp[wf]) (Nat.zero_le _) (by simp[aL]) hA (by simp;omega) (by decide)
   clear hA
   simp[h9]
   rw[aT (by omega) (by omega)]
   generalize hF:upd _ 9 _=F
   refine ih (done++[c]) (i+1) v' F K eJ qQ ?_ ?_ ?_ ?_ ?_ ?_ x.wf
   ·rw[←hF];simp
   ·rw[←hF];simp[h7]
   ·rw[←hF];simp[h8]
   ·rw[←hF];simp
   ·simpa[pU,hk]using p'
   ·rw[x.lim];simp[aL]
theorem s193(t:Bool)(p:bJ)(hl:p.length≤1000000):pcF D BT [eL t 5 aO p]=some (eL false 4 pU p):=by
 unfold pcF
 rw[aJ _ _ _ _ (by simp[BT])]
 simp[BT]
 refine l193 t p hl p [] 0 .nsl _ oH rfl rfl ?_ ?_ ?_ ?_ (.nil rfl rfl) ?_ ?_<;>simp
def rQ(a b:bJ):Bool:=gK (mR [] (a++b))
theorem Jl{c:eQ}(h:dC c=true):kD c.kind:=by
 unfold dC at h
 unfold kD
 simp only[Bool.and_eq_true]at h
 have h2:=h.2
 repeat' split at h2
 all_goals first
  | (rename_i e;exact .inl e)
  | (rename_i e;exact .inr (.inr e))
  | (rename_i e;exact .inr (.inl e))
  | (cases h2;done)
theorem Jm:∀{p:bJ} {n:Option (List UInt8)},mG n p=true→∀c∈p,dC c=true
 | [],_,_,c,h=>by cases h
 | x::r,n,h,c,hc=>by
  simp only[mG,Bool.and_eq_true]at h
  rcases List.mem_cons.1 hc with rfl|hc
  ·exact h.1.1
  ·exact Jm h.2 c hc
theorem cB.one{p:bJ}(h:cB p):∀c∈p,dC c=true∧c.name.length≤1000000:=by
 intro c hc
 have h1:=h.right
 unfold tK at h1
 simp only[Bool.and_eq_true]at h1
 exact⟨Jm h1.1 c hc,h.names.2 c hc⟩
theorem Oc:∀(l:bJ) {out o:bJ},out.length≤5→mR out l=some o→o.length≤5
 | [],out,o,h,he=>by simp only[mR,Option.some.injEq]at he;subst he;exact h
 | c::r,out,o,h,he=>by
  simp only[mR]at he
  split at he
  ·rename_i o1 h1
   refine Oc r ?_ he
   unfold yX at h1
   repeat' split at h1
   all_goals first
    | (cases h1;done)
    | (cases h1;simp only[List.length_set];exact h)
    | (cases h1;simp only[List.length_append,List.length_cons,List.length_take,List.length_drop];omega)
  ·cases he
theorem s154(a b:bJ)(ha:cB a)(hb:cB b):∃ x,pcF D CE [bE a,bE b]=some (.tup [x,.bool (rQ a b)]):=by
 have FI:=ha.len
 have hlb:=hb.len
 have uJ:∀c∈a++b,dC c=true∧c.name.length≤1000000:=fun c hc=>(List.mem_append.1 hc).elim (ha.one c) (hb.one c)
 have hm:=s192 true (a++b) (by simp;omega) uJ fun c hc=>Jl (uJ c hc).1
 unfold pcF
 rw[aJ _ _ _ _ (by simp[CE])]
 simp only[bE]
 simp[CE]
 generalize hA:aY _ _ _ _ _ _=A
 obtain⟨v1,K1,rfl,p1,x1,_⟩:=OwnR.append (lo:=0) (OwnR.fresh (lo:=0) (xs:=[]) (by simp) (by simp)) (by simp) (Nat.zero_le _) (by simp) hA (by simp;omega) (by decide)
 clear hA
 simp
 generalize hA:aY _ _ _ _ _ _=A
 obtain⟨v2,K2,rfl,p2,x2,_⟩:=OwnR.append p1 x1.wf (Nat.zero_le _) (by rw[x1.lim];simp) hA (by simp;omega) (by decide)
 clear hA
 have hp:OwnR 0 K2 v2 96 5 ((a++b).map aO):=by simpa using p2
 have r1:resolve true K2 200 v2=some (eL true 5 aO (a++b)):=hp.resolve true (fun y _=>(lW y).1) (by decide)
 unfold rQ
 cases hk:mR [] (a++b)with
 | none =>
  rw[hk]at hm
  obtain⟨T,w,hw⟩:=hm
  simp[e192,r1,hw,gK,uC,Gd,aI]
 | some out =>
  rw[hk]at hm
  simp only[wA]at hm
  have hol:out.length≤1000000:=by
   have:=Oc (a++b) (out:=[]) (by simp) hk
   omega
  have hs:=s193 false out hol
  have hu:bI 199 (eL false 4 pU out)=true:=eS (fun y _=>(vH y).2) 199 (by decide)
  simp[e192,r1,hm,gK,uC,Gd,aI,e193,hs,hu]
theorem s104(a b:bJ)(ha:cB a)(hb:cB b):pcF D CS [bE a,bE b]=some (.bool (rQ a b)):=by
 obtain⟨x,hx⟩:=s154 a b ha hb
 unfold pcF
 rw[aJ _ _ _ _ (by simp[CS])]
 simp[CS,e154,hx]
end Go.Dm.Tc
/-
What the reference's functions compute,part 9: two constraints in one.
-/
namespace Go.Dm.Tc
theorem YH(nm:List UInt8)(k lo hi:Int)(tx:List UInt8)(s:List UInt8) :
  pcF D Pq [.agg [.str nm,.int .i64 k,.int .i64 lo,.int .i64 hi,.str tx],.agg [.bool true,.int .i64 0,.str s]]=some (.bool (iY ⟨nm,k,lo,hi,tx⟩ s)):=by
 unfold pcF
 rw[aJ _ _ _ _ (by simp[Pq])]
 by_cases k1:k=1
 ·subst k1
  simp[Pq,iY]
 ·by_cases k2:k=2
  ·subst k2
   simp[Pq,iY]
  ·by_cases k3:k=3
   ·subst k3
    simp[Pq,iY,TS,RA]
   ·simp[Pq,iY,k1,k2,k3]
def sY(a b:eQ):eQ :=
 if a.kind=1∧b.kind=1 then {a with lo:=mxI a.lo b.lo,hi:=mnI a.hi b.hi}
 else if a.kind=1∨b.kind=1 then a
 else if a.kind=2 then a
 else if b.kind=2 then b
 else if b.text.length≤a.text.length then a else b
theorem s183(a b:eQ)(ha:kD a.kind)(hb:kD b.kind):pcF D yV [aO a,aO b]=some (.tup [aO (sY a b),.bool (gK (gU a b))]):=by
 obtain⟨nm,k,lo,hi,tx⟩:=a
 obtain⟨nm',k',lo',gJ,tx'⟩:=b
 simp only[kD]at ha hb
 unfold pcF
 rw[aJ _ _ _ _ (by simp[yV])]
 rcases ha with rfl|rfl|rfl
 ·rcases hb with rfl|rfl|rfl
  ·by_cases h:mnI hi gJ<mxI lo lo'
   ·have h':¬mxI lo lo'≤mnI hi gJ:=by omega
    simp only[mnI,mxI]at h h'
    simp[yV,aO,gU,sY,mnI,mxI,h,h',turn,aI,gK]
   ·have h':mxI lo lo'≤mnI hi gJ:=by omega
    simp only[mnI,mxI]at h h'
    simp[yV,aO,gU,sY,mnI,mxI,h,h',turn,aI,gK]
  ·simp[yV,aO,gU,sY,turn,aI,gK]
  ·simp[yV,aO,gU,sY,turn,aI,gK]
 ·rcases hb with rfl|rfl|rfl
  ·simp[yV,aO,gU,sY,turn,aI,gK]
  ·have hh:=YH nm' 2 lo' gJ tx' tx
   cases hq:iY ⟨nm',2,lo',gJ,tx'⟩ tx<;>rw[hq]at hh<;>simp[yV,aO,gU,sY,turn,aI,gK,i6,hh,hq]
  ·have hh:=YH nm' 3 lo' gJ tx' tx
   cases hq:iY ⟨nm',3,lo',gJ,tx'⟩ tx<;>rw[hq]at hh<;>simp[yV,aO,gU,sY,turn,aI,gK,i6,hh,hq]
 ·rcases hb with rfl|rfl|rfl
  ·simp[yV,aO,gU,sY,turn,aI,gK]
  ·have hh:=YH nm 3 lo hi tx tx'
   cases hq:iY ⟨nm,3,lo,hi,tx⟩ tx'<;>rw[hq]at hh<;>simp[yV,aO,gU,sY,turn,aI,gK,i6,hh,hq]
  ·by_cases hl:tx.length<tx'.length
   ·have Kn:¬(tx'.length:Int)≤tx.length:=by omega
    have P1:¬tx'.length≤tx.length:=by omega
    cases hq:iN tx' tx<;>simp[yV,aO,gU,sY,turn,aI,gK,TS,RA,hq,hl,Kn,P1]
   ·have Kn:(tx'.length:Int)≤tx.length:=by omega
    have P1:tx'.length≤tx.length:=by omega
    cases hq:iN tx tx'<;>simp[yV,aO,gU,sY,turn,aI,gK,TS,RA,hq,hl,Kn,P1]
theorem MZ{a b x:eQ}(ha:kD a.kind)(hb:kD b.kind)(h:gU a b=some x):sY a b=x:=by
 obtain⟨nm,k,lo,hi,tx⟩:=a
 obtain⟨nm',k',lo',gJ,tx'⟩:=b
 simp only[kD]at ha hb
 rcases ha with rfl|rfl|rfl<;>rcases hb with rfl|rfl|rfl<;>simp[gU,sY]at h ⊢
 all_goals first
  | exact h.2
  | (obtain⟨_,h⟩:=h;exact h)
  | (split at h<;>simp at h<;>simp_all<;>omega)
end Go.Dm.Tc
/-
What the reference's functions compute,part 10: a predicate Gu of constraints.
-/
namespace Go.Dm.Tc
def sM(out:bJ)(c:eQ):Option bJ :=
 if eZ (eO c.name) out=true then(match out[aV (eO c.name) out]? with
  | some x=>(match gU x c with|some b=>some (out.set (aV (eO c.name) out) b)|none=>none)
  | none=>none)
 else some (out.take (aV (eO c.name) out)++c::out.drop (aV (eO c.name) out))
def jV:bJ→bJ→Option bJ
 | out,[]=>some out
 | out,c::r=>match sM out c with
  | some o=>jV o r
  | none=>none
theorem Xq{out:bJ}{c:eQ}{o:bJ}(h:sM out c=some o):out.length≤o.length∧o.length≤out.length+1:=by
 unfold sM at h
 have:=cZ (eO c.name) out
 repeat' split at h
 all_goals first
  | (cases h;done)
  | (cases h;simp only[List.length_set];omega)
  | (cases h;simp only[List.length_append,List.length_cons,List.length_take,List.length_drop];omega)
theorem Ob:∀(l:bJ) {out o:bJ},jV out l=some o→out.length≤o.length
 | [],out,o,he=>by simp only[jV,Option.some.injEq]at he;subst he;exact Nat.le_refl _
 | c::r,out,o,he=>by
  simp only[jV]at he
  split at he
  ·rename_i o1 h1;exact Nat.le_trans (Xq h1).1 (Ob r he)
  ·cases he
theorem Sl:∀(l:bJ) {out:bJ},out.length≤5→gK (mR out l)=(match jV out l with|some o=>decide (o.length≤5)|none=>false)
 | [],out,h=>by simp[mR,jV,gK,h]
 | c::r,out,h=>by
  simp only[mR,jV]
  by_cases hh:eZ (eO c.name) out=true
  ·have e:yX out c=sM out c:=by
    unfold yX sM
    rw[if_pos hh,if_pos hh]
    try rfl
   rw[e]
   cases hi:sM out c with
   | none=>rfl
   | some o =>
    have hl:o.length≤5:=by
     unfold sM at hi
     rw[if_pos hh]at hi
     repeat' split at hi
     all_goals first
      | (cases hi;done)
      | (cases hi;simpa using h)
    exact Sl r hl
  ·by_cases h5:out.length=5
   ·have e1:yX out c=none:=by simp only[yX,hh,h5];rfl
    rw[e1]
    cases hi:sM out c with
    | none=>rfl
    | some o =>
     have hl:6≤o.length:=by
      unfold sM at hi
      rw[if_neg hh]at hi
      cases hi
      have:=cZ (eO c.name) out
      simp only[List.length_append,List.length_cons,List.length_take,List.length_drop]
      omega
     simp only[gK]
     cases hm:jV o r with
     | none=>rfl
     | some p =>
      have:=Ob r hm
      simp only
      rw[decide_eq_false (by omega)]
   ·have e:yX out c=sM out c:=by simp only[yX,sM,if_neg hh,if_neg h5]
    rw[e]
    cases hi:sM out c with
    | none=>rfl
    | some o=>exact Sl r (by have:=(Xq hi).2;omega)
theorem yN{out:bJ}{c:eQ}{o:bJ}(hk:∀x∈out,kD x.kind)(hc:kD c.kind)(h:sM out c=some o):∀x∈o,kD x.kind:=by
 unfold sM at h
 split at h
 ·rename_i hh
  obtain⟨x,hx,Ao,bC⟩:=Hs hh
  rw[hx]at h
  simp only at h
  split at h
  ·rename_i b hb
   cases h
   intro y hy
   rcases List.mem_or_eq_of_mem_set hy with h1|h1
   ·exact hk y h1
   ·subst h1;exact Ke (hk x (List.mem_of_getElem? hx)) hc hb
  ·cases h
 ·cases h
  intro y hy
  rcases List.mem_append.1 hy with h1|h1
  ·exact hk y (List.mem_of_mem_take h1)
  ·rcases List.mem_cons.1 h1 with rfl|h1
   ·exact hc
   ·exact hk y (List.mem_of_mem_drop h1)
theorem _root_.Go.Dm.OwnR.mapId{lo:Nat}{h:aA}{v:DV}{ety sz:Nat}{xs:List DV}(w:OwnR lo h v ety sz xs):Dm.mapId v=none:=by
 cases w with
 | nil hv _=>subst hv;rfl
 | arr _ _ _ hv=>subst hv;rfl
theorem n146(S:List Fr)(H:aA)(out:bJ)(c:eQ)(v:DV)(cid:Nat)(cp:Option Nat)(hl:out.length≤1000000)(gc:H.get cid=some (.arr 96 5 [aO c] cp))(ho:OwnR 0 H v 96 5 (out.map aO))(P:Res→Prop) :
  ∀(n j:Nat) (f:cT),aV (eO c.name) out-j=n→j≤aV (eO c.name) out→f 4=v→f 6=.ptr cid 5 0 0→f 7=.int .i64 j →
  (∀F:cT,F 7=.int .i64 (aV (eO c.name) out:Nat)→(∀r,r<13→r≠7→F r=f r)→P (run D 78 S wQ F H)) →
  P (run D 78 (.block 2::.seq wQ::S) (.loop Qb) f H):=by
 intro n
 have cH:=ho.lenV
 simp only[List.length_map]at cH
 simp only[aO]at gc
 have hmv:=ho.mapId
 have k:∀r q:Nat,r<13→13≤q→¬r=q:=fun r q h1 h2=>by omega
 induction n with
 | zero =>
  intro j f hn hj h4 h6 h7 hP
  have dS:aV (eO c.name) out=j:=by omega
  rw[aC Qb.eq_1]
  by_cases bC:j<out.length
  ·have hnot:Go.Op.bytesLess out[j].name c.name=false:=by
    have:=MN (cm:=eO c.name) (xs:=out) (by omega)
    simp only[dS]at this
    have h2:=mt yQ.2 this
    simpa using h2
   obtain⟨id,sp,cap,hv,hg,_,_,Dy,hx⟩:=ho.index (i:=j) (x:=aO out[j]) (by simp[bC]) .i64
   simp only[aO]at hx
   simp[h4,h6,h7,cH,bC,Dy,hg,hx,gc,hnot,hmv,-List.getElem?_map]
   exact hP _ (by simp[h7,dS]) fun r hr eG=>by simp[k r _ hr]
  ·simp[h4,h6,h7,cH,bC,hmv]
   exact hP _ (by simp[h7,dS]) fun r hr eG=>by simp[k r _ hr]
 | succ n ih =>
  intro j f hn hj h4 h6 h7 hP
  have bC:j<out.length:=by have:=cZ (eO c.name) out;omega
  have Xw:Go.Op.bytesLess out[j].name c.name=true:=yQ.1 (Y9 (cm:=eO c.name) (by omega) bC)
  obtain⟨id,sp,cap,hv,hg,_,_,Dy,hx⟩:=ho.index (i:=j) (x:=aO out[j]) (by simp[bC]) .i64
  simp only[aO]at hx
  rw[aC Qb.eq_1]
  simp[h4,h6,h7,cH,bC,Dy,hg,hx,gc,Xw,hmv,-List.getElem?_map]
  rw[aT (by omega) (by omega)]
  generalize hF:upd _ 7 _=F
  refine ih (j+1) F (by omega) (by omega) (by rw[←hF];simp[h4]) (by rw[←hF];simp[h6]) (by rw[←hF];simp) fun F' a b=>hP F' a fun r hr eG=>?_
  rw[b r hr eG,←hF]
  simp[k r _ hr,eG]
end Go.Dm.Tc
/-
What the reference's functions compute,part 11: its predicate Gu of constraints;do two predicates meet?
-/
namespace Go.Dm.Tc
def sH(o:Option bJ)(r:Option DV):Prop :=
 match o with
 | some out=>r=some (.tup [eL false 5 aO out,.bool true])
 | none=>r=some (.tup [.isl false 0 [],.bool false])
theorem ZS{cm:eQ→Int}{out:bJ}(h:eZ cm out=false)(hl:aV cm out<out.length):¬cm out[aV cm out]=0:=by
 unfold eZ at h
 rw[List.getElem?_eq_getElem hl]at h
 simpa using h
theorem m146(t:Bool)(l:bJ)(hl:l.length≤1000000)(hr:∀c∈l,kD c.kind) :
  ∀(rest:bJ) (i:Nat) (out:bJ) (v:DV) (f:cT) (h:aA),l.drop i=rest→(∀c∈out,kD c.kind)→out.length≤i→f 4=v→f 10=eL t 5 aO l→f 11=.int .i64 l.length→f 12=.int .i64 i →
  OwnR 0 h v 96 5 (out.map aO)→h.lim=0→WF h →
  sH (jV out rest) (cW (fin [.t 2,.t 3] (run D 78 [.block 0,.seq E5] (.loop Qa) f h))):=by
 intro rest
 induction rest with
 | nil =>
  intro i out v f h hd hk h5 h4 hY lG gE ho aL wf
  have hi:=bH hd
  have:¬(i<l.length):=by omega
  have r1:resolve false h 199 v=some (eL false 5 aO out):=ho.resolve false (fun y _=>(lW y).1) (by decide)
  rw[aC Qa.eq_1]
  simp[E5,lG,gE,this,h4,jV,sH,aI,r1]
  exact eS (fun y _=>(lW y).2) 199 (by decide)
 | cons c rest ih =>
  intro i out v f h hd hk h5 h4 hY lG gE ho aL wf
  obtain⟨hi,he,eJ⟩:=bR hd
  have hc:=hr c (by rw[←he];exact List.getElem_mem hi)
  rw[aC Qa.eq_1]
  simp[h4,hY,lG,gE,hi,he,aO,aL,wf,turn]
  generalize hF:upd _ 7 _=F
  have o1:OwnR 0 (h.push (.arr 96 5 [aO c] (some 1))) v 96 5 (out.map aO):=ho.push
  refine n146 _ (h.push (.arr 96 5 [aO c] (some 1))) out c v h.n (some 1) (by omega) (by simp) o1 (fun r=>sH (jV out (c::rest)) (cW (fin [.t 2,.t 3] r))) _ 0 F rfl (Nat.zero_le _) (by rw[←hF];simp[h4]) (by rw[←hF];simp) (by rw[←hF];simp) fun F' q7 qr=>?_
  have q4:F' 4=v:=by rw[qr 4 (by decide) (by decide),←hF];simp[h4]
  have q6:F' 6=.ptr h.n 5 0 0:=by rw[qr 6 (by decide) (by decide),←hF];simp
  have q10:F' 10=eL t 5 aO l:=by rw[qr 10 (by decide) (by decide),←hF];simp[hY]
  have q11:F' 11=.int .i64 l.length:=by rw[qr 11 (by decide) (by decide),←hF];simp[lG]
  have q12:F' 12=.int .i64 i:=by rw[qr 12 (by decide) (by decide),←hF];simp[gE]
  clear hF qr
  have cH:∀o,lenV (h.push o) 1 v=some (.int .i64 out.length):=fun o=>by simpa using(ho.push (o:=o)).lenV
  have hmv:=ho.mapId
  have n0:¬0=h.n+1:=by omega
  by_cases bC:aV (eO c.name) out<out.length
  ·obtain⟨id,sp,cap,hv,hg,_,_,Dy,hx⟩:=ho.index (i:=aV (eO c.name) out) (x:=aO out[aV (eO c.name) out]) (by simp[bC]) .i64
   have Kq:=bB hg
   have eG:¬id=h.n:=by omega
   have Kl:¬h.n=id:=by omega
   have Sv:¬id=h.n+1:=by omega
   have hxm:out[aV (eO c.name) out]∈out:=List.getElem_mem bC
   generalize Bs:out[aV (eO c.name) out]=x at *
   have hx?:out[aV (eO c.name) out]?=some x:=by rw[List.getElem?_eq_getElem bC,Bs]
   have hb:=s183 x c (hk x hxm) hc
   simp only[aO]at hx hb
   cases hh:eZ (eO c.name) out with
   | true =>
    obtain⟨x2,UR,Ao,_⟩:=Hs hh
    have:x2=x:=Option.some.inj (UR.symm.trans hx?)
    subst this
    have NG:x2.name=c.name:=Dn.1 Ao
    rw[NG]at hb
    cases hj:gU x2 c with
    | none =>
     rw[hj]at hb
     simp only[gK]at hb
     have rX:sM out c=none:=by simp only[sM,hh,if_true,hx?,hj]
     rw[show jV out (c::rest)=none from by simp only[jV,rX]]
     simp[wQ,q4,q6,q7,cH,hmv,bC,Dy,hg,hx,eG,Kl,Kq,aO,NG,e183,hb,aL,wf,turn,aI,sH,-List.getElem?_map]
    | some b =>
     rw[hj]at hb
     have hje:=MZ (hk x2 hxm) hc hj
     rw[hje]at hb
     simp only[gK]at hb
     have rX:sM out c=some (out.set (aV (eO c.name) out) b):=by simp only[sM,hh,if_true,hx?,hj]
     rw[show jV out (c::rest)=jV (out.set (aV (eO c.name) out) b) rest from by simp only[jV,rX]]
     have kZ:∀p1 p2 p3,elems (((h.push p1).push p2).push p3) 5 v=some (out.map aO):=fun p1 p2 p3=>ho.push.push.push.elems
     simp[wQ,q4,q6,q7,cH,hmv,bC,Dy,hg,hx,eG,Kl,Kq,aO,NG,e183,hb,aL,wf,turn,kZ,-List.getElem?_map]
     generalize hA:aY _ _ _ _ _ _=A
     obtain⟨i1,K1,rfl,u1,x1,y1,j1⟩:=(fO.fresh (lo:=h.n+2) (ety:=96) (sz:=5) (xs:=[]) (cap:=some 0) (by simp[aL]) (by simp)).append (n:=0) rfl (by simp[wf]) (by simp) (by simp[aL]) hA (by simp;omega) (by decide)
     clear hA
     have a1:=x1.get (h.n+1) (by omega)
     have b1:=x1.lim
     simp[aL]at a1 b1
     obtain⟨⟨sp1,cap1,g1⟩,l1,l2⟩:=u1
     have hlt1:=bB g1
     have hix1:bQ 5 (.sl i1 5 0 out.length) (.int .i64 (aV (eO c.name) out:Nat))=some (.ptr i1 5 (aV (eO c.name) out) 0):=by simp[bQ,asI,bC]
     have Z7:(List.map aO out++sp1)[aV (eO c.name) out]?=some (.agg [.str x2.name,.int .i64 x2.kind,.int .i64 x2.lo,.int .i64 x2.hi,.str x2.text]):=by
      rw[List.getElem?_append_left (by simpa using bC),List.getElem?_map,hx?];rfl
     simp[Iq,q4,q7,q12,a1,hix1,g1,b1,hlt1,Z7,x1.wf,-List.getElem?_map]
     rw[aT (by omega) (by omega)]
     generalize hF:upd _ 12 _=F2
     have hin2:=yN hk hc rX
     refine ih (i+1) (out.set (aV (eO c.name) out) b) (.sl i1 5 0 out.length) F2 _ eJ hin2 (by simp;omega) ?_ ?_ ?_ ?_ (.arr i1 sp1 cap1 (by simp) ?_ ?_ (Nat.zero_le _)) ?_ ?_
     ·rw[←hF];simp
     ·rw[←hF];simp[q10]
     ·rw[←hF];simp[q11]
     ·rw[←hF];simp
     ·simp[hlt1,x1.wf,List.map_set,aO,List.set_append,bC]
     ·simp[b1]
     ·simp[b1]
     ·simp[x1.wf]
   | false =>
    have NG:¬x.name=c.name:=fun e=>by
     have:=ZS hh bC
     rw[Bs]at this
     exact this (Dn.2 e)
    have rX:sM out c=some (out.take (aV (eO c.name) out)++c::out.drop (aV (eO c.name) out)):=by simp[sM,hh]
    have Of:=cZ (eO c.name) out
    simp only[List.length_map]at hv
    generalize sK:aV (eO c.name) out=k at *
    subst hv
    have AD:jV out (c::rest)=jV (out.take k++c::out.drop k) rest:=by simp only[jV,rX]
    rw[AD]
    have Ss:¬h.n+1=h.n:=by omega
    have Sw:k≤out.length+sp.length:=by omega
    have pN:min k out.length=k:=by omega
    have Gy:List.take k (List.map aO out++sp)=(out.take k).map aO:=by rw[List.take_append_of_le_length (by simpa using Of),List.map_take]
    have Su:¬h.n+1=id:=by omega
    have HO:List.take (out.length-k) (List.drop k (List.map aO out++sp))=(out.drop k).map aO:=by
     rw[List.drop_append_of_le_length (by simpa using Of),List.take_left' (by simp),List.map_drop]
    have hsum:k+(out.length-k)=out.length:=by omega
    simp[wQ,q4,q6,q7,bC,Dy,hg,hx,eG,Kl,Sv,Kq,aO,NG,aL,wf,turn,Of,Sw,Ss,Gy,pN,-List.getElem?_map]
    generalize hA:aY _ _ _ _ _ _=A
    obtain⟨i1,K1,rfl,u1,x1,y1,j1⟩:=(fO.fresh (lo:=h.n+1) (ety:=96) (sz:=5) (xs:=[]) (cap:=some 0) (by simp[aL]) (by simp)).append (n:=0) rfl (by simp[wf]) (by simp) (by simp[aL]) hA (by simp;omega) (by decide)
    clear hA
    have a0:=x1.get h.n (by omega)
    have a1:=x1.get id (by omega)
    have b1:=x1.lim
    have w1:=x1.wf
    have n1:=x1.le
    have ul1:=u1.lo
    have m0:¬id=i1:=by omega
    have m1:¬i1=id:=by omega
    have m2:¬h.n=i1:=by omega
    have m3:¬i1=h.n:=by omega
    simp[hg,eG,Sv,aL,Ss]at a0 a1 b1 u1
    simp[q4,q6,q7,a0,a1,b1,w1,m0,m1,m2,m3,Of,Sw,Su,Ss,pN,aO]
    generalize hA:aY _ _ _ _ _ _=A
    obtain⟨i2,K2,rfl,u2,x2,y2,j2⟩:=(u1.push (o:=_)).append (by simp[pN]) (by simp[w1]) (by simp;omega) (by simp[b1]) hA (by simp;omega) (by decide)
    clear hA
    have c1:=x2.get id (by omega)
    have d1:=x2.lim
    have n2:=x2.le
    have r1:¬id=K1.n:=by omega
    simp[a1,b1,r1]at c1 d1 u2
    simp[q4,q6,q7,eG,hg,c1,d1,x2.wf,m0,m1,m2,m3,Of,Sw,Su,Ss,pN,HO,hsum]
    generalize hA:aY _ _ _ _ _ _=A
    obtain⟨i3,K3,rfl,u3,x3,y3,j3⟩:=u2.append (by simp[pN]) x2.wf n2 (by omega) hA (by simp;omega) (by decide)
    clear hA
    have d3:=x3.lim
    simp[Iq,q12,pN]
    rw[aT (by omega) (by omega)]
    generalize hF:upd _ 12 _=F2
    have u4:=u3.toR.lower (Nat.zero_le _)
    have u5:OwnR 0 K3 (.sl i3 5 0 (k+1+(out.length-k))) 96 5 ((out.take k++c::out.drop k).map aO):=by
     have e2:((out.take k++c::out.drop k).map aO).length=k+1+(out.length-k):=by simp[pN];omega
     rw[←e2]
     simpa[aO]using u4
    refine ih (i+1) _ _ F2 K3 eJ (yN hk hc rX) (by simp;omega) ?_ ?_ ?_ ?_ u5 (by omega) x3.wf
    ·rw[←hF];simp[pN]
    ·rw[←hF];simp[q10]
    ·rw[←hF];simp[q11]
    ·rw[←hF];simp
  ·have hh:eZ (eO c.name) out=false:=by unfold eZ;rw[List.getElem?_eq_none (by omega)]
   have rX:sM out c=some (out.take (aV (eO c.name) out)++c::out.drop (aV (eO c.name) out)):=by simp[sM,hh]
   cases ho with
   | nil hv hx =>
    have ho0:out=[]:=by simpa using hx
    subst hv
    subst ho0
    have dS:aV (eO c.name) ([]:bJ)=0:=rfl
    rw[dS]at q7 rX bC
    have AD:jV [] (c::rest)=jV [c] rest:=by simp only[jV,rX];rfl
    rw[AD]
    have Ss:¬h.n+1=h.n:=by omega
    have Cq:∀H,iH H 5 .nsl none (some (.int .i64 0))=some .nsl:=fun _=>rfl
    have SN:∀H,iH H 5 .nsl (some (.int .i64 0)) none=some .nsl:=fun _=>rfl
    simp[wQ,q4,q6,q7,aO,aL,wf,turn,Ss,Cq]
    generalize hA:aY _ _ _ _ _ _=A
    obtain⟨i1,K1,rfl,u1,x1,y1,j1⟩:=(fO.fresh (lo:=h.n+1) (ety:=96) (sz:=5) (xs:=[]) (cap:=some 0) (by simp[aL]) (by simp)).append (n:=0) rfl (by simp[wf]) (by simp) (by simp[aL]) hA (by simp) (by decide)
    clear hA
    have a0:=x1.get h.n (by omega)
    have b1:=x1.lim
    have w1:=x1.wf
    have n1:=x1.le
    have ul1:=u1.lo
    have m2:¬h.n=i1:=by omega
    have m3:¬i1=h.n:=by omega
    simp[aL,Ss]at a0 b1 u1
    simp[q4,q6,q7,a0,b1,w1,m2,m3,Ss,aO]
    generalize hA:aY _ _ _ _ _ _=A
    obtain⟨i2,K2,rfl,u2,x2,y2,j2⟩:=(u1.push (o:=_)).append (by simp) (by simp[w1]) (by simp;omega) (by simp[b1]) hA (by simp) (by decide)
    clear hA
    have d1:=x2.lim
    have n2:=x2.le
    simp[b1]at d1 u2
    simp[q4,q6,q7,d1,x2.wf,m2,m3,Ss,SN]
    generalize hA:aY _ _ _ _ _ _=A
    obtain⟨i3,K3,rfl,u3,x3,y3,j3⟩:=u2.append (by simp) x2.wf n2 (by omega) hA (by simp) (by decide)
    clear hA
    have d3:=x3.lim
    simp[Iq,q12]
    rw[aT (by omega) (by omega)]
    generalize hF:upd _ 12 _=F2
    have u4:=u3.toR.lower (Nat.zero_le _)
    refine ih (i+1) _ _ F2 K3 eJ (yN hk hc rX) (by simp) ?_ ?_ ?_ ?_ (by simpa[aO]using u4) (by omega) x3.wf
    ·rw[←hF];simp
    ·rw[←hF];simp[q10]
    ·rw[←hF];simp[q11]
    ·rw[←hF];simp
   | arr id sp cap hv hg Nf dS =>
    have Kq:=bB hg
    have eG:¬id=h.n:=by omega
    have Kl:¬h.n=id:=by omega
    have Sv:¬id=h.n+1:=by omega
    have Of:=cZ (eO c.name) out
    simp only[List.length_map]at hv
    generalize sK:aV (eO c.name) out=k at *
    subst hv
    have AD:jV out (c::rest)=jV (out.take k++c::out.drop k) rest:=by simp only[jV,rX]
    rw[AD]
    have Ss:¬h.n+1=h.n:=by omega
    have Sw:k≤out.length+sp.length:=by omega
    have pN:min k out.length=k:=by omega
    have Gy:List.take k (List.map aO out++sp)=(out.take k).map aO:=by rw[List.take_append_of_le_length (by simpa using Of),List.map_take]
    have Su:¬h.n+1=id:=by omega
    have HO:List.take (out.length-k) (List.drop k (List.map aO out++sp))=(out.drop k).map aO:=by
     rw[List.drop_append_of_le_length (by simpa using Of),List.take_left' (by simp),List.map_drop]
    have hsum:k+(out.length-k)=out.length:=by omega
    simp[wQ,q4,q6,q7,bC,hg,eG,Kl,Sv,Kq,aO,aL,wf,turn,Of,Sw,Ss,Gy,pN,-List.getElem?_map]
    generalize hA:aY _ _ _ _ _ _=A
    obtain⟨i1,K1,rfl,u1,x1,y1,j1⟩:=(fO.fresh (lo:=h.n+1) (ety:=96) (sz:=5) (xs:=[]) (cap:=some 0) (by simp[aL]) (by simp)).append (n:=0) rfl (by simp[wf]) (by simp) (by simp[aL]) hA (by simp;omega) (by decide)
    clear hA
    have a0:=x1.get h.n (by omega)
    have a1:=x1.get id (by omega)
    have b1:=x1.lim
    have w1:=x1.wf
    have n1:=x1.le
    have ul1:=u1.lo
    have m0:¬id=i1:=by omega
    have m1:¬i1=id:=by omega
    have m2:¬h.n=i1:=by omega
    have m3:¬i1=h.n:=by omega
    simp[hg,eG,Sv,aL,Ss]at a0 a1 b1 u1
    simp[q4,q6,q7,a0,a1,b1,w1,m0,m1,m2,m3,Of,Sw,Su,Ss,pN,aO]
    generalize hA:aY _ _ _ _ _ _=A
    obtain⟨i2,K2,rfl,u2,x2,y2,j2⟩:=(u1.push (o:=_)).append (by simp[pN]) (by simp[w1]) (by simp;omega) (by simp[b1]) hA (by simp;omega) (by decide)
    clear hA
    have c1:=x2.get id (by omega)
    have d1:=x2.lim
    have n2:=x2.le
    have r1:¬id=K1.n:=by omega
    simp[a1,b1,r1]at c1 d1 u2
    simp[q4,q6,q7,eG,hg,c1,d1,x2.wf,m0,m1,m2,m3,Of,Sw,Su,Ss,pN,HO,hsum]
    generalize hA:aY _ _ _ _ _ _=A
    obtain⟨i3,K3,rfl,u3,x3,y3,j3⟩:=u2.append (by simp[pN]) x2.wf n2 (by omega) hA (by simp;omega) (by decide)
    clear hA
    have d3:=x3.lim
    simp[Iq,q12,pN]
    rw[aT (by omega) (by omega)]
    generalize hF:upd _ 12 _=F2
    have u4:=u3.toR.lower (Nat.zero_le _)
    have u5:OwnR 0 K3 (.sl i3 5 0 (k+1+(out.length-k))) 96 5 ((out.take k++c::out.drop k).map aO):=by
     have e2:((out.take k++c::out.drop k).map aO).length=k+1+(out.length-k):=by simp[pN];omega
     rw[←e2]
     simpa[aO]using u4
    refine ih (i+1) _ _ F2 K3 eJ (yN hk hc rX) (by simp;omega) ?_ ?_ ?_ ?_ u5 (by omega) x3.wf
    ·rw[←hF];simp[pN]
    ·rw[←hF];simp[q10]
    ·rw[←hF];simp[q11]
    ·rw[←hF];simp
theorem s146(t:Bool)(l:bJ)(hl:l.length≤1000000)(hr:∀c∈l,kD c.kind):sH (jV [] l) (pcF D CI [eL t 5 aO l]):=by
 unfold pcF
 rw[aJ _ _ _ _ (by simp[CI])]
 simp[CI]
 refine m146 t l hl hr l 0 [] .nsl _ oH rfl (by simp) (by simp) ?_ ?_ ?_ ?_ (.nil rfl rfl) ?_ ?_<;>simp
theorem s95(a b:bJ)(ha:cB a)(hb:cB b):pcF D t95 [bE a,bE b]=some (.bool (rQ a b)):=by
 have FI:=ha.len
 have hlb:=hb.len
 have uJ:∀c∈a++b,dC c=true∧c.name.length≤1000000:=fun c hc=>(List.mem_append.1 hc).elim (ha.one c) (hb.one c)
 have hm:=s146 true (a++b) (by simp;omega) fun c hc=>Jl (uJ c hc).1
 unfold pcF
 rw[aJ _ _ _ _ (by simp[t95])]
 simp only[bE]
 simp[t95]
 generalize hA:aY _ _ _ _ _ _=A
 obtain⟨v1,K1,rfl,p1,x1,_⟩:=OwnR.append (lo:=0) (OwnR.fresh (lo:=0) (xs:=[]) (by simp) (by simp)) (by simp) (Nat.zero_le _) (by simp) hA (by simp;omega) (by decide)
 clear hA
 simp
 generalize hA:aY _ _ _ _ _ _=A
 obtain⟨v2,K2,rfl,p2,x2,_⟩:=OwnR.append p1 x1.wf (Nat.zero_le _) (by rw[x1.lim];simp) hA (by simp;omega) (by decide)
 clear hA
 have hp:OwnR 0 K2 v2 96 5 ((a++b).map aO):=by simpa using p2
 have r1:resolve true K2 200 v2=some (eL true 5 aO (a++b)):=hp.resolve true (fun y _=>(lW y).1) (by decide)
 unfold rQ
 rw[Sl (a++b) (out:=[]) (by simp)]
 cases hk:jV [] (a++b)with
 | none =>
  rw[hk]at hm
  simp only[sH]at hm
  simp[e146,r1,hm,aI]
 | some out =>
  rw[hk]at hm
  simp only[sH]at hm
  simp[e146,r1,hm,aI]
  omega
end Go.Dm.Tc
/-
What functions compute,part 34: messages put out;to all neighbours but one.
-/
namespace Go.Dm.Tc
structure jN where
 to:Int
 kind:Int
 tree:ID
 id:ID
 pred:bJ
 deriving DecidableEq,Inhabited
def fY(o:jN):DV:=.agg [.int .i64 o.to,.int .i64 o.kind,.int .i64 o.tree.aW,.int .i64 o.tree.seq,.int .i64 o.id.aW,.int .i64 o.id.seq,bE o.pred,.isl false 0 []]
def jX(es:List DV)(os:List jN):Prop:=es.length=os.length∧∀(tag:Bool) (h:aA) (n:Nat),21≤n→es.mapM (resolve tag h n)=some (os.map fY)
theorem jX.nil:jX [] []:=⟨rfl,fun _ _ _ _=>rfl⟩
theorem jX.append{a b:List DV}{x y:List jN}(h1:jX a x)(h2:jX b y):jX (a++b) (x++y):=by
 refine⟨by simp[h1.1,h2.1],fun tag h n hn=>?_⟩
 rw[List.mapM_append,h1.2 tag h n hn,h2.2 tag h n hn]
 simp
def tX(to k tc td ic id:Int)(pd ad:DV):DV:=.agg [.int .i64 to,.int .i64 k,.int .i64 tc,.int .i64 td,.int .i64 ic,.int .i64 id,pd,ad]
def A6(pd:DV)(p:bJ):Prop:=pd=bE p∨(pd=.nsl∧p=[])
def PA(ad:DV):Prop:=ad=.nsl∨ad=.isl false 0 []
theorem A6.res{pd:DV}{p:bJ}(h:A6 pd p)(tag:Bool)(hp:aA)(n:Nat)(hn:20≤n):resolve tag hp n pd=some (bE p):=by
 obtain⟨m,rfl⟩:∃ m,n=m+1:=⟨n-1,by omega⟩
 rcases h with rfl|⟨rfl,rfl⟩
 ·exact Wl ..
 ·rfl
theorem PA.res{ad:DV}(h:PA ad)(tag:Bool)(hp:aA)(n:Nat)(hn:20≤n):resolve tag hp n ad=some (.isl false 0 []):=by
 obtain⟨m,rfl⟩:∃ m,n=m+1:=⟨n-1,by omega⟩
 rcases h with rfl|rfl
 ·rfl
 ·rfl
theorem LH{to k tc td ic id:Int}{pd ad:DV}{p:bJ}(hp:A6 pd p)(ha:PA ad)(tag:Bool)(h:aA)(n:Nat)(hn:21≤n):resolve tag h n (tX to k tc td ic id pd ad)=some (fY ⟨to,k,⟨tc,td⟩,⟨ic,id⟩,p⟩):=by
 obtain⟨m,rfl⟩:∃ m,n=m+1:=⟨n-1,by omega⟩
 obtain⟨q,rfl⟩:∃ q,m=q+1:=⟨m-1,by omega⟩
 have h1:=hp.res tag h (q+1) (by omega)
 have h2:=ha.res tag h (q+1) (by omega)
 unfold tX fY
 rw[Y3]
 simp[h1,h2]
theorem jX.one{to k tc td ic id:Int}{pd ad:DV}{p:bJ}(hp:A6 pd p)(ha:PA ad):jX [tX to k tc td ic id pd ad] [⟨to,k,⟨tc,td⟩,⟨ic,id⟩,p⟩] :=
 ⟨rfl,fun tag h n hn=>by simp only[List.mapM_cons,List.mapM_nil,LH hp ha tag h n hn];rfl⟩
theorem fK(o:jN):jP 20 (fY o)∧Unl 22 (fY o):=⟨jJ (by
  intro x hx
  simp only[List.mem_cons,List.not_mem_nil,or_false]at hx
  rcases hx with rfl|rfl|rfl|rfl|rfl|rfl|rfl|rfl
  all_goals first|exact fL _ _|exact gS false 5 aO o.pred|exact fun t h m hm=>by obtain⟨q,rfl,_⟩:=cL hm;rfl),kX (by
  intro x hx
  simp only[List.mem_cons,List.not_mem_nil,or_false]at hx
  rcases hx with rfl|rfl|rfl|rfl|rfl|rfl|rfl|rfl
  all_goals first|exact(lC _ _).mono (by decide)|exact(tT o.pred).mono (by decide)|exact fun n hn=>by obtain⟨q,rfl,_⟩:=cL (k:=20) hn;simp[bI])⟩
theorem pW{lo:Nat}{h:aA}{v:DV}{ety:Nat}{es:List DV}{os:List jN}(w:OwnR lo h v ety 8 es)(r:jX es os)(tag:Bool){n:Nat}(hn:22≤n):resolve tag h n v=some (eL tag 8 fY os):=by
 obtain⟨m,rfl,hm⟩:=cL (k:=21) hn
 cases w with
 | nil hv hx =>
  subst hv;subst hx
  have:os=[]:=List.length_eq_zero_iff.1 r.1.symm
  subst this;rfl
 | arr id sp cap hv hg hl hi =>
  subst hv
  have Du:=r.2 tag h m hm
  simp only[Dm.resolve,hg,true_and,Nat.zero_add,List.length_append,Nat.le_add_right,if_true,List.drop_zero,List.take_left,Du]
  rfl
def sQ(aM:List Int)(but k tc td ic id:Int)(p:bJ):List jN:=(aM.filter fun n=>!decide (n=but)).map fun n=>⟨n,k,⟨tc,td⟩,⟨ic,id⟩,p⟩
def gT(aM:List Int)(but k tc td ic id:Int)(pd ad:DV):List DV:=(aM.filter fun n=>!decide (n=but)).map fun n=>tX n k tc td ic id pd ad
theorem rN{but k tc td ic id:Int}{pd ad:DV}{p:bJ}(hp:A6 pd p)(ha:PA ad):∀(aM:List Int),jX (gT aM but k tc td ic id pd ad) (sQ aM but k tc td ic id p)
 | []=>jX.nil
 | x::r=>by
  have ih:=rN (but:=but) (k:=k) (tc:=tc) (td:=td) (ic:=ic) (id:=id) hp ha r
  unfold gT sQ at *
  by_cases hx:x=but
  ·simp only[List.filter_cons,hx,decide_true,Bool.not_true,Bool.false_eq_true,if_false];exact ih
  ·simp only[List.filter_cons,hx,decide_false,Bool.not_false,if_true,List.map_cons]
   exact jX.append (jX.one (to:=x) hp ha) ih
theorem l103(t:dA)(b:aH)(but k tc td ic id:Int)(pd ad:DV)(N:Nat)(ta tb:Nat)(hl:b.aM.length≤1000000)(h0:aA)(g0:h0.get N=some (.arr ta 6 [aE t b] (some 1)))(g1:h0.get (N+1)=some (.arr tb 7 [.agg [.int .i64 k,.int .i64 tc,.int .i64 td,.int .i64 ic,.int .i64 id,pd,ad]] (some 1)))(Nf:h0.lim≤N) :
  ∀(rest:List Int) (i:Nat) (es:List DV) (v:DV) (f:cT) (h:aA),b.aM.drop i=rest→es.length≤i→f 1=.int .i64 but→f 3=.ptr N 6 0 0→f 5=.ptr (N+1) 7 0 0→f 7=v→f 11=eL t.aM 1 bO b.aM→f 12=.int .i64 b.aM.length→f 13=.int .i64 i→OwnR (N+2) h v 100 8 es→Ext (N+2) h0 h →
  ∃ v' h',fin [.t 6] (run D 28 [.block 0,.seq G5] (.loop Qs) f h)=some (v',h')∧OwnR (N+2) h' v' 100 8 (es++gT rest but k tc td ic id pd ad)∧Ext (N+2) h0 h':=by
 intro rest
 induction rest with
 | nil =>
  intro i es v f h hd he h1 h3 h5 h7 lG gE lY ho x
  have hi:=bH hd
  have:¬(i<b.aM.length):=by omega
  rw[aC Qs.eq_1]
  simp[G5,gE,lY,this,h7]
  first
   | exact⟨_,_,⟨rfl,rfl⟩,by simpa[gT]using ho,x⟩
   | exact⟨by simpa[gT]using ho,x⟩
 | cons y rest ih =>
  intro i es v f h hd he h1 h3 h5 h7 lG gE lY ho x
  obtain⟨hi,kL,eJ⟩:=bR hd
  have a0:=(x.get N (by omega)).trans g0
  have a1:=(x.get (N+1) (by omega)).trans g1
  rw[aC Qs.eq_1]
  by_cases hy:y=but
  ·subst hy
   simp[h1,h3,h5,h7,lG,gE,lY,hi,kL,bO]
   rw[aT (by omega) (by omega)]
   generalize hF:upd _ 13 _=F
   have hr:gT (y::rest) y k tc td ic id pd ad=gT rest y k tc td ic id pd ad:=by simp[gT]
   rw[hr]
   refine ih (i+1) es v F h eJ (by omega) ?_ ?_ ?_ ?_ ?_ ?_ ?_ ho x
   all_goals (rw[←hF];simp[h1,h3,h5,h7,lG,gE])
  ·simp[h1,h3,h5,h7,lG,gE,lY,hi,kL,hy,a1,bO]
   generalize hA:aY _ _ _ _ _ _=A
   obtain⟨v',K,rfl,p',x',_⟩:=OwnR.append (ho.push) (by simp[x.wf]) (by have:=x.le;simp;omega) (by have:=x.le;have:=x.lim;simp;omega) hA (by simp;omega) (by decide)
   clear hA
   simp[lY]
   rw[aT (by omega) (by omega)]
   generalize hF:upd _ 13 _=F
   have hr:gT (y::rest) but k tc td ic id pd ad=tX y k tc td ic id pd ad::gT rest but k tc td ic id pd ad:=by simp[gT,hy]
   obtain⟨v2,K2,k1,k2,k3⟩:=ih (i+1) (es++[tX y k tc td ic id pd ad]) v' F K eJ (by simp;omega) (by rw[←hF];simp[h1]) (by rw[←hF];simp[h3]) (by rw[←hF];simp[h5]) (by rw[←hF];simp) (by rw[←hF];simp[lG]) (by rw[←hF];simp[gE]) (by rw[←hF];simp) (by simpa[tX]using p') (x.push.trans x')
   exact⟨v2,K2,k1,by rw[hr];simpa using k2,k3⟩
theorem q103{h:aA}{A:Option (DV×aA)}{t:dA}{b:aH}{but k tc td ic id:Int}{pd ad:DV}(hA:fc D 103 [aE t b,.int .i64 but,.agg [.int .i64 k,.int .i64 tc,.int .i64 td,.int .i64 ic,.int .i64 id,pd,ad]] h=A)(hl:b.aM.length≤1000000)(wf:WF h)(aL:h.lim≤h.n) :
  ∃ v' h',A=some (v',h')∧OwnR h.n h' v' 100 8 (gT b.aM but k tc td ic id pd ad)∧Ext h.n h h':=by
 subst hA
 rw[e103,aJ _ _ _ _ (by simp[JT])]
 simp[JT]
 generalize hF:upd _ 13 _=F
 generalize hH:aA.push _ _=H0
 have hn:h.n+2≤H0.n:=by rw[←hH];simp
 have g0:H0.get h.n=some (.arr 36 6 [aE t b] (some 1)):=by rw[←hH];simp
 have g1:H0.get (h.n+1)=some (.arr 44 7 [.agg [.int .i64 k,.int .i64 tc,.int .i64 td,.int .i64 ic,.int .i64 id,pd,ad]] (some 1)):=by rw[←hH];simp
 have hw:WF H0:=by rw[←hH];simp[wf]
 have hm:H0.lim≤h.n:=by rw[←hH];simpa using aL
 obtain⟨v',h',k1,k2,k3⟩:=l103 t b but k tc td ic id pd ad h.n _ _ hl H0 g0 g1 hm b.aM 0 [] .nsl F H0 rfl (by simp) (by rw[←hF];simp) (by rw[←hF];simp) (by rw[←hF];simp) (by rw[←hF];simp) (by rw[←hF];simp) (by rw[←hF];simp) (by rw[←hF];simp) (.nil rfl rfl) (.refl hn hw)
 refine⟨v',h',k1,by simpa using k2.lower (by omega:h.n≤h.n+2),?_⟩
 have k4:=k3.lower (by omega:h.n≤h.n+2)
 refine⟨k4.le,by rw[k4.lim,←hH];simp,fun id fI=>?_,k4.wf⟩
 rw[k4.get id fI,←hH]
 have e1:¬id=h.n:=by omega
 have e2:¬id=h.n+1:=by omega
 simp[e1,e2]
theorem l100(t:dA)(b:aH)(but k tc td ic id:Int)(pd ad:DV)(N:Nat)(ta tb:Nat)(hl:b.aM.length≤1000000)(h0:aA)(g0:h0.get N=some (.arr ta 6 [aE t b] (some 1)))(g1:h0.get (N+1)=some (.arr tb 7 [.agg [.int .i64 k,.int .i64 tc,.int .i64 td,.int .i64 ic,.int .i64 id,pd,ad]] (some 1)))(Nf:h0.lim≤N) :
  ∀(rest:List Int) (i:Nat) (es:List DV) (v:DV) (f:cT) (h:aA),b.aM.drop i=rest→es.length≤i→f 1=.int .i64 but→f 3=.ptr N 6 0 0→f 5=.ptr (N+1) 7 0 0→f 7=v→f 11=eL t.aM 1 bO b.aM→f 12=.int .i64 b.aM.length→f 13=.int .i64 i→OwnR (N+2) h v 100 8 es→Ext (N+2) h0 h →
  ∃ v' h',fin [.t 6] (run D 28 [.block 0,.seq G7] (.loop Qt) f h)=some (v',h')∧OwnR (N+2) h' v' 100 8 (es++gT rest but k tc td ic id pd ad)∧Ext (N+2) h0 h':=by
 intro rest
 induction rest with
 | nil =>
  intro i es v f h hd he h1 h3 h5 h7 lG gE lY ho x
  have hi:=bH hd
  have:¬(i<b.aM.length):=by omega
  rw[aC Qt.eq_1]
  simp[G7,gE,lY,this,h7]
  first
   | exact⟨_,_,⟨rfl,rfl⟩,by simpa[gT]using ho,x⟩
   | exact⟨by simpa[gT]using ho,x⟩
 | cons y rest ih =>
  intro i es v f h hd he h1 h3 h5 h7 lG gE lY ho x
  obtain⟨hi,kL,eJ⟩:=bR hd
  have a0:=(x.get N (by omega)).trans g0
  have a1:=(x.get (N+1) (by omega)).trans g1
  rw[aC Qt.eq_1]
  by_cases hy:y=but
  ·subst hy
   simp[h1,h3,h5,h7,lG,gE,lY,hi,kL,bO]
   rw[aT (by omega) (by omega)]
   generalize hF:upd _ 13 _=F
   have hr:gT (y::rest) y k tc td ic id pd ad=gT rest y k tc td ic id pd ad:=by simp[gT]
   rw[hr]
   refine ih (i+1) es v F h eJ (by omega) ?_ ?_ ?_ ?_ ?_ ?_ ?_ ho x
   all_goals (rw[←hF];simp[h1,h3,h5,h7,lG,gE])
  ·simp[h1,h3,h5,h7,lG,gE,lY,hi,kL,hy,a1,bO]
   generalize hA:aY _ _ _ _ _ _=A
   obtain⟨v',K,rfl,p',x',_⟩:=OwnR.append (ho.push) (by simp[x.wf]) (by have:=x.le;simp;omega) (by have:=x.le;have:=x.lim;simp;omega) hA (by simp;omega) (by decide)
   clear hA
   simp[lY]
   rw[aT (by omega) (by omega)]
   generalize hF:upd _ 13 _=F
   have hr:gT (y::rest) but k tc td ic id pd ad=tX y k tc td ic id pd ad::gT rest but k tc td ic id pd ad:=by simp[gT,hy]
   obtain⟨v2,K2,k1,k2,k3⟩:=ih (i+1) (es++[tX y k tc td ic id pd ad]) v' F K eJ (by simp;omega) (by rw[←hF];simp[h1]) (by rw[←hF];simp[h3]) (by rw[←hF];simp[h5]) (by rw[←hF];simp) (by rw[←hF];simp[lG]) (by rw[←hF];simp[gE]) (by rw[←hF];simp) (by simpa[tX]using p') (x.push.trans x')
   exact⟨v2,K2,k1,by rw[hr];simpa using k2,k3⟩
theorem q100{h:aA}{A:Option (DV×aA)}{t:dA}{b:aH}{but k tc td ic id:Int}{pd ad:DV}(hA:fc D 100 [aE t b,.int .i64 but,.agg [.int .i64 k,.int .i64 tc,.int .i64 td,.int .i64 ic,.int .i64 id,pd,ad]] h=A)(hl:b.aM.length≤1000000)(wf:WF h)(aL:h.lim≤h.n) :
  ∃ v' h',A=some (v',h')∧OwnR h.n h' v' 100 8 (gT b.aM but k tc td ic id pd ad)∧Ext h.n h h':=by
 subst hA
 rw[e100,aJ _ _ _ _ (by simp[JU])]
 simp[JU]
 generalize hF:upd _ 13 _=F
 generalize hH:aA.push _ _=H0
 have hn:h.n+2≤H0.n:=by rw[←hH];simp
 have g0:H0.get h.n=some (.arr 36 6 [aE t b] (some 1)):=by rw[←hH];simp
 have g1:H0.get (h.n+1)=some (.arr 44 7 [.agg [.int .i64 k,.int .i64 tc,.int .i64 td,.int .i64 ic,.int .i64 id,pd,ad]] (some 1)):=by rw[←hH];simp
 have hw:WF H0:=by rw[←hH];simp[wf]
 have hm:H0.lim≤h.n:=by rw[←hH];simpa using aL
 obtain⟨v',h',k1,k2,k3⟩:=l100 t b but k tc td ic id pd ad h.n _ _ hl H0 g0 g1 hm b.aM 0 [] .nsl F H0 rfl (by simp) (by rw[←hF];simp) (by rw[←hF];simp) (by rw[←hF];simp) (by rw[←hF];simp) (by rw[←hF];simp) (by rw[←hF];simp) (by rw[←hF];simp) (.nil rfl rfl) (.refl hn hw)
 refine⟨v',h',k1,by simpa using k2.lower (by omega:h.n≤h.n+2),?_⟩
 have k4:=k3.lower (by omega:h.n≤h.n+2)
 refine⟨k4.le,by rw[k4.lim,←hH];simp,fun id fI=>?_,k4.wf⟩
 rw[k4.get id fI,←hH]
 have e1:¬id=h.n:=by omega
 have e2:¬id=h.n+1:=by omega
 simp[e1,e2]
end Go.Dm.Tc
/-
What functions compute,part 35: an advertisement comes by a link.
-/
namespace Go.Dm.Tc
theorem YJ(tc td sc sd:Int)(p:bJ)(q:Int)(u:Bool):pcF D CR [.agg [.int .i64 tc,.int .i64 td,.int .i64 sc,.int .i64 sd,bE p,.int .i64 q,.bool u]]=some (.agg [.int .i64 3,.int .i64 tc,.int .i64 td,.int .i64 sc,.int .i64 sd,bE p,.isl false 0 []]):=by
 unfold pcF
 rw[aJ _ _ _ _ (by simp[CR])]
 simp[CR,turn]
theorem s97(tc td sc sd:Int)(p:bJ)(q:Int)(u:Bool):pcF D t97 [.agg [.int .i64 tc,.int .i64 td,.int .i64 sc,.int .i64 sd,bE p,.int .i64 q,.bool u]]=some (.agg [.int .i64 3,.int .i64 tc,.int .i64 td,.int .i64 sc,.int .i64 sd,bE p,.isl false 0 []]):=by
 unfold pcF
 rw[aJ _ _ _ _ (by simp[t97])]
 simp[t97,turn]
structure ZL(b:aH)(k:Nat):Prop where
 aM:b.aM.length≤100000
 adv:b.aR.length≤100000
 seen:b.seen.length≤100000
 own:b.bT.length≤100000
 ent:b.entries.length+k≤100000
theorem ZL.sized{b:aH}{k:Nat}(h:ZL b k):fG b:=⟨h.aM,h.adv,h.seen,by have:=h.ent;omega,h.own⟩
theorem ZL.less{b:aH}{k m:Nat}(h:ZL b k)(hm:m≤k):ZL b m:=⟨h.aM,h.adv,h.seen,h.own,by have:=h.ent;omega⟩
theorem yS(b:aH)(e:aX):(dW b e).1.aM=b.aM∧(dW b e).1.aR=b.aR∧(dW b e).1.seen=b.seen∧(dW b e).1.bT=b.bT∧(dW b e).1.me=b.me∧(dW b e).1.entries.length≤b.entries.length+1:=by
 unfold dW
 split
 ·exact⟨rfl,rfl,rfl,rfl,rfl,by simp only[Kg];omega⟩
 ·exact⟨rfl,rfl,rfl,rfl,rfl,by simp⟩
theorem ZL.add{b:aH}{k:Nat}(h:ZL b (k+1))(e:aX):ZL (dW b e).1 k:=by
 obtain⟨h1,h2,h3,h4,_,h5⟩:=yS b e
 have:=h.ent
 exact⟨by rw[h1];exact h.aM,by rw[h2];exact h.adv,by rw[h3];exact h.seen,by rw[h4];exact h.own,by omega⟩
def dJ(bK:Int)(x:ID)(p:bJ)(st:aH×List jN)(o:fT):aH×List jN :=
 if rQ o.pred p=true then((dW st.1 ⟨x,o.id,o.pred,-1,false⟩).1,if(dW st.1 ⟨x,o.id,o.pred,-1,false⟩).2=true then st.2++[⟨bK,3,x,o.id,o.pred⟩]else st.2)
 else st
def bW(b:aH)(bK:Int)(x:ID)(p:bJ):aH×List jN :=
 if(bM b ⟨x,p,bK⟩).2=true then b.bT.foldl (dJ bK x p) ((bM b ⟨x,p,bK⟩).1,sQ b.aM bK 1 x.aW x.seq 0 0 p)else(b,[])
def zB:DV:=.agg [.int .i64 0,.nsl,.nsl,.nsl,.nsl,.nsl]
theorem l31(xc xd bK:Int)(p:bJ)(hp:cB p)(t:Bool)(bT:List fT)(ho:∀o∈bT,cB o.pred)(hl:bT.length≤100000)(tx tb tn:Nat) :
  ∀(rest:List fT) (i:Nat) (nb:aH) (fE:List jN) (es:List DV) (v:DV) (f:cT) (h:aA),bT.drop i=rest→cD nb→ZL nb rest.length→jX es fE→es.length+rest.length≤1000000 →
  f 1=.int .i64 bK→f 3=bE p→f 6=.ptr 1 2 0 0→f 8=.ptr 2 6 0 0→f 4=.ptr 0 6 0 0→f 11=v→f 35=eL t 3 cP bT→f 36=.int .i64 bT.length→f 37=.int .i64 i →
  h.get 1=some (.arr tx 2 [.agg [.int .i64 xc,.int .i64 xd]] (some 1))→h.get 2=some (.arr tb 6 [zB] (some 1))→h.get 0=some (.arr tn 6 [aE .none nb] (some 1))→OwnR 3 h v 100 8 es→h.lim=0→3≤h.n→WF h →
  cW (fin [.cell 8 (some 6),.t 9] (run D 69 [.block 0,.seq JI] (.loop W4) f h))=some (.tup [aE .none (rest.foldl (dJ bK ⟨xc,xd⟩ p) (nb,fE)).1,eL false 8 fY (rest.foldl (dJ bK ⟨xc,xd⟩ p) (nb,fE)).2]):=by
 intro rest
 induction rest with
 | nil =>
  intro i nb fE es v f h hd rY hz hr Au h1 h3 h6 h8 hB hO hW hL hI g1 g2 gB hv aL hn wf
  have hi:=bH hd
  have:¬(i<bT.length):=by omega
  have l2:2<h.n:=by omega
  have n2:¬0=2:=by decide
  have r1:=fun o=>pW (hv.aU (o:=o) wf (by decide:2<3) l2) hr false (n:=199) (by decide)
  have hu:bI 199 (eL false 8 fY fE)=true:=eS (fun y _=>(fK y).2) 199 (by decide)
  rw[aC W4.eq_1]
  simp only[zB]at g2
  simp[JI,hL,hI,this,h8,hB,hO,gB,g2,aL,l2,wf,turn,aI,r1,hu]
 | cons o rest ih =>
  intro i nb fE es v f h hd rY hz hr Au h1 h3 h6 h8 hB hO hW hL hI g1 g2 gB hv aL hn wf
  obtain⟨hi,he,eJ⟩:=bR hd
  have Hp:=ho o (by rw[←he];exact List.getElem_mem hi)
  obtain⟨⟨oc,od⟩,op⟩:=o
  simp only at Hp
  have hm:=s95 op p Hp hp
  have oJ:=Z4 rY hz.sized xc xd oc od Hp (-1) false
  have lO:=rY.add (e:=⟨⟨xc,xd⟩,⟨oc,od⟩,op,-1,false⟩) (by simp[hU]) Hp
  have Cq:=hz.add ⟨⟨xc,xd⟩,⟨oc,od⟩,op,-1,false⟩
  obtain⟨m,eB⟩:∃ m,h.n=m+3:=⟨h.n-3,by omega⟩
  simp only[List.length_cons]at Au
  rw[aC W4.eq_1]
  simp only[List.foldl_cons]
  cases hq:rQ op p with
  | false =>
   rw[hq]at hm
   have dK:dJ bK ⟨xc,xd⟩ p (nb,fE) ⟨⟨oc,od⟩,op⟩=(nb,fE):=by simp[dJ,hq]
   rw[dK]
   simp[hL,hI,hW,hi,he,cP,h3,aL,wf,turn,e95,hm]
   rw[aT (by omega) (by omega)]
   generalize hF:upd _ 37 _=F
   refine ih (i+1) nb fE es v F _ eJ rY (hz.less (by simp)) hr (by omega) ?_ ?_ ?_ ?_ ?_ ?_ ?_ ?_ ?_ ?_ ?_ ?_ hv.push ?_ ?_ ?_
   all_goals first
    | (rw[←hF];simp[h1,h3,h6,h8,hB,hO,hW,hL];done)
    | (simp[eB,g1,g2,gB,aL,wf];done)
    | (simp[eB];omega)
  | true =>
   rw[hq]at hm
   cases hu:(dW nb ⟨⟨xc,xd⟩,⟨oc,od⟩,op,-1,false⟩).2 with
   | false =>
    rw[hu]at oJ
    have dK:dJ bK ⟨xc,xd⟩ p (nb,fE) ⟨⟨oc,od⟩,op⟩=((dW nb ⟨⟨xc,xd⟩,⟨oc,od⟩,op,-1,false⟩).1,fE):=by simp[dJ,hq,hu]
    rw[dK]
    simp[hL,hI,hW,hi,he,cP,h3,h6,hB,eB,g1,gB,aL,wf,turn,e95,hm,e96,oJ]
    rw[aT (by omega) (by omega)]
    generalize hF:upd _ 37 _=F
    refine ih (i+1) _ fE es v F _ eJ lO Cq hr (by omega) ?_ ?_ ?_ ?_ ?_ ?_ ?_ ?_ ?_ ?_ ?_ ?_ (((hv.aU wf (by decide:0<3) (by omega)).push).push) ?_ ?_ ?_
    all_goals first
     | (rw[←hF];simp[h1,h3,h6,h8,hB,hO,hW,hL];done)
     | (simp[eB,g1,g2,gB,aL,wf];done)
     | (simp[eB];omega)
   | true =>
    rw[hu]at oJ
    have dK:dJ bK ⟨xc,xd⟩ p (nb,fE) ⟨⟨oc,od⟩,op⟩=((dW nb ⟨⟨xc,xd⟩,⟨oc,od⟩,op,-1,false⟩).1,fE++[⟨bK,3,⟨xc,xd⟩,⟨oc,od⟩,op⟩]):=by simp[dJ,hq,hu]
    rw[dK]
    simp[hL,hI,hW,hi,he,cP,h1,h3,h6,hB,hO,eB,g1,gB,aL,wf,turn,e95,hm,e96,oJ,e97,s97]
    generalize hA:aY _ _ _ _ _ _=A
    obtain⟨v',K,rfl,p',x',_⟩:=OwnR.append ((((hv.aU wf (by decide:0<3) (by omega)).push).push).push) (by simp[wf]) (by simp[eB]<;>omega) (by simp[aL]) hA (by simp;omega) (by decide)
    clear hA
    have a1:=x'.get 1 (by decide)
    have a2:=x'.get 2 (by decide)
    have aB:=x'.get 0 (by decide)
    have al:=x'.lim
    simp[eB,g1,g2,gB,aL,wf]at a1 a2 aB al
    have Aq:=jX.append hr (jX.one (to:=bK) (k:=3) (tc:=xc) (td:=xd) (ic:=oc) (id:=od) (pd:=bE op) (ad:=.isl false 0 []) (.inl rfl) (.inr rfl))
    simp[hI]
    rw[aT (by omega) (by omega)]
    generalize hF:upd _ 37 _=F
    refine ih (i+1) _ _ _ v' F K eJ lO Cq Aq (by simp;omega) ?_ ?_ ?_ ?_ ?_ ?_ ?_ ?_ ?_ a1 a2 aB (by simpa[tX]using p') al x'.le x'.wf
    all_goals (rw[←hF];simp[h1,h3,h6,h8,hB,hO,hW,hL])
theorem s31(b:aH)(xc xd bK:Int)(p:bJ)(hi:cD b)(hz:ZL b b.bT.length)(hp:cB p)(hf:hU b bK=true)(hJ:b.aR.length<100000∧b.seen.length<100000) :
  pcF D t31 [aE .none b,.int .i64 bK,.agg [.int .i64 xc,.int .i64 xd],bE p]=some (.tup [aE .none (bW b bK ⟨xc,xd⟩ p).1,eL false 8 fY (bW b bK ⟨xc,xd⟩ p).2]):=by
 have rV:pcF D t99 [aE .none b,.agg [.int .i64 xc,.int .i64 xd,bE p,.int .i64 bK]]=some (.tup [aE .none (bM b ⟨⟨xc,xd⟩,p,bK⟩).1,.bool (bM b ⟨⟨xc,xd⟩,p,bK⟩).2]):=by
  first
   | exact Z3 hi hz.sized xc xd p bK
   | exact Z3 .none hi hz.sized xc xd p bK
 have lO:=hi.learn (a:=⟨⟨xc,xd⟩,p,bK⟩) hf hp
 have Cq:ZL (bM b ⟨⟨xc,xd⟩,p,bK⟩).1 b.bT.length:=by
  obtain⟨h1,h2,h3,h4,h5⟩:=hz
  unfold bM
  split
  ·exact⟨h1,h2,h3,h4,h5⟩
  ·refine⟨h1,?_,?_,h4,h5⟩
   ·have:=cZ (fun a:bG=>bV a.id ⟨xc,xd⟩) b.aR
    simp only[iS,List.length_append,List.length_cons,List.length_take,List.length_drop];omega
   ·have:=cZ (fun a:ID=>bV a ⟨xc,xd⟩) b.seen
    simp only[iS,List.length_append,List.length_cons,List.length_take,List.length_drop];omega
 unfold pcF
 rw[aJ _ _ _ _ (by simp[t31])]
 cases hq:(bM b ⟨⟨xc,xd⟩,p,bK⟩).2 with
 | false =>
  rw[hq]at rV
  have ha:bW b bK ⟨xc,xd⟩ p=(b,[]):=by simp[bW,hq]
  rw[ha]
  have hb:(bM b ⟨⟨xc,xd⟩,p,bK⟩).1=b:=by
   unfold bM at hq ⊢
   split at hq
   ·rename_i hs;rw[if_pos hs]
   ·cases hq
  rw[hb]at rV
  simp[t31,e99,rV,turn,aI,iD]
 | true =>
  rw[hq]at rV
  have ha:bW b bK ⟨xc,xd⟩ p=b.bT.foldl (dJ bK ⟨xc,xd⟩ p) ((bM b ⟨⟨xc,xd⟩,p,bK⟩).1,sQ b.aM bK 1 xc xd 0 0 p):=by simp[bW,hq]
  rw[ha]
  simp[t31,e99,rV,turn]
  generalize hA:fc D _ _ _=A
  obtain⟨v1,K,rfl,o1,x1⟩:=q100 hA (Nat.le_trans Cq.aM (by decide)) (by simp) (by simp)
  clear hA
  have Cu:(bM b ⟨⟨xc,xd⟩,p,bK⟩).1.aM=b.aM:=by unfold bM;split<;>rfl
  have howns:(bM b ⟨⟨xc,xd⟩,p,bK⟩).1.bT=b.bT:=by unfold bM;split<;>rfl
  have a0:=x1.get 0 (by simp)
  have a1:=x1.get 1 (by simp)
  have a2:=x1.get 2 (by simp)
  have aB:=x1.get 0 (by simp)
  have al:=x1.lim
  simp at a0 a1 a2 aB al o1
  simp[a0,aB,howns]
  generalize hF:upd _ 37 _=F
  have gX:=rN (but:=bK) (k:=1) (tc:=xc) (td:=xd) (ic:=0) (id:=0) (pd:=bE p) (ad:=.nsl) (.inl rfl) (.inl rfl) b.aM
  have cH:(gT b.aM bK 1 xc xd 0 0 (bE p) .nsl).length≤b.aM.length:=by unfold gT;rw[List.length_map];exact List.length_filter_le ..
  have z1:=hz.aM
  have z2:=hz.own
  try simp only[Cu]at o1
  refine l31 xc xd bK p hp false b.bT hi.po z2 _ _ _ b.bT 0 _ _ _ v1 F K rfl lO Cq gX (by omega) ?_ ?_ ?_ ?_ ?_ ?_ ?_ ?_ ?_ a1 a2 aB o1 al (by have:=x1.le;simpa using this) x1.wf
  all_goals first|(rw[←hF];simp;done)|(rw[←hF];simp[dA.none])
theorem l33(xc xd bK:Int)(p:bJ)(hp:cB p)(t:Bool)(bT:List fT)(ho:∀o∈bT,cB o.pred)(hl:bT.length≤100000)(tx tb tn:Nat) :
  ∀(rest:List fT) (i:Nat) (nb:aH) (fE:List jN) (es:List DV) (v:DV) (f:cT) (h:aA),bT.drop i=rest→cD nb→ZL nb rest.length→jX es fE→es.length+rest.length≤1000000 →
  f 1=.int .i64 bK→f 3=bE p→f 6=.ptr 1 2 0 0→f 8=.ptr 2 6 0 0→f 10=.ptr 3 6 0 0→f 12=v→f 36=eL t 3 cP bT→f 37=.int .i64 bT.length→f 38=.int .i64 i →
  h.get 1=some (.arr tx 2 [.agg [.int .i64 xc,.int .i64 xd]] (some 1))→h.get 2=some (.arr tb 6 [zB] (some 1))→h.get 3=some (.arr tn 6 [aE .none nb] (some 1))→OwnR 4 h v 100 8 es→h.lim=0→4≤h.n→WF h →
  cW (fin [.cell 8 (some 6),.t 9] (run D 70 [.block 0,.seq JG] (.loop W2) f h))=some (.tup [aE .none (rest.foldl (dJ bK ⟨xc,xd⟩ p) (nb,fE)).1,eL false 8 fY (rest.foldl (dJ bK ⟨xc,xd⟩ p) (nb,fE)).2]):=by
 intro rest
 induction rest with
 | nil =>
  intro i nb fE es v f h hd rY hz hr Au h1 h3 h6 h8 hB hO hW hL hI g1 g2 gB hv aL hn wf
  have hi:=bH hd
  have:¬(i<bT.length):=by omega
  have l2:2<h.n:=by omega
  have n2:¬3=2:=by decide
  have r1:=fun o=>pW (hv.aU (o:=o) wf (by decide:2<4) l2) hr false (n:=199) (by decide)
  have hu:bI 199 (eL false 8 fY fE)=true:=eS (fun y _=>(fK y).2) 199 (by decide)
  rw[aC W2.eq_1]
  simp only[zB]at g2
  simp[JG,hL,hI,this,h8,hB,hO,gB,g2,aL,l2,wf,turn,aI,r1,hu]
 | cons o rest ih =>
  intro i nb fE es v f h hd rY hz hr Au h1 h3 h6 h8 hB hO hW hL hI g1 g2 gB hv aL hn wf
  obtain⟨hi,he,eJ⟩:=bR hd
  have Hp:=ho o (by rw[←he];exact List.getElem_mem hi)
  obtain⟨⟨oc,od⟩,op⟩:=o
  simp only at Hp
  have hm:=s104 op p Hp hp
  have oJ:=kAdd rY hz.sized xc xd oc od Hp (-1) false
  have lO:=rY.add (e:=⟨⟨xc,xd⟩,⟨oc,od⟩,op,-1,false⟩) (by simp[hU]) Hp
  have Cq:=hz.add ⟨⟨xc,xd⟩,⟨oc,od⟩,op,-1,false⟩
  obtain⟨m,eB⟩:∃ m,h.n=m+4:=⟨h.n-4,by omega⟩
  simp only[List.length_cons]at Au
  rw[aC W2.eq_1]
  simp only[List.foldl_cons]
  cases hq:rQ op p with
  | false =>
   rw[hq]at hm
   have dK:dJ bK ⟨xc,xd⟩ p (nb,fE) ⟨⟨oc,od⟩,op⟩=(nb,fE):=by simp[dJ,hq]
   rw[dK]
   simp[hL,hI,hW,hi,he,cP,h3,aL,wf,turn,j8,hm]
   rw[aT (by omega) (by omega)]
   generalize hF:upd _ 38 _=F
   refine ih (i+1) nb fE es v F _ eJ rY (hz.less (by simp)) hr (by omega) ?_ ?_ ?_ ?_ ?_ ?_ ?_ ?_ ?_ ?_ ?_ ?_ hv.push ?_ ?_ ?_
   all_goals first
    | (rw[←hF];simp[h1,h3,h6,h8,hB,hO,hW,hL];done)
    | (simp[eB,g1,g2,gB,aL,wf];done)
    | (simp[eB];omega)
  | true =>
   rw[hq]at hm
   cases hu:(dW nb ⟨⟨xc,xd⟩,⟨oc,od⟩,op,-1,false⟩).2 with
   | false =>
    rw[hu]at oJ
    have dK:dJ bK ⟨xc,xd⟩ p (nb,fE) ⟨⟨oc,od⟩,op⟩=((dW nb ⟨⟨xc,xd⟩,⟨oc,od⟩,op,-1,false⟩).1,fE):=by simp[dJ,hq,hu]
    rw[dK]
    simp[hL,hI,hW,hi,he,cP,h3,h6,hB,eB,g1,gB,aL,wf,turn,j8,hm,TV,oJ]
    rw[aT (by omega) (by omega)]
    generalize hF:upd _ 38 _=F
    refine ih (i+1) _ fE es v F _ eJ lO Cq hr (by omega) ?_ ?_ ?_ ?_ ?_ ?_ ?_ ?_ ?_ ?_ ?_ ?_ (((hv.aU wf (by decide:3<4) (by omega)).push).push) ?_ ?_ ?_
    all_goals first
     | (rw[←hF];simp[h1,h3,h6,h8,hB,hO,hW,hL];done)
     | (simp[eB,g1,g2,gB,aL,wf];done)
     | (simp[eB];omega)
   | true =>
    rw[hu]at oJ
    have dK:dJ bK ⟨xc,xd⟩ p (nb,fE) ⟨⟨oc,od⟩,op⟩=((dW nb ⟨⟨xc,xd⟩,⟨oc,od⟩,op,-1,false⟩).1,fE++[⟨bK,3,⟨xc,xd⟩,⟨oc,od⟩,op⟩]):=by simp[dJ,hq,hu]
    rw[dK]
    simp[hL,hI,hW,hi,he,cP,h1,h3,h6,hB,hO,eB,g1,gB,aL,wf,turn,j8,hm,TV,oJ,j7,YJ]
    generalize hA:aY _ _ _ _ _ _=A
    obtain⟨v',K,rfl,p',x',_⟩:=OwnR.append ((((hv.aU wf (by decide:3<4) (by omega)).push).push).push) (by simp[wf]) (by simp[eB]<;>omega) (by simp[aL]) hA (by simp;omega) (by decide)
    clear hA
    have a1:=x'.get 1 (by decide)
    have a2:=x'.get 2 (by decide)
    have aB:=x'.get 3 (by decide)
    have al:=x'.lim
    simp[eB,g1,g2,gB,aL,wf]at a1 a2 aB al
    have Aq:=jX.append hr (jX.one (to:=bK) (k:=3) (tc:=xc) (td:=xd) (ic:=oc) (id:=od) (pd:=bE op) (ad:=.isl false 0 []) (.inl rfl) (.inr rfl))
    simp[hI]
    rw[aT (by omega) (by omega)]
    generalize hF:upd _ 38 _=F
    refine ih (i+1) _ _ _ v' F K eJ lO Cq Aq (by simp;omega) ?_ ?_ ?_ ?_ ?_ ?_ ?_ ?_ ?_ a1 a2 aB (by simpa[tX]using p') al x'.le x'.wf
    all_goals (rw[←hF];simp[h1,h3,h6,h8,hB,hO,hW,hL])
theorem s33(b:aH)(xc xd bK:Int)(p:bJ)(hi:cD b)(hz:ZL b b.bT.length)(hp:cB p)(hf:hU b bK=true)(hJ:b.aR.length<100000∧b.seen.length<100000) :
  pcF D t33 [aE .none b,.int .i64 bK,.agg [.int .i64 xc,.int .i64 xd],bE p]=some (.tup [aE .none (bW b bK ⟨xc,xd⟩ p).1,eL false 8 fY (bW b bK ⟨xc,xd⟩ p).2]):=by
 have rV:pcF D Vc [aE .none b,.agg [.int .i64 xc,.int .i64 xd,bE p,.int .i64 bK]]=some (.tup [aE .none (bM b ⟨⟨xc,xd⟩,p,bK⟩).1,.bool (bM b ⟨⟨xc,xd⟩,p,bK⟩).2]):=by
  first
   | exact MX hi hz.sized xc xd p bK
   | exact MX .none hi hz.sized xc xd p bK
 have lO:=hi.learn (a:=⟨⟨xc,xd⟩,p,bK⟩) hf hp
 have Cq:ZL (bM b ⟨⟨xc,xd⟩,p,bK⟩).1 b.bT.length:=by
  obtain⟨h1,h2,h3,h4,h5⟩:=hz
  unfold bM
  split
  ·exact⟨h1,h2,h3,h4,h5⟩
  ·refine⟨h1,?_,?_,h4,h5⟩
   ·have:=cZ (fun a:bG=>bV a.id ⟨xc,xd⟩) b.aR
    simp only[iS,List.length_append,List.length_cons,List.length_take,List.length_drop];omega
   ·have:=cZ (fun a:ID=>bV a ⟨xc,xd⟩) b.seen
    simp only[iS,List.length_append,List.length_cons,List.length_take,List.length_drop];omega
 unfold pcF
 rw[aJ _ _ _ _ (by simp[t33])]
 cases hq:(bM b ⟨⟨xc,xd⟩,p,bK⟩).2 with
 | false =>
  rw[hq]at rV
  have ha:bW b bK ⟨xc,xd⟩ p=(b,[]):=by simp[bW,hq]
  rw[ha]
  have hb:(bM b ⟨⟨xc,xd⟩,p,bK⟩).1=b:=by
   unfold bM at hq ⊢
   split at hq
   ·rename_i hs;rw[if_pos hs]
   ·cases hq
  rw[hb]at rV
  simp[t33,e102,rV,turn,aI,iD]
 | true =>
  rw[hq]at rV
  have ha:bW b bK ⟨xc,xd⟩ p=b.bT.foldl (dJ bK ⟨xc,xd⟩ p) ((bM b ⟨⟨xc,xd⟩,p,bK⟩).1,sQ b.aM bK 1 xc xd 0 0 p):=by simp[bW,hq]
  rw[ha]
  simp[t33,e102,rV,turn]
  generalize hA:fc D _ _ _=A
  obtain⟨v1,K,rfl,o1,x1⟩:=q103 hA (Nat.le_trans hz.aM (by decide)) (by simp) (by simp)
  clear hA
  have Cu:(bM b ⟨⟨xc,xd⟩,p,bK⟩).1.aM=b.aM:=by unfold bM;split<;>rfl
  have howns:(bM b ⟨⟨xc,xd⟩,p,bK⟩).1.bT=b.bT:=by unfold bM;split<;>rfl
  have a0:=x1.get 0 (by simp)
  have a1:=x1.get 1 (by simp)
  have a2:=x1.get 2 (by simp)
  have aB:=x1.get 3 (by simp)
  have al:=x1.lim
  simp at a0 a1 a2 aB al o1
  simp[a0,aB,howns]
  generalize hF:upd _ 38 _=F
  have gX:=rN (but:=bK) (k:=1) (tc:=xc) (td:=xd) (ic:=0) (id:=0) (pd:=bE p) (ad:=.nsl) (.inl rfl) (.inl rfl) b.aM
  have cH:(gT b.aM bK 1 xc xd 0 0 (bE p) .nsl).length≤b.aM.length:=by unfold gT;rw[List.length_map];exact List.length_filter_le ..
  have z1:=hz.aM
  have z2:=hz.own
  try simp only[Cu]at o1
  refine l33 xc xd bK p hp false b.bT hi.po z2 _ _ _ b.bT 0 _ _ _ v1 F K rfl lO Cq gX (by omega) ?_ ?_ ?_ ?_ ?_ ?_ ?_ ?_ ?_ a1 a2 aB o1 al (by have:=x1.le;simpa using this) x1.wf
  all_goals first|(rw[←hF];simp;done)|(rw[←hF];simp[dA.none])
end Go.Dm.Tc
/-
What functions compute,part 36: an advertisement taken back;a broker's side.
-/
namespace Go.Dm.Tc
theorem _root_.Go.Dm.OwnR.wl{lo:Nat}{h:aA}{v:DV}{ety sz:Nat}{xs:List DV}(w:OwnR lo h v ety sz xs){m:Nat}(hm:m≤lo):OwnR lo (Dm.wl h m) v ety sz xs:=by
 cases w with
 | nil hv hx=>exact .nil hv hx
 | arr id sp cap hv hg hl hi=>exact .arr id sp cap hv hg (Nat.le_trans hm hi) hi
def bS(b:aH)(bK:Int)(x:ID):aH×List jN :=
 if(bU b x bK).2=true then((bU b x bK).1,sQ b.aM bK 2 x.aW x.seq 0 0 [])else(b,[])
theorem s59(b:aH)(xc xd bK:Int)(hi:cD b)(hz:fG b) :
  pcF D t59 [aE .none b,.int .i64 bK,.agg [.int .i64 xc,.int .i64 xd]]=some (.tup [aE .none (bS b bK ⟨xc,xd⟩).1,eL false 8 fY (bS b bK ⟨xc,xd⟩).2]):=by
 have hf:pcF D Mg [aE .none b,.agg [.int .i64 xc,.int .i64 xd],.int .i64 bK]=some (.tup [aE .none (bU b ⟨xc,xd⟩ bK).1,.bool (bU b ⟨xc,xd⟩ bK).2]):=by
  first
   | exact Xo hi hz xc xd bK
   | exact Xo .none hi hz xc xd bK
 have Cu:(bU b ⟨xc,xd⟩ bK).1.aM=b.aM:=by
  unfold bU
  repeat' split
  all_goals rfl
 unfold pcF
 rw[aJ _ _ _ _ (by simp[t59])]
 cases hq:(bU b ⟨xc,xd⟩ bK).2 with
 | false =>
  have ha:bS b bK ⟨xc,xd⟩=(b,[]):=by simp[bS,hq]
  have hb:(bU b ⟨xc,xd⟩ bK).1=b:=by
   unfold bU at hq ⊢
   split
   ·rfl
   ·rename_i a he
    rw[he]at hq
    simp only at hq
    split
    ·rename_i hs;rw[if_pos hs]at hq;cases hq
    ·rfl
  rw[hq,hb]at hf
  rw[ha]
  simp[t59,e126,hf,turn,aI,iD]
 | true =>
  have ha:bS b bK ⟨xc,xd⟩=((bU b ⟨xc,xd⟩ bK).1,sQ b.aM bK 2 xc xd 0 0 []):=by simp[bS,hq]
  rw[hq]at hf
  rw[ha]
  simp[t59,e126,hf,turn,aI]
  generalize hA:fc D _ _ _=A
  obtain⟨v1,K,rfl,o1,x1⟩:=q100 hA (by have:=hz.aM;first|omega|(rw[Cu];omega)) (by simp) (by simp)
  clear hA
  have a0:=x1.get 0 (by simp)
  have a1:=x1.get 1 (by simp)
  have a2:=x1.get 2 (by simp)
  have al:=x1.lim
  simp at a0 a1 a2 al o1
  try simp only[Cu]at o1
  have gX:=rN (but:=bK) (k:=2) (tc:=xc) (td:=xd) (ic:=0) (id:=0) (pd:=.nsl) (ad:=.nsl) (p:=[]) (.inr ⟨rfl,rfl⟩) (.inl rfl) b.aM
  have hn:=x1.le
  simp at hn
  have l2:2<K.n:=by omega
  have r1:∀o,resolve false (Dm.wl (K.set 2 o) 0) 199 v1=some (eL false 8 fY (sQ b.aM bK 2 xc xd 0 0 [])):=fun o=>pW ((o1.aU (o:=o) x1.wf (by decide) l2).wl (Nat.zero_le _)) gX false (by decide)
  have hu:bI 199 (eL false 8 fY (sQ b.aM bK 2 xc xd 0 0 []))=true:=eS (fun y _=>(fK y).2) 199 (by decide)
  simp[a0,a1,a2,al,l2,x1.wf,turn,aI,r1,hu]
theorem s34(b:aH)(xc xd bK:Int)(hi:cD b)(hz:fG b) :
  pcF D t34 [aE .none b,.int .i64 bK,.agg [.int .i64 xc,.int .i64 xd]]=some (.tup [aE .none (bS b bK ⟨xc,xd⟩).1,eL false 8 fY (bS b bK ⟨xc,xd⟩).2]):=by
 have hf:pcF D Vb [aE .none b,.agg [.int .i64 xc,.int .i64 xd],.int .i64 bK]=some (.tup [aE .none (bU b ⟨xc,xd⟩ bK).1,.bool (bU b ⟨xc,xd⟩ bK).2]):=by
  first
   | exact Z5 hi hz xc xd bK
   | exact Z5 .none hi hz xc xd bK
 have Cu:(bU b ⟨xc,xd⟩ bK).1.aM=b.aM:=by
  unfold bU
  repeat' split
  all_goals rfl
 unfold pcF
 rw[aJ _ _ _ _ (by simp[t34])]
 cases hq:(bU b ⟨xc,xd⟩ bK).2 with
 | false =>
  have ha:bS b bK ⟨xc,xd⟩=(b,[]):=by simp[bS,hq]
  have hb:(bU b ⟨xc,xd⟩ bK).1=b:=by
   unfold bU at hq ⊢
   split
   ·rfl
   ·rename_i a he
    rw[he]at hq
    simp only at hq
    split
    ·rename_i hs;rw[if_pos hs]at hq;cases hq
    ·rfl
  rw[hq,hb]at hf
  rw[ha]
  simp[t34,e107,hf,turn,aI,iD]
 | true =>
  have ha:bS b bK ⟨xc,xd⟩=((bU b ⟨xc,xd⟩ bK).1,sQ b.aM bK 2 xc xd 0 0 []):=by simp[bS,hq]
  rw[hq]at hf
  rw[ha]
  simp[t34,e107,hf,turn,aI]
  generalize hA:fc D _ _ _=A
  obtain⟨v1,K,rfl,o1,x1⟩:=q103 hA (by have:=hz.aM;first|omega|(rw[Cu];omega)) (by simp) (by simp)
  clear hA
  have a0:=x1.get 0 (by simp)
  have a1:=x1.get 1 (by simp)
  have a2:=x1.get 2 (by simp)
  have al:=x1.lim
  simp at a0 a1 a2 al o1
  try simp only[Cu]at o1
  have gX:=rN (but:=bK) (k:=2) (tc:=xc) (td:=xd) (ic:=0) (id:=0) (pd:=.nsl) (ad:=.nsl) (p:=[]) (.inr ⟨rfl,rfl⟩) (.inl rfl) b.aM
  have hn:=x1.le
  simp at hn
  have l2:2<K.n:=by omega
  have r1:∀o,resolve false (Dm.wl (K.set 2 o) 0) 199 v1=some (eL false 8 fY (sQ b.aM bK 2 xc xd 0 0 [])):=fun o=>pW ((o1.aU (o:=o) x1.wf (by decide) l2).wl (Nat.zero_le _)) gX false (by decide)
  have hu:bI 199 (eL false 8 fY (sQ b.aM bK 2 xc xd 0 0 []))=true:=eS (fun y _=>(fK y).2) 199 (by decide)
  simp[a0,a1,a2,al,l2,x1.wf,turn,aI,r1,hu]
end Go.Dm.Tc
/-
What the reference's functions compute,part 12: a aW of the broker's subscribes.
-/
namespace Go.Dm.Tc
def subOwn(b:aH)(x:ID)(p:bJ):aH:={b with bT:=iS (fun o=>o.id) ⟨x,p⟩ b.bT}
def dZ(x:ID)(p:bJ)(st:aH×List jN)(a:bG):aH×List jN :=
 if rQ p a.pred=true then((dW st.1 ⟨a.id,x,p,-1,false⟩).1,if(dW st.1 ⟨a.id,x,p,-1,false⟩).2=true then st.2++[⟨a.bN,3,a.id,x,p⟩]else st.2)
 else st
def eW(b:aH)(x:ID)(p:bJ):aH×List jN :=
 if eZ (fun o:fT=>bV o.id x) b.bT=true then(b,[])else b.aR.foldl (dZ x p) (subOwn b x p,[])
theorem l29(xc xd:Int)(p:bJ)(hp:cB p)(t:Bool)(oY:List bG)(ho:∀o∈oY,cB o.pred)(hl:oY.length≤100000)(tx tb tn:Nat) :
  ∀(rest:List bG) (i:Nat) (nb:aH) (fE:List jN) (es:List DV) (v:DV) (f:cT) (h:aA),oY.drop i=rest→cD nb→ZL nb rest.length→jX es fE→es.length+rest.length≤1000000 →
  f 2=bE p→f 3=.ptr 0 6 0 0→f 4=.ptr 1 2 0 0→f 6=.ptr 2 6 0 0→f 9=v→f 65=eL t 4 aG oY→f 66=.int .i64 oY.length→f 67=.int .i64 i →
  h.get 1=some (.arr tx 2 [.agg [.int .i64 xc,.int .i64 xd]] (some 1))→h.get 2=some (.arr tb 6 [zB] (some 1))→h.get 0=some (.arr tn 6 [aE .none nb] (some 1))→OwnR 3 h v 100 8 es→h.lim=0→3≤h.n→WF h →
  cW (fin [.cell 6 (some 6),.t 7] (run D 99 [.block 2,.seq Ux] (.loop Ij) f h))=some (.tup [aE .none (rest.foldl (dZ ⟨xc,xd⟩ p) (nb,fE)).1,eL false 8 fY (rest.foldl (dZ ⟨xc,xd⟩ p) (nb,fE)).2]):=by
 intro rest
 induction rest with
 | nil =>
  intro i nb fE es v f h hd rY hz hr Au h2 h3 h4 h6 h9 hW hL hI g1 g2 gB hv aL hn wf
  have hi:=bH hd
  have:¬(i<oY.length):=by omega
  have l2:2<h.n:=by omega
  have r1:=fun o=>pW (hv.aU (o:=o) wf (by decide:2<3) l2) hr false (n:=199) (by decide)
  have hu:bI 199 (eL false 8 fY fE)=true:=eS (fun y _=>(fK y).2) 199 (by decide)
  rw[aC Ij.eq_1]
  simp only[zB]at g2
  simp[Ux,hL,hI,this,h3,h6,h9,gB,g2,aL,l2,wf,turn,aI,r1,hu]
 | cons o rest ih =>
  intro i nb fE es v f h hd rY hz hr Au h2 h3 h4 h6 h9 hW hL hI g1 g2 gB hv aL hn wf
  obtain⟨hi,he,eJ⟩:=bR hd
  have Hp:=ho o (by rw[←he];exact List.getElem_mem hi)
  obtain⟨⟨oc,od⟩,op,oq⟩:=o
  simp only at Hp
  have hm:=s95 p op hp Hp
  have oJ:=Z4 rY hz.sized oc od xc xd hp (-1) false
  have lO:=rY.add (e:=⟨⟨oc,od⟩,⟨xc,xd⟩,p,-1,false⟩) (by simp[hU]) hp
  have Cq:=hz.add ⟨⟨oc,od⟩,⟨xc,xd⟩,p,-1,false⟩
  obtain⟨m,eB⟩:∃ m,h.n=m+3:=⟨h.n-3,by omega⟩
  simp only[List.length_cons]at Au
  rw[aC Ij.eq_1]
  simp only[List.foldl_cons]
  cases hq:rQ p op with
  | false =>
   rw[hq]at hm
   have dK:dZ ⟨xc,xd⟩ p (nb,fE) ⟨⟨oc,od⟩,op,oq⟩=(nb,fE):=by simp[dZ,hq]
   rw[dK]
   simp[hL,hI,hW,hi,he,aG,h2,aL,wf,turn,e95,hm]
   rw[aT (by omega) (by omega)]
   generalize hF:upd _ 67 _=F
   refine ih (i+1) nb fE es v F _ eJ rY (hz.less (by simp)) hr (by omega) ?_ ?_ ?_ ?_ ?_ ?_ ?_ ?_ ?_ ?_ ?_ hv.push ?_ ?_ ?_
   all_goals first
    | (rw[←hF];simp[h2,h3,h4,h6,h9,hW,hL];done)
    | (simp[eB,g1,g2,gB,aL,wf];done)
    | (simp[eB]<;>omega)
  | true =>
   rw[hq]at hm
   cases hu:(dW nb ⟨⟨oc,od⟩,⟨xc,xd⟩,p,-1,false⟩).2 with
   | false =>
    rw[hu]at oJ
    have dK:dZ ⟨xc,xd⟩ p (nb,fE) ⟨⟨oc,od⟩,op,oq⟩=((dW nb ⟨⟨oc,od⟩,⟨xc,xd⟩,p,-1,false⟩).1,fE):=by simp[dZ,hq,hu]
    rw[dK]
    simp[hL,hI,hW,hi,he,aG,h2,h3,h4,eB,g1,gB,aL,wf,turn,e95,hm,e96,oJ]
    rw[aT (by omega) (by omega)]
    generalize hF:upd _ 67 _=F
    refine ih (i+1) _ fE es v F _ eJ lO Cq hr (by omega) ?_ ?_ ?_ ?_ ?_ ?_ ?_ ?_ ?_ ?_ ?_ (((hv.aU wf (by decide:0<3) (by omega)).push).push) ?_ ?_ ?_
    all_goals first
     | (rw[←hF];simp[h2,h3,h4,h6,h9,hW,hL];done)
     | (simp[eB,g1,g2,gB,aL,wf];done)
     | (simp[eB]<;>omega)
   | true =>
    rw[hu]at oJ
    have dK:dZ ⟨xc,xd⟩ p (nb,fE) ⟨⟨oc,od⟩,op,oq⟩=((dW nb ⟨⟨oc,od⟩,⟨xc,xd⟩,p,-1,false⟩).1,fE++[⟨oq,3,⟨oc,od⟩,⟨xc,xd⟩,p⟩]):=by simp[dZ,hq,hu]
    rw[dK]
    simp[hL,hI,hW,hi,he,aG,h2,h3,h4,h9,eB,g1,gB,aL,wf,turn,e95,hm,e96,oJ,e97,s97]
    generalize hA:aY _ _ _ _ _ _=A
    obtain⟨v',K,rfl,p',x',_⟩:=OwnR.append ((((hv.aU wf (by decide:0<3) (by omega)).push).push).push) (by simp[wf]) (by simp[eB]<;>omega) (by simp[aL]) hA (by simp;omega) (by decide)
    clear hA
    have a1:=x'.get 1 (by decide)
    have a2:=x'.get 2 (by decide)
    have aB:=x'.get 0 (by decide)
    have al:=x'.lim
    simp[eB,g1,g2,gB,aL,wf]at a1 a2 aB al
    have Aq:=jX.append hr (jX.one (to:=oq) (k:=3) (tc:=oc) (td:=od) (ic:=xc) (id:=xd) (pd:=bE p) (ad:=.isl false 0 []) (.inl rfl) (.inr rfl))
    simp[hI]
    rw[aT (by omega) (by omega)]
    generalize hF:upd _ 67 _=F
    refine ih (i+1) _ _ _ v' F K eJ lO Cq Aq (by simp;omega) ?_ ?_ ?_ ?_ ?_ ?_ ?_ ?_ a1 a2 aB (by simpa[tX]using p') al x'.le x'.wf
    all_goals (rw[←hF];simp[h2,h3,h4,h6,h9,hW,hL])
end Go.Dm.Tc
/-
What the reference's functions compute,part 13: a aW of the broker's subscribes,with its row still written.
-/
namespace Go.Dm.Tc
theorem NQ{lo:Nat}{h:aA}{i ety:Nat}{os:List fT}{n:Nat}(o:fO lo h i ety 3 (os.map cP))(hn:n=os.length):iU h (.sl i 3 0 n)=some (eL false 3 cP os,h.set i .dead):=by
 subst hn
 obtain⟨⟨sp,cap,hg⟩,hl,_⟩:=o
 have hb:(List.take os.length (List.map cP os++sp)).all (fX 200 0)=true:=by
  rw[List.take_left' (by simp),List.all_eq_true]
  intro x hx
  obtain⟨y,_,rfl⟩:=List.mem_map.1 hx
  exact(TY y).belowN (by decide)
 simp only[iU,hg,hl,List.drop_zero,hb,List.length_append,List.length_map,Nat.zero_add,Nat.le_add_right,and_self,if_true]
 rw[List.take_left' (by simp)]
 cases os<;>rfl
theorem n29(xc xd:Int)(p:bJ)(hp:cB p)(t:Bool)(oY:List bG)(ho:∀o∈oY,cB o.pred)(hl:oY.length≤100000)(tx tb tn:Nat)(nb:aH)(rY:cD nb)(iw:Nat) :
  ∀(rest:List bG) (i:Nat) (f:cT) (h:aA),oY.drop i=rest→ZL nb rest.length →
  f 2=bE p→f 3=.ptr 0 6 0 0→f 4=.ptr 1 2 0 0→f 6=.ptr 2 6 0 0→f 9=.nsl→f 65=eL t 4 aG oY→f 66=.int .i64 oY.length→f 67=.int .i64 i →
  h.get 1=some (.arr tx 2 [.agg [.int .i64 xc,.int .i64 xd]] (some 1))→h.get 2=some (.arr tb 6 [zB] (some 1)) →
  h.get 0=some (.arr tn 6 [.agg [.int .i64 nb.me,eL false 1 bO nb.aM,eL false 4 aG nb.aR,eL false 2 eID nb.seen,eL false 7 aD nb.entries,.sl iw 3 0 nb.bT.length]] (some 1))→fO 3 h iw 98 3 (nb.bT.map cP)→h.lim=0→3≤h.n→WF h →
  cW (fin [.cell 6 (some 6),.t 7] (run D 99 [.block 2,.seq Ux] (.loop Ij) f h))=some (.tup [aE .none (rest.foldl (dZ ⟨xc,xd⟩ p) (nb,[])).1,eL false 8 fY (rest.foldl (dZ ⟨xc,xd⟩ p) (nb,[])).2]):=by
 intro rest
 induction rest with
 | nil =>
  intro i f h hd hz h2 h3 h4 h6 h9 hW hL hI g1 g2 gB hv aL hn wf
  have hi:=bH hd
  have:¬(i<oY.length):=by omega
  have l2:2<h.n:=by omega
  have r1:∀o,resolve false (h.set 2 o) 198 (.sl iw 3 0 nb.bT.length)=some (eL false 3 cP nb.bT):=fun o=>by
   have:=(hv.aU (o:=o) wf (by decide:2<3) l2).toR.resolve (n:=198) false (fun y _=>(lV y).1) (by decide)
   simpa using this
  have hu:=T9 174 nb.bT
  rw[aC Ij.eq_1]
  simp only[zB]at g2
  simp[Ux,hL,hI,this,h3,h6,h9,gB,g2,aL,l2,wf,turn,aI,r1]
  exact⟨rfl,rfl⟩
 | cons o rest ih =>
  intro i f h hd hz h2 h3 h4 h6 h9 hW hL hI g1 g2 gB hv aL hn wf
  obtain⟨hi,he,eJ⟩:=bR hd
  have Hp:=ho o (by rw[←he];exact List.getElem_mem hi)
  obtain⟨⟨oc,od⟩,op,oq⟩:=o
  simp only at Hp
  have hm:=s95 p op hp Hp
  have oJ:=Z4 rY hz.sized oc od xc xd hp (-1) false
  have lO:=rY.add (e:=⟨⟨oc,od⟩,⟨xc,xd⟩,p,-1,false⟩) (by simp[hU]) hp
  have Cq:=hz.add ⟨⟨oc,od⟩,⟨xc,xd⟩,p,-1,false⟩
  obtain⟨m,eB⟩:∃ m,h.n=m+3:=⟨h.n-3,by omega⟩
  have P2:=hv.lt
  have SZ:=hv.lo
  have k0:¬iw=0:=by omega
  have k1:¬iw=1:=by omega
  have k2:¬iw=2:=by omega
  have k0':¬0=iw:=by omega
  have k1':¬1=iw:=by omega
  have k2':¬2=iw:=by omega
  have k3:¬iw=m+3:=by omega
  have k4:¬iw=m+3+1:=by omega
  have k5:iw<m+3:=by omega
  have k6:iw<m+3+1:=by omega
  have tA:∀o1 o2,iU ((h.push o1).push o2) (.sl iw 3 0 nb.bT.length)=some (eL false 3 cP nb.bT,((h.push o1).push o2).set iw .dead):=fun o1 o2=>NQ (hv.push.push) rfl
  have Hb:DV.agg [.int .i64 nb.me,eL false 1 bO nb.aM,eL false 4 aG nb.aR,eL false 2 eID nb.seen,eL false 7 aD nb.entries,eL false 3 cP nb.bT]=aE .none nb:=rfl
  rw[aC Ij.eq_1]
  simp only[List.foldl_cons]
  cases hq:rQ p op with
  | false =>
   rw[hq]at hm
   have dK:dZ ⟨xc,xd⟩ p (nb,[]) ⟨⟨oc,od⟩,op,oq⟩=(nb,[]):=by simp[dZ,hq]
   rw[dK]
   simp[hL,hI,hW,hi,he,aG,h2,aL,wf,turn,e95,hm]
   rw[aT (by omega) (by omega)]
   generalize hF:upd _ 67 _=F
   refine ih (i+1) F _ eJ (hz.less (by simp)) ?_ ?_ ?_ ?_ ?_ ?_ ?_ ?_ ?_ ?_ ?_ hv.push ?_ ?_ ?_
   all_goals first
    | (rw[←hF];simp[h2,h3,h4,h6,h9,hW,hL];done)
    | (simp[eB,g1,g2,gB,aL,wf];done)
    | (simp[eB]<;>omega)
  | true =>
   rw[hq]at hm
   cases hu:(dW nb ⟨⟨oc,od⟩,⟨xc,xd⟩,p,-1,false⟩).2 with
   | false =>
    rw[hu]at oJ
    have dK:dZ ⟨xc,xd⟩ p (nb,[]) ⟨⟨oc,od⟩,op,oq⟩=((dW nb ⟨⟨oc,od⟩,⟨xc,xd⟩,p,-1,false⟩).1,[]):=by simp[dZ,hq,hu]
    rw[dK]
    simp[hL,hI,hW,hi,he,aG,h2,h3,h4,eB,g1,gB,aL,wf,turn,e95,hm,e96,tA,Hb,oJ,k0,k1,k2,k0',k1',k2',k3,k4,k5,k6]
    rw[aT (by omega) (by omega)]
    generalize hF:upd _ 67 _=F
    refine l29 xc xd p hp t oY ho hl tx tb tn rest (i+1) _ [] [] .nsl F _ eJ lO Cq jX.nil (by have:=hz.ent;simp at this ⊢;omega) ?_ ?_ ?_ ?_ ?_ ?_ ?_ ?_ ?_ ?_ ?_ (.nil rfl rfl) ?_ ?_ ?_
    all_goals first
     | (rw[←hF];simp[h2,h3,h4,h6,h9,hW,hL];done)
     | (simp[eB,g1,g2,gB,aL,wf,k0,k1,k2,k0',k1',k2',k3,k4,k5,k6];done)
     | (simp[eB]<;>omega)
   | true =>
    rw[hu]at oJ
    have dK:dZ ⟨xc,xd⟩ p (nb,[]) ⟨⟨oc,od⟩,op,oq⟩=((dW nb ⟨⟨oc,od⟩,⟨xc,xd⟩,p,-1,false⟩).1,[⟨oq,3,⟨oc,od⟩,⟨xc,xd⟩,p⟩]):=by simp[dZ,hq,hu]
    rw[dK]
    simp[hL,hI,hW,hi,he,aG,h2,h3,h4,h9,eB,g1,gB,aL,wf,turn,e95,hm,e96,tA,Hb,oJ,k0,k1,k2,k0',k1',k2',k3,k4,k5,k6,e97,s97]
    generalize hA:aY _ _ _ _ _ _=A
    obtain⟨v',K,rfl,p',x',_⟩:=OwnR.append (lo:=3) (OwnR.start 3 _ 100 8) (by simp[wf]) (by simp[eB]<;>omega) (by simp[aL]) hA (by simp) (by decide)
    clear hA
    have a1:=x'.get 1 (by decide)
    have a2:=x'.get 2 (by decide)
    have aB:=x'.get 0 (by decide)
    have al:=x'.lim
    simp[eB,g1,g2,gB,aL,wf,k0,k1,k2,k0',k1',k2',k3,k4,k5,k6]at a1 a2 aB al
    have Aq:=jX.one (to:=oq) (k:=3) (tc:=oc) (td:=od) (ic:=xc) (id:=xd) (pd:=bE p) (ad:=.isl false 0 []) (.inl rfl) (.inr rfl)
    simp[hI]
    rw[aT (by omega) (by omega)]
    generalize hF:upd _ 67 _=F
    refine l29 xc xd p hp t oY ho hl tx tb tn rest (i+1) _ _ _ v' F K eJ lO Cq Aq (by have:=hz.ent;simp at this;simp;omega) ?_ ?_ ?_ ?_ ?_ ?_ ?_ ?_ a1 a2 aB (by simpa[tX]using p') al x'.le x'.wf
    all_goals (rw[←hF];simp[h2,h3,h4,h6,h9,hW,hL])
end Go.Dm.Tc
/-
What the reference's functions compute,part 14: a aW of the broker's subscribes,all of it.
-/
namespace Go.Dm.Tc
theorem o29(S:List Fr)(h:aA)(x0 x1 x2 x3 x4:DV)(t:Bool)(l:List fT)(c d:Int)(ta tb:Nat)(hl:l.length≤1000000)
  (g0:h.get 0=some (.arr tb 6 [.agg [x0,x1,x2,x3,x4,eL t 3 cP l]] (some 1))) (g1:h.get 1=some (.arr ta 2 [.agg [.int .i64 c,.int .i64 d]] (some 1))) :
  ∀(n i:Nat) (f:cT),aV (fun b=>bV b.id ⟨c,d⟩) l-i=n→i≤aV (fun b=>bV b.id ⟨c,d⟩) l→f 3=.ptr 0 6 0 0→f 4=.ptr 1 2 0 0→f 8=.int .i64 i →
  ∃ f',run D 99 (.block 0::.seq Np::S) (.loop W6) f h=run D 99 S Np f' h∧f' 3=.ptr 0 6 0 0∧f' 4=.ptr 1 2 0 0∧f' 2=f 2∧f' 6=f 6∧f' 8=.int .i64 (aV (fun b=>bV b.id ⟨c,d⟩) l):=by
 intro n
 induction n with
 | zero =>
  intro i f hn hi h2 h3 h6
  have dS:aV (fun b=>bV b.id ⟨c,d⟩) l=i:=by omega
  rw[aC W6.eq_1]
  by_cases bC:i<l.length
  ·have ZM:=Cm (fun b:fT=>bV b.id ⟨c,d⟩) hi (List.getElem?_eq_getElem bC)
   have Ya:kK ⟨l[i].id.aW,l[i].id.seq⟩ ⟨c,d⟩=false:=by
    unfold kK
    simp only[decide_eq_false_iff_not]
    intro hc
    have:=ZM.1 hc
    omega
   simp[h2,h3,h6,g0,g1,bC,cP,e94,s94,Ya]
   exact⟨_,rfl,by simp[h2],by simp[h3],by simp,by simp,by simp[h6,dS]⟩
  ·simp[h2,h3,h6,g0,g1,bC]
   exact⟨_,rfl,by simp[h2],by simp[h3],by simp,by simp,by simp[h6,dS]⟩
 | succ n ih =>
  intro i f hn hi h2 h3 h6
  have bC:i<l.length:=by have:=cZ (fun b:fT=>bV b.id ⟨c,d⟩) l;omega
  have Ya:kK ⟨l[i].id.aW,l[i].id.seq⟩ ⟨c,d⟩=true:=Sm (fun b:fT=>bV b.id ⟨c,d⟩) (by omega) (List.getElem?_eq_getElem bC)
  rw[aC W6.eq_1]
  simp[h2,h3,h6,g0,g1,bC,cP,e94,s94,Ya]
  rw[aT (by omega) (by omega)]
  generalize hF:upd _ 8 _=F
  obtain⟨f',k1,k2,k3,k4,k5,k6⟩:=ih (i+1) F (by omega) (by omega) (by rw[←hF];simp[h2]) (by rw[←hF];simp[h3]) (by rw[←hF];simp)
  exact⟨f',k1,k2,k3,by rw[k4,←hF];simp,by rw[k5,←hF];simp,k6⟩
theorem FG{α:Type}(key:α→ID)(a:α)(l:List α):(iS key a l).length=l.length+1:=by
 unfold iS
 have:=cZ (fun b=>bV (key b) (key a)) l
 simp only[List.length_append,List.length_cons,List.length_take,List.length_drop]
 omega
theorem AF{l:List fT}(hr:eE (l.map (·.id)))(x:ID):eZ (fun o:fT=>bV o.id x) l=false→∀o∈l,o.id≠x:=by
 intro hh o ho
 have hf:=Cx (fun a:fT=>a.id) hr x
 cases hq:l.find? (fun b=>decide (b.id=x))with
 | none=>exact(zP (fun a:fT=>a.id) x).1 hq o ho
 | some a=>rw[hq]at hf;rw[hf.1]at hh;cases hh
theorem cD.subOwn{b:aH}(h:cD b){x:ID}{p:bJ}(hp:cB p)(hn:∀o∈b.bT,o.id≠x):cD (subOwn b x p):=by
 obtain⟨h1,h2,h3,h4,h5,h6,h7,h8,h9,hY,lG,gE,lY⟩:=h
 refine⟨h1,h2,h3,h4,pM (fun o:fT=>o.id) ⟨x,p⟩ h5 hn,h6,h7,h8,h9,?_,lG,gE,lY⟩
 intro o ho
 unfold Tc.subOwn iS at ho
 simp only at ho
 rcases List.mem_append.1 ho with h|h
 ·exact hY o (List.mem_of_mem_take h)
 ·rcases List.mem_cons.1 h with rfl|h
  ·exact hp
  ·exact hY o (List.mem_of_mem_drop h)
theorem s29(b:aH)(xc xd:Int)(p:bJ)(hi:cD b)(hz:ZL b b.aR.length)(hp:cB p)(ho:b.bT.length<100000) :
  pcF D t29 [aE .none b,.agg [.int .i64 xc,.int .i64 xd],bE p]=some (.tup [aE .none (eW b ⟨xc,xd⟩ p).1,eL false 8 fY (eW b ⟨xc,xd⟩ p).2]):=by
 unfold pcF
 rw[aJ _ _ _ _ (by simp[t29])]
 obtain⟨me,aM,adv,seen,ent,own⟩:=b
 simp[t29]
 generalize hF:upd _ 8 _=F
 generalize hH:aA.push _ _=H
 simp only at ho
 obtain⟨f',k1,k2,k3,k4,k5,k6⟩:=o29 [] H (.int .i64 me) (eL false 1 bO aM) (eL false 4 aG adv) (eL false 2 eID seen) (eL false 7 aD ent) false own xc xd _ _ (by omega) (by rw[←hH];simp[aE,dA.none];rfl) (by rw[←hH];simp;rfl) _ 0 F rfl (Nat.zero_le _) (by rw[←hF];simp) (by rw[←hF];simp) (by rw[←hF];simp)
 rw[k1]
 have g0:H.get 0=some (.arr 36 6 [.agg [.int .i64 me,eL false 1 bO aM,eL false 4 aG adv,eL false 2 eID seen,eL false 7 aD ent,eL false 3 cP own]] (some 1)):=by rw[←hH];simp[aE,dA.none]
 have g1:H.get 1=some (.arr 40 2 [.agg [.int .i64 xc,.int .i64 xd]] (some 1)):=by rw[←hH];simp
 have g2:H.get 2=some (.arr 36 6 [.agg [.int .i64 0,.nsl,.nsl,.nsl,.nsl,.nsl]] (some 1)):=by rw[←hH];simp
 have AB:H.n=3:=by rw[←hH];simp
 have aL:H.lim=0:=by rw[←hH];simp
 have wf:WF H:=by rw[←hH];simp
 have q2:f' 2=bE p:=by rw[k4,←hF];simp
 have q6:f' 6=.ptr 2 6 0 0:=by rw[k5,←hF];simp
 clear k1 hH hF k4 k5
 have hJ:=cZ (fun b:fT=>bV b.id ⟨xc,xd⟩) own
 cases hh:eZ (fun o:fT=>bV o.id ⟨xc,xd⟩) own with
 | true =>
  have ha:eW ⟨me,aM,adv,seen,ent,own⟩ ⟨xc,xd⟩ p=(⟨me,aM,adv,seen,ent,own⟩,[]):=by simp only[eW,hh,if_true]
  rw[ha]
  unfold eZ at hh
  split at hh
  ·rename_i o hox
   have bC:=(List.getElem?_eq_some_iff.1 hox).1
   have hoe:=(List.getElem?_eq_some_iff.1 hox).2
   have fI:o.id=⟨xc,xd⟩:=by have:=of_decide_eq_true hh;exact uS.1 this
   have c1:o.id.aW=xc:=by rw[fI]
   have c2:o.id.seq=xd:=by rw[fI]
   simp[Np,k2,k3,k6,q6,g0,g1,g2,bC,hoe,cP,c1,c2,aL,AB,wf,turn,aI]
   exact⟨rfl,rfl⟩
  ·cases hh
 | false =>
  have ha:eW ⟨me,aM,adv,seen,ent,own⟩ ⟨xc,xd⟩ p=adv.foldl (dZ ⟨xc,xd⟩ p) (subOwn ⟨me,aM,adv,seen,ent,own⟩ ⟨xc,xd⟩ p,[]):=by simp only[eW,hh];rfl
  rw[ha]
  have tQ:=AF hi.ro ⟨xc,xd⟩ hh
  have hinv:=hi.subOwn hp tQ
  have hkey:∀(bC:aV (fun b:fT=>bV b.id ⟨xc,xd⟩) own<own.length),¬(own[aV (fun b:fT=>bV b.id ⟨xc,xd⟩) own].id.aW=xc∧own[aV (fun b:fT=>bV b.id ⟨xc,xd⟩) own].id.seq=xd):=fun bC hc=>tQ _ (List.getElem_mem bC) (ID.ext'.2 hc)
  generalize sK:aV (fun b:fT=>bV b.id ⟨xc,xd⟩) own=k at *
  have pN:min k own.length=k:=by omega
  have ofr:fO 3 (H.push (.arr 98 3 [] (some 0))) 3 98 3 []:=by have:=fO.fresh (lo:=3) (h:=H) (ety:=98) (sz:=3) (xs:=[]) (cap:=some 0) (by omega) (by omega);rw[AB]at this;exact this
  by_cases bC:k<own.length
  have Ew:=hkey bC
  simp[Np,k2,k3,k6,q2,g0,g1,g2,bC,hJ,cP,Ew,aL,AB,wf,turn]
  rotate_left
  simp[Np,k2,k3,k6,q2,g0,g1,g2,bC,hJ,cP,aL,AB,wf,turn]
  all_goals
   generalize hA:aY _ _ _ _ _ _=A
   obtain⟨i1,K1,rfl,o1,x1,y1,j1⟩:=ofr.append (n:=0) rfl wf.push (by simp;omega) (by simp[aL]) hA (by simp;omega) (by decide)
   clear hA
   have a0:=x1.get 0 (by decide)
   have a1:=x1.get 1 (by decide)
   have a2:=x1.get 2 (by decide)
   have q1:=x1.lim
   have w1:=x1.wf
   have n1:=x1.le
   have u1:=o1.lo
   have m0:¬0=i1:=by omega
   have m1:¬i1=0:=by omega
   have m2:¬i1=1:=by omega
   have m3:¬1=i1:=by omega
   simp[g0,g1,g2,AB,aL]at a0 a1 a2 q1 o1
   simp[k2,k3,q2,g0,g1,a0,a1,a2,q1,w1,m0,m1,m2,m3,hJ,AB]
   generalize hA:aY _ _ _ _ _ _=A
   obtain⟨i2,K2,rfl,o2,x2,y2,j2⟩:=(o1.push (o:=_)).append (by simp[hJ]) (by simp[w1]) (by simp;omega) (by simp[q1]) hA (by simp;omega) (by decide)
   clear hA
   have b0:=x2.get 0 (by decide)
   have b1:=x2.get 1 (by decide)
   have b2:=x2.get 2 (by decide)
   have p2:=x2.lim
   have w2:=x2.wf
   have n2:=x2.le
   have u2:=o2.lo
   have c0:¬0=K1.n:=by omega
   have c1:¬1=K1.n:=by omega
   have c2:¬2=K1.n:=by omega
   have m4:¬i2=0:=by omega
   have m5:¬i2=1:=by omega
   simp[a0,a1,a2,q1,c0,c1,c2]at b0 b1 b2 p2 o2
   simp[k2,k3,k6,g0,g1,a0,b0,b1,b2,p2,m0,m1,m2,m3,m4,m5,hJ,AB]
   generalize hA:aY _ _ _ _ _ _=A
   obtain⟨i3,K3,rfl,o3,x3,y3,j3⟩:=o2.append (by simp[hJ]) w2 n2 (by omega) hA (by simp;omega) (by decide)
   clear hA
   have d0:=x3.get 0 (by decide)
   have d1:=x3.get 1 (by decide)
   have d2:=x3.get 2 (by decide)
   have p3:=x3.lim
   have w3:=x3.wf
   have n3:=x3.le
   have l3:0<K3.n:=by omega
   rw[b0]at d0
   rw[b1]at d1
   rw[b2]at d2
   rw[p2]at p3
   simp[k2,k3,g0,b0,d0,p3,w3,l3,turn,pN]
   generalize hF2:upd _ 67 _=F2
   have cH:(List.take k (List.map cP own)++[DV.agg [.int .i64 xc,.int .i64 xd,bE p]]++List.drop k (List.map cP own))=(subOwn ⟨me,aM,adv,seen,ent,own⟩ ⟨xc,xd⟩ p).bT.map cP:=by simp[subOwn,iS,sK,cP]
   rw[cH]at o3
   have Xy:(subOwn ⟨me,aM,adv,seen,ent,own⟩ ⟨xc,xd⟩ p).bT.length=k+1+(own.length-k):=by simp[subOwn,iS,sK,pN];omega
   have SN:ZL (subOwn ⟨me,aM,adv,seen,ent,own⟩ ⟨xc,xd⟩ p) adv.length:=⟨hz.aM,hz.adv,hz.seen,by rw[Xy];omega,hz.ent⟩
   refine n29 xc xd p hp false adv hi.pa hz.adv 40 36 36 _ hinv i3 adv 0 F2 _ rfl SN ?_ ?_ ?_ ?_ ?_ ?_ ?_ ?_ ?_ ?_ ?_ (o3.aU w3 (by decide) l3) ?_ ?_ ?_
   all_goals first
    | (rw[←hF2];simp[q2,k2,k3,q6];done)
    | (simp[d1,d2,p3,w3,l3,zB];done)
    | (rw[Xy];simp[w3,l3,subOwn];done)
    | (simp;omega)
end Go.Dm.Tc
/-
What the reference's functions compute,part 15: an entry dropped.
-/
namespace Go.Dm.Tc
def kE(to:Int)(iG:List aX):List jN:=iG.map fun e=>⟨to,3,e.tree,e.sub,e.pred⟩
def eV(b:aH)(t s:ID)(q:Int):aH×List jN :=
 if(bZ b t s q).2.2=true then((bZ b t s q).1,kE (dR b t) (bZ b t s q).2.1++[⟨dR b t,4,t,s,[]⟩])else((bZ b t s q).1,[])
theorem l98(S:List Fr)(t:Bool)(iG:List aX)(hl:iG.length≤100000)(to:Int)(h0:aA)(aL:h0.lim≤4)(P:Res→Prop) :
  ∀(rest:List aX) (i:Nat) (fE:List jN) (es:List DV) (v:DV) (f:cT) (h:aA),iG.drop i=rest→jX es fE→(es.length≤i∧i≤iG.length)→f 12=.int .i64 to→f 13=v→f 36=eL t 7 aD iG→f 37=.int .i64 iG.length→f 38=.int .i64 i→OwnR 4 h v 100 8 es→Ext 4 h0 h →
  (∀f' h' v' qM,f' 13=v'→f' 12=.int .i64 to→(∀r,r<12→f' r=f r)→qM.length≤iG.length→jX qM (fE++kE to rest)→OwnR 4 h' v' 100 8 qM→Ext 4 h0 h'→P (run D 59 S Ut f' h')) →
  P (run D 59 (.block 0::.seq Ut::S) (.loop U6) f h):=by
 intro rest
 induction rest with
 | nil =>
  intro i fE es v f h hd hr he gE lY HQ B2 NN ho x hP
  have hi:=bH hd
  have:¬(i<iG.length):=by omega
  have k:∀r q:Nat,r<12→12≤q→¬r=q:=fun r q h1 h2=>by omega
  rw[aC U6.eq_1]
  simp[B2,NN,this]
  refine hP _ h v es (by simp[lY]) (by simp[gE]) (fun r HJ=>by simp[k r _ HJ]) (by omega) (by simpa[kE]using hr) ho x
 | cons e rest ih =>
  intro i fE es v f h hd hr he gE lY HQ B2 NN ho x hP
  obtain⟨hi,kL,eJ⟩:=bR hd
  obtain⟨⟨tc,td⟩,⟨sc,sd⟩,p,q,u⟩:=e
  have hnl:=x.le
  have Dv:=x.lim
  have k:∀r q:Nat,r<12→12≤q→¬r=q:=fun r q h1 h2=>by omega
  rw[aC U6.eq_1]
  have Nf:h.lim≤h.n:=by omega
  simp[gE,lY,HQ,B2,NN,hi,kL,aD,x.wf,turn,Nf,e97,s97]
  generalize hA:aY _ _ _ _ _ _=A
  obtain⟨v',K,rfl,p',x',_⟩:=OwnR.append (ho.push.push) (by simp[x.wf]) (by simp;omega) (by simp;omega) hA (by simp;omega) (by decide)
  clear hA
  simp[NN]
  rw[aT (by omega) (by omega)]
  generalize hF:upd _ 38 _=F
  have Aq:=jX.append hr (jX.one (to:=to) (k:=3) (tc:=tc) (td:=td) (ic:=sc) (id:=sd) (pd:=bE p) (ad:=.isl false 0 []) (.inl rfl) (.inr rfl))
  refine ih (i+1) _ _ v' F K eJ Aq ⟨by simp;omega,by omega⟩ ?_ ?_ ?_ ?_ ?_ (by simpa[tX]using p') ((x.push.push).trans x') ?_
  all_goals first
   | (rw[←hF];simp[gE,lY,HQ,B2];done)
   | skip
  intro f' h' v2 qM a1 a2 a3 a4 a5 a6 a7
  refine hP f' h' v2 qM a1 a2 (fun r HJ=>?_) a4 (by simpa[kE]using a5) a6 a7
  rw[a3 r HJ,←hF]
  simp[k r _ HJ]
theorem Us{b:aH}(h:cD b){t s:ID}{q:Int}(hu:(bZ b t s q).2.2=true):(bZ b t s q).1.aR=b.aR∧∃ a,gO b t=some a:=by
 rcases nB h t s q with⟨e,_⟩|⟨e,_,_,_,_,ht⟩|⟨e,hm,hi,_,_,r',u',ht,_⟩
 ·rw[e]at hu;cases hu
 ·rw[ht]at hu;cases hu
 ·rw[ht]
  refine⟨rfl,?_⟩
  obtain⟨a,ha,_⟩:=jC.1 (h.ent e hm)
  have:e.tree=t:=by simp only[isE,Bool.and_eq_true,decide_eq_true_eq]at hi;first|exact hi.1|exact hi.2
  exact⟨a,by rw[←this];exact ha⟩
theorem Ie{b:aH}(h:cD b)(t s:ID)(q:Int):(bZ b t s q).2.1.length≤b.entries.length:=by
 exact Uq b t s q
theorem s98(b:aH)(tc td sc sd q:Int)(hi:cD b)(hz:fG b) :
  pcF D t98 [aE .none b,.agg [.int .i64 tc,.int .i64 td],.agg [.int .i64 sc,.int .i64 sd],.int .i64 q]=some (.tup [aE .none (eV b ⟨tc,td⟩ ⟨sc,sd⟩ q).1,eL false 8 fY (eV b ⟨tc,td⟩ ⟨sc,sd⟩ q).2]):=by
 have ht:=ZF hi hz tc td sc sd q
 unfold pcF
 rw[aJ _ _ _ _ (by simp[t98])]
 cases hu:(bZ b ⟨tc,td⟩ ⟨sc,sd⟩ q).2.2 with
 | false =>
  rw[hu]at ht
  have hd:eV b ⟨tc,td⟩ ⟨sc,sd⟩ q=((bZ b ⟨tc,td⟩ ⟨sc,sd⟩ q).1,[]):=by simp[eV,hu]
  rw[hd]
  simp[t98,e149,ht,turn,aI,iD]
 | true =>
  rw[hu]at ht
  obtain⟨Kw,a,ha⟩:=Us hi hu
  have hd:eV b ⟨tc,td⟩ ⟨sc,sd⟩ q=((bZ b ⟨tc,td⟩ ⟨sc,sd⟩ q).1,kE (dR b ⟨tc,td⟩) (bZ b ⟨tc,td⟩ ⟨sc,sd⟩ q).2.1++[⟨dR b ⟨tc,td⟩,4,⟨tc,td⟩,⟨sc,sd⟩,[]⟩]):=by simp[eV,hu]
  rw[hd]
  have xJ:=uM (fun a:bG=>decide (a.id=⟨tc,td⟩)) b.aR
  have HP:b.aR.find? (fun a=>decide (a.id=⟨tc,td⟩))=some a:=ha
  rw[HP]at xJ
  obtain⟨j,hj,HL⟩:=xJ
  have hFi:pcF D Va [aE .none (bZ b ⟨tc,td⟩ ⟨sc,sd⟩ q).1,.agg [.int .i64 tc,.int .i64 td]]=some (.int .i64 j):=by
   have:=Cg (.int .i64 (bZ b ⟨tc,td⟩ ⟨sc,sd⟩ q).1.me) (eL false 1 bO (bZ b ⟨tc,td⟩ ⟨sc,sd⟩ q).1.aM) (eL false 2 eID (bZ b ⟨tc,td⟩ ⟨sc,sd⟩ q).1.seen) (eL false 7 aD (bZ b ⟨tc,td⟩ ⟨sc,sd⟩ q).1.entries) (eL false 3 cP (bZ b ⟨tc,td⟩ ⟨sc,sd⟩ q).1.bT) false (bZ b ⟨tc,td⟩ ⟨sc,sd⟩ q).1.aR tc td (by rw[Kw];have:=hz.adv;omega)
   rw[Kw,hj]at this
   simpa[gV,aE,dA.none,Kw]using this
  have xF:dR b ⟨tc,td⟩=a.bN:=by rw[eY,ha];rfl
  have Ty:j<b.aR.length:=(List.getElem?_eq_some_iff.1 HL).1
  have hjg:b.aR[j]=a:=(List.getElem?_eq_some_iff.1 HL).2
  rw[xF]
  simp[t98,e149,ht,turn,Di,hFi,Kw,Ty,hjg,aG]
  generalize hF:upd _ 38 _=F
  generalize hH:aA.push _ _=H0
  have hul:(bZ b ⟨tc,td⟩ ⟨sc,sd⟩ q).2.1.length≤100000:=Nat.le_trans (Ie hi ..) hz.ent
  generalize (bZ b ⟨tc,td⟩ ⟨sc,sd⟩ q).2.1=iG at *
  generalize Bt:(bZ b ⟨tc,td⟩ ⟨sc,sd⟩ q).1=b1 at *
  have ZP:H0.n=4:=by rw[←hH];simp
  have sZ:H0.lim=0:=by rw[←hH];simp
  have hw0:WF H0:=by rw[←hH];simp
  refine l98 [] false iG hul a.bN H0 (by omega) (fun r=>cW (fin [.cell 8 (some 6),.t 9] r)=some (.tup [aE .none b1,eL false 8 fY (kE a.bN iG++[⟨a.bN,4,⟨tc,td⟩,⟨sc,sd⟩,[]⟩])])) iG 0 [] [] .nsl F H0 rfl jX.nil ⟨by simp,Nat.zero_le _⟩ (by rw[←hF];simp) (by rw[←hF];simp) (by rw[←hF];simp) (by rw[←hF];simp) (by rw[←hF];simp) (.nil rfl rfl) (.refl (by omega) hw0) fun f' h' v' qM q13 q12 qr kZ hrw SS x=>?_
  have q4:f' 4=.ptr 0 6 0 0:=by rw[qr 4 (by decide),←hF];simp
  have q5:f' 5=.ptr 1 2 0 0:=by rw[qr 5 (by decide),←hF];simp
  have q6:f' 6=.ptr 2 2 0 0:=by rw[qr 6 (by decide),←hF];simp
  have q8:f' 8=.ptr 3 6 0 0:=by rw[qr 8 (by decide),←hF];simp
  have a0:h'.get 0=some (.arr 36 6 [aE .none b1] (some 1)):=(x.get 0 (by decide)).trans (by rw[←hH];simp)
  have a1:h'.get 1=some (.arr 40 2 [.agg [.int .i64 tc,.int .i64 td]] (some 1)):=(x.get 1 (by decide)).trans (by rw[←hH];simp)
  have a2:h'.get 2=some (.arr 40 2 [.agg [.int .i64 sc,.int .i64 sd]] (some 1)):=(x.get 2 (by decide)).trans (by rw[←hH];simp)
  have a3:h'.get 3=some (.arr 36 6 [.agg [.int .i64 0,.nsl,.nsl,.nsl,.nsl,.nsl]] (some 1)):=(x.get 3 (by decide)).trans (by rw[←hH];simp)
  have al:h'.lim=0:=x.lim.trans sZ
  obtain⟨m,eB⟩:∃ m,h'.n=m+4:=⟨h'.n-4,by have:=x.le;omega⟩
  have gX:=jX.append hrw (jX.one (to:=a.bN) (k:=4) (tc:=tc) (td:=td) (ic:=sc) (id:=sd) (pd:=.nsl) (ad:=.nsl) (p:=[]) (.inr ⟨rfl,rfl⟩) (.inl rfl))
  simp only[List.nil_append]at gX
  cases SS with
  | nil hv hx =>
   subst hv
   subst hx
   simp[Ut,q4,q5,q6,q8,q12,q13,a0,a1,a2,a3,al,eB,x.wf]
   generalize hA:aY _ _ _ _ _ _=A
   obtain⟨v2,K,rfl,p',x',_⟩:=OwnR.append (lo:=4) (OwnR.start 4 _ 100 8) (by simp[x.wf]) (by simp[eB]<;>omega) (by simp[eB,al]) hA (by simp<;>omega) (by decide)
   clear hA
   have b0:=x'.get 0 (by decide)
   have b1':=x'.get 1 (by decide)
   have b2:=x'.get 2 (by decide)
   have b3:=x'.get 3 (by decide)
   have bl:=x'.lim
   have bn:=x'.le
   have l3:3<K.n:=by omega
   simp[eB,a0,a1,a2,a3,al]at b0 b1' b2 b3 bl p'
   have r1:∀o,resolve false (Dm.wl (K.set 3 o) 0) 199 v2=some (eL false 8 fY (kE a.bN iG++[⟨a.bN,4,⟨tc,td⟩,⟨sc,sd⟩,[]⟩])):=fun o=>pW ((by simpa[tX]using(p'.aU (o:=o) x'.wf (by decide) l3).wl (Nat.zero_le _)):OwnR 4 (Dm.wl (K.set 3 o) 0) v2 100 8 _) gX false (by decide)
   have Dt:bI 199 (eL false 8 fY (kE a.bN iG++[⟨a.bN,4,⟨tc,td⟩,⟨sc,sd⟩,[]⟩]))=true:=eS (fun y _=>(fK y).2) 199 (by decide)
   simp[q8,b0,b1',b2,b3,bl,al,l3,x'.wf,turn,aI,r1,Dt]
  | arr id sp cap hv hg Nf dS =>
   subst hv
   have Kq:=bB hg
   have e0:¬0=id:=by omega
   have e1:¬1=id:=by omega
   have e2:¬2=id:=by omega
   simp[Ut,q4,q5,q6,q8,q12,q13,a0,a1,a2,a3,al,eB,x.wf,e0,e1,e2]
   generalize hA:aY _ _ _ _ _ _=A
   obtain⟨v2,K,rfl,p',x',_⟩:=OwnR.append (lo:=4) (OwnR.push (.arr id sp cap rfl hg Nf dS)) (by simp[x.wf]) (by simp[eB]<;>omega) (by simp[eB,al]) hA (by simp<;>omega) (by decide)
   clear hA
   have b0:=x'.get 0 (by decide)
   have b1':=x'.get 1 (by decide)
   have b2:=x'.get 2 (by decide)
   have b3:=x'.get 3 (by decide)
   have bl:=x'.lim
   have bn:=x'.le
   have l3:3<K.n:=by omega
   simp[eB,a0,a1,a2,a3,al]at b0 b1' b2 b3 bl p'
   have r1:∀o,resolve false (K.set 3 o) 199 v2=some (eL false 8 fY (kE a.bN iG++[⟨a.bN,4,⟨tc,td⟩,⟨sc,sd⟩,[]⟩])):=fun o=>pW ((by simpa[tX]using p'.aU (o:=o) x'.wf (by decide) l3):OwnR 4 (K.set 3 o) v2 100 8 _) gX false (by decide)
   have Dt:bI 199 (eL false 8 fY (kE a.bN iG++[⟨a.bN,4,⟨tc,td⟩,⟨sc,sd⟩,[]⟩]))=true:=eS (fun y _=>(fK y).2) 199 (by decide)
   simp[q8,b0,b1',b2,b3,bl,al,l3,x'.wf,turn,aI,r1,Dt]
end Go.Dm.Tc
/-
What the reference's functions compute,part 16: subscriptions by a link.
-/
namespace Go.Dm.Tc
def gI(b:aH)(q:Int)(t s:ID)(p:bJ):aH×List jN :=
 ((dW b ⟨t,s,p,q,false⟩).1,if(dW b ⟨t,s,p,q,false⟩).2=true then[⟨dR b t,3,t,s,p⟩]else[])
theorem AT{b:aH}{e:aX}(hu:(dW b e).2=true):∃ a,gO b e.tree=some a:=by
 unfold dW at hu
 split at hu
 ·rename_i hm
  obtain⟨a,ha,_⟩:=rR.1 hm
  exact⟨a,ha⟩
 ·cases hu
theorem AbE{b c:aH}(Kw:c.aR=b.aR)(hz:fG b){tc td:Int}{a:bG}(ha:gO b ⟨tc,td⟩=some a) :
  ∃ j:Nat,pcF D Va [aE .none c,.agg [.int .i64 tc,.int .i64 td]]=some (.int .i64 j)∧∃ hj:j<b.aR.length,b.aR[j]=a:=by
 have xJ:=uM (fun a:bG=>decide (a.id=⟨tc,td⟩)) b.aR
 have HP:b.aR.find? (fun a=>decide (a.id=⟨tc,td⟩))=some a:=ha
 rw[HP]at xJ
 obtain⟨j,hj,HL⟩:=xJ
 refine⟨j,?_,(List.getElem?_eq_some_iff.1 HL)⟩
 have:=Cg (.int .i64 c.me) (eL false 1 bO c.aM) (eL false 2 eID c.seen) (eL false 7 aD c.entries) (eL false 3 cP c.bT) false c.aR tc td (by rw[Kw];have:=hz.adv;omega)
 rw[Kw,hj]at this
 simpa[gV,aE,dA.none,Kw]using this
theorem s61(b:aH)(k tc td sc sd q:Int)(p:bJ)(hi:cD b)(hz:fG b) :
  pcF D t61 [aE .none b,.int .i64 q,.agg [.int .i64 k,.int .i64 tc,.int .i64 td,.int .i64 sc,.int .i64 sd,bE p,.isl false 0 []]]=some (.tup [aE .none (eV b ⟨tc,td⟩ ⟨sc,sd⟩ q).1,eL false 8 fY (eV b ⟨tc,td⟩ ⟨sc,sd⟩ q).2]):=by
 have hd:=s98 b tc td sc sd q hi hz
 have Dt:∀os:List jN,bI 199 (eL false 8 fY os)=true:=fun os=>eS (fun y _=>(fK y).2) 199 (by decide)
 unfold pcF
 rw[aJ _ _ _ _ (by simp[t61])]
 simp[t61,e98,hd,turn,aI,Dt]
theorem s60(b:aH)(k tc td sc sd q:Int)(p:bJ)(hi:cD b)(hz:fG b)(hp:cB p) :
  pcF D t60 [aE .none b,.int .i64 q,.agg [.int .i64 k,.int .i64 tc,.int .i64 td,.int .i64 sc,.int .i64 sd,bE p,.isl false 0 []]]=some (.tup [aE .none (gI b q ⟨tc,td⟩ ⟨sc,sd⟩ p).1,eL false 8 fY (gI b q ⟨tc,td⟩ ⟨sc,sd⟩ p).2]):=by
 have oJ:=Z4 hi hz tc td sc sd hp q false
 unfold pcF
 rw[aJ _ _ _ _ (by simp[t60])]
 cases hu:(dW b ⟨⟨tc,td⟩,⟨sc,sd⟩,p,q,false⟩).2 with
 | false =>
  rw[hu]at oJ
  have hd:gI b q ⟨tc,td⟩ ⟨sc,sd⟩ p=((dW b ⟨⟨tc,td⟩,⟨sc,sd⟩,p,q,false⟩).1,[]):=by simp[gI,hu]
  rw[hd]
  simp[t60,e96,oJ,turn,aI,iD]
 | true =>
  rw[hu]at oJ
  obtain⟨a,ha⟩:=AT hu
  obtain⟨j,hFi,Ty,hjg⟩:=AbE (yS b ⟨⟨tc,td⟩,⟨sc,sd⟩,p,q,false⟩).2.1 hz ha
  have Kw:=(yS b ⟨⟨tc,td⟩,⟨sc,sd⟩,p,q,false⟩).2.1
  have xF:dR b ⟨tc,td⟩=a.bN:=by rw[eY,ha];rfl
  have hd:gI b q ⟨tc,td⟩ ⟨sc,sd⟩ p=((dW b ⟨⟨tc,td⟩,⟨sc,sd⟩,p,q,false⟩).1,[⟨a.bN,3,⟨tc,td⟩,⟨sc,sd⟩,p⟩]):=by simp[gI,hu,xF]
  rw[hd]
  have ri:∀h,resolve false h 197 (.isl false 0 [])=some (.isl false 0 []):=fun _=>rfl
  simp[t60,ri,e96,oJ,turn,Di,hFi,Kw,Ty,hjg,aG,e97,s97,aI]
  have Dt:bI 199 (eL false 8 fY [⟨a.bN,3,⟨tc,td⟩,⟨sc,sd⟩,p⟩])=true:=eS (fun y _=>(fK y).2) 199 (by decide)
  exact⟨Dt,rfl⟩
end Go.Dm.Tc
/-
What the reference's functions compute,part 17: a aW of the broker's ends a subscription.
-/
namespace Go.Dm.Tc
def fA(x:ID)(st:aH×List jN)(a:bG):aH×List jN:=((eV st.1 a.id x (-1)).1,st.2++(eV st.1 a.id x (-1)).2)
def endOwn(b:aH)(x:ID):aH:={b with bT:=cQ (fun o=>o.id) x b.bT}
def dG(b:aH)(x:ID):aH×List jN :=
 if(cQ (fun o:fT=>o.id) x b.bT).length=b.bT.length then(b,[])else b.aR.foldl (fA x) (endOwn b x,[])
theorem Ji:∀(os:List jN),jX (os.map fY) os:=fun os=>⟨by simp,fun tag h n hn=>pJ fun x hx=>by
 obtain⟨o,_,rfl⟩:=List.mem_map.1 hx
 exact(fK o).1 tag h n (by omega)⟩
theorem jW(b:aH)(t s:ID)(q:Int):(eV b t s q).1=(bZ b t s q).1:=by unfold eV;split<;>rfl
theorem Yy{b:aH}(h:cD b)(t s:ID)(q:Int):(eV b t s q).2.length≤b.entries.length+1:=by
 unfold eV
 split
 ·have:=Ie h t s q;simp[kE];exact this
 ·simp
theorem ZL.take{b:aH}(h:ZL b 0)(hi:cD b)(t s:ID)(q:Int):ZL (bZ b t s q).1 0:=by
 obtain⟨h1,h2,h3,h4,h5⟩:=h
 rcases nB hi t s q with⟨e,_⟩|⟨e,_,_,_,_,ht⟩|⟨e,hm,_,_,_,r',u',ht,hr,_⟩
 ·rw[e];exact⟨h1,h2,h3,h4,h5⟩
 ·rw[ht]
  have:=List.length_filter_le (fun x=>!isE t s x) b.entries
  exact⟨h1,h2,h3,h4,by simp only;omega⟩
 ·rw[ht]
  have:=List.length_filter_le (fun x=>!isE t s x) b.entries
  have h6:=hr.len
  exact⟨h1,h2,h3,h4,by simp only;omega⟩
theorem l30(xc xd:Int)(t:Bool)(oY:List bG)(hl:oY.length≤1000)(tx tb tn:Nat) :
  ∀(rest:List bG) (i:Nat) (nb:aH) (fE:List jN) (es:List DV) (v:DV) (f:cT) (h:aA),oY.drop i=rest→cD nb→ZL nb 0→jX es fE→es.length≤i*100001 →
  f 2=.ptr 0 6 0 0→f 3=.ptr 1 2 0 0→f 4=.ptr 2 6 0 0→f 9=v→f 40=eL t 4 aG oY→f 41=.int .i64 oY.length→f 42=.int .i64 i →
  h.get 1=some (.arr tx 2 [.agg [.int .i64 xc,.int .i64 xd]] (some 1))→h.get 2=some (.arr tb 6 [zB] (some 1))→h.get 0=some (.arr tn 6 [aE .none nb] (some 1))→OwnR 3 h v 100 8 es→h.lim=0→3≤h.n→WF h →
  cW (fin [.cell 4 (some 6),.t 5] (run D 63 [.block 2,.seq Uw] (.loop Ii) f h))=some (.tup [aE .none (rest.foldl (fA ⟨xc,xd⟩) (nb,fE)).1,eL false 8 fY (rest.foldl (fA ⟨xc,xd⟩) (nb,fE)).2]):=by
 intro rest
 induction rest with
 | nil =>
  intro i nb fE es v f h hd rY hz hr Au h2 h3 h4 h9 hW hL hI g1 g2 gB hv aL hn wf
  have hi:=bH hd
  have:¬(i<oY.length):=by omega
  have l2:2<h.n:=by omega
  have r1:=fun o=>pW (hv.aU (o:=o) wf (by decide:2<3) l2) hr false (n:=199) (by decide)
  have hu:bI 199 (eL false 8 fY fE)=true:=eS (fun y _=>(fK y).2) 199 (by decide)
  rw[aC Ii.eq_1]
  simp only[zB]at g2
  simp[Uw,hL,hI,this,h2,h4,h9,gB,g2,aL,l2,wf,turn,aI,r1,hu]
 | cons o rest ih =>
  intro i nb fE es v f h hd rY hz hr Au h2 h3 h4 h9 hW hL hI g1 g2 gB hv aL hn wf
  obtain⟨hi,he,eJ⟩:=bR hd
  obtain⟨⟨oc,od⟩,op,oq⟩:=o
  have Dz:=s98 nb oc od xc xd (-1) rY hz.sized
  have lO:cD (eV nb ⟨oc,od⟩ ⟨xc,xd⟩ (-1)).1:=by rw[jW];exact rY.take ..
  have Cq:ZL (eV nb ⟨oc,od⟩ ⟨xc,xd⟩ (-1)).1 0:=by rw[jW];exact hz.take rY ..
  have hdl:=Yy rY ⟨oc,od⟩ ⟨xc,xd⟩ (-1)
  have wI:=hz.ent
  obtain⟨m,eB⟩:∃ m,h.n=m+3:=⟨h.n-3,by omega⟩
  rw[aC Ii.eq_1]
  simp only[List.foldl_cons]
  have dK:fA ⟨xc,xd⟩ (nb,fE) ⟨⟨oc,od⟩,op,oq⟩=((eV nb ⟨oc,od⟩ ⟨xc,xd⟩ (-1)).1,fE++(eV nb ⟨oc,od⟩ ⟨xc,xd⟩ (-1)).2):=rfl
  rw[dK]
  generalize hB1:(eV nb ⟨oc,od⟩ ⟨xc,xd⟩ (-1)).1=b1 at *
  generalize hO1:(eV nb ⟨oc,od⟩ ⟨xc,xd⟩ (-1)).2=o1 at *
  have kZ:∀p1 p2 p3,elems (((h.push p1).push p2).push p3) 8 v=some es:=fun p1 p2 p3=>hv.push.push.push.elems
  simp[hL,hI,hW,hi,he,aG,h2,h3,h4,h9,eB,g1,gB,aL,wf,turn,e98,Dz,kZ]
  have ofr:∀p1 p2,fO (m+5) (((h.push p1).push p2).push (.arr 100 8 [] (some 0))) (m+3+1+1) 100 8 []:=fun p1 p2=>by
   have:=fO.fresh (lo:=m+5) (h:=(h.push p1).push p2) (ety:=100) (sz:=8) (xs:=[]) (cap:=some 0) (by simp[aL]) (by simp[eB])
   simpa[eB]using this
  have hi1000:i*100001≤1000*100001:=Nat.mul_le_mul_right _ (by omega)
  generalize hA:aY _ _ _ _ _ _=A
  obtain⟨i1,K1,rfl,u1,x1,y1,j1⟩:=(ofr _ _).append (n:=0) rfl (by simp[wf]) (by simp[eB]) (by simp[aL]) hA (by simp;omega) (by decide)
  clear hA
  have a0:=x1.get 0 (by omega)
  have a1:=x1.get 1 (by omega)
  have a2:=x1.get 2 (by omega)
  have a4:=x1.get (m+3+1) (by omega)
  have al:=x1.lim
  have an:=x1.le
  have ul:=u1.lo
  simp[eB,g1,g2,gB,aL,wf]at a0 a1 a2 a4 al u1
  have m4:¬m+3+1=i1:=by omega
  simp[h9,m4]
  generalize hA:aY _ _ _ _ _ _=A
  obtain⟨i2,K2,rfl,u2,x2,y2,j2⟩:=u1.append (by simp) x1.wf an (by omega) hA (by simp;omega) (by decide)
  clear hA
  have b0:=x2.get 0 (by omega)
  have b1':=x2.get 1 (by omega)
  have b2:=x2.get 2 (by omega)
  have bl:=x2.lim
  have bn:=x2.le
  have l0:0<K2.n:=by omega
  rw[a0]at b0
  rw[a1]at b1'
  rw[a2]at b2
  rw[al]at bl
  simp[hI,h2,b0,bl,l0,x2.wf,turn]
  rw[aT (by omega) (by omega)]
  generalize hF:upd _ 42 _=F
  have Aq:=jX.append hr (Ji o1)
  have SO:OwnR 3 (K2.set 0 (.arr tn 6 [aE .none b1] (some 1))) (.sl i2 8 0 (es.length+o1.length)) 100 8 (es++o1.map fY):=by
   have:=(u2.toR.aU (o:=.arr tn 6 [aE .none b1] (some 1)) x2.wf (by omega:0<m+5) l0).lower (by omega:3≤m+5)
   simpa using this
  refine ih (i+1) b1 (fE++o1) _ _ F _ eJ lO Cq Aq (by simp[Nat.add_mul];omega) ?_ ?_ ?_ ?_ ?_ ?_ ?_ ?_ ?_ ?_ SO ?_ ?_ ?_
  all_goals first
   | (rw[←hF];simp[h2,h3,h4,h9,hW,hL];done)
   | (simp[b0,b1',b2,bl,l0,x2.wf];done)
   | (simp;omega)
end Go.Dm.Tc
/-
What the reference's functions compute,part 18: a aW of the broker's ends a subscription,all of it.
-/
namespace Go.Dm.Tc
theorem m30(S:List Fr)(xc xd:Int)(t:Bool)(bT:List fT)(hl:bT.length≤100000)(tx:Nat)(h0:aA)(g1:h0.get 1=some (.arr tx 2 [.agg [.int .i64 xc,.int .i64 xd]] (some 1)))(aL:h0.lim=0)(P:Res→Prop) :
  ∀(rest:List fT) (i:Nat) (eR:List fT) (v:DV) (f:cT) (h:aA),bT.drop i=rest→(eR.length≤i∧i≤bT.length)→f 3=.ptr 1 2 0 0→f 6=v→f 15=eL t 3 cP bT→f 16=.int .i64 bT.length→f 17=.int .i64 i→OwnR 3 h v 98 3 (eR.map cP)→Ext 3 h0 h →
  (∀f' h' v',f' 6=v'→(∀r,r<6→f' r=f r)→OwnR 3 h' v' 98 3 ((eR++cQ (fun o=>o.id) ⟨xc,xd⟩ rest).map cP)→Ext 3 h0 h'→P (run D 63 S Uv f' h')) →
  P (run D 63 (.block 0::.seq Uv::S) (.loop W5) f h):=by
 intro rest
 induction rest with
 | nil =>
  intro i eR v f h hd he h3 h6 zC zO Cz ho x hP
  have hi:=bH hd
  have:¬(i<bT.length):=by omega
  have k:∀r q:Nat,r<6→6≤q→¬r=q:=fun r q h1 h2=>by omega
  rw[aC W5.eq_1]
  simp[zO,Cz,this]
  exact hP _ h v (by simp[h6]) (fun r hr=>by simp[k r _ hr]) (by simpa[cQ]using ho) x
 | cons o rest ih =>
  intro i eR v f h hd he h3 h6 zC zO Cz ho x hP
  obtain⟨hi,kL,eJ⟩:=bR hd
  obtain⟨⟨oc,od⟩,op⟩:=o
  have a1:=(x.get 1 (by decide)).trans g1
  have al:=x.lim.trans aL
  obtain⟨m,eB⟩:∃ m,h.n=m+3:=⟨h.n-3,by have:=x.le;omega⟩
  have k:∀r q:Nat,r<6→6≤q→¬r=q:=fun r q h1 h2=>by omega
  rw[aC W5.eq_1]
  by_cases hx:oc=xc∧od=xd
  ·obtain⟨rfl,rfl⟩:=hx
   simp[h3,h6,zC,zO,Cz,hi,kL,cP,x.wf,al,a1,eB,turn]
   rw[aT (by omega) (by omega)]
   generalize hF:upd _ 17 _=F
   refine ih (i+1) eR v F _ eJ (by omega) ?_ ?_ ?_ ?_ ?_ ho.push x.push fun f' h' v' q6 qr q8 q9=>?_
   all_goals first
    | (rw[←hF];simp[h3,h6,zC,zO];done)
    | skip
   refine hP f' h' v' q6 (fun r hr=>?_) (by simpa[cQ]using q8) q9
   rw[qr r hr,←hF]
   simp[k r _ hr]
  ·have uG:¬(oc=xc∧od=xd):=hx
   have UR:¬oc=xc∨¬od=xd:=by omega
   have fI:¬(⟨oc,od⟩:ID)=⟨xc,xd⟩:=fun e=>hx (by injection e with e1 e2;exact⟨e1,e2⟩)
   simp[h3,h6,zC,zO,Cz,hi,kL,cP,x.wf,al,a1,eB,turn,uG,UR]
   generalize hA:aY _ _ _ _ _ _=A
   obtain⟨v',K,rfl,p',x',_⟩:=OwnR.append (ho.push.push) (by simp[x.wf]) (by simp[eB]<;>omega) (by simp[al]) hA (by simp;omega) (by decide)
   clear hA
   simp[Cz,UR]
   rw[aT (by omega) (by omega)]
   generalize hF:upd _ 17 _=F
   refine ih (i+1) (eR++[⟨⟨oc,od⟩,op⟩]) v' F K eJ (by simp;omega) ?_ ?_ ?_ ?_ ?_ (by simpa[cP]using p') ((x.push.push).trans x') fun f' h' v2 q6 qr q8 q9=>?_
   all_goals first
    | (rw[←hF];simp[h3,h6,zC,zO];done)
    | skip
   refine hP f' h' v2 q6 (fun r hr=>?_) (by simpa[cQ,fI]using q8) q9
   rw[qr r hr,←hF]
   simp[k r _ hr]
end Go.Dm.Tc
