/- A part of the proof. -/
import Derived.Test.YtegofjiikhlokaaGreatDoorMs0
set_option linter.all false
namespace Go.Dm.Tc
set_option maxRecDepth 20000
theorem Tn{α:Type}(cm:α→Int){l:List α}{i:Nat}{a:α}(bD:i<aU cm l)(ha:l[i]?=some a):decide (cm a<0)=true:=by
 have hi:i<l.length:=by have:=dB cm l;omega
 have:=List.not_of_lt_findIdx (p:=fun b=>!decide (cm b<0)) (xs:=l) (i:=i) bD
 rw[List.getElem?_eq_getElem hi]at ha
 injection ha with ha
 rw[ha]at this
 simpa using this
theorem l99(S:List Fr)(h:aA)(x0 x1 x2 x4 x5:DV)(t:Bool)(l:List ID)(c d:Int)(p q:DV)(ta tb:Nat)(hl:l.length≤1000000)
  (g0:h.get 0=some (.arr tb 6 [.agg [x0,x1,x2,eL t 2 eID l,x4,x5]] (some 1))) (g1:h.get 1=some (.arr ta 4 [.agg [.int .i64 c,.int .i64 d,p,q]] (some 1))) :
  ∀(n i:Nat) (f:cY),aU (fun b=>bW b ⟨c,d⟩) l-i=n→i≤aU (fun b=>bW b ⟨c,d⟩) l→f 2=.ptr 0 6 0 0→f 3=.ptr 1 4 0 0→f 6=.int .i64 i →
  ∃ f',run D 79 (.block 0::.seq Y0::S) (.loop X9) f h=run D 79 S Y0 f' h∧f' 2=.ptr 0 6 0 0∧f' 3=.ptr 1 4 0 0∧f' 4=f 4∧f' 5=f 5∧f' 6=.int .i64 (aU (fun b=>bW b ⟨c,d⟩) l):=by
 intro n
 induction n with
 | zero =>
  intro i f hn hi h2 h3 h6
  have dV:aU (fun b=>bW b ⟨c,d⟩) l=i:=by omega
  rw[aC X9.eq_1]
  by_cases bD:i<l.length
  ·have j8:=Cs (fun b:ID=>bW b ⟨c,d⟩) hi (List.getElem?_eq_getElem bD)
   have Zg:kN ⟨l[i].aS,l[i].seq⟩ ⟨c,d⟩=false:=by
    unfold kN
    simp only[decide_eq_false_iff_not]
    intro hc
    have:=j8.1 hc
    omega
   have rB:(i:Int)<l.length:=by omega
   simp[h2,h3,h6,g0,g1,bD,eID,e94,s94,Zg]
   exact⟨_,rfl,by simp[h2],by simp[h3],by simp,by simp,by simp[h6,dV]⟩
  ·simp[h2,h3,h6,g0,g1,bD]
   exact⟨_,rfl,by simp[h2],by simp[h3],by simp,by simp,by simp[h6,dV]⟩
 | succ n ih =>
  intro i f hn hi h2 h3 h6
  have bD:i<l.length:=by have:=dB (fun b=>bW b ⟨c,d⟩) l;omega
  have Zg:kN ⟨l[i].aS,l[i].seq⟩ ⟨c,d⟩=true:=Tn (fun b:ID=>bW b ⟨c,d⟩) (by omega) (List.getElem?_eq_getElem bD)
  rw[aC X9.eq_1]
  simp[h2,h3,h6,g0,g1,bD,eID,e94,s94,Zg]
  rw[aX (by omega) (by omega)]
  generalize hF:upd _ 6 _=F
  obtain⟨f',k1,k2,k3,k4,k5,k6⟩:=ih (i+1) F (by omega) (by omega) (by rw[←hF];simp[h2]) (by rw[←hF];simp[h3]) (by rw[←hF];simp)
  exact⟨f',k1,k2,k3,by rw[k4,←hF];simp,by rw[k5,←hF];simp,k6⟩
theorem m99(S:List Fr)(h:aA)(x0 x1 x3 x4 x5:DV)(t:Bool)(l:List bC)(c d:Int)(p q:DV)(ta tb:Nat)(hl:l.length≤1000000)
  (g0:h.get 0=some (.arr tb 6 [.agg [x0,x1,eL t 4 aG l,x3,x4,x5]] (some 1))) (g1:h.get 1=some (.arr ta 4 [.agg [.int .i64 c,.int .i64 d,p,q]] (some 1))) :
  ∀(n i:Nat) (f:cY),aU (fun b=>bW b.id ⟨c,d⟩) l-i=n→i≤aU (fun b=>bW b.id ⟨c,d⟩) l→f 2=.ptr 0 6 0 0→f 3=.ptr 1 4 0 0→f 6=.int .i64 i →
  ∃ f',run D 79 (.block 2::.seq Y1::S) (.loop X8) f h=run D 79 S Y1 f' h∧f' 2=.ptr 0 6 0 0∧f' 3=.ptr 1 4 0 0∧f' 4=f 4∧f' 5=f 5∧f' 6=.int .i64 (aU (fun b=>bW b.id ⟨c,d⟩) l):=by
 intro n
 induction n with
 | zero =>
  intro i f hn hi h2 h3 h6
  have dV:aU (fun b=>bW b.id ⟨c,d⟩) l=i:=by omega
  rw[aC X8.eq_1]
  by_cases bD:i<l.length
  ·have j8:=Cs (fun b:bC=>bW b.id ⟨c,d⟩) hi (List.getElem?_eq_getElem bD)
   have Zg:kN ⟨l[i].id.aS,l[i].id.seq⟩ ⟨c,d⟩=false:=by
    unfold kN
    simp only[decide_eq_false_iff_not]
    intro hc
    have:=j8.1 hc
    omega
   simp[h2,h3,h6,g0,g1,bD,aG,e94,s94,Zg]
   exact⟨_,rfl,by simp[h2],by simp[h3],by simp,by simp,by simp[h6,dV]⟩
  ·simp[h2,h3,h6,g0,g1,bD]
   exact⟨_,rfl,by simp[h2],by simp[h3],by simp,by simp,by simp[h6,dV]⟩
 | succ n ih =>
  intro i f hn hi h2 h3 h6
  have bD:i<l.length:=by have:=dB (fun b:bC=>bW b.id ⟨c,d⟩) l;omega
  have Zg:kN ⟨l[i].id.aS,l[i].id.seq⟩ ⟨c,d⟩=true:=Tn (fun b:bC=>bW b.id ⟨c,d⟩) (by omega) (List.getElem?_eq_getElem bD)
  rw[aC X8.eq_1]
  simp[h2,h3,h6,g0,g1,bD,aG,e94,s94,Zg]
  rw[aX (by omega) (by omega)]
  generalize hF:upd _ 6 _=F
  obtain⟨f',k1,k2,k3,k4,k5,k6⟩:=ih (i+1) F (by omega) (by omega) (by rw[←hF];simp[h2]) (by rw[←hF];simp[h3]) (by rw[←hF];simp)
  exact⟨f',k1,k2,k3,by rw[k4,←hF];simp,by rw[k5,←hF];simp,k6⟩
theorem s99(b:aF)(c d:Int)(p:bI)(q:Int)(hs:fT b)(ra:dU (b.aR.map (·.id)))(rs:dU b.seen) :
  pcF D t99 [aH .none b,.agg [.int .i64 c,.int .i64 d,bF p,.int .i64 q]]=some (.tup [aH .none (bH b ⟨⟨c,d⟩,p,q⟩).1,.bool (bH b ⟨⟨c,d⟩,p,q⟩).2]):=by
 obtain⟨me,aL,adv,seen,ent,own⟩:=b
 obtain⟨z1,z2,z3,z4,z5⟩:=hs
 simp only at z1 z2 z3 z4 z5 ra rs
 obtain⟨R,hR⟩:∃ R,R=DV.tup [aH .none (bH ⟨me,aL,adv,seen,ent,own⟩ ⟨⟨c,d⟩,p,q⟩).1,.bool (bH ⟨me,aL,adv,seen,ent,own⟩ ⟨⟨c,d⟩,p,q⟩).2]:=⟨_,rfl⟩
 rw[←hR]
 have E1:seen.length≤1000000:=by omega
 have Bc:adv.length≤1000000:=by omega
 unfold pcF
 rw[aJ _ _ _ _ (by simp[t99])]
 by_cases hm:(⟨c,d⟩:ID)∈seen
 ·simp[t99,aH,dG.none,e150,s150,E1,hm,aI]
  simp[hR,bH,hm,dG.none,aH]
 ·simp[t99,aH,dG.none,e150,s150,E1,hm]
  generalize hF:upd _ 6 _=F
  obtain⟨f1,k1,k2,k3,k4,k5,k6⟩:=l99 [] (.int .i64 me) (eL false 1 bQ aL) (eL false 4 aG adv) (eL false 7 aD ent) (eL false 3 cT own) false seen c d (bF p) (.int .i64 q) 93 36 E1 (h:=((pB.push (.arr 36 6 [.agg [.int .i64 me,eL false 1 bQ aL,eL false 4 aG adv,eL false 2 eID seen,eL false 7 aD ent,eL false 3 cT own]] (some 1))).push (.arr 93 4 [.agg [.int .i64 c,.int .i64 d,bF p,.int .i64 q]] (some 1))).push (.arr 36 6 [.agg [.int .i64 0,.nsl,.nsl,.nsl,.nsl,.nsl]] (some 1))) (by simp) (by simp) _ 0 F rfl (by omega) (by rw[←hF];simp) (by rw[←hF];simp) (by rw[←hF];simp)
  rw[k1]
  rw[←hF]at k4 k5
  simp at k4 k5
  clear hF k1
  have iG:=dB (fun b=>bW b ⟨c,d⟩) seen
  have hlow2:=dB (fun b:bC=>bW b.id ⟨c,d⟩) adv
  simp[Y0,k2,k3,k4,k5,k6,iG]
  generalize hA:aY _ _ _ _ _ _=A
  obtain⟨i1,K1,rfl,o1,x1,y1,j1⟩:=(fW.fresh (lo:=3) (ety:=40) (sz:=2) (xs:=[]) (cap:=some 0) (by simp) (by simp)).append (n:=0) rfl (by simp) (by simp) (by simp) hA (by simp;omega) (by decide)
  clear hA
  have a0:=x1.get 0 (by decide)
  have a1:=x1.get 1 (by decide)
  have a2:=x1.get 2 (by decide)
  have q1:=x1.lim
  have w1:=x1.wf
  have n1:=x1.le
  have u1:=o1.lo
  have m0:¬0=i1:=by omega
  have m1:¬i1=0:=by omega
  have m2:¬i1=1:=by omega
  have m3:¬1=i1:=by omega
  simp at a0 a1 a2 q1 o1
  simp[k2,k3,a0,a1,a2,q1,m0,m1,m2,m3,iG]
  generalize hA:aY _ _ _ _ _ _=A
  obtain⟨i2,K2,rfl,o2,x2,y2,j2⟩:=(o1.push (o:=_)).append (by simp[iG]) (by simp[w1]) (by simp;omega) (by simp[q1]) hA (by simp;omega) (by decide)
  clear hA
  have b0:=x2.get 0 (by decide)
  have b1:=x2.get 1 (by decide)
  have b2:=x2.get 2 (by decide)
  have q2:=x2.lim
  have w2:=x2.wf
  have n2:=x2.le
  have u2:=o2.lo
  have c0:¬0=K1.n:=by omega
  have c1:¬1=K1.n:=by omega
  have c2:¬2=K1.n:=by omega
  have m4:¬i2=0:=by omega
  have m5:¬i2=1:=by omega
  simp[a0,a1,a2,q1,c0,c1,c2]at b0 b1 b2 q2 o2
  simp[k2,k3,k6,b0,b1,b2,q2,m0,m1,m2,m3,m4,m5,iG]
  generalize hA:aY _ _ _ _ _ _=A
  obtain⟨i3,K3,rfl,o3,x3,y3,j3⟩:=o2.append (by simp[iG]) w2 n2 (by omega) hA (by simp;omega) (by decide)
  clear hA
  have d0:=x3.get 0 (by decide)
  have d1:=x3.get 1 (by decide)
  have d2:=x3.get 2 (by decide)
  have q3:=x3.lim
  have w3:=x3.wf
  have n3:=x3.le
  have l3:0<K3.n:=by omega
  rw[b0]at d0
  rw[b1]at d1
  rw[b2]at d2
  rw[q2]at q3
  have cJ:(List.take (aU (fun b=>bW b ⟨c,d⟩) seen) (List.map eID seen)++[DV.agg [.int .i64 c,.int .i64 d]]++List.drop (aU (fun b=>bW b ⟨c,d⟩) seen) (List.map eID seen))=(gX (fun x=>x) ⟨c,d⟩ seen).map eID:=by simp[gX,eID]
  have o3':fW 3 K3 i3 40 2 ((gX (fun x=>x) ⟨c,d⟩ seen).map eID):=by rw[←cJ];simpa using o3
  simp[k2,k3,b0,d0,q3,w3,l3,turn]
  generalize hF:upd _ 6 _=F
  generalize hK:K3.set 0 _=K4
  have pO:min (aU (fun b=>bW b ⟨c,d⟩) seen) seen.length=aU (fun b=>bW b ⟨c,d⟩) seen:=by omega
  have e0:K4.get 0=some (.arr 36 6 [.agg [.int .i64 me,eL false 1 bQ aL,eL false 4 aG adv,.sl i3 2 0 ((gX (fun x=>x) ⟨c,d⟩ seen).map eID).length,eL false 7 aD ent,eL false 3 cT own]] (some 1)):=by
   rw[←hK];simp[w3,l3,pO,gX];omega
  have e1:K4.get 1=some (.arr 93 4 [.agg [.int .i64 c,.int .i64 d,bF p,.int .i64 q]] (some 1)):=by
   rw[←hK];simp[w3,l3,d1]
  have e2:K4.get 2=some (.arr 36 6 [.agg [.int .i64 0,.nsl,.nsl,.nsl,.nsl,.nsl]] (some 1)):=by
   rw[←hK];simp[w3,l3,d2]
  have w4:WF K4:=by rw[←hK];exact w3.set
  have q4:K4.lim=0:=by rw[←hK];exact q3
  have n4:3≤K4.n:=by rw[←hK];exact n3
  have o4:fW 3 K4 i3 40 2 ((gX (fun x=>x) ⟨c,d⟩ seen).map eID):=by rw[←hK];exact o3'.aW w3 (by decide) l3
  have hF2:F 2=.ptr 0 6 0 0:=by rw[←hF];simp[k2]
  have hF3:F 3=.ptr 1 4 0 0:=by rw[←hF];simp[k3]
  have hF4:F 4=.ptr 2 6 0 0:=by rw[←hF];simp[k4]
  have hF5:F 5=.bool false:=by rw[←hF];simp[k5]
  have hF6:F 6=.int .i64 ((0:Nat):Int):=by rw[←hF];simp
  clear hF hK d0 d1 d2 q3 w3 n3 l3 o3 o3' x3 y3 j3 b0 b1 b2 q2 w2 n2 u2 x2 y2 j2 o2 a0 a1 a2 q1 w1 n1 u1 x1 y1 j1 o1 c0 c1 c2 m0 m1 m2 m3 m4 m5 k2 k3 k4 k5 k6 cJ
  obtain⟨f2,k1,k2,k3,k4,k5,k6⟩:=m99 [] K4 _ _ _ _ _ false adv c d (bF p) (.int .i64 q) _ _ Bc e0 e1 _ 0 F rfl (by omega) hF2 hF3 hF6
  rw[k1]
  rw[hF4]at k4
  rw[hF5]at k5
  have u3:=o4.lo
  have v0:¬0=K4.n:=by omega
  have v1:¬1=K4.n:=by omega
  have v2:¬2=K4.n:=by omega
  have v3:¬K4.n=0:=by omega
  have v4:¬K4.n=1:=by omega
  simp[Y1,k2,k3,k4,k5,k6,hlow2,e0,e1,e2,q4,w4,v0,v1,v2,v3,v4]
  generalize hA:aY _ _ _ _ _ _=A
  obtain⟨i1,K1,rfl,o1,x1,y1,j1⟩:=(fW.fresh (lo:=3) (ety:=93) (sz:=4) (xs:=[]) (cap:=some 0) (by omega) n4).append (n:=0) rfl w4.push (by simp;omega) (by simp[q4]) hA (by simp;omega) (by decide)
  clear hA
  have a0:=x1.get 0 (by decide)
  have a1:=x1.get 1 (by decide)
  have a2:=x1.get 2 (by decide)
  have q1:=x1.lim
  have w1:=x1.wf
  have n1:=x1.le
  have u1:=o1.lo
  have m0:¬0=i1:=by omega
  have m1:¬i1=0:=by omega
  have m2:¬i1=1:=by omega
  have m3:¬1=i1:=by omega
  simp[e0,e1,e2,v0,v1,v2,q4]at a0 a1 a2 q1 o1
  have s1:=(o4.push).keep y1 x1.lim (by decide)
  simp[k2,k3,e0,e1,e2,a0,a1,a2,q1,m0,m1,m2,m3,v3,v4,hlow2]
  generalize hA:aY _ _ _ _ _ _=A
  obtain⟨i2,K2,rfl,o2,x2,y2,j2⟩:=(o1.push (o:=_)).append (by simp[hlow2]) (by simp[w1]) (by simp;omega) (by simp[q1]) hA (by simp;omega) (by decide)
  clear hA
  have b0:=x2.get 0 (by decide)
  have b1:=x2.get 1 (by decide)
  have b2:=x2.get 2 (by decide)
  have q2:=x2.lim
  have w2:=x2.wf
  have n2:=x2.le
  have u2:=o2.lo
  have c0:¬0=K1.n:=by omega
  have c1:¬1=K1.n:=by omega
  have c2:¬2=K1.n:=by omega
  have m4:¬i2=0:=by omega
  have m5:¬i2=1:=by omega
  simp[a0,a1,a2,q1,c0,c1,c2]at b0 b1 b2 q2 o2
  have s2:=(s1.push).keep y2 x2.lim (by decide)
  simp[k2,k3,k6,e0,e1,b0,b1,b2,q2,m0,m1,m2,m3,m4,m5,v3,v4,hlow2]
  generalize hA:aY _ _ _ _ _ _=A
  obtain⟨i4,K3,rfl,o3,x3,y3,j3⟩:=o2.append (by simp[hlow2]) w2 n2 (by omega) hA (by simp;omega) (by decide)
  clear hA
  have d0:=x3.get 0 (by decide)
  have d2:=x3.get 2 (by decide)
  have q3:=x3.lim
  have w3:=x3.wf
  have n3:=x3.le
  have l3:0<K3.n:=by omega
  have l32:2<K3.n:=by omega
  rw[b0]at d0
  rw[b2]at d2
  rw[q2]at q3
  have s3:=s2.keep y3 x3.lim (by decide)
  have cJ:(List.take (aU (fun b:bC=>bW b.id ⟨c,d⟩) adv) (List.map aG adv)++DV.agg [.int .i64 c,.int .i64 d,bF p,.int .i64 q]::List.drop (aU (fun b:bC=>bW b.id ⟨c,d⟩) adv) (List.map aG adv))=(gX (fun a=>a.id) ⟨⟨c,d⟩,p,q⟩ adv).map aG:=by simp[gX,aG]
  simp only[List.append_assoc,List.singleton_append]at o3
  rw[cJ]at o3
  have hmin2:min (aU (fun b:bC=>bW b.id ⟨c,d⟩) adv) adv.length=aU (fun b:bC=>bW b.id ⟨c,d⟩) adv:=by omega
  have Ze:(gX (fun a=>a.id) ⟨⟨c,d⟩,p,q⟩ adv).length=aU (fun b:bC=>bW b.id ⟨c,d⟩) adv+1+(adv.length-aU (fun b:bC=>bW b.id ⟨c,d⟩) adv):=by simp[gX,hmin2];omega
  have r3:=fun o o'=>((o3.toR.aW (o:=o) w3 (by decide) l3).aW (o:=o') w3.set (by decide) l32).resolve (n:=198) false (fun y _=>(iK y).1) (by decide)
  have r4:=fun o o'=>((s3.toR.aW (o:=o) w3 (by decide) l3).aW (o:=o') w3.set (by decide) l32).resolve (n:=198) false (fun y _=>(qC y).1) (by decide)
  simp only[List.length_map,Ze]at r3
  simp only[List.length_map]at r4
  simp[k2,k3,k4,k5,e0,b0,d0,d2,q3,w3,l3,l32,turn,hmin2,v3,v4,m1,m4,r3,r4,aI]
  simp[hR,bH,hm,dG.none,aH]
end Go.Dm.Tc
namespace Go.Dm.Tc
def oG(s:List UInt8):Bool:=s.all fun b=>decide (97≤b.toNat) && decide (b.toNat≤122)
def Ap(s:List UInt8):Bool:=oG s && !decide (s=[]) && decide (s.length≤12)
theorem l166(xs:List UInt8)(hl:xs.length≤1000000) :
  ∀(rest:List UInt8) (i:Nat) (f:cY) (h:aA),xs.drop i=rest→f 0=.str xs→f 5=.int .i64 xs.length→f 6=.int .i64 i →
  dC (fin [.t 2] (run D 27 [.block 0,.seq Qp] (.loop Qo) f h))=some (.bool (oG rest && !decide (xs=[]) && decide (xs.length≤12))):=by
 intro rest
 induction rest with
 | nil =>
  intro i f h hd h0 h5 h6
  have hi:=bR hd
  have:¬(i<xs.length):=by omega
  rw[aC Qo.eq_1]
  by_cases hx:xs=[]
  ·subst hx
   have h0i:¬(i:Int)<0:=by omega
   simp[Qp,h0,h5,h6,h0i,oG]
  ·have hb:(xs == ([]:List UInt8))=false:=by cases xs<;>simp_all
   simp[Qp,h0,h5,h6,this,hx,hb,oG]
   omega
 | cons e rest ih =>
  intro i f h hd h0 h5 h6
  obtain⟨hi,he,fI⟩:=cB hd
  have hq:∀k,rJ (.str xs) (.int k (i:Int))=some (.int .u8 e.toNat):=fun k=>Nq xs k i (by rw[List.getElem?_eq_getElem hi,he])
  rw[aC Qo.eq_1]
  by_cases h1:e.toNat<97
  ·have Dh:(e.toNat:Int)<97:=by omega
   have dI:oG (e::rest)=false:=by
    have:¬97≤e.toNat:=by omega
    simp only[oG,List.all_cons,decide_eq_false this,Bool.false_and]
   simp[h0,h5,h6,hi,hq,Dh,dI]
  ·have Dh:¬(e.toNat:Int)<97:=by omega
   by_cases h2:122<e.toNat
   ·have IY:(122:Int)<e.toNat:=by omega
    have dI:oG (e::rest)=false:=by
     have:¬e.toNat≤122:=by omega
     simp only[oG,List.all_cons,decide_eq_false this,Bool.and_false,Bool.false_and]
    simp[h0,h5,h6,hi,hq,Dh,IY,dI]
   ·have IY:¬(122:Int)<e.toNat:=by omega
    have dI:oG (e::rest)=oG rest:=by
     have q1:97≤e.toNat:=by omega
     have q2:e.toNat≤122:=by omega
     simp only[oG,List.all_cons,decide_eq_true q1,decide_eq_true q2,Bool.true_and]
    simp[h0,h5,h6,hi,hq,Dh,IY,dI]
    rw[aX (by omega) (by omega)]
    refine(ih (i+1) _ h fI ?_ ?_ ?_).trans ?_<;>simp[h0,h5]
theorem Jn(xs:List UInt8)(hl:xs.length≤1000000):pcF D DC [.str xs]=some (.bool (Ap xs)):=by
 unfold pcF
 rw[aJ _ _ _ _ (by simp[DC])]
 simp[DC]
 refine(l166 xs hl xs 0 _ _ rfl ?_ ?_ ?_).trans ?_<;>simp[Ap]
def dD(c : fB) : Bool :=
  Ap c.name &&
    (if c.kind = 1 then decide (c.lo ≤ c.hi) && decide (c.text = [])
     else if c.kind = 3 then !decide (c.text.length = 12) && (decide (c.lo = 0) && decide (c.hi = 0) && decide (c.text.length ≤ 12))
     else if c.kind = 2 then decide (c.lo = 0) && decide (c.hi = 0) && decide (c.text.length ≤ 12)
     else false)
theorem s138(nm:List UInt8)(k lo hi:Int)(tx:List UInt8)(hl:nm.length≤1000000) :
  pcF D zD [.agg [.str nm,.int .i64 k,.int .i64 lo,.int .i64 hi,.str tx]]=some (.bool (dD ⟨nm,k,lo,hi,tx⟩)):=by
 unfold pcF
 rw[aJ _ _ _ _ (by simp[zD])]
 cases hn:Ap nm with
 | false=>simp[zD,Lx,Jn,hl,hn,dD]
 | true =>
  have cJ:∀n:Nat,((tx.length:Int) == (n:Int))=decide (tx.length=n):=fun n=>by
   by_cases h:tx.length=n
   ·simp[h]
   ·have h':¬(tx.length:Int)=n:=by omega
    simp[h,h']
  have S3:(tx == ([]:List UInt8))=decide (tx=[]):=by cases tx<;>simp
  by_cases k1:k=1
  ·subst k1
   by_cases h1:lo≤hi
   ·simp[zD,Lx,Jn,hl,hn,dD,h1,S3]
   ·simp[zD,Lx,Jn,hl,hn,dD,h1,S3]
  ·by_cases k3:k=3
   ·subst k3
    by_cases gQ:tx.length=12
    ·simp[zD,Lx,Jn,hl,hn,dD,gQ]
    ·have h12':¬(tx.length:Int)=12:=by omega
     by_cases dV:lo=0
     ·by_cases Hg:hi=0
      ·simp[zD,Lx,Jn,hl,hn,dD,gQ,h12',dV,Hg]
       omega
      ·simp[zD,Lx,Jn,hl,hn,dD,gQ,h12',dV,Hg]
     ·simp[zD,Lx,Jn,hl,hn,dD,gQ,h12',dV]
   ·by_cases k2:k=2
    ·subst k2
     by_cases dV:lo=0
     ·by_cases Hg:hi=0
      ·simp[zD,Lx,Jn,hl,hn,dD,dV,Hg]
       omega
      ·simp[zD,Lx,Jn,hl,hn,dD,dV,Hg]
     ·simp[zD,Lx,Jn,hl,hn,dD,dV]
    ·simp[zD,Lx,Jn,hl,hn,dD,k1,k2,k3]
def mJ:Option (List UInt8)→bI→Bool
 | _,[]=>true
 | prev,c::r=>dD c && (match prev with|none=>true|some n=>Go.Op.bytesLess n c.name) && mJ (some c.name) r
def tM(p:bI):Bool:=mJ none p && decide (p.length≤5)
def Ux(p:bI):Prop:=p.length≤1000000∧∀c∈p,c.name.length≤1000000
end Go.Dm.Tc
namespace Go.Dm.Tc
def fE(b:aF)(n:Int):Bool:=decide (n=-1) || b.aL.contains n
def cmpE(t1 s1 t2 s2:ID):Int:=orI (bW t1 t2) (bW s1 s2)
def ltE(x y:aV):Bool:=decide (cmpE x.tree x.sub y.tree y.sub<0)
theorem rI{α:Type}{key:α→ID}:∀{l:List α},dU (l.map key)→mH (fun x y=>kN (key x) (key y)) l=true
 | [],_=>rfl
 | [a],_=>rfl
 | a::b::r,h=>by
  unfold dU at h
  rw[List.map_cons,List.pairwise_cons]at h
  simp only[mH,Bool.and_eq_true]
  refine⟨?_,rI (l:=b::r) h.2⟩
  have:=h.1 (key b) (by simp)
  simpa[kN]using this
def mS(b:aF)(e:aV):Bool :=
 match b.aR.find? (fun a=>a.id=e.tree)with
 | none=>false
 | some a=>fE b e.bL && (!decide (e.bL=a.bO) || decide (a.bO=-1)) && !(e.up && decide (a.bO=-1)) && tM e.pred
end Go.Dm.Tc
namespace Go.Dm.Tc
structure SizedN(b:aF):Prop where
 adv:∀x∈b.aR,Ux x.pred
 ent:∀x∈b.entries,Ux x.pred
 own:∀x∈b.bU,Ux x.pred
def xC(b:aF)(a:bC):Bool:=decide (a.id∈b.seen) && fE b a.bO && tM a.pred
def iF(t:dG)(b:aF):List DV:=[.int .i64 b.me,eL t.aL 1 bQ b.aL,eL t.aR 4 aG b.aR,eL t.seen 2 eID b.seen,eL t.entries 7 aD b.entries,eL t.bU 3 cT b.bU]
def Es(b:aF):Bool :=
 mH (fun x y=>decide (x<y)) b.aL && mH (fun x y=>kN x y) b.seen && mH (fun x y:bC=>kN x.id y.id) b.aR && mH (fun x y:fV=>kN x.id y.id) b.bU && mH ltE b.entries
def Sn(b:aF):Bool :=
 Es b && !(b.aR.any fun a=>!xC b a) && !(b.entries.any fun e=>!mS b e) && !(b.bU.any fun o=>!tM o.pred)
end Go.Dm.Tc
namespace Go.Dm.Tc
theorem s160(tg:Bool)(a b:Int)(p1 p2 p3 p4 p5:DV)(c d:Int):pcF D DD [.agg [.int .i64 a,.int .i64 b,p1,p2,p3,p4,p5],.iptr tg [.int .i64 c,.int .i64 d] 0]=some (.bool (decide ((⟨a,b⟩:ID)=⟨c,d⟩))):=by
 unfold pcF
 rw[aJ _ _ _ _ (by simp[DD])]
 by_cases h1:a=c<;>by_cases h2:b=d<;>simp[DD,h1,h2]
theorem OA(x:ID)(c d:Int):(decide (x.aS=c) && decide (x.seq=d))=decide (x=⟨c,d⟩):=by
 cases x with|mk a b=>by_cases h1:a=c<;>by_cases h2:b=d<;>simp[h1,h2]
def bM{α:Type}(key:α→ID)(x:ID)(l:List α):List α:=l.filter fun a=>!decide (key a=x)
theorem Ig{α:Type}(key:α→ID){l:List α}(hr:dU (l.map key)){x:ID}{i:Nat}{a:α}(hi:l[i]?=some a)(ha:key a=x):l.take i++l.drop (i+1)=bM key x l:=by
 have bD:i<l.length:=by
  by_cases h:i<l.length
  ·exact h
  ·rw[List.getElem?_eq_none (by omega)]at hi;cases hi
 have xO:l[i]=a:=by rw[List.getElem?_eq_getElem bD]at hi;exact Option.some.inj hi
 have eG:∀j (hj:j<l.length),j≠i→key l[j]≠x:=by
  intro j hj hji e
  rcases Nat.lt_or_gt_of_ne hji with h|h
  ·have:=List.pairwise_iff_getElem.1 hr j i (by simpa using hj) (by simpa using bD) h
   simp only[List.getElem_map,xO,ha,e]at this
   rw[fZ]at this;omega
  ·have:=List.pairwise_iff_getElem.1 hr i j (by simpa using bD) (by simpa using hj) h
   simp only[List.getElem_map,xO,ha,e]at this
   rw[fZ]at this;omega
 have h1:(l.take i).filter (fun a=>!decide (key a=x))=l.take i:=by
  rw[List.filter_eq_self]
  intro y hy
  obtain⟨j,hj,rfl⟩:=List.mem_iff_getElem.1 hy
  rw[List.length_take]at hj
  have:=eG j (by omega) (by omega)
  simpa using this
 have h2:(l.drop (i+1)).filter (fun a=>!decide (key a=x))=l.drop (i+1):=by
  rw[List.filter_eq_self]
  intro y hy
  obtain⟨j,hj,rfl⟩:=List.mem_iff_getElem.1 hy
  rw[List.length_drop]at hj
  have:=eG (i+1+j) (by omega) (by omega)
  simpa using this
 have h3:(l.drop i).filter (fun a=>!decide (key a=x))=l.drop (i+1):=by
  rw[List.drop_eq_getElem_cons bD,List.filter_cons,xO,ha,h2];simp
 calc l.take i++l.drop (i+1)=(l.take i++l.drop i).filter (fun a=>!decide (key a=x)):=by rw[List.filter_append,h1,h3]
  _=_:=by rw[List.take_append_drop];rfl
def bX(b:aF)(x:ID)(bL:Int):aF×Bool :=
 match b.aR.find? (fun a=>a.id=x)with
 | none=>(b,false)
 | some a=>if a.bO=bL then({b with aR:=bM (fun a=>a.id) x b.aR,entries:=bM (fun e=>e.tree) x b.entries},true)else(b,false)
theorem s107(t:dG)(b:aF)(c d q:Int)(hs:fT b)(ra:dU (b.aR.map (·.id))) :
  pcF D Wd [aH t b,.agg [.int .i64 c,.int .i64 d],.int .i64 q]=some (.tup [aH .none (bX b ⟨c,d⟩ q).1,.bool (bX b ⟨c,d⟩ q).2]):=by
 obtain⟨me,aL,adv,seen,ent,own⟩:=b
 obtain⟨R,hR⟩:∃ R,R=DV.tup [aH .none (bX ⟨me,aL,adv,seen,ent,own⟩ ⟨c,d⟩ q).1,.bool (bX ⟨me,aL,adv,seen,ent,own⟩ ⟨c,d⟩ q).2]:=⟨_,rfl⟩
 rw[←hR]
 unfold pcF
 rw[aJ _ _ _ _ (by simp[Wd])]
 simp[Wd,aH]
 generalize hA:fc D _ _ _=A
 obtain⟨v1,v2,v3,v4,v5,K,rfl,o1,o2,o3,o4,o5,x⟩:=q151 hA hs (by simp) (by simp)
 simp at o1 o2 o3 o4 o5 x
 clear hA
 have a0:=x.get 0 (by decide)
 have a1:=x.get 1 (by decide)
 have a2:=x.get 2 (by decide)
 have q0:=x.lim
 have w0:=x.wf
 have n0:=x.le
 simp at a0 a1 a2 q0
 have l0:0<K.n:=by omega
 have l2:2<K.n:=by omega
 have r1:∀o,resolve true (K.set 0 o) 199 v1=some (eL true 1 bQ aL):=fun o=>(o1.aW w0 (by decide) l0).resolve true (fun y _=>(kL y).1) (by decide)
 have r2:∀o,resolve true (K.set 0 o) 199 v2=some (eL true 4 aG adv):=fun o=>(o2.aW w0 (by decide) l0).resolve true (fun y _=>(iK y).1) (by decide)
 have r3:∀o,resolve true (K.set 0 o) 199 v3=some (eL true 2 eID seen):=fun o=>(o3.aW w0 (by decide) l0).resolve true (fun y _=>(qC y).1) (by decide)
 have r4:∀o,resolve true (K.set 0 o) 199 v4=some (eL true 7 aD ent):=fun o=>(o4.aW w0 (by decide) l0).resolve true (fun y _=>(cC y).1) (by decide)
 have r5:∀o,resolve true (K.set 0 o) 199 v5=some (eL true 3 cT own):=fun o=>(o5.aW w0 (by decide) l0).resolve true (fun y _=>(lY y).1) (by decide)
 have r1':∀o o',resolve false ((K.set 0 o).set 2 o') 198 v1=some (eL false 1 bQ aL):=fun o o'=>((o1.aW w0 (by decide) l0).aW w0.set (by decide) l2).resolve false (fun y _=>(kL y).1) (by decide)
 have r2':∀o o',resolve false ((K.set 0 o).set 2 o') 198 v2=some (eL false 4 aG adv):=fun o o'=>((o2.aW w0 (by decide) l0).aW w0.set (by decide) l2).resolve false (fun y _=>(iK y).1) (by decide)
 have r3':∀o o',resolve false ((K.set 0 o).set 2 o') 198 v3=some (eL false 2 eID seen):=fun o o'=>((o3.aW w0 (by decide) l0).aW w0.set (by decide) l2).resolve false (fun y _=>(qC y).1) (by decide)
 have r4':∀o o',resolve false ((K.set 0 o).set 2 o') 198 v4=some (eL false 7 aD ent):=fun o o'=>((o4.aW w0 (by decide) l0).aW w0.set (by decide) l2).resolve false (fun y _=>(cC y).1) (by decide)
 have r5':∀o o',resolve false ((K.set 0 o).set 2 o') 198 v5=some (eL false 3 cT own):=fun o o'=>((o5.aW w0 (by decide) l0).aW w0.set (by decide) l2).resolve false (fun y _=>(lY y).1) (by decide)
 have Bc:adv.length≤1000000:=by have:=hs.adv;simp only at this;omega
 have lC:ent.length≤1000000:=by have:=hs.ent;simp only at this;omega
 simp only at ra
 have hf:=Dd (fun a:bC=>a.id) ra ⟨c,d⟩
 cases hq:adv.find? (fun a=>a.id=⟨c,d⟩)with
 | none =>
  rw[hq]at hf
  simp only at hf
  simp[a0,a1,a2,q0,w0,l0,l2,HG,EJ,r1,r2,r3,r4,r5,r1',r2',r3',r4',r5',ra,Bc,hf,aI]
  simp[hR,bX,hq,aH,dG.none]
 | some a =>
  rw[hq]at hf
  simp only at hf
  obtain⟨hf1,UE⟩:=hf
  have UG:a.id=⟨c,d⟩:=by simpa using List.find?_some hq
  obtain⟨i,hi⟩:∃ i,aU (fun b:bC=>bW b.id ⟨c,d⟩) adv=i:=⟨_,rfl⟩
  have Hf:i<adv.length:=by
   by_cases h:i<adv.length
   ·exact h
   ·rw[hi,List.getElem?_eq_none (by omega)]at UE;cases UE
  rw[hi]at UE
  obtain⟨id,sp,cap,hv2,IT,S5,OF,Gf,Bw⟩:=o2.toR.index (i:=i) (x:=aG a) (by simp[UE]) .i64
  have hid0:¬id=0:=by omega
  have hid2:¬id=2:=by omega
  simp only[aG]at Bw
  by_cases uL:a.bO=q
  ·have hw:IntKind.i64.wrap ((i:Int)+1)=(i:Int)+1:=aX (by omega) (by omega)
   have hwo:=Ig (fun a:bC=>a.id) ra UE UG
   simp[a0,a1,a2,q0,w0,l0,l2,HG,EJ,r1,r2,r3,r4,r5,ra,Bc,hf1,hi,Gf,IT,hid0,Bw,eq_true uL,hw]
   generalize hH:K.set 0 _=H
   have wH:WF H:=by rw[←hH];exact w0.set
   have nH:H.n=K.n:=by rw[←hH];rfl
   have lH:H.lim=0:=by rw[←hH];exact q0
   have g0:H.get 0=some (.arr 36 6 [.agg [.int .i64 me,v1,v2,v3,v4,v5]] (some 1)):=by rw[←hH,cA w0 l0,if_pos rfl]
   have g1:H.get 1=some (.arr 40 2 [.agg [.int .i64 c,.int .i64 d]] (some 1)):=by rw[←hH,cA w0 l0,if_neg (by decide)];exact a1
   have g2:H.get 2=some (.arr 36 6 [.agg [.int .i64 0,.nsl,.nsl,.nsl,.nsl,.nsl]] (some 1)):=by rw[←hH,cA w0 l0,if_neg (by decide)];exact a2
   have p1:Own 3 H v1 3 1 (aL.map bQ):=by rw[←hH];exact o1.aW w0 (by decide) l0
   have p2:Own 3 H v2 93 4 (adv.map aG):=by rw[←hH];exact o2.aW w0 (by decide) l0
   have p3:Own 3 H v3 40 2 (seen.map eID):=by rw[←hH];exact o3.aW w0 (by decide) l0
   have p4:Own 3 H v4 114 7 (ent.map aD):=by rw[←hH];exact o4.aW w0 (by decide) l0
   have p5:Own 3 H v5 98 3 (own.map cT):=by rw[←hH];exact o5.aW w0 (by decide) l0
   clear hH r1 r2 r3 r4 r5 r1' r2' r3' r4' r5' Gf Bw IT hid0 hid2 hv2 S5 OF
   obtain⟨v2',K2,hD,m2,x2,k2⟩:=s158 3 H v2 adv i p2 Hf Bc wH (by omega)
   rw[hwo]at m2
   have b0:=x2.get 0 (by decide)
   have b1:=x2.get 1 (by decide)
   have b2:=x2.get 2 (by decide)
   have q2:=x2.lim
   have w2:=x2.wf
   have n2:=x2.le
   rw[g0]at b0
   rw[g1]at b1
   rw[g2]at b2
   rw[lH]at q2
   have Bd:0<K2.n:=by omega
   simp[hD,b0,b1,b2,q2,w2,Bd,m2.bE,m2.aP,turn]
   generalize hH':K2.set 0 _=H'
   have wH':WF H':=by rw[←hH'];exact w2.set
   have nH':H'.n=K2.n:=by rw[←hH'];rfl
   have lH':H'.lim=0:=by rw[←hH'];exact q2
   have g0':H'.get 0=some (.arr 36 6 [.agg [.int .i64 me,v1,v2',v3,v4,v5]] (some 1)):=by rw[←hH',cA w2 Bd,if_pos rfl]
   have g1':H'.get 1=some (.arr 40 2 [.agg [.int .i64 c,.int .i64 d]] (some 1)):=by rw[←hH',cA w2 Bd,if_neg (by decide)];exact b1
   have g2':H'.get 2=some (.arr 36 6 [.agg [.int .i64 0,.nsl,.nsl,.nsl,.nsl,.nsl]] (some 1)):=by rw[←hH',cA w2 Bd,if_neg (by decide)];exact b2
   replace p1:Own 3 H' v1 3 1 (aL.map bQ):=by rw[←hH'];exact(p1.keep k2 x2.lim (by decide)).aW w2 (by decide) Bd
   replace m2:OwnR 3 H' v2' 93 4 ((bM (fun a=>a.id) ⟨c,d⟩ adv).map aG):=by rw[←hH'];exact m2.aW w2 (by decide) Bd
   replace p3:Own 3 H' v3 40 2 (seen.map eID):=by rw[←hH'];exact(p3.keep k2 x2.lim (by decide)).aW w2 (by decide) Bd
   replace p4:Own 3 H' v4 114 7 (ent.map aD):=by rw[←hH'];exact(p4.keep k2 x2.lim (by decide)).aW w2 (by decide) Bd
   replace p5:Own 3 H' v5 98 3 (own.map cT):=by rw[←hH'];exact(p5.keep k2 x2.lim (by decide)).aW w2 (by decide) Bd
   clear hH' hD
   obtain⟨v4',K3,hD,m4,x3,k3⟩:=s159 3 H' v4 ent 160 [.ptr 1 2 0 0] [.iptr true [.int .i64 c,.int .i64 d] 0] (fun e=>decide (e.tree=⟨c,d⟩)) p4 lC wH' (by omega)
    (by simp[g1'])
    (fun y _ h'=>by simp[aD,e160,s160,OA])
    (fun y _ h' hx=>by
     have:=(hx.get 1 (by decide)).trans g1'
     simp[aD,e160,s160,this,OA])
   have c0:=x3.get 0 (by decide)
   have c1:=x3.get 1 (by decide)
   have c2:=x3.get 2 (by decide)
   have q3:=x3.lim
   have w3:=x3.wf
   have n3:=x3.le
   rw[g0']at c0
   rw[g1']at c1
   rw[g2']at c2
   rw[lH']at q3
   have h30:0<K3.n:=by omega
   have h32:2<K3.n:=by omega
   replace p1:=p1.keep k3 x3.lim (by decide)
   replace m2:=m2.keep k3 x3.lim (by decide)
   replace p3:=p3.keep k3 x3.lim (by decide)
   replace p5:=p5.keep k3 x3.lim (by decide)
   have r1:∀o o',resolve false ((K3.set 0 o).set 2 o') 198 v1=some (eL false 1 bQ aL):=fun o o'=>((p1.aW w3 (by decide) h30).aW w3.set (by decide) h32).resolve false (fun y _=>(kL y).1) (by decide)
   have r2:=fun o o'=>((m2.aW (o:=o) w3 (by decide) h30).aW (o:=o') w3.set (by decide) h32).resolve (n:=198) false (fun y _=>(iK y).1) (by decide)
   have r3:∀o o',resolve false ((K3.set 0 o).set 2 o') 198 v3=some (eL false 2 eID seen):=fun o o'=>((p3.aW w3 (by decide) h30).aW w3.set (by decide) h32).resolve false (fun y _=>(qC y).1) (by decide)
   have r4:=fun o o'=>((m4.aW (o:=o) w3 (by decide) h30).aW (o:=o') w3.set (by decide) h32).resolve (n:=198) false (fun y _=>(cC y).1) (by decide)
   have r5:∀o o',resolve false ((K3.set 0 o).set 2 o') 198 v5=some (eL false 3 cT own):=fun o o'=>((p5.aW w3 (by decide) h30).aW w3.set (by decide) h32).resolve false (fun y _=>(lY y).1) (by decide)
   simp[g0',lH',hD,c0,c2,q3,w3,h30,h32,m4.bE,m4.aP,turn,r1,r2,r3,r4,r5,aI]
   simp[hR,bX,hq,uL,aH,dG.none,bM]
  ·simp[a0,a1,a2,q0,w0,l0,l2,HG,EJ,r1,r2,r3,r4,r5,r1',r2',r3',r4',r5',ra,Bc,hf1,hi,Gf,IT,hid0,Bw,uL,aI]
   simp[hR,bX,hq,uL,aH,dG.none]
end Go.Dm.Tc
namespace Go.Dm.Tc
theorem R5{ety:Nat}{a b c:aA}(x:iH ety a b)(y:iH ety b c):iH ety a c:=fun k o hg eG=>y k o (x k o hg eG) eG
theorem l126(S:List Fr)(h0:aA)(c d:Int)(t:Bool)(ent:List aV)(hl:ent.length≤1000000)(aM:h0.lim=0)(hn:3≤h0.n)(g1:h0.get 1=some (.arr 40 2 [.agg [.int .i64 c,.int .i64 d]] (some 1))) :
  ∀(rest:List aV) (i:Nat) (eU:List aV) (f:cY) (h:aA),ent.drop i=rest→eU.length≤i→f 3=.ptr 0 6 0 0→f 4=.ptr 1 2 0 0→f 6=.ptr 2 6 0 0→f 42=eL t 7 aD ent→f 43=.int .i64 ent.length→f 44=.int .i64 i →
   OwnR 3 h (f 9) 114 7 (eU.map aD)→Ext 3 h0 h→iH 114 h0 h →
  ∃ f' h',run D 60 (.block 0::.seq Rg::S) (.loop Rf) f h=run D 60 S Rg f' h'∧f' 3=.ptr 0 6 0 0∧f' 6=.ptr 2 6 0 0∧OwnR 3 h' (f' 9) 114 7 ((eU++bM (fun e=>e.tree) ⟨c,d⟩ rest).map aD)∧Ext 3 h0 h'∧iH 114 h0 h':=by
 intro rest
 induction rest with
 | nil =>
  intro i eU f h hd ha h3 h4 h6 h42 h43 h44 ho hx hk
  have hi:=bR hd
  have:¬(i<ent.length):=by omega
  rw[aC Rf.eq_1]
  simp[h42,h43,h44,this]
  refine⟨_,_,rfl,by simp[h3],by simp[h6],?_,hx,hk⟩
  simpa[bM]using ho
 | cons e rest ih =>
  intro i eU f h hd ha h3 h4 h6 h42 h43 h44 ho hx hk
  obtain⟨hi,he,fI⟩:=cB hd
  have hlH:h.lim=0:=hx.lim.trans aM
  have Pb:=(hx.get 1 (by decide)).trans g1
  have hnh:=hx.le
  have n1:¬1=h.n:=by omega
  have hw:IntKind.i64.wrap ((i:Int)+1)=(i:Int)+1:=aX (by omega) (by omega)
  rw[aC Rf.eq_1]
  by_cases hc:e.tree=⟨c,d⟩
  ·have uP:e.tree.aS=c:=by rw[hc]
   have Bb:e.tree.seq=d:=by rw[hc]
   simp[h3,h4,h6,h42,h43,h44,hi,he,hlH,Pb,n1,aD,uP,Bb,hw]
   have hf:bM (fun e:aV=>e.tree) ⟨c,d⟩ (e::rest)=bM (fun e:aV=>e.tree) ⟨c,d⟩ rest:=by simp[bM,hc]
   rw[hf,←List.map_append]
   generalize hF:upd _ 44 _=F
   refine ih (i+1) eU F _ fI (by omega) ?_ ?_ ?_ ?_ ?_ ?_ ?_ hx.push hk.push
   ·rw[←hF];simp[h3]
   ·rw[←hF];simp[h4]
   ·rw[←hF];simp[h6]
   ·rw[←hF];simp[h42]
   ·rw[←hF];simp[h43]
   ·rw[←hF];simp
   ·rw[←hF];simp;exact ho.push
  ·have GN:¬(e.tree.aS=c∧e.tree.seq=d):=fun q=>hc (by cases e with|mk t s p q u=>cases t;simp_all)
   have Vb:(e.tree.aS == c && e.tree.seq == d)=false:=by
    cases hb:(e.tree.aS == c && e.tree.seq == d)with
    | false=>rfl
    | true=>exact absurd (by simpa using hb) GN
   simp[h3,h4,h6,h42,h43,h44,hi,he,hlH,Pb,n1,aD,Vb]
   generalize hA:aY _ _ _ _ _ _=A
   obtain⟨v',h',rfl,Ks,uJ,qM⟩:=ho.push.push.append hx.push.push.wf (by simp;omega) (by simp[hlH]) hA (by simp;omega) (by decide)
   clear hA
   have hf:bM (fun e:aV=>e.tree) ⟨c,d⟩ (e::rest)=e::bM (fun e:aV=>e.tree) ⟨c,d⟩ rest:=by simp[bM,hc]
   rw[hf]
   simp[h44,hw]
   generalize hF:upd _ 44 _=F
   have:=ih (i+1) (eU++[e]) F h' fI (by simp;omega) (by rw[←hF];simp[h3]) (by rw[←hF];simp[h4]) (by rw[←hF];simp[h6]) (by rw[←hF];simp[h42]) (by rw[←hF];simp[h43]) (by rw[←hF];simp) (by rw[←hF];simp;simpa[aD]using Ks) (hx.push.push.trans uJ) (R5 hk.push.push qM)
   simpa using this
theorem uQ{α:Type}(p:α→Bool)(l:List α):match l.find? p with
  | some a=>∃ i,l.findIdx? p=some i∧l[i]?=some a
  | none=>l.findIdx? p=none:=by
 cases h:l.find? p with
 | none=>simp only;rw[List.findIdx?_eq_none_iff];intro a ha;have:=List.find?_eq_none.1 h a ha;simpa using this
 | some a =>
  simp only
  have h1:=List.find?_some h
  cases hi:l.findIdx? p with
  | none=>rw[List.findIdx?_eq_none_iff]at hi;have:=hi a (List.mem_of_find?_eq_some h);rw[h1]at this;cases this
  | some i =>
   refine⟨i,rfl,?_⟩
   obtain⟨hl,hp,hq⟩:=List.findIdx?_eq_some_iff_getElem.1 hi
   obtain⟨hpa,u1,u2,QM,hn⟩:=List.find?_eq_some_iff_append.1 h
   have:u1.length=i:=by
    rcases Nat.lt_trichotomy u1.length i with bD|he|hgt
    ·have:=hq u1.length bD
     subst QM
     simp[h1]at this
    ·exact he
    ·exfalso
     subst QM
     have:=hn (u1[i]'hgt) (List.getElem_mem hgt)
     rw[List.getElem_append_left hgt]at hp
     rw[hp]at this
     cases this
   subst QM
   rw[←this]
   simp
theorem s126(b:aF)(c d q:Int)(hs:fT b)(ra:dU (b.aR.map (·.id))) :
  pcF D Mv [aH .none b,.agg [.int .i64 c,.int .i64 d],.int .i64 q]=some (.tup [aH .none (bX b ⟨c,d⟩ q).1,.bool (bX b ⟨c,d⟩ q).2]):=by
 obtain⟨me,aL,adv,seen,ent,own⟩:=b
 obtain⟨z1,z2,z3,z4,z5⟩:=hs
 simp only at z1 z2 z3 z4 z5 ra
 obtain⟨R,hR⟩:∃ R,R=DV.tup [aH .none (bX ⟨me,aL,adv,seen,ent,own⟩ ⟨c,d⟩ q).1,.bool (bX ⟨me,aL,adv,seen,ent,own⟩ ⟨c,d⟩ q).2]:=⟨_,rfl⟩
 rw[←hR]
 have Bc:adv.length≤1000000:=by omega
 have lC:ent.length≤1000000:=by omega
 have wJ:=uQ (fun a:bC=>decide (a.id=⟨c,d⟩)) adv
 unfold pcF
 rw[aJ _ _ _ _ (by simp[Mv])]
 cases hq:adv.find? (fun a=>a.id=⟨c,d⟩)with
 | none =>
  rw[hq]at wJ
  simp only at wJ
  simp[Mv,aH,dG.none,Dr,Cm,Bc,wJ,gY,aI]
  simp[hR,bX,hq,dG.none,aH]
 | some a =>
  rw[hq]at wJ
  simp only at wJ
  obtain⟨i,hi,xO⟩:=wJ
  have UG:a.id=⟨c,d⟩:=by simpa using List.find?_some hq
  have Hf:i<adv.length:=by
   by_cases h:i<adv.length
   ·exact h
   ·rw[List.getElem?_eq_none (by omega)]at xO;cases xO
  have Ay:¬(i:Int)<0:=by omega
  have hw:IntKind.i64.wrap ((i:Int)+1)=(i:Int)+1:=aX (by omega) (by omega)
  by_cases uL:a.bO=q
  ·have hwo:=Ig (fun a:bC=>a.id) ra xO UG
   simp[Mv,aH,dG.none,Dr,Cm,Bc,hi,gY,Ay,xO,aG,eq_true uL,Nat.le_of_lt Hf,hw]
   have S6:i≤adv.length:=Nat.le_of_lt Hf
   generalize hA:aY _ _ _ _ _ _=A
   obtain⟨i1,K1,rfl,o1,x1,y1,j1⟩:=(fW.fresh (lo:=3) (ety:=93) (sz:=4) (xs:=[]) (cap:=some 0) (by simp) (by simp)).append (n:=0) rfl (by simp) (by simp) (by simp) hA (by simp;omega) (by decide)
   clear hA
   have a0:=x1.get 0 (by decide)
   have a1:=x1.get 1 (by decide)
   have a2:=x1.get 2 (by decide)
   have q1:=x1.lim
   have w1:=x1.wf
   have n1:=x1.le
   have u1:=o1.lo
   have m0:¬0=i1:=by omega
   have m1:¬i1=0:=by omega
   have m2:¬i1=1:=by omega
   have m3:¬1=i1:=by omega
   simp at a0 a1 a2 q1 o1
   simp[a0,a1,a2,q1,m0,m1,m2,m3,S6,hw,Hf,Nat.succ_le_of_lt Hf]
   generalize hA:aY _ _ _ _ _ _=A
   obtain⟨i2,K2,rfl,o2,x2,y2,j2⟩:=o1.append (by simp[S6]) w1 n1 (by omega) hA (by simp;omega) (by decide)
   clear hA
   have b0:=x2.get 0 (by decide)
   have b1:=x2.get 1 (by decide)
   have b2:=x2.get 2 (by decide)
   have q2:=x2.lim
   have w2:=x2.wf
   have n2:=x2.le
   have u2:=o2.lo
   rw[a0]at b0
   rw[a1]at b1
   rw[a2]at b2
   rw[q1]at q2
   have l2:0<K2.n:=by omega
   have cJ:(List.take i (List.map aG adv)++List.drop (i+1) (List.map aG adv))=(bM (fun a=>a.id) ⟨c,d⟩ adv).map aG:=by rw[←hwo];simp
   have o2':fW 3 K2 i2 93 4 ((bM (fun a=>a.id) ⟨c,d⟩ adv).map aG):=by rw[←cJ];exact o2
   have hlw:(bM (fun a=>a.id) ⟨c,d⟩ adv).length=i+(adv.length-(i+1)):=by rw[←hwo];simp[Nat.min_eq_left S6]
   simp[b0,q2,w2,l2,turn]
   generalize hF:upd _ 44 _=F
   generalize hK:K2.set 0 _=K3
   have e0:K3.get 0=some (.arr 36 6 [.agg [.int .i64 me,eL false 1 bQ aL,.sl i2 4 0 ((bM (fun a=>a.id) ⟨c,d⟩ adv).map aG).length,eL false 2 eID seen,eL false 7 aD ent,eL false 3 cT own]] (some 1)):=by
    rw[←hK];simp[w2,l2,hlw,Nat.min_eq_left S6]
   have e1:K3.get 1=some (.arr 40 2 [.agg [.int .i64 c,.int .i64 d]] (some 1)):=by
    rw[←hK];simp[w2,l2,b1]
   have e2:K3.get 2=some (.arr 36 6 [.agg [.int .i64 0,.nsl,.nsl,.nsl,.nsl,.nsl]] (some 1)):=by
    rw[←hK];simp[w2,l2,b2]
   have w3:WF K3:=by rw[←hK];exact w2.set
   have q3:K3.lim=0:=by rw[←hK];exact q2
   have n3:3≤K3.n:=by rw[←hK];exact n2
   have o3:fW 3 K3 i2 93 4 ((bM (fun a=>a.id) ⟨c,d⟩ adv).map aG):=by rw[←hK];exact o2'.aW w2 (by decide) l2
   obtain⟨f1,K4,k1,k2,k3,o4,x4,y4⟩:=l126 [] K3 c d false ent lC q3 n3 e1 ent 0 [] F K3 rfl (by simp) (by rw[←hF];simp) (by rw[←hF];simp) (by rw[←hF];simp) (by rw[←hF];simp) (by rw[←hF];simp) (by rw[←hF];simp) (by rw[←hF];simp;exact .nil rfl rfl) (.refl n3 w3) (.refl _ _)
   rw[k1]
   clear hF hK k1
   have c0:=x4.get 0 (by decide)
   have c2:=x4.get 2 (by decide)
   have q4:=x4.lim
   have w4:=x4.wf
   have n4:=x4.le
   rw[e0]at c0
   rw[e2]at c2
   rw[q3]at q4
   have l4:0<K4.n:=by omega
   have l42:2<K4.n:=by omega
   have s3:=o3.keep y4 x4.lim (by decide)
   simp only[List.nil_append]at o4
   have r3:=fun o o'=>((s3.toR.aW (o:=o) w4 (by decide) l4).aW (o:=o') w4.set (by decide) l42).resolve (n:=198) false (fun y _=>(iK y).1) (by decide)
   have r4:=fun o o'=>((o4.aW (o:=o) w4 (by decide) l4).aW (o:=o') w4.set (by decide) l42).resolve (n:=198) false (fun y _=>(cC y).1) (by decide)
   simp only[List.length_map]at c0 r3
   simp[Rg,k2,k3,c0,c2,q4,w4,l4,l42,turn,o4.bE,o4.aP,-lB,r3,r4,aI]
   simp[hR,bX,hq,uL,dG.none,aH]
  ·simp[Mv,aH,dG.none,Dr,Cm,Bc,hi,gY,Ay,xO,aG,uL,aI]
   simp[hR,bX,hq,uL,dG.none,aH,aG]
end Go.Dm.Tc
namespace Go.Dm.Tc
def BU:Option (DV×aA)→(aA→Option (List DV×aA))→Option (List DV×aA)
 | some (v,h),k=>match k h with|some (r,h')=>some (v::r,h')|none=>none
 | none,_=>none
def WM(v:DV):Option (List DV×aA)→Option (List DV×aA)
 | some (r,h)=>some (v::r,h)
 | none=>none
def aggH:Option (List DV×aA)→Option (DV×aA)
 | some (r,h)=>some (.agg r,h)
 | none=>none
theorem Bn(v:DV)(r:List DV)(h:aA):WM v (some (r,h))=some (v::r,h):=_root_.id rfl
theorem Fn(r:List DV)(h:aA):aggH (some (r,h))=some (.agg r,h):=_root_.id rfl
theorem Bo(v:DV)(h:aA)(k:aA→Option (List DV×aA)):BU (some (v,h)) k=WM v (k h):=by
 simp only[BU];cases k h<;>rfl
theorem Kl(f:aA→DV→Option (DV×aA))(h:aA):vQ f h []=some ([],h):=_root_.id rfl
theorem Fc(f:aA→DV→Option (DV×aA))(h:aA)(v:DV)(r:List DV):vQ f h (v::r)=BU (f h v) (fun h1=>vQ f h1 r):=by
 simp only[vQ,BU]
 cases f h v with
 | none=>rfl
 | some p=>rfl
theorem Ud(h:aA)(cs:List DV):jH h (.agg cs)=aggH (vQ iW h cs):=by
 simp only[jH];cases vQ iW h cs<;>rfl
theorem BR(h:aA)(k:IntKind)(n:Int):jH h (.int k n)=some (.int k n,h):=_root_.id rfl
theorem T5{α:Type}(h:aA)(t:Bool)(sz:Nat)(e:α→DV)(xs:List α):jH h (eL t sz e xs)=some (eL t sz e xs,h):=by cases xs<;>rfl
theorem Zo(h:aA)(p:bI):jH h (bF p)=some (bF p,h):=T5 ..
theorem BQ(h:aA)(s:List UInt8):jH h (.str s)=some (.str s,h):=_root_.id rfl
theorem T4(h:aA)(k:IntKind)(n:Int):iW h (.int k n)=some (.int k n,h):=_root_.id rfl
theorem BP(h:aA)(b:Bool):iW h (.bool b)=some (.bool b,h):=_root_.id rfl
theorem OO(h:aA):iW h .nsl=some (.nsl,h):=_root_.id rfl
theorem BO{α:Type}(h:aA)(t:Bool)(sz:Nat)(e:α→DV)(xs:List α):iW h (eL t sz e xs)=some (eL t sz e xs,h):=by cases xs<;>rfl
theorem BN(h:aA)(p:bI):iW h (bF p)=some (bF p,h):=BO ..
theorem OP(h:aA)(t:Bool)(sz:Nat)(xs:List DV):iW h (.isl t sz xs)=some (.isl t sz xs,h):=_root_.id rfl
attribute [simp] Bn Fn Bo Kl Fc Ud BR T5 Zo BQ T4 BP OO BO BN OP V9
theorem nn1(n:Nat):(n=n+1)=False:=eq_false (by omega)
theorem mm1(n:Nat):(n+1=n)=False:=eq_false (by omega)
theorem nn2(n:Nat):(n=n+1+1)=False:=eq_false (by omega)
theorem mm2(n:Nat):(n+1+1=n)=False:=eq_false (by omega)
theorem nn3(n:Nat):(n=n+1+1+1)=False:=eq_false (by omega)
theorem mm3(n:Nat):(n+1+1+1=n)=False:=eq_false (by omega)
theorem nn4(n:Nat):(n=n+1+1+1+1)=False:=eq_false (by omega)
theorem mm4(n:Nat):(n+1+1+1+1=n)=False:=eq_false (by omega)
theorem nn5(n:Nat):(n=n+1+1+1+1+1)=False:=eq_false (by omega)
theorem mm5(n:Nat):(n+1+1+1+1+1=n)=False:=eq_false (by omega)
theorem nn6(n:Nat):(n=n+1+1+1+1+1+1)=False:=eq_false (by omega)
theorem mm6(n:Nat):(n+1+1+1+1+1+1=n)=False:=eq_false (by omega)
theorem nn7(n:Nat):(n=n+1+1+1+1+1+1+1)=False:=eq_false (by omega)
theorem mm7(n:Nat):(n+1+1+1+1+1+1+1=n)=False:=eq_false (by omega)
theorem nn8(n:Nat):(n=n+1+1+1+1+1+1+1+1)=False:=eq_false (by omega)
theorem mm8(n:Nat):(n+1+1+1+1+1+1+1+1=n)=False:=eq_false (by omega)
theorem nn9(n:Nat):(n=n+1+1+1+1+1+1+1+1+1)=False:=eq_false (by omega)
theorem mm9(n:Nat):(n+1+1+1+1+1+1+1+1+1=n)=False:=eq_false (by omega)
theorem nn10(n:Nat):(n=n+1+1+1+1+1+1+1+1+1+1)=False:=eq_false (by omega)
theorem mm10(n:Nat):(n+1+1+1+1+1+1+1+1+1+1=n)=False:=eq_false (by omega)
theorem nn11(n:Nat):(n=n+1+1+1+1+1+1+1+1+1+1+1)=False:=eq_false (by omega)
theorem mm11(n:Nat):(n+1+1+1+1+1+1+1+1+1+1+1=n)=False:=eq_false (by omega)
theorem nn12(n:Nat):(n=n+1+1+1+1+1+1+1+1+1+1+1+1)=False:=eq_false (by omega)
theorem mm12(n:Nat):(n+1+1+1+1+1+1+1+1+1+1+1+1=n)=False:=eq_false (by omega)
attribute [simp] nn1 mm1 nn2 mm2 nn3 mm3 nn4 mm4 nn5 mm5 nn6 mm6 nn7 mm7 nn8 mm8 nn9 mm9 nn10 mm10 nn11 mm11 nn12 mm12
theorem oE{k n:Nat}{df:aQ}{args ds:List DV}{d:DV}(he:∀args h,fc D k args h=Gv D df h (args.mapM (resolve true h cW)))(hd:args.mapM (resolve true pB cW)=some ds)(hr:C2 D n k args pB=some (d,pB)):pcF D df ds=some d:=by
 have h1:fc D k args pB=some (d,pB):=Ue.2 ⟨n,hr⟩
 rw[he,hd,Br]at h1
 cases h2:pcF D df ds with
 | none=>rw[h2]at h1;cases h1
 | some x=>rw[h2,Bq]at h1;injection h1 with h1;injection h1 with h1;rw[h1]
end Go.Dm.Tc
namespace Go.Dm.Tc
theorem Te:∀nm∈lQ,Ap nm=true∧nm.length≤1000000:=by decide
theorem CI:∀i:Nat,(qO.getD i []).length≤3:=by
 intro i
 by_cases h:i<qO.length
 ·have:∀x∈qO,x.length≤3:=by decide
  rw[List.getD_eq_getElem?_getD,List.getElem?_eq_getElem h]
  exact this _ (List.getElem_mem h)
 ·rw[List.getD_eq_getElem?_getD,List.getElem?_eq_none (by omega)]
  simp
theorem Ge(nm:List UInt8)(n:Int):(qP nm n).name=nm:=by unfold qP;split<;>rfl
theorem Ti{nm:List UInt8}(h:Ap nm=true)(n:Int):dD (qP nm n)=true:=by
 unfold qP
 split
 ·have b1:=cZ (IntKind.i64.wrap (n.tdiv 40)) (show(0:Int)≤9 by decide)
  simp only[dD,h,Bool.true_and,if_true]
  simp
  omega
 ·have ht:=CI (aT (IntKind.i64.wrap (n.tdiv 4)) 0 6).toNat
  split
  ·simp only[dD,h,Bool.true_and]
   simp
   simp at ht
   omega
  ·simp only[dD,h,Bool.true_and]
   simp
   simp at ht
   omega
theorem Ga{c:fB}(hc:dD c=true):∀(eU:bI) (prev:Option (List UInt8)),mJ prev eU=true→(∀d∈eU,Go.Op.bytesLess d.name c.name=true)→(∀n,prev=some n→Go.Op.bytesLess n c.name=true)→mJ prev (eU++[c])=true
 | [],prev,_,_,hp=>by
  simp only[List.nil_append,mJ,hc,Bool.true_and,Bool.and_true]
  cases prev with
  | none=>rfl
  | some n=>exact hp n rfl
 | d::r,prev,h,hd,hp=>by
  simp only[mJ,Bool.and_eq_true]at h
  simp only[List.cons_append,mJ,Bool.and_eq_true]
  exact⟨h.1,Ga hc r (some d.name) h.2 (fun x hx=>hd x (List.mem_cons_of_mem _ hx)) (fun n hn=>by injection hn with hn;rw[←hn];exact hd d (List.mem_cons_self ..))⟩
theorem tN(has vals:List Int):∀(rest:List (List UInt8)) (i:Nat) (eU:bI),(∀nm∈rest,Ap nm=true∧nm.length≤1000000)→rest.Pairwise (fun a b=>Go.Op.bytesLess a b=true)→mJ none eU=true→eU.length≤5 →
  (∀d∈eU,d.name.length≤1000000∧∀nm∈rest,Go.Op.bytesLess d.name nm=true)→mJ none (gS has vals rest i eU)=true∧(gS has vals rest i eU).length≤5∧∀d∈gS has vals rest i eU,d.name.length≤1000000
 | [],_,eU,_,_,h,hl,hd=>⟨h,hl,fun d hx=>(hd d hx).1⟩
 | nm::r,i,eU,hn,hp,h,hl,hd=>by
  rw[List.pairwise_cons]at hp
  simp only[gS]
  split
  ·rename_i hc
   have hr:=Ti (hn nm (List.mem_cons_self ..)).1 (zS vals i)
   refine tN has vals r (i+1) _ (fun x hx=>hn x (List.mem_cons_of_mem _ hx)) hp.2 (Ga hr eU none h (fun d hx=>by rw[Ge];exact(hd d hx).2 nm (List.mem_cons_self ..)) (fun n e=>by cases e)) (by simp;omega) ?_
   intro d hx
   rcases List.mem_append.1 hx with hx|hx
   ·exact⟨(hd d hx).1,fun y hy=>(hd d hx).2 y (List.mem_cons_of_mem _ hy)⟩
   ·simp only[List.mem_singleton]at hx
    subst hx
    rw[Ge]
    exact⟨(hn nm (List.mem_cons_self ..)).2,fun y hy=>hp.1 y hy⟩
  ·exact tN has vals r (i+1) eU (fun x hx=>hn x (List.mem_cons_of_mem _ hx)) hp.2 h hl (fun d hx=>⟨(hd d hx).1,fun y hy=>(hd d hx).2 y (List.mem_cons_of_mem _ hy)⟩)
structure bZ(p:bI):Prop where
 right:tM p=true
 names:Ux p
 len:p.length≤5
theorem fH(has vals:List Int):bZ (eH has vals):=by
 obtain⟨h1,h2,h3⟩:=tN has vals lQ 0 [] Te (by decide) rfl (by simp) (by simp)
 exact⟨by unfold tM;rw[show mJ none (eH has vals)=true from h1,Bool.true_and];exact decide_eq_true h2,⟨Nat.le_trans h2 (by decide),h3⟩,h2⟩
theorem pN{α:Type}(key:α→ID)(a:α){l:List α}(h:dU (l.map key))(hn:∀b∈l,key b≠key a):dU ((gX key a l).map key):=by
 obtain⟨r1,r2⟩:=Jr key h (key a)
 have hp:l.Pairwise fun x y=>bW (key x) (key y)<0:=by unfold dU at h;exact List.pairwise_map.1 h
 unfold dU gX
 rw[List.pairwise_map,List.pairwise_append,List.pairwise_cons]
 generalize hk:aU (fun b=>bW (key b) (key a)) l=k at *
 have iG:∀b∈l.take k,bW (key b) (key a)<0:=by
  intro b hb
  obtain⟨i,hi,rfl⟩:=List.mem_iff_getElem.1 hb
  rw[List.getElem_take]
  rw[List.length_take]at hi
  exact r1 i (by omega) (by omega)
 have nP:∀b∈l.drop k,bW (key a) (key b)<0:=by
  intro b hb
  obtain⟨i,hi,rfl⟩:=List.mem_iff_getElem.1 hb
  rw[List.length_drop]at hi
  rw[List.getElem_drop]
  have:=r2 (k+i) (by omega) (by omega)
  rcases HL (key l[k+i]) (key a)with h1|h1|h1
  ·exact absurd h1 this
  ·exact absurd h1 (hn _ (List.getElem_mem _))
  ·exact h1
 refine⟨hp.sublist (List.take_sublist ..),⟨fun b hb=>nP b hb,hp.sublist (List.drop_sublist ..)⟩,?_⟩
 intro x hx y hy
 rcases List.mem_cons.1 hy with rfl|hy
 ·exact iG x hx
 ·exact Gs (iG x hx) (nP y hy)
theorem nB{α:Type}(key:α→ID)(a:α)(l:List α)(b:α):b∈gX key a l↔b=a∨b∈l:=by
 unfold gX
 rw[List.mem_append,List.mem_cons]
 constructor
 ·rintro(h|h|h)
  ·exact .inr (List.mem_of_mem_take h)
  ·exact .inl h
  ·exact .inr (List.mem_of_mem_drop h)
 ·rintro(h|h)
  ·exact .inr (.inl h)
  ·rw[←List.take_append_drop (aU (fun b=>bW (key b) (key a)) l) l,List.mem_append]at h
   exact h.elim .inl fun h=>.inr (.inr h)
theorem Hs{α:Type}(key:α→ID)(a:α)(l:List α):(gX key a l).length=l.length+1:=by
 unfold gX
 rw[List.length_append,List.length_cons,List.length_take,List.length_drop]
 have:=dB (fun b=>bW (key b) (key a)) l
 omega
theorem nV{α:Type}(key:α→ID){l:List α}(x:ID)(h:dU (l.map key)):dU ((bM key x l).map key):=by
 unfold dU at *
 rw[List.pairwise_map]at *
 exact h.sublist (List.filter_sublist ..)
theorem lK{α:Type}{key:α→ID}{x:ID}{l:List α}{a:α}(h:a∈bM key x l):a∈l∧key a≠x:=by
 have:=List.mem_filter.1 h
 simpa using this
theorem wT{α:Type}(key:α→ID)(x:ID)(l:List α):(bM key x l).length≤l.length:=List.length_filter_le ..
end Go.Dm.Tc
namespace Go.Dm.Tc
structure yI(m0:Int)(nr:List Int)(b:aF)(n:Nat):Prop where
 me:b.me=m0
 aL:b.aL=nr
 ent:b.entries=[]
 own:b.bU=[]
 ra:dU (b.aR.map (·.id))
 rs:dU b.seen
 la:b.aR.length≤n
 ls:b.seen.length≤n
 sub:∀a∈b.aR,a.id∈b.seen
 par:∀a∈b.aR,a.bO=-1∨a.bO∈nr
 prd:∀a∈b.aR,bZ a.pred
section
variable {me:Int} {aL:List Int} {b:aF} {n:Nat}
theorem yI.start(me:Int)(aL:List Int):yI me aL ⟨me,aL,[],[],[],[]⟩ 0:=⟨rfl,rfl,rfl,rfl,List.Pairwise.nil,List.Pairwise.nil,Nat.le_refl _,Nat.le_refl _,fun a h=>(by cases h),fun a h=>(by cases h),fun a h=>(by cases h)⟩
theorem yI.mono{m:Nat}(h:yI me aL b n)(hm:n≤m):yI me aL b m:={h with la:=Nat.le_trans h.la hm,ls:=Nat.le_trans h.ls hm}
theorem yI.learn(h:yI me aL b n)(a:bC)(hp:a.bO=-1∨a.bO∈aL)(hr:bZ a.pred):yI me aL (bH b a).1 (n+1):=by
 unfold bH
 split
 ·exact h.mono (Nat.le_succ n)
 ·rename_i hm
  refine⟨h.me,h.aL,h.ent,h.own,?_,?_,?_,?_,?_,?_,?_⟩
  ·exact pN (fun a:bC=>a.id) a h.ra (fun b hb e=>hm (by rw[←e];exact h.sub b hb))
  ·have:=pN (fun x:ID=>x) a.id (l:=b.seen) (by simpa using h.rs) (fun b hb e=>hm (by rw[←e];exact hb))
   simpa using this
  ·simp only[Hs];exact Nat.succ_le_succ h.la
  ·simp only[Hs];exact Nat.succ_le_succ h.ls
  ·intro x hx
   rw[nB]at hx ⊢
   rcases hx with rfl|hx
   ·exact .inl rfl
   ·exact .inr (h.sub x hx)
  ·intro x hx
   rw[nB]at hx
   rcases hx with rfl|hx
   ·exact hp
   ·exact h.par x hx
  ·intro x hx
   rw[nB]at hx
   rcases hx with rfl|hx
   ·exact hr
   ·exact h.prd x hx
theorem yI.forget(h:yI me aL b n)(x:ID)(q:Int):yI me aL (bX b x q).1 n:=by
 unfold bX
 split
 ·exact h
 ·split
  ·refine⟨h.me,h.aL,?_,h.own,nV _ x h.ra,h.rs,Nat.le_trans (wT ..) h.la,h.ls,fun a ha=>h.sub a (lK ha).1,fun a ha=>h.par a (lK ha).1,fun a ha=>h.prd a (lK ha).1⟩
   simp[h.ent,bM]
  ·exact h
theorem yI.sized(h:yI me aL b n)(hn:n≤1000)(hl:aL.length≤1000):fT b:=⟨by rw[h.aL];omega,by have:=h.la;omega,by have:=h.ls;omega,by rw[h.ent];decide,by rw[h.own];decide⟩
theorem yI.sizedP(h:yI me aL b n):X0 b:=⟨fun a ha=>(h.prd a ha).names.1,fun a ha=>(by rw[h.ent]at ha;cases ha),fun a ha=>(by rw[h.own]at ha;cases ha)⟩
theorem yI.right(h:yI me aL b n)(hn:mH (fun x y=>decide (x<y)) aL=true):Sn b=true:=by
 unfold Sn Es
 rw[h.aL,h.ent,h.own,rI (key:=fun a:bC=>a.id) h.ra,show mH (fun x y=>kN x y) b.seen=true from rI (key:=fun a:ID=>a) (by simpa using h.rs),hn]
 have:(b.aR.any fun a=>!xC b a)=false:=by
  rw[List.any_eq_false]
  intro a ha
  have h1:=h.sub a ha
  have h2:=h.par a ha
  have h3:=(h.prd a ha).right
  have h4:fE b a.bO=true:=by
   unfold fE
   rw[h.aL]
   rcases h2 with e|e
   ·simp[e]
   ·simp[e]
  simp[xC,h1,h3,h4]
 rw[this]
 rfl
end
def u7:Option DO→Option (List (DV×DV))
 | some (.mp es)=>some es
 | _=>none
theorem wA(h:aA)(id:Nat):xU h (.map id)=u7 (h.get id):=by
 simp only[xU,u7]
 cases h.get id with
 | none=>rfl
 | some o=>cases o<;>rfl
theorem Fi(es:List (DV×DV)):u7 (some (.mp es))=some es:=_root_.id rfl
def QV(h:aA)(q:EqT)(id:Nat)(k x:DV):Option DO→Option aA
 | some (.mp es)=>if h.lim≤id∧(jN q k k).isSome=true then
   match tH q k es with
   | some (some (i,_))=>some (h.set id (.mp (es.set i (k,x))))
   | some none=>some (h.set id (.mp (es++[(k,x)])))
   | none=>none
  else none
 | _=>none
theorem Ve(h:aA)(q:EqT)(id:Nat)(k x:DV):Cb h q (.map id) k x=QV h q id k x (h.get id):=by
 simp only[Cb,QV]
 cases h.get id with
 | none=>rfl
 | some o=>cases o<;>rfl
end Go.Dm.Tc
namespace Go.Dm.Tc
def iQ(s p:List UInt8):Bool:=decide (p.length≤s.length) && (s.take p.length == p)
theorem s230(s p:List UInt8):pcF D G4 [.str s,.str p]=some (.bool (iQ s p)):=by
 unfold pcF
 rw[aJ _ _ _ _ (by simp[G4])]
 by_cases h:p.length≤s.length
 ·have hs:pG (.str s) none (some (.int .i64 (p.length:Int)))=some (.str (s.take p.length)):=by
   simp only[pG]
   rw[jP _ _ _ _ h]
   simp only[yD]
   simp
  simp[G4,h,hs,iQ]
 ·simp[G4,h,iQ]
theorem SE(s p:List UInt8):pcF D G6 [.str s,.str p]=some (.bool (iQ s p)):=by
 unfold pcF
 rw[aJ _ _ _ _ (by simp[G6])]
 by_cases h:p.length≤s.length
 ·have hs:pG (.str s) none (some (.int .i64 (p.length:Int)))=some (.str (s.take p.length)):=by
   simp only[pG]
   rw[jP _ _ _ _ h]
   simp only[yD]
   simp
  simp[G6,h,hs,iQ]
 ·simp[G6,h,iQ]
theorem ZG(s p:List UInt8):pcF D CR [.str s,.str p]=some (.bool (iQ s p)):=by
 unfold pcF
 rw[aJ _ _ _ _ (by simp[CR])]
 simp[CR,e230,s230]
theorem M9(s:List UInt8):pcF D CQ [.str s]=some (uU ⟨true,0,s⟩):=by
 unfold pcF
 rw[aJ _ _ _ _ (by simp[CQ])]
 simp[CQ,turn,uU]
def jA(c:fB)(s:List UInt8):Bool:=if c.kind=2 then s == c.text else if c.kind=3 then iQ s c.text else false
theorem EI(nm:List UInt8)(k lo hi:Int)(tx:List UInt8)(s:List UInt8) :
  pcF D Ae [.agg [.str nm,.int .i64 k,.int .i64 lo,.int .i64 hi,.str tx],.agg [.bool true,.int .i64 0,.str s]]=some (.bool (jA ⟨nm,k,lo,hi,tx⟩ s)):=by
 unfold pcF
 rw[aJ _ _ _ _ (by simp[Ae])]
 by_cases k1:k=1
 ·subst k1
  simp[Ae,jA]
 ·by_cases k2:k=2
  ·subst k2
   simp[Ae,jA]
  ·by_cases k3:k=3
   ·subst k3
    simp[Ae,jA,w8,ZG]
   ·simp[Ae,jA,k1,k2,k3]
def pE(c x:fB):Bool :=
 if x.kind=1 then decide (c.kind=1) && decide (c.lo≤x.lo) && decide (x.hi≤c.hi)
 else if x.kind=3 then decide (c.kind=3) && iQ x.text c.text
 else if x.kind=2 then jA c x.text
 else false
theorem s182(c x:fB):pcF D Gy [.agg [.str c.name,.int .i64 c.kind,.int .i64 c.lo,.int .i64 c.hi,.str c.text],.agg [.str x.name,.int .i64 x.kind,.int .i64 x.lo,.int .i64 x.hi,.str x.text]]=some (.bool (pE c x)):=by
 obtain⟨nm,k,lo,hi,tx⟩:=c
 obtain⟨nm',k',lo',kE,tx'⟩:=x
 unfold pcF
 rw[aJ _ _ _ _ (by simp[Gy])]
 simp only
 by_cases k1:k'=1
 ·subst k1
  by_cases j:k=1
  ·by_cases h1:lo≤lo'
   ·simp[Gy,pE,j,h1]
   ·simp[Gy,pE,j,h1]
  ·simp[Gy,pE,j]
 ·by_cases k3:k'=3
  ·subst k3
   by_cases j:k=3
   ·simp[Gy,pE,j,w8,ZG]
   ·simp[Gy,pE,j]
  ·by_cases k2:k'=2
   ·subst k2
    simp[Gy,pE,A6,M9,uU,A7,EI]
   ·simp[Gy,pE,k1,k2,k3]
end Go.Dm.Tc
namespace Go.Dm.Tc
def mO(p:bI):List (DV×DV):=p.map fun c=>(.str c.name,.agg [.str c.name,.int .i64 c.kind,.int .i64 c.lo,.int .i64 c.hi,.str c.text])
theorem vV(s:List UInt8):∀{p:bI},(∀c∈p,c.name≠s)→xN (.prim 2) (.str s) (mO p)=some 0
 | [],_=>rfl
 | y::r,h=>by
  have h1:(s == y.name)=false:=beq_eq_false_iff_ne.2 fun e=>h y (List.mem_cons_self ..) e.symm
  have ih:=vV s (p:=r) fun c hc=>h c (List.mem_cons_of_mem _ hc)
  simp only[mO,List.map_cons,xN,uT,rS,h1]
  rw[show xN _ _ (r.map _)=some 0 from ih]
theorem Bg(s:List UInt8):∀{p:bI} (i:Nat),(∀c∈p,c.name≠s)→lG (.prim 2) (.str s) (mO p) i=some none
 | [],_,_=>rfl
 | y::r,i,h=>by
  have h1:(s == y.name)=false:=beq_eq_false_iff_ne.2 fun e=>h y (List.mem_cons_self ..) e.symm
  have ih:=Bg s (p:=r) (i+1) fun c hc=>h c (List.mem_cons_of_mem _ hc)
  simp only[mO,List.map_cons,lG,uT,rS,h1]
  exact ih
def pR(p:bI):Prop:=p.Pairwise fun a b=>a.name≠b.name
theorem Kx(s:List UInt8):∀{p:bI} {c:fB},pR p→p.find? (fun c=>decide (c.name=s))=some c→xN (.prim 2) (.str s) (mO p)=some 1
 | [],_,_,h=>by cases h
 | y::r,c,hu,h=>by
  unfold pR at hu
  rw[List.pairwise_cons]at hu
  simp only[mO,List.map_cons,xN,uT,rS]
  by_cases h1:y.name=s
  ·rw[show(s == y.name)=true by rw[h1];simp,show xN _ _ (r.map _)=some 0 from vV s fun c hc e=>hu.1 c hc (by rw[h1,e])]
  ·rw[show(s == y.name)=false from beq_eq_false_iff_ne.2 fun e=>h1 e.symm]
   rw[List.find?_cons,decide_eq_false h1]at h
   rw[show xN _ _ (r.map _)=some 1 from Kx s hu.2 h]
theorem Lk(s:List UInt8):∀{p:bI} {c:fB} (i:Nat),p.find? (fun c=>decide (c.name=s))=some c→∃ j,lG (.prim 2) (.str s) (mO p) i=some (some (j,.agg [.str c.name,.int .i64 c.kind,.int .i64 c.lo,.int .i64 c.hi,.str c.text]))
 | [],_,_,h=>by cases h
 | y::r,c,i,h=>by
  simp only[mO,List.map_cons,lG,uT,rS]
  by_cases h1:y.name=s
  ·rw[List.find?_cons,decide_eq_true h1]at h
   simp only[Option.some.injEq]at h
   subst h
   rw[show(s == y.name)=true by rw[h1];simp]
   exact⟨i,rfl⟩
  ·rw[List.find?_cons,decide_eq_false h1]at h
   rw[show(s == y.name)=false from beq_eq_false_iff_ne.2 fun e=>h1 e.symm]
   exact Lk s (i+1) h
theorem Yp{p:bI}(hu:pR p)(z:DV)(s:List UInt8):yS (.prim 2) z true (.str s) (some (mO p))=some (match p.find? (fun c=>decide (c.name=s))with
  | some c=>.tup [.agg [.str c.name,.int .i64 c.kind,.int .i64 c.lo,.int .i64 c.hi,.str c.text],.bool true]
  | none=>.tup [z,.bool false]):=by
 have he:(jN (.prim 2) (.str s) (.str s)).isSome=true:=by simp
 simp only[yS,he,if_true]
 cases hf:p.find? (fun c=>decide (c.name=s))with
 | none =>
  have hn:∀c∈p,c.name≠s:=fun c hc=>by simpa using List.find?_eq_none.1 hf c hc
  simp only[tH,vV s hn,Bg s 0 hn]
  rfl
 | some c =>
  obtain⟨j,hj⟩:=Lk s 0 hf
  simp only[tH,Kx s hu hf,hj]
  rfl
theorem JG{h:aA}{id:Nat}{p:bI}{c:fB}(hn:∀d∈p,d.name≠c.name)(hl:h.lim≤id):QV h (.prim 2) id (.str c.name) (.agg [.str c.name,.int .i64 c.kind,.int .i64 c.lo,.int .i64 c.hi,.str c.text]) (some (.mp (mO p)))=some (h.set id (.mp (mO (p++[c])))):=by
 have he:(jN (.prim 2) (.str c.name) (.str c.name)).isSome=true:=by simp
 simp only[QV,he,hl,and_self,if_true,tH,vV c.name hn,Bg c.name 0 hn]
 simp[mO]
def kQ(a b:bI):Bool:=a.all fun c=>match b.find? (fun x=>decide (x.name=c.name))with
 | some x=>pE c x
 | none=>false
theorem l144(S:List Fr)(b:bI)(hb:pR b)(hl:b.length≤1000000)(a:bI) :
  ∀(rest done:bI) (i:Nat) (f:cY) (h:aA),b=done++rest→done.length=i→f 0=eL false 5 aO a→f 5=.map 0→f 13=eL false 5 aO b→f 14=.int .i64 b.length→f 15=.int .i64 i→h.get 0=some (.mp (mO done))→h.lim=0→1≤h.n→WF h →
  ∃ f' h',run D 46 (.block 0::.seq Rb::S) (.loop Ra) f h=run D 46 S Rb f' h'∧f' 0=eL false 5 aO a∧f' 5=.map 0∧h'.get 0=some (.mp (mO b))∧h'.lim=0∧1≤h'.n∧WF h':=by
 intro rest
 induction rest with
 | nil =>
  intro done i f h hd hi h0 h5 nC Gh zI g aM hn wf
  have:¬(i<b.length):=by rw[hd];simp;omega
  rw[aC Ra.eq_1]
  simp[Gh,zI,this]
  exact⟨_,_,rfl,by simp[h0],by simp[h5],by rw[hd];simpa using g,aM,hn,wf⟩
 | cons c rest ih =>
  intro done i f h hd hi h0 h5 nC Gh zI g aM hn wf
  have bD:i<b.length:=by rw[hd];simp;omega
  have he:b[i]=c:=by simp only[hd];rw[List.getElem_append_right (by omega)];simp[hi]
  have hnd:∀d∈done,d.name≠c.name:=by
   intro d hdm
   unfold pR at hb
   rw[hd,List.pairwise_append]at hb
   exact hb.2.2 d hdm c (List.mem_cons_self ..)
  have n0:¬0=h.n:=by omega
  have l0:0<h.n:=by omega
  have m0:¬h.n=0:=by omega
  have sK:=fun(H:aA) (hl:H.lim≤0)=>JG (h:=H) (id:=0) (p:=done) (c:=c) hnd hl
  rw[aC Ra.eq_1]
  simp[h5,nC,Gh,zI,bD,he,aO,aM,n0,m0,l0,g,wf,Ve,sK]
  rw[aX (by omega) (by omega)]
  generalize hF:upd _ 15 _=F
  refine ih (done++[c]) (i+1) F _ (by rw[hd];simp) (by simp[hi]) ?_ ?_ ?_ ?_ ?_ ?_ ?_ ?_ ?_
  ·rw[←hF];simp[h0]
  ·rw[←hF];simp[h5]
  ·rw[←hF];simp[nC]
  ·rw[←hF];simp[Gh]
  ·rw[←hF];simp
  ·simp[n0,m0,l0,wf]
  ·simp[aM]
  ·simp
  ·simp[wf]
theorem m144(a b:bI)(hb:pR b)(hl:a.length≤1000000) :
  ∀(rest:bI) (i:Nat) (f:cY) (h:aA),a.drop i=rest→f 5=.map 0→f 24=eL false 5 aO a→f 25=.int .i64 a.length→f 26=.int .i64 i→h.get 0=some (.mp (mO b))→h.lim=0→1≤h.n→WF h →
  dC (fin [.t 4] (run D 46 [.block 2,.seq J1] (.loop Qz) f h))=some (.bool (kQ rest b)):=by
 intro rest
 induction rest with
 | nil =>
  intro i f h hd h5 h24 h25 h26 g aM hn wf
  have hi:=bR hd
  have:¬(i<a.length):=by omega
  rw[aC Qz.eq_1]
  simp[J1,h25,h26,this,kQ]
 | cons c rest ih =>
  intro i f h hd h5 h24 h25 h26 g aM hn wf
  obtain⟨hi,he,fI⟩:=cB hd
  have n0:¬0=h.n:=by omega
  have m0:¬h.n=0:=by omega
  have hlk:=fun z=>Yp hb z c.name
  rw[aC Qz.eq_1]
  cases hf:b.find? (fun x=>decide (x.name=c.name))with
  | none =>
   rw[hf]at hlk
   simp[h5,h24,h25,h26,hi,he,aO,aM,n0,m0,g,wf,wA,Fi,hlk,turn,kQ,hf]
  | some x =>
   rw[hf]at hlk
   cases hw:pE c x with
   | false=>simp[h5,h24,h25,h26,hi,he,aO,aM,n0,m0,g,wf,wA,Fi,hlk,turn,kQ,hf,e182,s182,hw]
   | true =>
    simp[h5,h24,h25,h26,hi,he,aO,aM,n0,m0,g,wf,wA,Fi,hlk,turn,e182,s182,hw]
    rw[aX (by omega) (by omega)]
    refine(ih (i+1) _ _ fI ?_ ?_ ?_ ?_ ?_ ?_ ?_ ?_).trans ?_<;>simp[h5,h24,h25,aO,g,aM,n0,m0,wf,kQ,hf,hw]<;>omega
theorem s144(a b:bI)(hb:pR b)(GK:a.length≤1000000)(hlb:b.length≤1000000):pcF D DN [bF a,bF b]=some (.bool (kQ a b)):=by
 unfold pcF
 rw[aJ _ _ _ _ (by simp[DN])]
 simp only[bF]
 simp[DN]
 generalize hF:upd _ 15 _=F
 obtain⟨f',h',k1,k2,k3,k4,k5,k6,k7⟩:=l144 [] b hb hlb a b [] 0 F (pB.push (.mp [])) (by simp) rfl (by rw[←hF];simp) (by rw[←hF];simp) (by rw[←hF];simp) (by rw[←hF];simp) (by rw[←hF];simp) (by simp[mO]) (by simp) (by simp) (by simp)
 rw[k1]
 clear hF k1
 simp[Rb,k2]
 refine(m144 a b hb GK a 0 _ h' rfl ?_ ?_ ?_ ?_ k4 k5 k6 k7)<;>simp[k3]
end Go.Dm.Tc
namespace Go.Dm.Tc
def eW(tree sub:ID)(e:aV):Int:=if e.tree=tree∧e.sub=sub then 0 else if kN e.tree tree=true∨(e.tree=tree∧kN e.sub sub=true)then -1 else 1
theorem jF{a b:ID}:kN a b=true↔a.aS<b.aS∨a.aS=b.aS∧a.seq<b.seq:=by
 unfold kN;rw[decide_eq_true_iff,fZ]
theorem ID.ext'{a b:ID}:a=b↔a.aS=b.aS∧a.seq=b.seq:=by cases a;cases b;simp
theorem sU{tree sub:ID}{e:aV}:eW tree sub e<0↔kN e.tree tree=true∨(e.tree=tree∧kN e.sub sub=true):=by
 unfold eW
 split
 ·rename_i h
  rw[h.1,h.2,jF,jF]
  constructor
  ·intro q;omega
  ·rintro(q|⟨_,q⟩)<;>omega
 ·split
  ·rename_i h;exact⟨fun _=>h,fun _=>by decide⟩
  ·rename_i h;exact⟨fun q=>by omega,fun q=>absurd q h⟩
theorem nX{tree sub:ID}{e:aV}:eW tree sub e=0↔e.tree=tree∧e.sub=sub:=by
 unfold eW
 split
 ·rename_i h;exact⟨fun _=>h,fun _=>rfl⟩
 ·rename_i h
  split<;>exact⟨fun q=>by omega,fun q=>absurd q h⟩
theorem TN(a b:aV):ltE a b=true↔eW b.tree b.sub a<0:=by
 rw[sU,jF,jF]
 unfold ltE cmpE orI
 rw[decide_eq_true_iff]
 split
 ·rename_i h
  rw[uW]at h
  rw[fZ,h]
  constructor
  ·intro q;exact .inr ⟨rfl,q⟩
  ·rintro(q|⟨_,q⟩)
   ·omega
   ·exact q
 ·rename_i h
  rw[uW]at h
  rw[fZ]
  constructor
  ·intro q;exact .inl q
  ·rintro(q|⟨q,_⟩)
   ·exact q
   ·exact absurd q h
def eY(l:List aV):Prop:=l.Pairwise fun a b=>eW b.tree b.sub a<0
theorem Ak{t s:ID}{a b:aV}(h1:eW b.tree b.sub a<0)(h2:eW t s b≤0):eW t s a<0:=by
 rw[sU,jF,jF]at *
 by_cases h0:eW t s b=0
 ·rw[nX]at h0
  rw[h0.1,h0.2]at h1
  exact h1
 ·have h3:eW t s b<0:=by omega
  rw[sU,jF,jF]at h3
  rw[ID.ext']at *
  omega
theorem VT{l:List aV}(h:eY l)(t s:ID):∀i j (hi:i<l.length) (hj:j<l.length),i≤j→eW t s l[j]<0→eW t s l[i]<0:=by
 intro i j hi hj UB bD
 rcases Nat.lt_or_eq_of_le UB with hl|rfl
 ·exact Ak (List.pairwise_iff_getElem.1 h i j hi hj hl) (by omega)
 ·exact bD
theorem Oq:∀{l:List aV},eY l→mH ltE l=true
 | [],_=>rfl
 | [a],_=>rfl
 | a::b::r,h=>by
  unfold eY at h
  rw[List.pairwise_cons]at h
  simp only[mH,Bool.and_eq_true]
  exact⟨(TN a b).2 (h.1 b (List.mem_cons_self ..)),Oq (l:=b::r) h.2⟩
def isE(tree sub:ID)(e:aV):Bool:=decide (e.tree=tree∧e.sub=sub)
theorem hitE{l:List aV}(h:eY l)(t s:ID):match l.find? (isE t s)with
  | some a=>fF (eW t s) l=true∧l[aU (eW t s) l]?=some a
  | none=>fF (eW t s) l=false:=by
 cases hf:l.find? (isE t s)with
 | some a =>
  have UG:a.tree=t∧a.sub=s:=by simpa[isE]using List.find?_some hf
  obtain⟨i,hi,xO⟩:=List.mem_iff_getElem.1 (List.mem_of_find?_eq_some hf)
  have h0:eW t s a=0:=nX.2 UG
  have hk:aU (eW t s) l=i:=by
   refine pL (Nat.le_of_lt hi) (fun q hq=>?_) (fun hq=>?_)
   ·exact Ak (List.pairwise_iff_getElem.1 h q i (by omega) hi hq) (by rw[xO,h0];decide)
   ·rw[xO,h0];decide
  have Zg:l[aU (eW t s) l]?=some a:=by rw[hk,List.getElem?_eq_getElem hi,xO]
  refine⟨?_,Zg⟩
  unfold fF
  rw[Zg]
  simp[h0]
 | none =>
  unfold fF
  cases hg:l[aU (eW t s) l]? with
  | none=>rfl
  | some a =>
   have:=List.find?_eq_none.1 hf a (List.mem_of_getElem? hg)
   simp only[decide_eq_false_iff_not]
   rw[nX]
   simpa[isE]using this
theorem s195(tg:Bool)(e:aV)(c d t1 t2:Int):pcF D Vz [.agg [.int .i64 e.tree.aS,.int .i64 e.tree.seq,.int .i64 e.sub.aS,.int .i64 e.sub.seq,bF e.pred,.int .i64 e.bL,.bool e.up],.agg [.int .i64 c,.int .i64 d],.iptr tg [.int .i64 t1,.int .i64 t2] 0]=some (.int .i64 (eW ⟨t1,t2⟩ ⟨c,d⟩ e)):=by
 obtain⟨⟨a1,a2⟩,⟨b1,b2⟩,p,q,u⟩:=e
 unfold pcF
 rw[aJ _ _ _ _ (by simp[Vz])]
 simp only
 have hA:((a1 == t1) && (a2 == t2))=decide ((⟨a1,a2⟩:ID)=⟨t1,t2⟩):=by by_cases h1:a1=t1<;>by_cases h2:a2=t2<;>simp[h1,h2]
 have hB:((b1 == c) && (b2 == d))=decide ((⟨b1,b2⟩:ID)=⟨c,d⟩):=by by_cases h1:b1=c<;>by_cases h2:b2=d<;>simp[h1,h2]
 by_cases h1:(⟨a1,a2⟩:ID)=⟨t1,t2⟩
 ·rw[decide_eq_true h1]at hA
  have bD:kN ⟨a1,a2⟩ ⟨t1,t2⟩=false:=by rw[h1];simp[kN,(uW (a:=⟨t1,t2⟩)).2 rfl]
  by_cases h2:(⟨b1,b2⟩:ID)=⟨c,d⟩
  ·rw[decide_eq_true h2]at hB
   simp[Vz,-Bool.and_eq_true,-beq_iff_eq,hA,hB,eW,h1,h2]
  ·rw[decide_eq_false h2]at hB
   cases hs:kN ⟨b1,b2⟩ ⟨c,d⟩<;>simp[Vz,-Bool.and_eq_true,-beq_iff_eq,hA,hB,eW,eq_true h1,h2,e70,s70,bD,hs]
 ·rw[decide_eq_false h1]at hA
  cases bD:kN ⟨a1,a2⟩ ⟨t1,t2⟩<;>simp[Vz,-Bool.and_eq_true,-beq_iff_eq,hA,eW,h1,e70,s70,bD]
end Go.Dm.Tc
namespace Go.Dm.Tc
theorem s156(x0 x1 x2 x3 x5:DV)(t:Bool)(l:List aV)(a b c d:Int)(hr:eY l)(hl:l.length≤1000000) :
  pcF D DG [.agg [x0,x1,x2,x3,eL t 7 aD l,x5],.agg [.int .i64 a,.int .i64 b],.agg [.int .i64 c,.int .i64 d]]=some (.tup [.int .i64 (aU (eW ⟨a,b⟩ ⟨c,d⟩) l),.bool (fF (eW ⟨a,b⟩ ⟨c,d⟩) l)]):=by
 have hb:=s194 t l c d 195 [.iptr true [.int .i64 a,.int .i64 b] 0] (eW ⟨a,b⟩ ⟨c,d⟩) (fun x _ h=>by simp[aD,e195,s195]) hl (VT hr ⟨a,b⟩ ⟨c,d⟩)
 unfold pcF
 rw[aJ _ _ _ _ (by simp[DG])]
 simp[DG,e194,hb,aI]
def ofT(tree:ID)(l:List aV):List aV:=l.filter fun e=>decide (e.tree=tree)
theorem l142(t:Bool)(l:List aV)(c d:Int)(hl:l.length≤1000000)(h0:aA)(g1:h0.get 1=some (.arr 40 2 [.agg [.int .i64 c,.int .i64 d]] (some 1)))(aM:h0.lim=0)(hn:2≤h0.n) :
  ∀(rest eU:List aV) (i:Nat) (f:cY) (h:aA),l.drop i=rest→eU.length≤i→f 3=.ptr 1 2 0 0→f 9=eL t 7 aD l→f 10=.int .i64 l.length→f 11=.int .i64 i→OwnR 2 h (f 5) 114 7 (eU.map aD)→Ext 2 h0 h →
  dC (fin [.t 4] (run D 25 [.block 0,.seq J2] (.loop Rc) f h))=some (eL false 7 aD (eU++ofT ⟨c,d⟩ rest)):=by
 intro rest
 induction rest with
 | nil =>
  intro eU i f h hd ha h3 h9 iA lI ho hx
  have hi:=bR hd
  have:¬(i<l.length):=by omega
  rw[aC Rc.eq_1]
  simp only[ofT,List.filter_nil,List.append_nil]
  have hout:=ho.out (k:=22) (fun y _=>(cC y).1.mono (by decide)) (fun y _=>(cC y).2) (by decide)
  simp[J2,iA,lI,this,-iB]
  exact hout
 | cons e rest ih =>
  intro eU i f h hd ha h3 h9 iA lI ho hx
  obtain⟨hi,he,fI⟩:=cB hd
  have hlH:h.lim=0:=hx.lim.trans aM
  have Pb:=(hx.get 1 (by decide)).trans g1
  have hnh:=hx.le
  have n1:¬1=h.n:=by omega
  have hw:IntKind.i64.wrap ((i:Int)+1)=(i:Int)+1:=aX (by omega) (by omega)
  rw[aC Rc.eq_1]
  by_cases hc:e.tree=⟨c,d⟩
  ·have uP:e.tree.aS=c:=by rw[hc]
   have Bb:e.tree.seq=d:=by rw[hc]
   have hf:ofT ⟨c,d⟩ (e::rest)=e::ofT ⟨c,d⟩ rest:=by simp[ofT,hc]
   rw[hf,List.append_cons]
   simp[h3,h9,iA,lI,hi,he,hlH,Pb,n1,aD,uP,Bb]
   generalize hA:aY _ _ _ _ _ _=A
   obtain⟨v',h',rfl,Ks,uJ,_⟩:=ho.push.push.append hx.push.push.wf (hx.push.push.le) (by simp[hlH]) hA (by simp;omega) (by decide)
   clear hA
   simp[lI,hw]
   generalize hF:upd _ 11 _=F
   have:=ih (eU++[e]) (i+1) F h' fI (by simp;omega) (by rw[←hF];simp[h3]) (by rw[←hF];simp[h9]) (by rw[←hF];simp[iA]) (by rw[←hF];simp) (by rw[←hF];simp;simpa[aD,uP,Bb]using Ks) (hx.push.push.trans uJ)
   simpa using this
  ·have Vb:=uI hc
   simp only at Vb
   have hf:ofT ⟨c,d⟩ (e::rest)=ofT ⟨c,d⟩ rest:=by simp[ofT,hc]
   rw[hf]
   simp[h3,h9,iA,lI,hi,he,hlH,Pb,n1,aD,Vb,hw]
   generalize hF:upd _ 11 _=F
   exact ih eU (i+1) F _ fI (by omega) (by rw[←hF];simp[h3]) (by rw[←hF];simp[h9]) (by rw[←hF];simp[iA]) (by rw[←hF];simp) (by rw[←hF];simp;exact ho.push) hx.push
theorem s142(x0 x1 x2 x3 x5:DV)(t:Bool)(l:List aV)(c d:Int)(hl:l.length≤1000000) :
  pcF D J3 [.agg [x0,x1,x2,x3,eL t 7 aD l,x5],.agg [.int .i64 c,.int .i64 d]]=some (eL false 7 aD (ofT ⟨c,d⟩ l)):=by
 unfold pcF
 rw[aJ _ _ _ _ (by simp[J3])]
 simp[J3,-iB]
 refine(l142 t l c d hl _ ?_ ?_ ?_ l [] 0 _ _ rfl (by simp) ?_ ?_ ?_ ?_ ?_ (Ext.refl ?_ ?_))<;>simp
 exact .nil rfl rfl
theorem s143(tg:Bool)(e:aV)(p:bI)(hu:pR p)(hp:p.length≤1000000)(he:e.pred.length≤1000000):pcF D DP [.agg [.int .i64 e.tree.aS,.int .i64 e.tree.seq,.int .i64 e.sub.aS,.int .i64 e.sub.seq,bF e.pred,.int .i64 e.bL,.bool e.up],.iptr tg [bF p] 0]=some (.bool (e.up && kQ e.pred p)):=by
 unfold pcF
 rw[aJ _ _ _ _ (by simp[DP])]
 cases e.up<;>simp[DP,e144,s144,hu,hp,he]
def cD(l:List aV)(tree:ID)(p:bI):Bool:=(ofT tree l).any fun e=>e.up && kQ e.pred p
theorem s90(x0 x1 x2 x3 x5:DV)(t:Bool)(l:List aV)(c d:Int)(p:bI)(hl:l.length≤1000000)(hu:pR p)(hp:p.length≤1000000)(he:∀e∈l,e.pred.length≤1000000)(f0:jU 20 x0)(f1:jU 20 x1)(f2:jU 20 x2)(f3:jU 20 x3)(f5:jU 20 x5) :
  pcF D t90 [.agg [x0,x1,x2,x3,eL t 7 aD l,x5],.agg [.int .i64 c,.int .i64 d],bF p]=some (.bool (cD l ⟨c,d⟩ p)):=by
 have g0:∀h,resolve true h 199 x0=some x0:=fun h=>f0 _ _ _ (by decide)
 have g1:∀h,resolve true h 199 x1=some x1:=fun h=>f1 _ _ _ (by decide)
 have g2:∀h,resolve true h 199 x2=some x2:=fun h=>f2 _ _ _ (by decide)
 have g3:∀h,resolve true h 199 x3=some x3:=fun h=>f3 _ _ _ (by decide)
 have g5:∀h,resolve true h 199 x5=some x5:=fun h=>f5 _ _ _ (by decide)
 have dV:(ofT ⟨c,d⟩ l).length≤1000000:=Nat.le_trans (List.length_filter_le ..) hl
 have QL:=s84 false (ofT ⟨c,d⟩ l) 143 [.iptr true [bF p] 0] (fun e=>e.up && kQ e.pred p) (fun x hx=>by
  simp only[List.mem_singleton]at hx;subst hx;exact(GR _ _ _).mono (by decide)) (fun x hx h=>by
  have:=he x (List.mem_filter.1 hx).1
  simp[aD,e143,s143,hu,hp,this]) dV
 unfold pcF
 rw[aJ _ _ _ _ (by simp[t90])]
 simp[t90,e142,s142,g0,g1,g2,g3,g5,hl,e84,QL,cD,-List.any_eq_true]
end Go.Dm.Tc
namespace Go.Dm.Tc
def dO(b:aF)(x:ID):Int:=((b.aR.find? fun a=>a.id=x).getD qB).bO
def JP(b:aF)(e:aV):Bool:=e.up || decide (dO b e.tree=-1) || cD b.entries e.tree e.pred
def F8(b:aF):Bool:=b.entries.all (JP b)
structure X4(b:aF):Prop where
 unl:∀e∈b.entries,pR e.pred
 len:∀e∈b.entries,e.pred.length≤1000000
end Go.Dm.Tc
namespace Go.Dm.Tc
theorem l147(h0:aA)(a b c d:Int)(t:Bool)(l:List aV)(hl:l.length≤1000000)(g1:h0.get 1=some (.arr 40 2 [.agg [.int .i64 a,.int .i64 b]] (some 1)))(g2:h0.get 2=some (.arr 40 2 [.agg [.int .i64 c,.int .i64 d]] (some 1)))(aM:h0.lim=0) :
  ∀(rest:List aV) (i:Nat) (f:cY) (h:aA),l.drop i=rest→f 4=.ptr 1 2 0 0→f 5=.ptr 2 2 0 0→f 10=eL t 7 aD l→f 11=.int .i64 l.length→f 12=.int .i64 i→Ext 3 h0 h →
  dC (fin [.t 6] (run D 29 [.block 0,.seq Qw] (.loop Iw) f h))=some (.int .i64 (gY ((rest.findIdx? (isE ⟨a,b⟩ ⟨c,d⟩)).map (·+i)))):=by
 intro rest
 induction rest with
 | nil =>
  intro i f h hd h4 h5 iA lI gQ hx
  have hi:=bR hd
  have:¬(i<l.length):=by omega
  rw[aC Iw.eq_1]
  simp[Qw,lI,gQ,this,gY]
 | cons e rest ih =>
  intro i f h hd h4 h5 iA lI gQ hx
  obtain⟨hi,he,fI⟩:=cB hd
  have Pb:=(hx.get 1 (by decide)).trans g1
  have IT:=(hx.get 2 (by decide)).trans g2
  have hnh:=hx.le
  have n1:¬1=h.n:=by omega
  have n2:¬2=h.n:=by omega
  have tB:h.lim=0:=hx.lim.trans aM
  have hw:IntKind.i64.wrap ((i:Int)+1)=(i:Int)+1:=aX (by omega) (by omega)
  rw[aC Iw.eq_1]
  have next:∀F H,isE ⟨a,b⟩ ⟨c,d⟩ e=false→F 4=.ptr 1 2 0 0→F 5=.ptr 2 2 0 0→F 10=eL t 7 aD l→F 11=.int .i64 l.length→F 12=.int .i64 ((i:Int)+1)→Ext 3 h0 H→dC (fin [.t 6] (run D 29 [.block 0,.seq Qw] (.loop Iw) F H))=some (.int .i64 (gY (((e::rest).findIdx? (isE ⟨a,b⟩ ⟨c,d⟩)).map (·+i)))):=fun F H q a1 a2 a3 a4 a5 a6=>by
   refine(ih (i+1) F H fI a1 a2 a3 a4 (by rw[a5];simp) a6).trans ?_
   simp[List.findIdx?_cons,q]
   congr 2
   funext q
   simp
   omega
  by_cases h1:e.tree=⟨a,b⟩
  ·have uP:e.tree.aS=a:=by rw[h1]
   have Bb:e.tree.seq=b:=by rw[h1]
   by_cases h2:e.sub=⟨c,d⟩
   ·have hc3:e.sub.aS=c:=by rw[h2]
    have hc4:e.sub.seq=d:=by rw[h2]
    have hq:isE ⟨a,b⟩ ⟨c,d⟩ e=true:=by simp[isE,h1,h2]
    simp[h4,h5,iA,lI,gQ,hi,he,n1,n2,Pb,IT,aD,tB,uP,Bb,hc3,hc4,hq,List.findIdx?_cons,gY]
   ·have IY:=uI h2
    simp only at IY
    have hq:isE ⟨a,b⟩ ⟨c,d⟩ e=false:=by simp[isE,h2]
    simp[h4,h5,iA,lI,gQ,hi,he,n1,n2,Pb,IT,aD,tB,uP,Bb,IY,hw]
    exact next _ _ hq (by simp[h4]) (by simp[h5]) (by simp[iA]) (by simp[lI]) (by simp) hx.push
  ·have Dh:=uI h1
   simp only at Dh
   have hq:isE ⟨a,b⟩ ⟨c,d⟩ e=false:=by simp[isE,h1]
   simp[h4,h5,iA,lI,gQ,hi,he,n1,n2,Pb,IT,aD,tB,Dh,hw]
   exact next _ _ hq (by simp[h4]) (by simp[h5]) (by simp[iA]) (by simp[lI]) (by simp) hx.push
theorem s147(x0 x1 x2 x3 x5:DV)(t:Bool)(l:List aV)(a b c d:Int)(hl:l.length≤1000000) :
  pcF D DK [.agg [x0,x1,x2,x3,eL t 7 aD l,x5],.agg [.int .i64 a,.int .i64 b],.agg [.int .i64 c,.int .i64 d]]=some (.int .i64 (gY (l.findIdx? (isE ⟨a,b⟩ ⟨c,d⟩)))):=by
 unfold pcF
 rw[aJ _ _ _ _ (by simp[DK])]
 simp[DK]
 refine(l147 _ a b c d t l hl ?_ ?_ ?_ l 0 _ _ rfl ?_ ?_ ?_ ?_ ?_ (Ext.refl ?_ ?_)).trans ?_<;>simp
def jG(a b:fB):Bool :=
 if a.kind=1 then decide (b.kind=1) && decide (b.lo≤a.lo) && decide (a.hi≤b.hi)
 else if b.kind=2 then decide (a.kind=2) && (a.text == b.text)
 else decide (b.kind=3) && iQ a.text b.text
theorem s215(a b:fB):pcF D Gx [.agg [.str a.name,.int .i64 a.kind,.int .i64 a.lo,.int .i64 a.hi,.str a.text],.agg [.str b.name,.int .i64 b.kind,.int .i64 b.lo,.int .i64 b.hi,.str b.text]]=some (.bool (jG a b)):=by
 obtain⟨nm,k,lo,hi,tx⟩:=a
 obtain⟨nm',k',lo',kE,tx'⟩:=b
 unfold pcF
 rw[aJ _ _ _ _ (by simp[Gx])]
 simp only
 by_cases k1:k=1
 ·subst k1
  by_cases j:k'=1
  ·by_cases h1:lo'≤lo
   ·simp[Gx,jG,j,h1]
   ·simp[Gx,jG,j,h1]
  ·simp[Gx,jG,j]
 ·by_cases k2:k'=2
  ·subst k2
   by_cases j:k=2
   ·simp[Gx,jG,j]
   ·simp[Gx,jG,k1,j]
  ·by_cases k3:k'=3
   ·subst k3
    simp[Gx,jG,k1,UV,SE]
   ·simp[Gx,jG,k1,k2,k3]
theorem Ns{c x:fB}(hx:dD x=true):jG x c=pE c x:=by
 have hk:x.kind=1∨x.kind=2∨x.kind=3:=by
  unfold dD at hx
  rw[Bool.and_eq_true]at hx
  have:=hx.2
  split at this
  ·rename_i h;exact .inl h
  ·split at this
   ·rename_i h;exact .inr (.inr h)
   ·split at this
    ·rename_i h;exact .inr (.inl h)
    ·cases this
 unfold jG pE jA
 rcases hk with h|h|h
 ·simp[h]
 ·by_cases h2:c.kind=2
  ·simp[h,h2]
  ·by_cases h3:c.kind=3<;>simp[h,h2,h3]
 ·by_cases h2:c.kind=2
  ·simp[h,h2]
  ·simp[h,h2]
end Go.Dm.Tc
namespace Go.Dm.Tc
def inC(x:fB)(b:bI):Bool:=b.any fun y=>decide (y.name=x.name) && jG y x
theorem l184(S:List Fr)(b:bI)(hl:b.length≤1000000)(a:bI)(x:fB)(n11:DV)(i12:DV)(id:Nat) :
  ∀(rest:bI) (i:Nat) (eU:Bool) (f:cY) (h:aA),b.drop i=rest→f 1=eL false 5 aO b→f 10=eL false 5 aO a→f 11=n11→f 12=i12→f 6=.ptr id 5 0 0→f 7=.bool eU→f 16=eL false 5 aO b→f 17=.int .i64 b.length→f 18=.int .i64 i →
   h.get id=some (.arr 96 5 [aO x] (some 1))→h.lim=0→WF h →
  ∃ f' h',run D 39 (.block 2::.seq Af::S) (.loop It) f h=run D 39 S Af f' h'∧f' 1=eL false 5 aO b∧f' 10=eL false 5 aO a∧f' 11=n11∧f' 12=i12∧f' 7=.bool (eU || inC x rest)∧h'.lim=0∧WF h':=by
 intro rest
 induction rest with
 | nil =>
  intro i eU f h hd h1 iA lI gQ h6 h7 zV Dg h18 g aM wf
  have hi:=bR hd
  have:¬(i<b.length):=by omega
  rw[aC It.eq_1]
  simp[Dg,h18,this]
  exact⟨_,_,rfl,by simp[h1],by simp[iA],by simp[lI],by simp[gQ],by simp[h7,inC],aM,wf⟩
 | cons y rest ih =>
  intro i eU f h hd h1 iA lI gQ h6 h7 zV Dg h18 g aM wf
  obtain⟨hi,he,fI⟩:=cB hd
  have bD:=bB g
  have n0:¬id=h.n:=by omega
  have hw:IntKind.i64.wrap ((i:Int)+1)=(i:Int)+1:=aX (by omega) (by omega)
  simp only[aO]at g
  rw[aC It.eq_1]
  have rZ:(eU || inC x (y::rest))=((eU || (decide (y.name=x.name) && jG y x)) || inC x rest):=by simp[inC,Bool.or_assoc]
  rw[rZ]
  have next:∀(F:cY) (acc':Bool),F 1=eL false 5 aO b→F 10=eL false 5 aO a→F 11=n11→F 12=i12→F 6=.ptr id 5 0 0→F 7=.bool acc'→F 16=eL false 5 aO b→F 17=.int .i64 b.length→F 18=.int .i64 ((i:Int)+1) →
    ∃ f' h',run D 39 (.block 2::.seq Af::S) (.loop It) F (h.push (.arr 96 5 [.agg [.str y.name,.int .i64 y.kind,.int .i64 y.lo,.int .i64 y.hi,.str y.text]] (some 1)))=run D 39 S Af f' h'∧f' 1=eL false 5 aO b∧f' 10=eL false 5 aO a∧f' 11=n11∧f' 12=i12∧f' 7=.bool (acc' || inC x rest)∧h'.lim=0∧WF h':=fun F acc' a1 a2 a3 a4 a5 a6 a7 a8 a9 =>
   ih (i+1) acc' F _ fI a1 a2 a3 a4 a5 a6 a7 a8 (by rw[a9];simp) (by rw[cN,if_neg n0];exact g) aM wf.push
  cases eU with
  | true =>
   simp[h1,h6,h7,zV,Dg,h18,hi,he,aO,aM,n0,g,hw]
   generalize hF:upd _ 18 _=F
   have:=next F true (by rw[←hF];simp[h1]) (by rw[←hF];simp[iA]) (by rw[←hF];simp[lI]) (by rw[←hF];simp[gQ]) (by rw[←hF];simp[h6]) (by rw[←hF];simp) (by rw[←hF];simp[zV,aO]) (by rw[←hF];simp[Dg]) (by rw[←hF];simp)
   simpa using this
  | false =>
   by_cases hn:y.name=x.name
   ·simp[h1,h6,h7,zV,Dg,h18,hi,he,aO,aM,n0,g,hw,eq_true hn,beq_iff_eq.2 hn,e215,s215]
    generalize hF:upd _ 18 _=F
    have:=next F (jG y x) (by rw[←hF];simp[h1]) (by rw[←hF];simp[iA]) (by rw[←hF];simp[lI]) (by rw[←hF];simp[gQ]) (by rw[←hF];simp[h6]) (by rw[←hF];simp) (by rw[←hF];simp[zV,aO]) (by rw[←hF];simp[Dg]) (by rw[←hF];simp)
    simpa using this
   ·simp[h1,h6,h7,zV,Dg,h18,hi,he,aO,aM,n0,g,hw,hn]
    generalize hF:upd _ 18 _=F
    have:=next F false (by rw[←hF];simp[h1]) (by rw[←hF];simp[iA]) (by rw[←hF];simp[lI]) (by rw[←hF];simp[gQ]) (by rw[←hF];simp[h6]) (by rw[←hF];simp) (by rw[←hF];simp[zV,aO]) (by rw[←hF];simp[Dg]) (by rw[←hF];simp)
    simpa using this
theorem m184(a b:bI)(GK:a.length≤1000000)(hl:b.length≤1000000) :
  ∀(rest:bI) (i:Nat) (f:cY) (h:aA),a.drop i=rest→f 1=eL false 5 aO b→f 10=eL false 5 aO a→f 11=.int .i64 a.length→f 12=.int .i64 i→h.lim=0→WF h →
  dC (fin [.t 4] (run D 39 [.block 0,.seq Qk] (.loop Ir) f h))=some (.bool (rest.all fun x=>inC x b)):=by
 intro rest
 induction rest with
 | nil =>
  intro i f h hd h1 iA lI gQ aM wf
  have hi:=bR hd
  have:¬(i<a.length):=by omega
  rw[aC Ir.eq_1]
  simp[Qk,lI,gQ,this]
 | cons x rest ih =>
  intro i f h hd h1 iA lI gQ aM wf
  obtain⟨hi,he,fI⟩:=cB hd
  have hw:IntKind.i64.wrap ((i:Int)+1)=(i:Int)+1:=aX (by omega) (by omega)
  rw[aC Ir.eq_1]
  simp[h1,iA,lI,gQ,hi,he,aO,aM]
  generalize hF:upd _ 18 _=F
  obtain⟨f',h',k1,k2,k3,k4,k5,k6,k7,k8⟩:=l184 (.block 1::.seq H7::.loop Ir::[.block 0,.seq Qk]) b hl a x (.int .i64 a.length) (.int .i64 i) h.n b 0 false F (h.push (.arr 96 5 [aO x] (some 1))) rfl (by rw[←hF];simp[h1]) (by rw[←hF];simp[iA,aO]) (by rw[←hF];simp[lI]) (by rw[←hF];simp[gQ]) (by rw[←hF];simp) (by rw[←hF];simp) (by rw[←hF];simp[aO]) (by rw[←hF];simp) (by rw[←hF];simp) (by simp) (by exact aM) wf.push
  simp only[aO]at k1
  rw[k1]
  clear hF k1
  simp only[Bool.false_or]at k6
  cases hq:inC x b with
  | false =>
   rw[hq]at k6
   simp[Af,k6,hq]
  | true =>
   rw[hq]at k6
   simp[Af,H7,k5,k6,hq,hw]
   refine(ih (i+1) _ h' fI ?_ ?_ ?_ ?_ k7 k8).trans ?_<;>simp[k2,k3,k4]
theorem s184(a b:bI)(GK:a.length≤1000000)(hl:b.length≤1000000):pcF D H8 [bF a,bF b]=some (.bool (a.all fun x=>inC x b)):=by
 unfold pcF
 rw[aJ _ _ _ _ (by simp[H8])]
 simp only[bF]
 simp[H8]
 refine(m184 a b GK hl a 0 _ _ rfl ?_ ?_ ?_ ?_ ?_ ?_).trans ?_<;>simp
end Go.Dm.Tc
namespace Go.Dm.Tc
theorem JM{a b:UInt8}:(decide (a<b))=decide (a.toNat<b.toNat):=by
 by_cases h:a<b
 ·rw[decide_eq_true h,decide_eq_true (UInt8.lt_iff_toNat_lt.1 h)]
 ·rw[decide_eq_false h,decide_eq_false (fun q=>h (UInt8.lt_iff_toNat_lt.2 q))]
theorem PP:∀a:List UInt8,Go.Op.bytesLess a a=false
 | []=>rfl
 | a::r=>by simp only[Go.Op.bytesLess,JM,PP r];simp
theorem yE:∀{a b c:List UInt8},Go.Op.bytesLess a b=true→Go.Op.bytesLess b c=true→Go.Op.bytesLess a c=true
 | _,[],_,h,_=>by cases ‹List UInt8›<;>simp[Go.Op.bytesLess]at h
 | _,_::_,[],_,h=>by simp[Go.Op.bytesLess]at h
 | [],_::_,_::_,_,_=>rfl
 | a::x,b::y,c::z,h1,h2=>by
  simp only[Go.Op.bytesLess,JM,Bool.or_eq_true,Bool.and_eq_true,decide_eq_true_iff,beq_iff_eq]at *
  rcases h1 with h1|⟨rfl,h1⟩
  ·rcases h2 with h2|⟨rfl,h2⟩
   ·exact .inl (by omega)
   ·exact .inl h1
  ·rcases h2 with h2|⟨rfl,h2⟩
   ·exact .inl h2
   ·exact .inr ⟨rfl,yE h1 h2⟩
theorem Cp:∀{p:bI} {prev:Option (List UInt8)},mJ prev p=true→(∀n,prev=some n→∀c∈p,Go.Op.bytesLess n c.name=true)∧p.Pairwise fun a b=>Go.Op.bytesLess a.name b.name=true
 | [],_,_=>⟨fun _ _ _ h=>(by cases h),List.Pairwise.nil⟩
 | c::r,prev,h=>by
  simp only[mJ,Bool.and_eq_true]at h
  obtain⟨⟨_,h2⟩,h3⟩:=h
  obtain⟨k1,k2⟩:=Cp h3
  refine⟨fun n hn d hd=>?_,List.pairwise_cons.2 ⟨fun d hd=>k1 c.name rfl d hd,k2⟩⟩
  subst hn
  rcases List.mem_cons.1 hd with rfl|hd
  ·exact h2
  ·exact yE h2 (k1 c.name rfl d hd)
theorem Gb:∀{p:bI} {prev:Option (List UInt8)},mJ prev p=true→∀c∈p,dD c=true
 | [],_,_,_,h=>by cases h
 | c::r,prev,h,d,hd=>by
  simp only[mJ,Bool.and_eq_true]at h
  rcases List.mem_cons.1 hd with rfl|hd
  ·exact h.1.1
  ·exact Gb h.2 d hd
theorem bZ.unlike{p:bI}(h:bZ p):pR p:=by
 have:=h.right
 unfold tM at this
 rw[Bool.and_eq_true]at this
 refine(Cp this.1).2.imp fun {a b} QM e=>?_
 rw[e,PP]at QM
 cases QM
theorem bZ.each{p:bI}(h:bZ p):∀c∈p,dD c=true:=by
 have:=h.right
 unfold tM at this
 rw[Bool.and_eq_true]at this
 exact Gb this.1
theorem bZ.nil:bZ []:=⟨rfl,⟨by decide,fun c h=>by cases h⟩,by decide⟩
theorem Yx(x:fB):∀{b:bI},pR b→(∀y∈b,dD y=true)→inC x b=match b.find? (fun y=>decide (y.name=x.name))with
  | some y=>pE x y
  | none=>false
 | [],_,_=>rfl
 | y::r,hu,hr=>by
  unfold pR at hu
  rw[List.pairwise_cons]at hu
  unfold inC
  rw[List.any_cons,List.find?_cons]
  by_cases h:y.name=x.name
  ·rw[decide_eq_true h]
   have:(r.any fun y=>decide (y.name=x.name) && jG y x)=false:=by
    rw[List.any_eq_false]
    intro z hz
    have:¬z.name=x.name:=fun e=>hu.1 z hz (by rw[h,e])
    simp[this]
   rw[this,Bool.true_and,Bool.or_false]
   exact Ns (hr y (List.mem_cons_self ..))
  ·rw[decide_eq_false h,Bool.false_and,Bool.false_or]
   exact Yx x hu.2 fun z hz=>hr z (List.mem_cons_of_mem _ hz)
theorem Ss(a:bI){b:bI}(h:bZ b):(a.all fun x=>inC x b)=kQ a b:=by
 unfold kQ
 congr 1
 funext x
 exact Yx x h.unlike h.each
theorem SF(a b:bI)(GK:a.length≤1000000)(h:bZ b):pcF D H8 [bF a,bF b]=some (.bool (kQ a b)):=by
 rw[←Ss a h]
 exact s184 a b GK (Nat.le_trans h.len (by decide))
theorem l148(t:Bool)(l:List aV)(c d:Int)(p:bI)(hl:l.length≤1000000)(hp:bZ p)(dI:∀e∈l,e.pred.length≤1000000)(h0:aA)(g1:h0.get 1=some (.arr 40 2 [.agg [.int .i64 c,.int .i64 d]] (some 1)))(aM:h0.lim=0) :
  ∀(rest:List aV) (i:Nat) (f:cY) (h:aA),l.drop i=rest→f 2=bF p→f 4=.ptr 1 2 0 0→f 10=eL t 7 aD l→f 11=.int .i64 l.length→f 12=.int .i64 i→Ext 2 h0 h →
  dC (fin [.t 6] (run D 31 [.block 0,.seq Qv] (.loop Iv) f h))=some (.bool (cD rest ⟨c,d⟩ p)):=by
 intro rest
 induction rest with
 | nil =>
  intro i f h hd h2 h4 iA lI gQ hx
  have hi:=bR hd
  have:¬(i<l.length):=by omega
  rw[aC Iv.eq_1]
  simp[Qv,lI,gQ,this,cD,ofT]
 | cons e rest ih =>
  intro i f h hd h2 h4 iA lI gQ hx
  obtain⟨hi,he,fI⟩:=cB hd
  have Pb:=(hx.get 1 (by decide)).trans g1
  have hnh:=hx.le
  have n1:¬1=h.n:=by omega
  have tB:h.lim=0:=hx.lim.trans aM
  have hw:IntKind.i64.wrap ((i:Int)+1)=(i:Int)+1:=aX (by omega) (by omega)
  have OI:=SF e.pred p (dI e (by rw[←he];exact List.getElem_mem hi)) hp
  have next:∀F H,F 2=bF p→F 4=.ptr 1 2 0 0→F 10=eL t 7 aD l→F 11=.int .i64 l.length→F 12=.int .i64 ((i:Int)+1)→Ext 2 h0 H →
    dC (fin [.t 6] (run D 31 [.block 0,.seq Qv] (.loop Iv) F H))=some (.bool (cD rest ⟨c,d⟩ p)):=fun F H a1 a2 a3 a4 a5 a6=>ih (i+1) F H fI a1 a2 a3 a4 (by rw[a5];simp) a6
  rw[aC Iv.eq_1]
  by_cases ht:e.tree=⟨c,d⟩
  ·have uP:e.tree.aS=c:=by rw[ht]
   have Bb:e.tree.seq=d:=by rw[ht]
   have Vb:cD (e::rest) ⟨c,d⟩ p=((e.up && kQ e.pred p) || cD rest ⟨c,d⟩ p):=by simp[cD,ofT,ht]
   rw[Vb]
   cases sK:e.up with
   | false =>
    simp[h2,h4,iA,lI,gQ,hi,he,n1,Pb,aD,tB,uP,Bb,sK,hw]
    exact next _ _ (by simp[h2]) (by simp[h4]) (by simp[iA]) (by simp[lI]) (by simp) hx.push
   | true =>
    cases hcp:kQ e.pred p with
    | false =>
     rw[hcp]at OI
     simp[h2,h4,iA,lI,gQ,hi,he,n1,Pb,aD,tB,uP,Bb,sK,hw,e184,OI]
     exact next _ _ (by simp[h2]) (by simp[h4]) (by simp[iA]) (by simp[lI]) (by simp) hx.push
    | true =>
     rw[hcp]at OI
     simp[h2,h4,iA,lI,gQ,hi,he,n1,Pb,aD,tB,uP,Bb,sK,hw,e184,OI]
  ·have Dh:=uI ht
   simp only at Dh
   have Vb:cD (e::rest) ⟨c,d⟩ p=cD rest ⟨c,d⟩ p:=by simp[cD,ofT,ht]
   rw[Vb]
   simp[h2,h4,iA,lI,gQ,hi,he,n1,Pb,aD,tB,Dh,hw]
   exact next _ _ (by simp[h2]) (by simp[h4]) (by simp[iA]) (by simp[lI]) (by simp) hx.push
theorem s148(x0 x1 x2 x3 x5:DV)(t:Bool)(l:List aV)(c d:Int)(p:bI)(hl:l.length≤1000000)(hp:bZ p)(dI:∀e∈l,e.pred.length≤1000000) :
  pcF D DJ [.agg [x0,x1,x2,x3,eL t 7 aD l,x5],.agg [.int .i64 c,.int .i64 d],bF p]=some (.bool (cD l ⟨c,d⟩ p)):=by
 unfold pcF
 rw[aJ _ _ _ _ (by simp[DJ])]
 simp[DJ]
 refine(l148 t l c d p hl hp dI _ ?_ ?_ l 0 _ _ rfl ?_ ?_ ?_ ?_ ?_ (Ext.refl ?_ ?_)).trans ?_<;>simp
end Go.Dm.Tc
namespace Go.Dm.Tc
def sP(e:aV)(l:List aV):List aV:=l.take (aU (eW e.tree e.sub) l)++e::l.drop (aU (eW e.tree e.sub) l)
def iZ(b:aF)(e:aV):Bool :=
 match b.aR.find? (fun a=>a.id=e.tree)with
 | none=>false
 | some a=>!(b.entries.any (isE e.tree e.sub)) && !(decide (e.bL=a.bO) && !decide (a.bO=-1))
def qN(b:aF)(e:aV):Bool:=!decide (dO b e.tree=-1) && !cD b.entries e.tree e.pred
def dY(b:aF)(e:aV):aF×Bool :=
 if iZ b e=true then({b with entries:=sP {e with up:=qN b e} b.entries},qN b e)else(b,false)
theorem Zq{l:List aV}{t s:ID}:l.any (isE t s)=hJ (l.find? (isE t s)):=by
 cases h:l.find? (isE t s)with
 | none =>
  rw[List.any_eq_false.2]
  ·rfl
  ·intro x hx
   have:=List.find?_eq_none.1 h x hx
   simpa using this
 | some a=>exact List.any_eq_true.2 ⟨a,List.mem_of_find?_eq_some h,List.find?_some h⟩
theorem s105(b:aF)(e:aV)(hs:fT b)(hq:X4 b)(VY:bZ e.pred)(ra:dU (b.aR.map (·.id)))(re:eY b.entries) :
  pcF D K8 [aH .none b,.agg [.int .i64 e.tree.aS,.int .i64 e.tree.seq,.int .i64 e.sub.aS,.int .i64 e.sub.seq,bF e.pred,.int .i64 e.bL,.bool e.up]]=some (.tup [aH .none (dY b e).1,.bool (dY b e).2]):=by
 obtain⟨me,aL,adv,seen,ent,own⟩:=b
 obtain⟨⟨tc,td⟩,⟨sc,sd⟩,p,bL,up⟩:=e
 obtain⟨z1,z2,z3,z4,z5⟩:=hs
 simp only at z1 z2 z3 z4 z5 ra re VY
 obtain⟨R,hR⟩:∃ R,R=DV.tup [aH .none (dY ⟨me,aL,adv,seen,ent,own⟩ ⟨⟨tc,td⟩,⟨sc,sd⟩,p,bL,up⟩).1,.bool (dY ⟨me,aL,adv,seen,ent,own⟩ ⟨⟨tc,td⟩,⟨sc,sd⟩,p,bL,up⟩).2]:=⟨_,rfl⟩
 rw[←hR]
 have Bc:adv.length≤1000000:=by omega
 have lC:ent.length≤1000000:=by omega
 have f1:=fun {α:Type} (t:Bool) (sz:Nat) (e:α→DV) (xs:List α)=>(eM t sz e xs).mono (show 1≤20 by decide)
 have hFd:=fun u4=>s89 (.int .i64 me) (eL false 1 bQ aL) (eL false 2 eID seen) (eL u4 7 aD ent) (eL false 3 cT own) false adv tc td ra Bc ((fA _ _).mono (by decide)) (f1 _ _ _ _) (f1 _ _ _ _) (f1 _ _ _ _) (f1 _ _ _ _)
 have hPl:=fun u4=>s156 (.int .i64 me) (eL false 1 bQ aL) (eL false 4 aG adv) (eL false 2 eID seen) (eL false 3 cT own) u4 ent tc td sc sd re lC
 have hCv:=fun u4=>s90 (.int .i64 me) (eL false 1 bQ aL) (eL false 4 aG adv) (eL false 2 eID seen) (eL false 3 cT own) u4 ent tc td p lC VY.unlike (Nat.le_trans VY.len (by decide)) hq.len ((fA _ _).mono (by decide)) (f1 _ _ _ _) (f1 _ _ _ _) (f1 _ _ _ _) (f1 _ _ _ _)
 have wN:=hitE re ⟨tc,td⟩ ⟨sc,sd⟩
 have Lc:=Zq (l:=ent) (t:=⟨tc,td⟩) (s:=⟨sc,sd⟩)
 unfold pcF
 rw[aJ _ _ _ _ (by simp[K8])]
 simp[K8,aH,dG.none,x7]
 generalize hA:dN _ _ _ _ _=A
 obtain⟨v4,K,rfl,o4,x,_⟩:=yY (lo:=3) (qG ..) (by simp) (by simp) (by simp) (by simp;omega) (by decide) hA
 clear hA
 have a0:=x.get 0 (by decide)
 have a1:=x.get 1 (by decide)
 have a2:=x.get 2 (by decide)
 have q0:=x.lim
 have w0:=x.wf
 have n0:=x.le
 simp at a0 a1 a2 q0
 have l0':0<K.n:=by omega
 obtain⟨H,hH⟩:∃ H,H=K.set 0 (.arr 36 6 [.agg [.int .i64 me,eL false 1 bQ aL,eL false 4 aG adv,eL false 2 eID seen,v4,eL false 3 cT own]] (some 1)):=⟨_,rfl⟩
 have wH:WF H:=by rw[hH];exact w0.set
 have nH:H.n=K.n:=by rw[hH];rfl
 have lH:H.lim=0:=by rw[hH];exact q0
 have g0:H.get 0=some (.arr 36 6 [.agg [.int .i64 me,eL false 1 bQ aL,eL false 4 aG adv,eL false 2 eID seen,v4,eL false 3 cT own]] (some 1)):=by rw[hH,cA w0 l0',if_pos rfl]
 have g1:H.get 1=some (.arr 114 7 [.agg [.int .i64 tc,.int .i64 td,.int .i64 sc,.int .i64 sd,bF p,.int .i64 bL,.bool up]] (some 1)):=by rw[hH,cA w0 l0',if_neg (by decide)];exact a1
 have g2:H.get 2=some (.arr 36 6 [.agg [.int .i64 0,.nsl,.nsl,.nsl,.nsl,.nsl]] (some 1)):=by rw[hH,cA w0 l0',if_neg (by decide)];exact a2
 have st4:=o4.bE
 have ec4:=o4.aP
 replace o4:Own 3 H v4 114 7 (ent.map aD):=by rw[hH];exact o4.aW w0 (by decide) l0'
 simp[a0,a1,a2,q0,w0,l0',st4,ec4,turn]
 rw[←hH]
 clear hH
 have l0:0<H.n:=by omega
 have l1:1<H.n:=by omega
 have l2:2<H.n:=by omega
 have nn0:¬0=H.n:=by omega
 have nn1:¬1=H.n:=by omega
 have nn2:¬2=H.n:=by omega
 have mm0:¬H.n=0:=by omega
 have mm1:¬H.n=1:=by omega
 have mm2:¬H.n=2:=by omega
 have r1:resolve true H 199 v4=some (eL true 7 aD ent):=o4.resolve true (fun y _=>(cC y).1) (by decide)
 have r1p:∀o,resolve true (H.push o) 199 v4=some (eL true 7 aD ent):=fun o=>o4.push.resolve true (fun y _=>(cC y).1) (by decide)
 have r2:∀o o',resolve false ((H.set 2 o').push o) 198 v4=some (eL false 7 aD ent):=fun o o'=>((o4.aW wH (by decide) l2).push).resolve false (fun y _=>(cC y).1) (by decide)
 cases Ht:adv.find? (fun a=>decide (a.id=⟨tc,td⟩))with
 | none =>
  rw[Ht]at hFd
  have wM:iZ ⟨me,aL,adv,seen,ent,own⟩ ⟨⟨tc,td⟩,⟨sc,sd⟩,p,bL,up⟩=false:=by simp[iZ,Ht]
  simp[g0,g1,g2,lH,wH,nn0,nn1,nn2,mm0,mm1,mm2,l0,l1,l2,e89,hFd,Hk,hPl,wN,r1,r2,aG,turn,aI,hJ,qB,r1p]
  simp[hR,dY,wM,aH,dG.none]
 | some a =>
  rw[Ht]at hFd
  simp only[aG,Option.getD_some]at hFd
  cases yW:ent.find? (isE ⟨tc,td⟩ ⟨sc,sd⟩)with
  | some e2 =>
   rw[yW]at wN Lc
   simp only at wN
   have hhit':=wN.1
   have wM:iZ ⟨me,aL,adv,seen,ent,own⟩ ⟨⟨tc,td⟩,⟨sc,sd⟩,p,bL,up⟩=false:=by simp only[iZ,Ht,Lc];simp[hJ]
   simp[g0,g1,g2,lH,wH,nn0,nn1,nn2,mm0,mm1,mm2,l0,l1,l2,e89,hFd,Hk,hPl,r1,r2,aG,turn,aI,hJ,r1p,hhit']
   simp[hR,dY,wM,aH,dG.none]
  | none =>
   rw[yW]at wN Lc
   simp only at wN
   by_cases S9:bL=a.bO∧¬a.bO=-1
   ·have wM:iZ ⟨me,aL,adv,seen,ent,own⟩ ⟨⟨tc,td⟩,⟨sc,sd⟩,p,bL,up⟩=false:=by simp only[iZ,Ht,Lc];simp[S9.1,S9.2]
    have hf1:=S9.1
    have UE:=S9.2
    subst hf1
    simp[g0,g1,g2,lH,wH,nn0,nn1,nn2,mm0,mm1,mm2,l0,l1,l2,e89,hFd,Hk,hPl,wN,r1,r2,aG,turn,aI,hJ,r1p,UE]
    simp[hR,dY,wM,aH,dG.none]
   ·have wM:iZ ⟨me,aL,adv,seen,ent,own⟩ ⟨⟨tc,td⟩,⟨sc,sd⟩,p,bL,up⟩=true:=by
     simp only[iZ,Ht,Lc,hJ]
     by_cases h1:bL=a.bO
     ·have h2:a.bO=-1:=by
       by_cases h2:a.bO=-1
       ·exact h2
       ·exact absurd ⟨h1,h2⟩ S9
      simp[h2]
     ·simp[h1]
    have xL:dO ⟨me,aL,adv,seen,ent,own⟩ ⟨tc,td⟩=a.bO:=by simp[dO,Ht]
    by_cases Cy:a.bO=-1
    ·have sK:qN ⟨me,aL,adv,seen,ent,own⟩ ⟨⟨tc,td⟩,⟨sc,sd⟩,p,bL,up⟩=false:=by simp[qN,xL,Cy]
     by_cases OH:bL=a.bO
     ·simp[g0,g1,g2,lH,wH,nn0,nn1,nn2,mm0,mm1,mm2,l0,l1,l2,e89,hFd,Hk,hPl,wN,r1,aG,turn,r1p,hJ,eq_true Cy,eq_true OH]
      generalize hA:fc D _ _ _=A
      have o4i:=o4.push (o:=.arr 93 4 [.agg [.int .i64 a.id.aS,.int .i64 a.id.seq,bF a.pred,.int .i64 a.bO]] (some 1))
      obtain⟨v4',K2,rfl,p4,x2,_⟩:=SS hA 3 ent ⟨⟨tc,td⟩,⟨sc,sd⟩,p,bL,false⟩ (vety:=114) (c:=1) (by
        have:=((o4i.aW (id:=1) (o:=.arr 114 7 [.agg [.int .i64 tc,.int .i64 td,.int .i64 sc,.int .i64 sd,bF p,.int .i64 bL,.bool false]] (some 1)) wH.push (by decide) (by simp;omega)).push (o:=.arr 114 7 [.agg [.int .i64 tc,.int .i64 td,.int .i64 sc,.int .i64 sd,bF p,.int .i64 bL,.bool false]] (some 1)))
        simpa[l1,wH]using this) (by simp[aD,nn0,nn1,nn2,mm0,mm1,mm2,l0,l1,l2,wH]) (dB _ _) lC (by simp[wH]) (by simp;omega) (by simp[lH])
      clear hA
      have b0:=x2.get 0 (by decide)
      have b1:=x2.get 1 (by decide)
      have b2:=x2.get 2 (by decide)
      have q2:=x2.lim
      have w2:=x2.wf
      have n2:=x2.le
      simp[g0,g1,g2,lH,wH,nn0,nn1,nn2,mm0,mm1,mm2,l0,l1,l2]at b0 b1 b2 q2
      have Bd:0<K2.n:=by omega
      have OK:2<K2.n:=by omega
      have r4':=fun o o'=>((p4.aW (o:=o) w2 (by decide) Bd).aW (o:=o') w2.set (by decide) OK).resolve (n:=198) false (fun y _=>(cC y).1) (by decide)
      simp[b0,b1,b2,q2,w2,Bd,OK,p4.bE,p4.aP,turn,r4',aI]
      simp[hR,dY,wM,sK,aH,dG.none,sP]
     ·simp[g0,g1,g2,lH,wH,nn0,nn1,nn2,mm0,mm1,mm2,l0,l1,l2,e89,hFd,Hk,hPl,wN,r1,aG,turn,r1p,hJ,eq_true Cy,OH]
      generalize hA:fc D _ _ _=A
      have o4i:=o4.push (o:=.arr 93 4 [.agg [.int .i64 a.id.aS,.int .i64 a.id.seq,bF a.pred,.int .i64 a.bO]] (some 1))
      obtain⟨v4',K2,rfl,p4,x2,_⟩:=SS hA 3 ent ⟨⟨tc,td⟩,⟨sc,sd⟩,p,bL,false⟩ (vety:=114) (c:=1) (by
        have:=((o4i.aW (id:=1) (o:=.arr 114 7 [.agg [.int .i64 tc,.int .i64 td,.int .i64 sc,.int .i64 sd,bF p,.int .i64 bL,.bool false]] (some 1)) wH.push (by decide) (by simp;omega)).push (o:=.arr 114 7 [.agg [.int .i64 tc,.int .i64 td,.int .i64 sc,.int .i64 sd,bF p,.int .i64 bL,.bool false]] (some 1)))
        simpa[l1,wH]using this) (by simp[aD,nn0,nn1,nn2,mm0,mm1,mm2,l0,l1,l2,wH]) (dB _ _) lC (by simp[wH]) (by simp;omega) (by simp[lH])
      clear hA
      have b0:=x2.get 0 (by decide)
      have b1:=x2.get 1 (by decide)
      have b2:=x2.get 2 (by decide)
      have q2:=x2.lim
      have w2:=x2.wf
      have n2:=x2.le
      simp[g0,g1,g2,lH,wH,nn0,nn1,nn2,mm0,mm1,mm2,l0,l1,l2]at b0 b1 b2 q2
      have Bd:0<K2.n:=by omega
      have OK:2<K2.n:=by omega
      have r4':=fun o o'=>((p4.aW (o:=o) w2 (by decide) Bd).aW (o:=o') w2.set (by decide) OK).resolve (n:=198) false (fun y _=>(cC y).1) (by decide)
      simp[b0,b1,b2,q2,w2,Bd,OK,p4.bE,p4.aP,turn,r4',aI]
      simp[hR,dY,wM,sK,aH,dG.none,sP]
    ·have T0:¬bL=a.bO:=fun e=>S9 ⟨e,Cy⟩
     cases hC:cD ent ⟨tc,td⟩ p with
     | true =>
      rw[hC]at hCv
      have sK:qN ⟨me,aL,adv,seen,ent,own⟩ ⟨⟨tc,td⟩,⟨sc,sd⟩,p,bL,up⟩=false:=by simp[qN,hC]
      simp[g0,g1,g2,lH,wH,nn0,nn1,nn2,mm0,mm1,mm2,l0,l1,l2,e89,hFd,Hk,hPl,wN,r1,aG,turn,r1p,hJ,Cy,T0,e90,hCv]
      generalize hA:fc D _ _ _=A
      have o4i:=o4.push (o:=.arr 93 4 [.agg [.int .i64 a.id.aS,.int .i64 a.id.seq,bF a.pred,.int .i64 a.bO]] (some 1))
      obtain⟨v4',K2,rfl,p4,x2,_⟩:=SS hA 3 ent ⟨⟨tc,td⟩,⟨sc,sd⟩,p,bL,false⟩ (vety:=114) (c:=1) (by
        have:=((o4i.aW (id:=1) (o:=.arr 114 7 [.agg [.int .i64 tc,.int .i64 td,.int .i64 sc,.int .i64 sd,bF p,.int .i64 bL,.bool false]] (some 1)) wH.push (by decide) (by simp;omega)).push (o:=.arr 114 7 [.agg [.int .i64 tc,.int .i64 td,.int .i64 sc,.int .i64 sd,bF p,.int .i64 bL,.bool false]] (some 1)))
        simpa[l1,wH]using this) (by simp[aD,nn0,nn1,nn2,mm0,mm1,mm2,l0,l1,l2,wH]) (dB _ _) lC (by simp[wH]) (by simp;omega) (by simp[lH])
      clear hA
      have b0:=x2.get 0 (by decide)
      have b1:=x2.get 1 (by decide)
      have b2:=x2.get 2 (by decide)
      have q2:=x2.lim
      have w2:=x2.wf
      have n2:=x2.le
      simp[g0,g1,g2,lH,wH,nn0,nn1,nn2,mm0,mm1,mm2,l0,l1,l2]at b0 b1 b2 q2
      have Bd:0<K2.n:=by omega
      have OK:2<K2.n:=by omega
      have r4':=fun o o'=>((p4.aW (o:=o) w2 (by decide) Bd).aW (o:=o') w2.set (by decide) OK).resolve (n:=198) false (fun y _=>(cC y).1) (by decide)
      simp[b0,b1,b2,q2,w2,Bd,OK,p4.bE,p4.aP,turn,r4',aI]
      simp[hR,dY,wM,sK,aH,dG.none,sP]
     | false =>
      rw[hC]at hCv
      have sK:qN ⟨me,aL,adv,seen,ent,own⟩ ⟨⟨tc,td⟩,⟨sc,sd⟩,p,bL,up⟩=true:=by simp[qN,xL,Cy,hC]
      simp[g0,g1,g2,lH,wH,nn0,nn1,nn2,mm0,mm1,mm2,l0,l1,l2,e89,hFd,Hk,hPl,wN,r1,aG,turn,r1p,hJ,Cy,T0,e90,hCv]
      generalize hA:fc D _ _ _=A
      have o4i:=o4.push (o:=.arr 93 4 [.agg [.int .i64 a.id.aS,.int .i64 a.id.seq,bF a.pred,.int .i64 a.bO]] (some 1))
      obtain⟨v4',K2,rfl,p4,x2,_⟩:=SS hA 3 ent ⟨⟨tc,td⟩,⟨sc,sd⟩,p,bL,true⟩ (vety:=114) (c:=1) (by
        have:=((o4i.aW (id:=1) (o:=.arr 114 7 [.agg [.int .i64 tc,.int .i64 td,.int .i64 sc,.int .i64 sd,bF p,.int .i64 bL,.bool true]] (some 1)) wH.push (by decide) (by simp;omega)).push (o:=.arr 114 7 [.agg [.int .i64 tc,.int .i64 td,.int .i64 sc,.int .i64 sd,bF p,.int .i64 bL,.bool true]] (some 1)))
        simpa[l1,wH]using this) (by simp[aD,nn0,nn1,nn2,mm0,mm1,mm2,l0,l1,l2,wH]) (dB _ _) lC (by simp[wH]) (by simp;omega) (by simp[lH])
      clear hA
      have b0:=x2.get 0 (by decide)
      have b1:=x2.get 1 (by decide)
      have b2:=x2.get 2 (by decide)
      have q2:=x2.lim
      have w2:=x2.wf
      have n2:=x2.le
      simp[g0,g1,g2,lH,wH,nn0,nn1,nn2,mm0,mm1,mm2,l0,l1,l2]at b0 b1 b2 q2
      have Bd:0<K2.n:=by omega
      have OK:2<K2.n:=by omega
      have r4':=fun o o'=>((p4.aW (o:=o) w2 (by decide) Bd).aW (o:=o') w2.set (by decide) OK).resolve (n:=198) false (fun y _=>(cC y).1) (by decide)
      simp[b0,b1,b2,q2,w2,Bd,OK,p4.bE,p4.aP,turn,r4',aI]
      simp[hR,dY,wM,sK,aH,dG.none,sP]
end Go.Dm.Tc
namespace Go.Dm.Tc
theorem l96(S:List Fr)(h:aA)(x0 x1 x2 x3 x5:DV)(l:List aV)(tc td sc sd:Int)(p q r:DV)(hl:l.length≤1000000)
  (g0:h.get 0=some (.arr 36 6 [.agg [x0,x1,x2,x3,eL false 7 aD l,x5]] (some 1))) (g1:h.get 1=some (.arr 114 7 [.agg [.int .i64 tc,.int .i64 td,.int .i64 sc,.int .i64 sd,p,q,r]] (some 1))) (aM:h.lim=0) :
  ∀(n i:Nat) (f:cY),aU (eW ⟨tc,td⟩ ⟨sc,sd⟩) l-i=n→i≤aU (eW ⟨tc,td⟩ ⟨sc,sd⟩) l→f 2=.ptr 0 6 0 0→f 3=.ptr 1 7 0 0→f 7=.int .i64 i →
  ∃ f',run D 115 (.block 0::.seq Fp::S) (.loop Io) f h=run D 115 S Fp f' h∧f' 2=.ptr 0 6 0 0∧f' 3=.ptr 1 7 0 0∧f' 4=f 4∧f' 5=f 5∧f' 7=.int .i64 (aU (eW ⟨tc,td⟩ ⟨sc,sd⟩) l):=by
 intro n
 induction n with
 | zero =>
  intro i f hn hi h2 h3 h7
  have dV:aU (eW ⟨tc,td⟩ ⟨sc,sd⟩) l=i:=by omega
  rw[aC Io.eq_1]
  by_cases bD:i<l.length
  ·have j8:=Cs (eW ⟨tc,td⟩ ⟨sc,sd⟩) hi (List.getElem?_eq_getElem bD)
   have Zd:¬eW ⟨tc,td⟩ ⟨sc,sd⟩ l[i]<0:=fun hc=>by have:=j8.1 hc;omega
   rw[sU]at Zd
   obtain⟨e,he⟩:∃ e,l[i]=e:=⟨_,rfl⟩
   rw[he]at Zd
   have BG:kN ⟨e.tree.aS,e.tree.seq⟩ ⟨tc,td⟩=false:=by
    cases hq:kN e.tree ⟨tc,td⟩with
    | false=>rfl
    | true=>exact absurd (.inl hq) Zd
   by_cases ht:e.tree=⟨tc,td⟩
   ·have uP:e.tree.aS=tc:=by rw[ht]
    have Bb:e.tree.seq=td:=by rw[ht]
    have hn2:kN ⟨e.sub.aS,e.sub.seq⟩ ⟨sc,sd⟩=false:=by
     cases hq:kN e.sub ⟨sc,sd⟩with
     | false=>rfl
     | true=>exact absurd (.inr ⟨ht,hq⟩) Zd
    simp[h2,h3,h7,g0,g1,bD,he,aM,aD,e94,s94,BG,hn2]
    simp only[uP,Bb]at BG
    simp[uP,Bb,BG,e94,s94,hn2]
    exact⟨_,rfl,by simp[h2],by simp[h3],by simp,by simp,by simp[h7,dV]⟩
   ·have Dh:=uI ht
    simp only at Dh
    simp[h2,h3,h7,g0,g1,bD,he,aM,aD,e94,s94,BG,Dh]
    exact⟨_,rfl,by simp[h2],by simp[h3],by simp,by simp,by simp[h7,dV]⟩
  ·simp[h2,h3,h7,g0,g1,bD]
   exact⟨_,rfl,by simp[h2],by simp[h3],by simp,by simp,by simp[h7,dV]⟩
 | succ n ih =>
  intro i f hn hi h2 h3 h7
  have bD:i<l.length:=by have:=dB (eW ⟨tc,td⟩ ⟨sc,sd⟩) l;omega
  obtain⟨e,he⟩:∃ e,l[i]=e:=⟨_,rfl⟩
  have Zb:eW ⟨tc,td⟩ ⟨sc,sd⟩ e<0:=by
   have:=Tn (eW ⟨tc,td⟩ ⟨sc,sd⟩) (l:=l) (i:=i) (a:=l[i]) (by omega) (List.getElem?_eq_getElem bD)
   rw[he]at this
   exact of_decide_eq_true this
  rw[sU]at Zb
  have hw:IntKind.i64.wrap ((i:Int)+1)=(i:Int)+1:=aX (by omega) (by omega)
  rw[aC Io.eq_1]
  have next:∀F,F 2=.ptr 0 6 0 0→F 3=.ptr 1 7 0 0→F 4=f 4→F 5=f 5→F 7=.int .i64 ((i:Int)+1) →
    ∃ f',run D 115 (.block 0::.seq Fp::S) (.loop Io) F h=run D 115 S Fp f' h∧f' 2=.ptr 0 6 0 0∧f' 3=.ptr 1 7 0 0∧f' 4=f 4∧f' 5=f 5∧f' 7=.int .i64 (aU (eW ⟨tc,td⟩ ⟨sc,sd⟩) l):=fun F a1 a2 a3 a4 a5=>by
   obtain⟨f',k1,k2,k3,k4,k5,k6⟩:=ih (i+1) F (by omega) (by omega) a1 a2 (by rw[a5];simp)
   exact⟨f',k1,k2,k3,by rw[k4,a3],by rw[k5,a4],k6⟩
  cases hq:kN e.tree ⟨tc,td⟩with
  | true =>
   have uK:kN ⟨e.tree.aS,e.tree.seq⟩ ⟨tc,td⟩=true:=hq
   simp[h2,h3,h7,g0,g1,bD,he,aM,aD,e94,s94,uK,hw]
   generalize hF:upd _ 7 _=F
   exact next F (by rw[←hF];simp[h2]) (by rw[←hF];simp[h3]) (by rw[←hF];simp) (by rw[←hF];simp) (by rw[←hF];simp)
  | false =>
   obtain⟨ht,hs⟩:=Zb.resolve_left (by rw[hq];simp)
   have uK:kN ⟨e.tree.aS,e.tree.seq⟩ ⟨tc,td⟩=false:=hq
   have Av:kN ⟨e.sub.aS,e.sub.seq⟩ ⟨sc,sd⟩=true:=hs
   have uP:e.tree.aS=tc:=by rw[ht]
   have Bb:e.tree.seq=td:=by rw[ht]
   simp only[uP,Bb]at uK
   simp[h2,h3,h7,g0,g1,bD,he,aM,aD,e94,s94,uP,Bb,uK,Av,hw]
   generalize hF:upd _ 7 _=F
   exact next F (by rw[←hF];simp[h2]) (by rw[←hF];simp[h3]) (by rw[←hF];simp) (by rw[←hF];simp) (by rw[←hF];simp)
end Go.Dm.Tc
namespace Go.Dm.Tc
theorem v96(me:Int)(aL:List Int)(adv:List bC)(seen:List ID)(ent:List aV)(own:List fV)(tc td sc sd:Int)(p:bI)(bL:Int)(U:Bool)(lC:ent.length≤100000)(F:cY)(H:aA)
  (g0:H.get 0=some (.arr 36 6 [.agg [.int .i64 me,eL false 1 bQ aL,eL false 4 aG adv,eL false 2 eID seen,eL false 7 aD ent,eL false 3 cT own]] (some 1)))
  (g1:H.get 1=some (.arr 114 7 [.agg [.int .i64 tc,.int .i64 td,.int .i64 sc,.int .i64 sd,bF p,.int .i64 bL,.bool U]] (some 1)))
  (g2:H.get 2=some (.arr 36 6 [.agg [.int .i64 0,.nsl,.nsl,.nsl,.nsl,.nsl]] (some 1))) (aM:H.lim=0) (hn:3≤H.n) (wf:WF H) (h2:F 2=.ptr 0 6 0 0) (h3:F 3=.ptr 1 7 0 0) (h4:F 4=.ptr 2 6 0 0) (h7:F 7=.int .i64 0) :
  dC (fin [.cell 4 (some 6),.t 5] (run D 115 [.block 0,.seq Fp] (.loop Io) F H))=some (.tup [aH .none ⟨me,aL,adv,seen,sP ⟨⟨tc,td⟩,⟨sc,sd⟩,p,bL,U⟩ ent,own⟩,.bool U]):=by
 obtain⟨f1,k1,k2,k3,k4,k5,k6⟩:=l96 [] H (.int .i64 me) (eL false 1 bQ aL) (eL false 4 aG adv) (eL false 2 eID seen) (eL false 3 cT own) ent tc td sc sd (bF p) (.int .i64 bL) (.bool U) (by omega) g0 g1 aM _ 0 F rfl (by omega) h2 h3 h7
 rw[k1]
 rw[h4]at k4
 clear k1
 have iG:=dB (eW ⟨tc,td⟩ ⟨sc,sd⟩) ent
 have v0:¬0=H.n:=by omega
 have v1:¬1=H.n:=by omega
 have v2:¬2=H.n:=by omega
 have v3:¬H.n=0:=by omega
 have v4:¬H.n=1:=by omega
 simp[Fp,k2,k3,k4,k6,iG,g0,g1,g2,aM,wf,v0,v1,v2,v3,v4]
 generalize hA:aY _ _ _ _ _ _=A
 obtain⟨i1,K1,rfl,o1,x1,y1,j1⟩:=(fW.fresh (lo:=3) (ety:=114) (sz:=7) (xs:=[]) (cap:=some 0) (by omega) hn).append (n:=0) rfl wf.push (by simp;omega) (by simp[aM]) hA (by simp;omega) (by decide)
 clear hA
 have a0:=x1.get 0 (by decide)
 have a1:=x1.get 1 (by decide)
 have a2:=x1.get 2 (by decide)
 have q1:=x1.lim
 have w1:=x1.wf
 have n1:=x1.le
 have u1:=o1.lo
 have m0:¬0=i1:=by omega
 have m1:¬i1=0:=by omega
 have m2:¬i1=1:=by omega
 have m3:¬1=i1:=by omega
 simp[g0,g1,g2,v0,v1,v2,aM]at a0 a1 a2 q1 o1
 simp[k2,k3,g0,g1,a0,a1,a2,q1,m0,m1,m2,m3,v3,v4,iG]
 generalize hA:aY _ _ _ _ _ _=A
 obtain⟨i2,K2,rfl,o2,x2,y2,j2⟩:=(o1.push (o:=_)).append (by simp[iG]) (by simp[w1]) (by simp;omega) (by simp[q1]) hA (by simp;omega) (by decide)
 clear hA
 have b0:=x2.get 0 (by decide)
 have b1:=x2.get 1 (by decide)
 have b2:=x2.get 2 (by decide)
 have q2:=x2.lim
 have w2:=x2.wf
 have n2:=x2.le
 have u2:=o2.lo
 have c0:¬0=K1.n:=by omega
 have c1:¬1=K1.n:=by omega
 have c2:¬2=K1.n:=by omega
 have m4:¬i2=0:=by omega
 have m5:¬i2=1:=by omega
 simp[a0,a1,a2,q1,c0,c1,c2]at b0 b1 b2 q2 o2
 simp[k2,k3,k6,g0,g1,a0,b0,b1,b2,q2,m0,m1,m2,m3,m4,m5,v3,v4,iG]
 generalize hA:aY _ _ _ _ _ _=A
 obtain⟨i3,K3,rfl,o3,x3,y3,j3⟩:=o2.append (by simp[iG]) w2 n2 (by omega) hA (by simp;omega) (by decide)
 clear hA
 have d0:=x3.get 0 (by decide)
 have d1:=x3.get 1 (by decide)
 have d2:=x3.get 2 (by decide)
 have q3:=x3.lim
 have w3:=x3.wf
 have n3:=x3.le
 have l3:0<K3.n:=by omega
 have l32:2<K3.n:=by omega
 rw[b0]at d0
 rw[b1]at d1
 rw[b2]at d2
 rw[q2]at q3
 have cJ:(List.take (aU (eW ⟨tc,td⟩ ⟨sc,sd⟩) ent) (List.map aD ent)++DV.agg [.int .i64 tc,.int .i64 td,.int .i64 sc,.int .i64 sd,bF p,.int .i64 bL,.bool U]::List.drop (aU (eW ⟨tc,td⟩ ⟨sc,sd⟩) ent) (List.map aD ent))=(sP ⟨⟨tc,td⟩,⟨sc,sd⟩,p,bL,U⟩ ent).map aD:=by simp[sP,aD]
 simp only[List.append_assoc,List.singleton_append]at o3
 rw[cJ]at o3
 have pO:min (aU (eW ⟨tc,td⟩ ⟨sc,sd⟩) ent) ent.length=aU (eW ⟨tc,td⟩ ⟨sc,sd⟩) ent:=by omega
 have Ze:(sP ⟨⟨tc,td⟩,⟨sc,sd⟩,p,bL,U⟩ ent).length=aU (eW ⟨tc,td⟩ ⟨sc,sd⟩) ent+1+(ent.length-aU (eW ⟨tc,td⟩ ⟨sc,sd⟩) ent):=by simp[sP,pO];omega
 have r4:=fun o o'=>((o3.toR.aW (o:=o) w3 (by decide) l3).aW (o:=o') w3.set (by decide) l32).resolve (n:=198) false (fun y _=>(cC y).1) (by decide)
 simp only[List.length_map,Ze]at r4
 simp[k2,k3,k4,g0,d0,d1,d2,q3,w3,l3,l32,turn,pO,v3,v4,m1,m4,r4,aI]
 simp[aH,dG.none]
theorem s96(b:aF)(e:aV)(hs:fT b)(hq:X4 b)(VY:bZ e.pred):
  pcF D t96 [aH .none b,.agg [.int .i64 e.tree.aS,.int .i64 e.tree.seq,.int .i64 e.sub.aS,.int .i64 e.sub.seq,bF e.pred,.int .i64 e.bL,.bool e.up]]=some (.tup [aH .none (dY b e).1,.bool (dY b e).2]):=by
 obtain⟨me,aL,adv,seen,ent,own⟩:=b
 obtain⟨⟨tc,td⟩,⟨sc,sd⟩,p,bL,up⟩:=e
 obtain⟨z1,z2,z3,z4,z5⟩:=hs
 simp only at z1 z2 z3 z4 z5 VY
 obtain⟨R,hR⟩:∃ R,R=DV.tup [aH .none (dY ⟨me,aL,adv,seen,ent,own⟩ ⟨⟨tc,td⟩,⟨sc,sd⟩,p,bL,up⟩).1,.bool (dY ⟨me,aL,adv,seen,ent,own⟩ ⟨⟨tc,td⟩,⟨sc,sd⟩,p,bL,up⟩).2]:=⟨_,rfl⟩
 rw[←hR]
 have Bc:adv.length≤1000000:=by omega
 have lC:ent.length≤1000000:=by omega
 have wJ:=uQ (fun a:bC=>decide (a.id=⟨tc,td⟩)) adv
 have GL:=uQ (isE ⟨tc,td⟩ ⟨sc,sd⟩) ent
 have Lc:=Zq (l:=ent) (t:=⟨tc,td⟩) (s:=⟨sc,sd⟩)
 have hEn:=s147 (.int .i64 me) (eL false 1 bQ aL) (eL false 4 aG adv) (eL false 2 eID seen) (eL false 3 cT own) false ent tc td sc sd lC
 have hCv:=s148 (.int .i64 me) (eL false 1 bQ aL) (eL false 4 aG adv) (eL false 2 eID seen) (eL false 3 cT own) false ent tc td p lC VY hq.len
 unfold pcF
 rw[aJ _ _ _ _ (by simp[t96])]
 cases Ht:adv.find? (fun a=>decide (a.id=⟨tc,td⟩))with
 | none =>
  rw[Ht]at wJ
  simp only at wJ
  have wM:iZ ⟨me,aL,adv,seen,ent,own⟩ ⟨⟨tc,td⟩,⟨sc,sd⟩,p,bL,up⟩=false:=by simp[iZ,Ht]
  simp[t96,aH,dG.none,Dr,Cm,Bc,wJ,gY,turn,aI]
  simp[hR,dY,wM,aH,dG.none]
 | some a =>
  rw[Ht]at wJ
  simp only at wJ
  obtain⟨j,hj,IS⟩:=wJ
  have WC:¬(j:Int)<0:=by omega
  cases yW:ent.find? (isE ⟨tc,td⟩ ⟨sc,sd⟩)with
  | some e2 =>
   rw[yW]at GL Lc
   simp only at GL
   obtain⟨k,hk,_⟩:=GL
   rw[hk]at hEn
   have Fe:(0:Int)≤(k:Int):=by omega
   have wM:iZ ⟨me,aL,adv,seen,ent,own⟩ ⟨⟨tc,td⟩,⟨sc,sd⟩,p,bL,up⟩=false:=by simp only[iZ,Ht,Lc];simp[hJ]
   simp[t96,aH,dG.none,Dr,Cm,Bc,hj,WC,gY,Ly,hEn,Fe,turn,aI]
   simp[hR,dY,wM,aH,dG.none]
  | none =>
   rw[yW]at GL Lc
   simp only at GL
   rw[GL]at hEn
   by_cases S9:bL=a.bO∧¬a.bO=-1
   ·have wM:iZ ⟨me,aL,adv,seen,ent,own⟩ ⟨⟨tc,td⟩,⟨sc,sd⟩,p,bL,up⟩=false:=by simp only[iZ,Ht,Lc];simp[S9.1,S9.2]
    have hf1:=S9.1
    have UE:=S9.2
    subst hf1
    simp[t96,aH,dG.none,Dr,Cm,Bc,hj,WC,IS,aG,gY,Ly,hEn,UE,turn,aI]
    simp[hR,dY,wM,aH,dG.none]
   ·have wM:iZ ⟨me,aL,adv,seen,ent,own⟩ ⟨⟨tc,td⟩,⟨sc,sd⟩,p,bL,up⟩=true:=by
     simp only[iZ,Ht,Lc,hJ]
     by_cases h1:bL=a.bO
     ·have h2:a.bO=-1:=by
       by_cases h2:a.bO=-1
       ·exact h2
       ·exact absurd ⟨h1,h2⟩ S9
      simp[h2]
     ·simp[h1]
    have xL:dO ⟨me,aL,adv,seen,ent,own⟩ ⟨tc,td⟩=a.bO:=by simp[dO,Ht]
    have mW:∀U F H,qN ⟨me,aL,adv,seen,ent,own⟩ ⟨⟨tc,td⟩,⟨sc,sd⟩,p,bL,up⟩=U→H.get 0=some (.arr 36 6 [.agg [.int .i64 me,eL false 1 bQ aL,eL false 4 aG adv,eL false 2 eID seen,eL false 7 aD ent,eL false 3 cT own]] (some 1))→H.get 1=some (.arr 114 7 [.agg [.int .i64 tc,.int .i64 td,.int .i64 sc,.int .i64 sd,bF p,.int .i64 bL,.bool U]] (some 1)) →
      H.get 2=some (.arr 36 6 [.agg [.int .i64 0,.nsl,.nsl,.nsl,.nsl,.nsl]] (some 1))→H.lim=0→3≤H.n→WF H→F 2=.ptr 0 6 0 0→F 3=.ptr 1 7 0 0→F 4=.ptr 2 6 0 0→F 7=.int .i64 0 →
      dC (fin [.cell 4 (some 6),.t 5] (run D 115 [.block 0,.seq Fp] (.loop Io) F H))=some R:=fun U F H u a0 a1 a2 a3 a4 a5 a6 a7 a8 a9=>by
     rw[v96 me aL adv seen ent own tc td sc sd p bL U z4 F H a0 a1 a2 a3 a4 a5 a6 a7 a8 a9,hR]
     simp[dY,wM,u]
    by_cases Cy:a.bO=-1
    ·have sK:qN ⟨me,aL,adv,seen,ent,own⟩ ⟨⟨tc,td⟩,⟨sc,sd⟩,p,bL,up⟩=false:=by simp[qN,xL,Cy]
     by_cases OH:bL=-1
     ·simp[t96,aH,dG.none,Dr,Cm,Bc,hj,WC,IS,aG,gY,Ly,hEn,Cy,eq_true OH,turn]
      refine mW false _ _ sK ?_ ?_ ?_ ?_ ?_ ?_ ?_ ?_ ?_ ?_<;>simp
     ·simp[t96,aH,dG.none,Dr,Cm,Bc,hj,WC,IS,aG,gY,Ly,hEn,Cy,OH,turn]
      refine mW false _ _ sK ?_ ?_ ?_ ?_ ?_ ?_ ?_ ?_ ?_ ?_<;>simp
    ·have T0:¬bL=a.bO:=fun e=>S9 ⟨e,Cy⟩
     cases hC:cD ent ⟨tc,td⟩ p with
     | true =>
      rw[hC]at hCv
      have sK:qN ⟨me,aL,adv,seen,ent,own⟩ ⟨⟨tc,td⟩,⟨sc,sd⟩,p,bL,up⟩=false:=by simp[qN,hC]
      by_cases OH:bL=-1
      ·simp[t96,aH,dG.none,Dr,Cm,Bc,hj,WC,IS,aG,gY,Ly,hEn,Cy,T0,eq_true OH,HF,hCv,turn]
       refine mW false _ _ sK ?_ ?_ ?_ ?_ ?_ ?_ ?_ ?_ ?_ ?_<;>simp
      ·simp[t96,aH,dG.none,Dr,Cm,Bc,hj,WC,IS,aG,gY,Ly,hEn,Cy,T0,OH,HF,hCv,turn]
       refine mW false _ _ sK ?_ ?_ ?_ ?_ ?_ ?_ ?_ ?_ ?_ ?_<;>simp
     | false =>
      rw[hC]at hCv
      have sK:qN ⟨me,aL,adv,seen,ent,own⟩ ⟨⟨tc,td⟩,⟨sc,sd⟩,p,bL,up⟩=true:=by simp[qN,xL,Cy,hC]
      by_cases OH:bL=-1
      ·simp[t96,aH,dG.none,Dr,Cm,Bc,hj,WC,IS,aG,gY,Ly,hEn,Cy,T0,eq_true OH,HF,hCv,turn]
       refine mW true _ _ sK ?_ ?_ ?_ ?_ ?_ ?_ ?_ ?_ ?_ ?_<;>simp
      ·simp[t96,aH,dG.none,Dr,Cm,Bc,hj,WC,IS,aG,gY,Ly,hEn,Cy,T0,OH,HF,hCv,turn]
       refine mW true _ _ sK ?_ ?_ ?_ ?_ ?_ ?_ ?_ ?_ ?_ ?_<;>simp
end Go.Dm.Tc
namespace Go.Dm.Tc
def yG(v:DV)(k:Nat):Prop:=∀sz off len,v≠.sl k sz off len
theorem rF{lo:Nat}{h:aA}{v:DV}{ety sz bytes:Nat}{xs ys:List DV}{A:Option (DV×aA)}(w:OwnR lo h v ety sz xs)(wf:WF h)(dV:lo≤h.n)(aM:h.lim≤h.n)(hA:aY h ety sz bytes v ys=A)
  (hb:(xs.length+ys.length)*bytes≤140737488355328) (Bx:1≤bytes) :
  ∃ v' h',A=some (v',h')∧OwnR lo h' v' ety sz (xs++ys)∧Ext lo h h'∧(∀k,k<h.n→yG v k→h'.get k=h.get k)∧(∀k,k<h.n→yG v k→yG v' k):=by
 have hm:xs.length+ys.length≤140737488355328:=Nat.le_trans (Nat.le_mul_of_pos_right _ Bx) hb
 by_cases hy:ys=[]
 ·subst hy
  refine⟨v,h,?_,by simpa using w,.refl dV wf,fun _ _ _=>rfl,fun _ _ q=>q⟩
  rw[←hA]
  cases w with
  | nil hv hx=>subst hv;rfl
  | arr id sp cap hv hg _ _=>subst hv;rfl
 ·have Tq:ys.isEmpty=false:=by cases ys<;>simp_all
  have i9:0<ys.length:=List.length_pos_iff.2 hy
  cases w with
  | nil hv hx =>
   subst hv;subst hx
   simp only[List.length_nil,Nat.zero_add]at hb hm
   refine⟨.sl h.n sz 0 ys.length,h.push (.arr ety sz ys none),?_,.arr h.n [] none rfl (by simp[cN]) (by exact aM) dV,(Ext.refl dV wf).push,fun k hk _=>by rw[cN,if_neg (by omega)],fun k hk _ eQ off' len' e=>by injection e;omega⟩
   rw[←hA]
   simp only[aY,Tq]
   rw[if_neg (by simp),if_pos ⟨hb,by omega⟩]
  | arr id sp cap hv hg hl hi =>
   subst hv
   have bD:=bB hg
   have eG:∀k,yG (.sl id sz 0 xs.length) k→k≠id:=fun k q e=>by subst e;exact q _ _ _ rfl
   by_cases rZ:xs.length+ys.length≤(xs++sp).length
   ·refine⟨.sl id sz 0 (xs.length+ys.length),h.set id (.arr ety sz (dE (xs++sp) ys xs.length) cap),?_,.arr id (sp.drop ys.length) cap (by simp) ?_ (by exact hl) hi,(Ext.refl dV wf).set hi bD,fun k _ q=>by rw[cA wf bD,if_neg (eG k q)],fun k _ q eQ off' len' e=>by injection e with e1;exact eG k q e1.symm⟩
    ·rw[←hA];exact kS hg rZ hl hb Bx hy
    ·rw[cA wf bD,if_pos rfl]
     simp only[dE,List.take_left',List.append_assoc]
     congr 3
     rw[List.drop_append]
     simp
   ·cases cap with
    | none =>
     refine⟨.sl h.n sz 0 (xs.length+ys.length),(h.set id .dead).push (.arr ety sz (xs++ys) none),?_,.arr h.n [] none (by simp) ?_ (by exact aM) dV,((Ext.refl dV wf).set hi bD).push,fun k hk q=>by rw[cN,if_neg (by show ¬k=h.n;omega),cA wf bD,if_neg (eG k q)],fun k hk _ eQ off' len' e=>by injection e;omega⟩
     ·rw[←hA]
      simp only[aY,Tq,hg]
      simp only[Bool.false_eq_true,if_false,true_and,Nat.zero_add,List.drop_zero]
      rw[if_pos ⟨by simp,hb,by omega⟩,if_neg rZ,if_pos hl]
      simp
     ·simpa using cR (h:=h.set id .dead)
    | some c =>
     refine⟨.sl h.n sz 0 (xs.length+ys.length),h.push (.arr ety sz (xs++ys) none),?_,.arr h.n [] none (by simp) ?_ (by exact aM) dV,(Ext.refl dV wf).push,fun k hk _=>by rw[cN,if_neg (by omega)],fun k hk _ eQ off' len' e=>by injection e;omega⟩
     ·rw[←hA]
      rw[hZ hg (by simp) (by omega) hb Bx hy]
      simp
     ·simpa using cR (h:=h)
def cQ(tree:ID):List aV→List aV→List aV→List aV×List aV
 | done,[],gN=>(done,gN)
 | done,e::r,gN=>if e.tree=tree∧e.up=false∧cD (done++e::r) tree e.pred=false then cQ tree (done++[{e with up:=true}]) r (gN++[{e with up:=true}])else cQ tree (done++[e]) r gN
def cF(b : aF)(tree sub : ID)(bL : Int) : aF × List aV × Bool :=
  match b.entries.find? (isE tree sub)with
  | none => (b, [], false)
  | some e => if e.bL = bL then
      (if e.up = true then({ b with entries := (cQ tree [] (b.entries.filter fun x => !isE tree sub x) []).1 }, (cQ tree [] (b.entries.filter fun x => !isE tree sub x) []).2, true)
       else({ b with entries := b.entries.filter fun x => !isE tree sub x }, [], false))
    else(b, [], false)
end Go.Dm.Tc
