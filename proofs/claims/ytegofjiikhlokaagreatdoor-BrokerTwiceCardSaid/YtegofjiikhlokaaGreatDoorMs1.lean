/- A part of the proof. -/
import Derived.Test.YtegofjiikhlokaaGreatDoorMs0
set_option linter.all false
namespace Go.Dm.Tc
set_option maxRecDepth 20000
def HC(n:Int):Int:=IntKind.i64.wrap ((BitVec.ofInt 64 n &&& BitVec.ofInt 64 1).toNat:Int)
def EM(n:Int):Bool:=decide (HC n=1)
def gQ(has vals:List Int):List (List UInt8)→Nat→bJ→bJ
 | [],_,eR=>eR
 | nm::r,i,eR=>if i<has.length∧EM (has.getD i 0)=true∧eR.length<5 then gQ has vals r (i+1) (eR++[qL nm (zL vals i)])else gQ has vals r (i+1) eR
def eD(has vals:List Int):bJ:=gQ has vals lL 0 []
theorem tH(n:Int):cN .and (.int .i64 n) (.int .i64 1)=some (.int .i64 (HC n)):=rfl
theorem LQ{lo:Nat}{h:aA}{v:DV}{ety:Nat}{ys:List eQ}(w:Own lo h v ety 5 (ys.map aO)):cW (some (v,h))=some (bE ys):=w.out (fun y _=>(lW y).1.mono (by decide)) (fun y _=>(lW y).2.mono (by decide)) (k:=22) (by decide)
theorem l28(th tv:Bool)(has vals:List Int)(tp:Nat)(h0:aA)(g0:h0.get 0=some (.arr tp 2 [.agg [eL th 1 bO has,eL tv 1 bO vals]] (some 1)))(aL:h0.lim=0)(hl:has.length≤9223372036854775807) :
  ∀(rest:List (List UInt8)) (eR:bJ) (i:Nat) (f:cT) (h:aA),lL.drop i=rest→eR.length≤i→f 1=.ptr 0 2 0 0→f 6=eL false 1 Bg lL→f 7=.int .i64 7→f 8=.int .i64 i→Own 1 h (f 3) 96 5 (eR.map aO)→Ext 1 h0 h →
  cW (fin [.t 2] (run D 43 [.block 0,.seq JJ] (.loop W7) f h))=some (bE (gQ has vals rest i eR)):=by
 intro rest
 induction rest with
 | nil =>
  intro eR i f h hd ha h1 h6 h7 h8 ho hx
  have hi:=bH hd
  have:¬((i:Int)<7):=by simp[lL]at hi;omega
  rw[aC W7.eq_1]
  simp[JJ,h7,h8,this,gQ]
  exact LQ ho
 | cons nm rest ih =>
  intro eR i f h hd ha h1 h6 h7 h8 ho hx
  obtain⟨hi,he,eJ⟩:=bR hd
  have hi7:i<7:=by simpa[lL]using hi
  have bC:(i:Int)<7:=by omega
  have Ng:=(hx.get 0 (by decide)).trans g0
  have w1:IntKind.i64.wrap ((i:Int)+1)=(i:Int)+1:=aT (by omega) (by omega)
  have hpk:=s93 tv vals i
  have cH:lenV h 1 (f 3)=some (.int .i64 (eR.length:Int)):=by simpa using ho.lenV
  rw[aC W7.eq_1]
  by_cases c1:i<has.length
  ·obtain⟨b,hb⟩:∃ b,has[i]=b:=⟨_,rfl⟩
   have Kt:has.getD i 0=b:=by rw[List.getD_eq_getElem?_getD,List.getElem?_eq_getElem c1,hb];rfl
   by_cases c2:HC b=1
   ·by_cases c3:eR.length<5
    ·have c3':(eR.length:Int)<5:=by omega
     have hm:gQ has vals (nm::rest) i eR=gQ has vals rest (i+1) (eR++[qL nm (zL vals i)]):=by simp only[gQ];rw[if_pos ⟨c1,by rw[Kt];simp[EM,c2],c3⟩]
     rw[hm]
     simp[h1,h6,h7,h8,bC,Ng,hi,he,Bg,bO,c1,hb,tH,c2,cH,c3',e93,hpk,e92,s92,aO]
     generalize hA:aY _ _ _ _ _ _=A
     obtain⟨v',h',rfl,Kk,uG⟩:=ho.push.append hx.push.wf hx.push.le (by rw[hx.push.lim,aL];omega) hA (by simp;omega) (by decide)
     simp[w1,h8]
     refine ih (eR++[qL nm (zL vals i)]) (i+1) _ h' eJ (by simp;omega) ?_ ?_ ?_ ?_ ?_ (hx.push.trans uG)<;>simp[h1,h6,h7]
     simpa[aO]using Kk
    ·have c3':¬(eR.length:Int)<5:=by omega
     have hm:gQ has vals (nm::rest) i eR=gQ has vals rest (i+1) eR:=by simp only[gQ];rw[if_neg (fun q=>c3 q.2.2)]
     rw[hm]
     simp[h1,h6,h7,h8,bC,Ng,hi,he,Bg,bO,c1,hb,tH,c2,cH,c3',w1]
     refine ih eR (i+1) _ h eJ (by omega) ?_ ?_ ?_ ?_ ?_ hx<;>simp[h1,h6,h7,ho]
   ·have hm:gQ has vals (nm::rest) i eR=gQ has vals rest (i+1) eR:=by simp only[gQ];rw[if_neg (fun q=>c2 (by rw[Kt]at q;simpa[EM]using q.2.1))]
    rw[hm]
    simp[h1,h6,h7,h8,bC,Ng,hi,he,Bg,bO,c1,hb,tH,c2,w1]
    refine ih eR (i+1) _ h eJ (by omega) ?_ ?_ ?_ ?_ ?_ hx<;>simp[h1,h6,h7,ho]
  ·have c1':¬((i:Int)<has.length):=by omega
   have hm:gQ has vals (nm::rest) i eR=gQ has vals rest (i+1) eR:=by simp only[gQ];rw[if_neg (fun q=>c1 q.1)]
   rw[hm]
   simp[h1,h6,h7,h8,bC,Ng,hi,he,Bg,c1,w1]
   refine ih eR (i+1) _ h eJ (by omega) ?_ ?_ ?_ ?_ ?_ hx<;>simp[h1,h6,h7,ho]
theorem s28(th tv:Bool)(has vals:List Int)(hl:has.length≤9223372036854775807) :
  pcF D t28 [.agg [eL th 1 bO has,eL tv 1 bO vals]]=some (bE (eD has vals)):=by
 unfold pcF
 rw[aJ _ _ _ _ (by simp[t28])]
 simp[t28,e91,s91]
 refine l28 th tv has vals 27 _ ?_ ?_ hl lL [] 0 _ _ rfl (by simp) ?_ ?_ ?_ ?_ ?_ (Ext.refl ?_ ?_)<;>simp[lL]
 exact .start _ _ _ _
end Go.Dm.Tc
/-
What functions of the statements' own packages compute: a broker copied;the reference's orders and searches.
-/
namespace Go.Dm.Tc
end Go.Dm.Tc
/-
What the reference's functions compute,part 1: orders,searches,an advertisement learned.
-/
namespace Go.Dm.Tc
theorem SI(a b c d:Int):kK ⟨a,b⟩ ⟨c,d⟩=(decide (a<c) || (decide (a=c) && decide (b<d))):=by
 unfold kK
 rw[Bool.eq_iff_iff]
 simp[iV]
theorem s94(a b c d:Int):pcF D t94 [.agg [.int .i64 a,.int .i64 b],.agg [.int .i64 c,.int .i64 d]]=some (.bool (kK ⟨a,b⟩ ⟨c,d⟩)):=by
 unfold pcF
 rw[aJ _ _ _ _ (by simp[t94])]
 rw[SI]
 by_cases h1:a<c
 ·simp[t94,h1]
 ·by_cases h2:a=c
  ·subst h2
   simp[t94]
  ·simp[t94,h1,h2]
theorem l127(h0:aA)(c s:Int)(t:Bool)(l:List bG)(hl:l.length≤1000000)(g1:h0.get 1=some (.arr 40 2 [.agg [.int .i64 c,.int .i64 s]] (some 1)))(aL:h0.lim=0) :
  ∀(rest:List bG) (i:Nat) (f:cT) (h:aA),l.drop i=rest→f 3=.ptr 1 2 0 0→f 8=eL t 4 aG l→f 9=.int .i64 l.length→f 10=.int .i64 i→Ext 2 h0 h →
  cW (fin [.t 4] (run D 21 [.block 0,.seq F4] (.loop Qh) f h))=some (.int .i64 (gV ((rest.findIdx? fun a=>a.id=⟨c,s⟩).map (·+i)))):=by
 intro rest
 induction rest with
 | nil =>
  intro i f h hd h3 h8 h9 hY hx
  have hi:=bH hd
  have:¬(i<l.length):=by omega
  rw[aC Qh.eq_1]
  simp[F4,h9,hY,this,gV]
 | cons e rest ih =>
  intro i f h hd h3 h8 h9 hY hx
  obtain⟨hi,he,eJ⟩:=bR hd
  have Og:=(hx.get 1 (by decide)).trans g1
  have hn:1≠h.n:=by have:=hx.le;omega
  have sZ:h.lim=0:=hx.lim.trans aL
  rw[aC Qh.eq_1]
  by_cases ht:e.id=⟨c,s⟩
  ·simp[h3,h8,h9,hY,hi,he,hn,Og,aG,sZ,ht,List.findIdx?_cons,gV]
  ·have HI:=qD ht
   simp only at HI
   simp[h3,h8,h9,hY,hi,he,hn,Og,aG,sZ,HI]
   rw[aT (by omega) (by omega)]
   refine(ih (i+1) _ _ eJ ?_ ?_ ?_ ?_ hx.push).trans ?_<;>simp[h3,h8,h9,List.findIdx?_cons,ht,aG]
   congr 2
   funext q
   simp
   omega
theorem Cg(x0 x1 x3 x4 x5:DV)(t:Bool)(l:List bG)(c s:Int)(hl:l.length≤1000000) :
  pcF D Va [.agg [x0,x1,eL t 4 aG l,x3,x4,x5],.agg [.int .i64 c,.int .i64 s]]=some (.int .i64 (gV (l.findIdx? fun a=>a.id=⟨c,s⟩))):=by
 unfold pcF
 rw[aJ _ _ _ _ (by simp[Va])]
 simp[Va]
 refine(l127 _ c s t l hl ?_ ?_ l 0 _ _ rfl ?_ ?_ ?_ ?_ (Ext.refl ?_ ?_)).trans ?_<;>simp
theorem l150(h0:aA)(c s:Int)(t:Bool)(l:List ID)(hl:l.length≤1000000)(g1:h0.get 1=some (.arr 40 2 [.agg [.int .i64 c,.int .i64 s]] (some 1)))(aL:h0.lim=0) :
  ∀(rest:List ID) (i:Nat) (f:cT) (h:aA),l.drop i=rest→f 3=.ptr 1 2 0 0→f 8=eL t 2 eID l→f 9=.int .i64 l.length→f 10=.int .i64 i→Ext 2 h0 h →
  cW (fin [.t 4] (run D 18 [.block 0,.seq E4] (.loop Pw) f h))=some (.bool (decide (⟨c,s⟩∈rest))):=by
 intro rest
 induction rest with
 | nil =>
  intro i f h hd h3 h8 h9 hY hx
  have hi:=bH hd
  have:¬(i<l.length):=by omega
  rw[aC Pw.eq_1]
  simp[E4,h9,hY,this]
 | cons e rest ih =>
  intro i f h hd h3 h8 h9 hY hx
  obtain⟨hi,he,eJ⟩:=bR hd
  have Og:=(hx.get 1 (by decide)).trans g1
  have hn:1≠h.n:=by have:=hx.le;omega
  have sZ:h.lim=0:=hx.lim.trans aL
  rw[aC Pw.eq_1]
  by_cases ht:e=⟨c,s⟩
  ·simp[h3,h8,h9,hY,hi,he,hn,Og,eID,sZ,ht]
  ·have HI:=qD ht
   have ht2:¬(⟨c,s⟩:ID)=e:=fun q=>ht q.symm
   simp only at HI
   simp[h3,h8,h9,hY,hi,he,hn,Og,eID,sZ,HI]
   rw[aT (by omega) (by omega)]
   refine(ih (i+1) _ _ eJ ?_ ?_ ?_ ?_ hx.push).trans ?_<;>simp[h3,h8,h9,ht2,eID]
theorem s150(x0 x1 x2 x4 x5:DV)(t:Bool)(l:List ID)(c s:Int)(hl:l.length≤1000000) :
  pcF D CF [.agg [x0,x1,x2,eL t 2 eID l,x4,x5],.agg [.int .i64 c,.int .i64 s]]=some (.bool (decide (⟨c,s⟩∈l))):=by
 unfold pcF
 rw[aJ _ _ _ _ (by simp[CF])]
 simp[CF]
 refine(l150 _ c s t l hl ?_ ?_ l 0 _ _ rfl ?_ ?_ ?_ ?_ (Ext.refl ?_ ?_)).trans ?_<;>simp
theorem Cm{α:Type}(cm:α→Int){l:List α}{i:Nat}{a:α}(hJ:i≤aV cm l)(ha:l[i]?=some a):(cm a<0→i+1≤aV cm l)∧(¬cm a<0→aV cm l=i):=by
 have hi:i<l.length:=by
  by_cases h:i<l.length
  ·exact h
  ·rw[List.getElem?_eq_none (by omega)]at ha;cases ha
 have hb:∀q (hq:q<i),cm (l[q]'(by omega))<0:=fun q hq=>by
  have:=List.not_of_lt_findIdx (p:=fun x=>!decide (cm x<0)) (Nat.lt_of_lt_of_le hq hJ)
  simpa using this
 have qR:l[i]=a:=by rw[List.getElem?_eq_getElem hi]at ha;injection ha
 constructor
 ·intro hc
  rcases Nat.lt_or_eq_of_le hJ with h|h
  ·exact h
  ·exfalso
   have hk:aV cm l<l.length:=by omega
   have:=List.findIdx_getElem (p:=fun x=>!decide (cm x<0)) (w:=hk)
   have h2:¬cm l[aV cm l]<0:=by
    unfold aV
    simpa using this
   simp only[←h]at h2
   exact h2 (by rw[qR];exact hc)
 ·intro hc
  exact pK (Nat.le_of_lt hi) hb (fun _=>by rw[qR];exact hc)
end Go.Dm.Tc
/-
What the reference's functions compute,part 2: an advertisement learned.
-/
namespace Go.Dm.Tc
theorem Sm{α:Type}(cm:α→Int){l:List α}{i:Nat}{a:α}(bC:i<aV cm l)(ha:l[i]?=some a):decide (cm a<0)=true:=by
 have hi:i<l.length:=by have:=cZ cm l;omega
 have:=List.not_of_lt_findIdx (p:=fun b=>!decide (cm b<0)) (xs:=l) (i:=i) bC
 rw[List.getElem?_eq_getElem hi]at ha
 injection ha with ha
 rw[ha]at this
 simpa using this
theorem l99(S:List Fr)(h:aA)(x0 x1 x2 x4 x5:DV)(t:Bool)(l:List ID)(c d:Int)(p q:DV)(ta tb:Nat)(hl:l.length≤1000000)
  (g0:h.get 0=some (.arr tb 6 [.agg [x0,x1,x2,eL t 2 eID l,x4,x5]] (some 1))) (g1:h.get 1=some (.arr ta 4 [.agg [.int .i64 c,.int .i64 d,p,q]] (some 1))) :
  ∀(n i:Nat) (f:cT),aV (fun b=>bV b ⟨c,d⟩) l-i=n→i≤aV (fun b=>bV b ⟨c,d⟩) l→f 2=.ptr 0 6 0 0→f 3=.ptr 1 4 0 0→f 6=.int .i64 i →
  ∃ f',run D 79 (.block 0::.seq U4::S) (.loop U3) f h=run D 79 S U4 f' h∧f' 2=.ptr 0 6 0 0∧f' 3=.ptr 1 4 0 0∧f' 4=f 4∧f' 5=f 5∧f' 6=.int .i64 (aV (fun b=>bV b ⟨c,d⟩) l):=by
 intro n
 induction n with
 | zero =>
  intro i f hn hi h2 h3 h6
  have dS:aV (fun b=>bV b ⟨c,d⟩) l=i:=by omega
  rw[aC U3.eq_1]
  by_cases bC:i<l.length
  ·have ZM:=Cm (fun b:ID=>bV b ⟨c,d⟩) hi (List.getElem?_eq_getElem bC)
   have Ya:kK ⟨l[i].aW,l[i].seq⟩ ⟨c,d⟩=false:=by
    unfold kK
    simp only[decide_eq_false_iff_not]
    intro hc
    have:=ZM.1 hc
    omega
   have qW:(i:Int)<l.length:=by omega
   simp[h2,h3,h6,g0,g1,bC,eID,e94,s94,Ya]
   exact⟨_,rfl,by simp[h2],by simp[h3],by simp,by simp,by simp[h6,dS]⟩
  ·simp[h2,h3,h6,g0,g1,bC]
   exact⟨_,rfl,by simp[h2],by simp[h3],by simp,by simp,by simp[h6,dS]⟩
 | succ n ih =>
  intro i f hn hi h2 h3 h6
  have bC:i<l.length:=by have:=cZ (fun b=>bV b ⟨c,d⟩) l;omega
  have Ya:kK ⟨l[i].aW,l[i].seq⟩ ⟨c,d⟩=true:=Sm (fun b:ID=>bV b ⟨c,d⟩) (by omega) (List.getElem?_eq_getElem bC)
  rw[aC U3.eq_1]
  simp[h2,h3,h6,g0,g1,bC,eID,e94,s94,Ya]
  rw[aT (by omega) (by omega)]
  generalize hF:upd _ 6 _=F
  obtain⟨f',k1,k2,k3,k4,k5,k6⟩:=ih (i+1) F (by omega) (by omega) (by rw[←hF];simp[h2]) (by rw[←hF];simp[h3]) (by rw[←hF];simp)
  exact⟨f',k1,k2,k3,by rw[k4,←hF];simp,by rw[k5,←hF];simp,k6⟩
theorem m99(S:List Fr)(h:aA)(x0 x1 x3 x4 x5:DV)(t:Bool)(l:List bG)(c d:Int)(p q:DV)(ta tb:Nat)(hl:l.length≤1000000)
  (g0:h.get 0=some (.arr tb 6 [.agg [x0,x1,eL t 4 aG l,x3,x4,x5]] (some 1))) (g1:h.get 1=some (.arr ta 4 [.agg [.int .i64 c,.int .i64 d,p,q]] (some 1))) :
  ∀(n i:Nat) (f:cT),aV (fun b=>bV b.id ⟨c,d⟩) l-i=n→i≤aV (fun b=>bV b.id ⟨c,d⟩) l→f 2=.ptr 0 6 0 0→f 3=.ptr 1 4 0 0→f 6=.int .i64 i →
  ∃ f',run D 79 (.block 2::.seq U5::S) (.loop U2) f h=run D 79 S U5 f' h∧f' 2=.ptr 0 6 0 0∧f' 3=.ptr 1 4 0 0∧f' 4=f 4∧f' 5=f 5∧f' 6=.int .i64 (aV (fun b=>bV b.id ⟨c,d⟩) l):=by
 intro n
 induction n with
 | zero =>
  intro i f hn hi h2 h3 h6
  have dS:aV (fun b=>bV b.id ⟨c,d⟩) l=i:=by omega
  rw[aC U2.eq_1]
  by_cases bC:i<l.length
  ·have ZM:=Cm (fun b:bG=>bV b.id ⟨c,d⟩) hi (List.getElem?_eq_getElem bC)
   have Ya:kK ⟨l[i].id.aW,l[i].id.seq⟩ ⟨c,d⟩=false:=by
    unfold kK
    simp only[decide_eq_false_iff_not]
    intro hc
    have:=ZM.1 hc
    omega
   simp[h2,h3,h6,g0,g1,bC,aG,e94,s94,Ya]
   exact⟨_,rfl,by simp[h2],by simp[h3],by simp,by simp,by simp[h6,dS]⟩
  ·simp[h2,h3,h6,g0,g1,bC]
   exact⟨_,rfl,by simp[h2],by simp[h3],by simp,by simp,by simp[h6,dS]⟩
 | succ n ih =>
  intro i f hn hi h2 h3 h6
  have bC:i<l.length:=by have:=cZ (fun b:bG=>bV b.id ⟨c,d⟩) l;omega
  have Ya:kK ⟨l[i].id.aW,l[i].id.seq⟩ ⟨c,d⟩=true:=Sm (fun b:bG=>bV b.id ⟨c,d⟩) (by omega) (List.getElem?_eq_getElem bC)
  rw[aC U2.eq_1]
  simp[h2,h3,h6,g0,g1,bC,aG,e94,s94,Ya]
  rw[aT (by omega) (by omega)]
  generalize hF:upd _ 6 _=F
  obtain⟨f',k1,k2,k3,k4,k5,k6⟩:=ih (i+1) F (by omega) (by omega) (by rw[←hF];simp[h2]) (by rw[←hF];simp[h3]) (by rw[←hF];simp)
  exact⟨f',k1,k2,k3,by rw[k4,←hF];simp,by rw[k5,←hF];simp,k6⟩
theorem s99(b:aH)(c d:Int)(p:bJ)(q:Int)(hs:fG b)(ra:eE (b.aR.map (·.id)))(rs:eE b.seen) :
  pcF D t99 [aE .none b,.agg [.int .i64 c,.int .i64 d,bE p,.int .i64 q]]=some (.tup [aE .none (bM b ⟨⟨c,d⟩,p,q⟩).1,.bool (bM b ⟨⟨c,d⟩,p,q⟩).2]):=by
 obtain⟨me,aM,adv,seen,ent,own⟩:=b
 obtain⟨z1,z2,z3,z4,z5⟩:=hs
 simp only at z1 z2 z3 z4 z5 ra rs
 obtain⟨R,hR⟩:∃ R,R=DV.tup [aE .none (bM ⟨me,aM,adv,seen,ent,own⟩ ⟨⟨c,d⟩,p,q⟩).1,.bool (bM ⟨me,aM,adv,seen,ent,own⟩ ⟨⟨c,d⟩,p,q⟩).2]:=⟨_,rfl⟩
 rw[←hR]
 have A9:seen.length≤1000000:=by omega
 have Aw:adv.length≤1000000:=by omega
 unfold pcF
 rw[aJ _ _ _ _ (by simp[t99])]
 by_cases hm:(⟨c,d⟩:ID)∈seen
 ·simp[t99,aE,dA.none,e150,s150,A9,hm,aI]
  simp[hR,bM,hm,dA.none,aE]
 ·simp[t99,aE,dA.none,e150,s150,A9,hm]
  generalize hF:upd _ 6 _=F
  obtain⟨f1,k1,k2,k3,k4,k5,k6⟩:=l99 [] (.int .i64 me) (eL false 1 bO aM) (eL false 4 aG adv) (eL false 7 aD ent) (eL false 3 cP own) false seen c d (bE p) (.int .i64 q) 93 36 A9 (h:=((oH.push (.arr 36 6 [.agg [.int .i64 me,eL false 1 bO aM,eL false 4 aG adv,eL false 2 eID seen,eL false 7 aD ent,eL false 3 cP own]] (some 1))).push (.arr 93 4 [.agg [.int .i64 c,.int .i64 d,bE p,.int .i64 q]] (some 1))).push (.arr 36 6 [.agg [.int .i64 0,.nsl,.nsl,.nsl,.nsl,.nsl]] (some 1))) (by simp) (by simp) _ 0 F rfl (by omega) (by rw[←hF];simp) (by rw[←hF];simp) (by rw[←hF];simp)
  rw[k1]
  rw[←hF]at k4 k5
  simp at k4 k5
  clear hF k1
  have hJ:=cZ (fun b=>bV b ⟨c,d⟩) seen
  have hlow2:=cZ (fun b:bG=>bV b.id ⟨c,d⟩) adv
  simp[U4,k2,k3,k4,k5,k6,hJ]
  generalize hA:aY _ _ _ _ _ _=A
  obtain⟨i1,K1,rfl,o1,x1,y1,j1⟩:=(fO.fresh (lo:=3) (ety:=40) (sz:=2) (xs:=[]) (cap:=some 0) (by simp) (by simp)).append (n:=0) rfl (by simp) (by simp) (by simp) hA (by simp;omega) (by decide)
  clear hA
  have a0:=x1.get 0 (by decide)
  have a1:=x1.get 1 (by decide)
  have a2:=x1.get 2 (by decide)
  have q1:=x1.lim
  have w1:=x1.wf
  have n1:=x1.le
  have u1:=o1.lo
  have m0:¬0=i1:=by omega
  have m1:¬i1=0:=by omega
  have m2:¬i1=1:=by omega
  have m3:¬1=i1:=by omega
  simp at a0 a1 a2 q1 o1
  simp[k2,k3,a0,a1,a2,q1,m0,m1,m2,m3,hJ]
  generalize hA:aY _ _ _ _ _ _=A
  obtain⟨i2,K2,rfl,o2,x2,y2,j2⟩:=(o1.push (o:=_)).append (by simp[hJ]) (by simp[w1]) (by simp;omega) (by simp[q1]) hA (by simp;omega) (by decide)
  clear hA
  have b0:=x2.get 0 (by decide)
  have b1:=x2.get 1 (by decide)
  have b2:=x2.get 2 (by decide)
  have q2:=x2.lim
  have w2:=x2.wf
  have n2:=x2.le
  have u2:=o2.lo
  have c0:¬0=K1.n:=by omega
  have c1:¬1=K1.n:=by omega
  have c2:¬2=K1.n:=by omega
  have m4:¬i2=0:=by omega
  have m5:¬i2=1:=by omega
  simp[a0,a1,a2,q1,c0,c1,c2]at b0 b1 b2 q2 o2
  simp[k2,k3,k6,b0,b1,b2,q2,m0,m1,m2,m3,m4,m5,hJ]
  generalize hA:aY _ _ _ _ _ _=A
  obtain⟨i3,K3,rfl,o3,x3,y3,j3⟩:=o2.append (by simp[hJ]) w2 n2 (by omega) hA (by simp;omega) (by decide)
  clear hA
  have d0:=x3.get 0 (by decide)
  have d1:=x3.get 1 (by decide)
  have d2:=x3.get 2 (by decide)
  have q3:=x3.lim
  have w3:=x3.wf
  have n3:=x3.le
  have l3:0<K3.n:=by omega
  rw[b0]at d0
  rw[b1]at d1
  rw[b2]at d2
  rw[q2]at q3
  have cH:(List.take (aV (fun b=>bV b ⟨c,d⟩) seen) (List.map eID seen)++[DV.agg [.int .i64 c,.int .i64 d]]++List.drop (aV (fun b=>bV b ⟨c,d⟩) seen) (List.map eID seen))=(iS (fun x=>x) ⟨c,d⟩ seen).map eID:=by simp[iS,eID]
  have o3':fO 3 K3 i3 40 2 ((iS (fun x=>x) ⟨c,d⟩ seen).map eID):=by rw[←cH];simpa using o3
  simp[k2,k3,b0,d0,q3,w3,l3,turn]
  generalize hF:upd _ 6 _=F
  generalize hK:K3.set 0 _=K4
  have pN:min (aV (fun b=>bV b ⟨c,d⟩) seen) seen.length=aV (fun b=>bV b ⟨c,d⟩) seen:=by omega
  have e0:K4.get 0=some (.arr 36 6 [.agg [.int .i64 me,eL false 1 bO aM,eL false 4 aG adv,.sl i3 2 0 ((iS (fun x=>x) ⟨c,d⟩ seen).map eID).length,eL false 7 aD ent,eL false 3 cP own]] (some 1)):=by
   rw[←hK];simp[w3,l3,pN,iS];omega
  have e1:K4.get 1=some (.arr 93 4 [.agg [.int .i64 c,.int .i64 d,bE p,.int .i64 q]] (some 1)):=by
   rw[←hK];simp[w3,l3,d1]
  have e2:K4.get 2=some (.arr 36 6 [.agg [.int .i64 0,.nsl,.nsl,.nsl,.nsl,.nsl]] (some 1)):=by
   rw[←hK];simp[w3,l3,d2]
  have w4:WF K4:=by rw[←hK];exact w3.set
  have q4:K4.lim=0:=by rw[←hK];exact q3
  have n4:3≤K4.n:=by rw[←hK];exact n3
  have o4:fO 3 K4 i3 40 2 ((iS (fun x=>x) ⟨c,d⟩ seen).map eID):=by rw[←hK];exact o3'.aU w3 (by decide) l3
  have hF2:F 2=.ptr 0 6 0 0:=by rw[←hF];simp[k2]
  have hF3:F 3=.ptr 1 4 0 0:=by rw[←hF];simp[k3]
  have hF4:F 4=.ptr 2 6 0 0:=by rw[←hF];simp[k4]
  have hF5:F 5=.bool false:=by rw[←hF];simp[k5]
  have hF6:F 6=.int .i64 ((0:Nat):Int):=by rw[←hF];simp
  clear hF hK d0 d1 d2 q3 w3 n3 l3 o3 o3' x3 y3 j3 b0 b1 b2 q2 w2 n2 u2 x2 y2 j2 o2 a0 a1 a2 q1 w1 n1 u1 x1 y1 j1 o1 c0 c1 c2 m0 m1 m2 m3 m4 m5 k2 k3 k4 k5 k6 cH
  obtain⟨f2,k1,k2,k3,k4,k5,k6⟩:=m99 [] K4 _ _ _ _ _ false adv c d (bE p) (.int .i64 q) _ _ Aw e0 e1 _ 0 F rfl (by omega) hF2 hF3 hF6
  rw[k1]
  rw[hF4]at k4
  rw[hF5]at k5
  have u3:=o4.lo
  have v0:¬0=K4.n:=by omega
  have v1:¬1=K4.n:=by omega
  have v2:¬2=K4.n:=by omega
  have v3:¬K4.n=0:=by omega
  have v4:¬K4.n=1:=by omega
  simp[U5,k2,k3,k4,k5,k6,hlow2,e0,e1,e2,q4,w4,v0,v1,v2,v3,v4]
  generalize hA:aY _ _ _ _ _ _=A
  obtain⟨i1,K1,rfl,o1,x1,y1,j1⟩:=(fO.fresh (lo:=3) (ety:=93) (sz:=4) (xs:=[]) (cap:=some 0) (by omega) n4).append (n:=0) rfl w4.push (by simp;omega) (by simp[q4]) hA (by simp;omega) (by decide)
  clear hA
  have a0:=x1.get 0 (by decide)
  have a1:=x1.get 1 (by decide)
  have a2:=x1.get 2 (by decide)
  have q1:=x1.lim
  have w1:=x1.wf
  have n1:=x1.le
  have u1:=o1.lo
  have m0:¬0=i1:=by omega
  have m1:¬i1=0:=by omega
  have m2:¬i1=1:=by omega
  have m3:¬1=i1:=by omega
  simp[e0,e1,e2,v0,v1,v2,q4]at a0 a1 a2 q1 o1
  have s1:=(o4.push).keep y1 x1.lim (by decide)
  simp[k2,k3,e0,e1,e2,a0,a1,a2,q1,m0,m1,m2,m3,v3,v4,hlow2]
  generalize hA:aY _ _ _ _ _ _=A
  obtain⟨i2,K2,rfl,o2,x2,y2,j2⟩:=(o1.push (o:=_)).append (by simp[hlow2]) (by simp[w1]) (by simp;omega) (by simp[q1]) hA (by simp;omega) (by decide)
  clear hA
  have b0:=x2.get 0 (by decide)
  have b1:=x2.get 1 (by decide)
  have b2:=x2.get 2 (by decide)
  have q2:=x2.lim
  have w2:=x2.wf
  have n2:=x2.le
  have u2:=o2.lo
  have c0:¬0=K1.n:=by omega
  have c1:¬1=K1.n:=by omega
  have c2:¬2=K1.n:=by omega
  have m4:¬i2=0:=by omega
  have m5:¬i2=1:=by omega
  simp[a0,a1,a2,q1,c0,c1,c2]at b0 b1 b2 q2 o2
  have s2:=(s1.push).keep y2 x2.lim (by decide)
  simp[k2,k3,k6,e0,e1,b0,b1,b2,q2,m0,m1,m2,m3,m4,m5,v3,v4,hlow2]
  generalize hA:aY _ _ _ _ _ _=A
  obtain⟨i4,K3,rfl,o3,x3,y3,j3⟩:=o2.append (by simp[hlow2]) w2 n2 (by omega) hA (by simp;omega) (by decide)
  clear hA
  have d0:=x3.get 0 (by decide)
  have d2:=x3.get 2 (by decide)
  have q3:=x3.lim
  have w3:=x3.wf
  have n3:=x3.le
  have l3:0<K3.n:=by omega
  have l32:2<K3.n:=by omega
  rw[b0]at d0
  rw[b2]at d2
  rw[q2]at q3
  have s3:=s2.keep y3 x3.lim (by decide)
  have cH:(List.take (aV (fun b:bG=>bV b.id ⟨c,d⟩) adv) (List.map aG adv)++DV.agg [.int .i64 c,.int .i64 d,bE p,.int .i64 q]::List.drop (aV (fun b:bG=>bV b.id ⟨c,d⟩) adv) (List.map aG adv))=(iS (fun a=>a.id) ⟨⟨c,d⟩,p,q⟩ adv).map aG:=by simp[iS,aG]
  simp only[List.append_assoc,List.singleton_append]at o3
  rw[cH]at o3
  have hmin2:min (aV (fun b:bG=>bV b.id ⟨c,d⟩) adv) adv.length=aV (fun b:bG=>bV b.id ⟨c,d⟩) adv:=by omega
  have Xy:(iS (fun a=>a.id) ⟨⟨c,d⟩,p,q⟩ adv).length=aV (fun b:bG=>bV b.id ⟨c,d⟩) adv+1+(adv.length-aV (fun b:bG=>bV b.id ⟨c,d⟩) adv):=by simp[iS,hmin2];omega
  have r3:=fun o o'=>((o3.toR.aU (o:=o) w3 (by decide) l3).aU (o:=o') w3.set (by decide) l32).resolve (n:=198) false (fun y _=>(iI y).1) (by decide)
  have r4:=fun o o'=>((s3.toR.aU (o:=o) w3 (by decide) l3).aU (o:=o') w3.set (by decide) l32).resolve (n:=198) false (fun y _=>(qB y).1) (by decide)
  simp only[List.length_map,Xy]at r3
  simp only[List.length_map]at r4
  simp[k2,k3,k4,k5,e0,b0,d0,d2,q3,w3,l3,l32,turn,hmin2,v3,v4,m1,m4,r3,r4,aI]
  simp[hR,bM,hm,dA.none,aE]
end Go.Dm.Tc
/-
What functions of the program compute,part 9: what may be a name,a constraint,a predicate.
-/
namespace Go.Dm.Tc
def nY(s:List UInt8):Bool:=s.all fun b=>decide (97≤b.toNat) && decide (b.toNat≤122)
def Ak(s:List UInt8):Bool:=nY s && !decide (s=[]) && decide (s.length≤12)
theorem l166(xs:List UInt8)(hl:xs.length≤1000000) :
  ∀(rest:List UInt8) (i:Nat) (f:cT) (h:aA),xs.drop i=rest→f 0=.str xs→f 5=.int .i64 xs.length→f 6=.int .i64 i →
  cW (fin [.t 2] (run D 27 [.block 0,.seq Ps] (.loop Pr) f h))=some (.bool (nY rest && !decide (xs=[]) && decide (xs.length≤12))):=by
 intro rest
 induction rest with
 | nil =>
  intro i f h hd h0 h5 h6
  have hi:=bH hd
  have:¬(i<xs.length):=by omega
  rw[aC Pr.eq_1]
  by_cases hx:xs=[]
  ·subst hx
   have h0i:¬(i:Int)<0:=by omega
   simp[Ps,h0,h5,h6,h0i,nY]
  ·have hb:(xs == ([]:List UInt8))=false:=by cases xs<;>simp_all
   simp[Ps,h0,h5,h6,this,hx,hb,nY]
   omega
 | cons e rest ih =>
  intro i f h hd h0 h5 h6
  obtain⟨hi,he,eJ⟩:=bR hd
  have hq:∀k,rE (.str xs) (.int k (i:Int))=some (.int .u8 e.toNat):=fun k=>Na xs k i (by rw[List.getElem?_eq_getElem hi,he])
  rw[aC Pr.eq_1]
  by_cases h1:e.toNat<97
  ·have tN:(e.toNat:Int)<97:=by omega
   have dH:nY (e::rest)=false:=by
    have:¬97≤e.toNat:=by omega
    simp only[nY,List.all_cons,decide_eq_false this,Bool.false_and]
   simp[h0,h5,h6,hi,hq,tN,dH]
  ·have tN:¬(e.toNat:Int)<97:=by omega
   by_cases h2:122<e.toNat
   ·have Ub:(122:Int)<e.toNat:=by omega
    have dH:nY (e::rest)=false:=by
     have:¬e.toNat≤122:=by omega
     simp only[nY,List.all_cons,decide_eq_false this,Bool.and_false,Bool.false_and]
    simp[h0,h5,h6,hi,hq,tN,Ub,dH]
   ·have Ub:¬(122:Int)<e.toNat:=by omega
    have dH:nY (e::rest)=nY rest:=by
     have q1:97≤e.toNat:=by omega
     have q2:e.toNat≤122:=by omega
     simp only[nY,List.all_cons,decide_eq_true q1,decide_eq_true q2,Bool.true_and]
    simp[h0,h5,h6,hi,hq,tN,Ub,dH]
    rw[aT (by omega) (by omega)]
    refine(ih (i+1) _ h eJ ?_ ?_ ?_).trans ?_<;>simp[h0,h5]
theorem Jg(xs:List UInt8)(hl:xs.length≤1000000):pcF D BZ [.str xs]=some (.bool (Ak xs)):=by
 unfold pcF
 rw[aJ _ _ _ _ (by simp[BZ])]
 simp[BZ]
 refine(l166 xs hl xs 0 _ _ rfl ?_ ?_ ?_).trans ?_<;>simp[Ak]
def dC(c : eQ) : Bool :=
  Ak c.name &&
    (if c.kind = 1 then decide (c.lo ≤ c.hi) && decide (c.text = [])
     else if c.kind = 3 then !decide (c.text.length = 12) && (decide (c.lo = 0) && decide (c.hi = 0) && decide (c.text.length ≤ 12))
     else if c.kind = 2 then decide (c.lo = 0) && decide (c.hi = 0) && decide (c.text.length ≤ 12)
     else false)
theorem s138(nm:List UInt8)(k lo hi:Int)(tx:List UInt8)(hl:nm.length≤1000000) :
  pcF D yW [.agg [.str nm,.int .i64 k,.int .i64 lo,.int .i64 hi,.str tx]]=some (.bool (dC ⟨nm,k,lo,hi,tx⟩)):=by
 unfold pcF
 rw[aJ _ _ _ _ (by simp[yW])]
 cases hn:Ak nm with
 | false=>simp[yW,Ln,Jg,hl,hn,dC]
 | true =>
  have cH:∀n:Nat,((tx.length:Int) == (n:Int))=decide (tx.length=n):=fun n=>by
   by_cases h:tx.length=n
   ·simp[h]
   ·have h':¬(tx.length:Int)=n:=by omega
    simp[h,h']
  have O9:(tx == ([]:List UInt8))=decide (tx=[]):=by cases tx<;>simp
  by_cases k1:k=1
  ·subst k1
   by_cases h1:lo≤hi
   ·simp[yW,Ln,Jg,hl,hn,dC,h1,O9]
   ·simp[yW,Ln,Jg,hl,hn,dC,h1,O9]
  ·by_cases k3:k=3
   ·subst k3
    by_cases gE:tx.length=12
    ·simp[yW,Ln,Jg,hl,hn,dC,gE]
    ·have h12':¬(tx.length:Int)=12:=by omega
     by_cases dS:lo=0
     ·by_cases Ha:hi=0
      ·simp[yW,Ln,Jg,hl,hn,dC,gE,h12',dS,Ha]
       omega
      ·simp[yW,Ln,Jg,hl,hn,dC,gE,h12',dS,Ha]
     ·simp[yW,Ln,Jg,hl,hn,dC,gE,h12',dS]
   ·by_cases k2:k=2
    ·subst k2
     by_cases dS:lo=0
     ·by_cases Ha:hi=0
      ·simp[yW,Ln,Jg,hl,hn,dC,dS,Ha]
       omega
      ·simp[yW,Ln,Jg,hl,hn,dC,dS,Ha]
     ·simp[yW,Ln,Jg,hl,hn,dC,dS]
    ·simp[yW,Ln,Jg,hl,hn,dC,k1,k2,k3]
def mG:Option (List UInt8)→bJ→Bool
 | _,[]=>true
 | prev,c::r=>dC c && (match prev with|none=>true|some n=>Go.Op.bytesLess n c.name) && mG (some c.name) r
def tK(p:bJ):Bool:=mG none p && decide (p.length≤5)
def Tw(p:bJ):Prop:=p.length≤1000000∧∀c∈p,c.name.length≤1000000
end Go.Dm.Tc
/-
What functions of the program compute,part 10: is a broker right?
-/
namespace Go.Dm.Tc
def hU(b:aH)(n:Int):Bool:=decide (n=-1) || b.aM.contains n
def cmpE(t1 s1 t2 s2:ID):Int:=orI (bV t1 t2) (bV s1 s2)
def ltE(x y:aX):Bool:=decide (cmpE x.tree x.sub y.tree y.sub<0)
theorem rC{α:Type}{key:α→ID}:∀{l:List α},eE (l.map key)→mF (fun x y=>kK (key x) (key y)) l=true
 | [],_=>rfl
 | [a],_=>rfl
 | a::b::r,h=>by
  unfold eE at h
  rw[List.map_cons,List.pairwise_cons]at h
  simp only[mF,Bool.and_eq_true]
  refine⟨?_,rC (l:=b::r) h.2⟩
  have:=h.1 (key b) (by simp)
  simpa[kK]using this
def mQ(b:aH)(e:aX):Bool :=
 match b.aR.find? (fun a=>a.id=e.tree)with
 | none=>false
 | some a=>hU b e.bK && (!decide (e.bK=a.bN) || decide (a.bN=-1)) && !(e.up && decide (a.bN=-1)) && tK e.pred
end Go.Dm.Tc
/-
What functions of the program compute,part 11: is a broker right? All of it.
-/
namespace Go.Dm.Tc
structure SizedN(b:aH):Prop where
 adv:∀x∈b.aR,Tw x.pred
 ent:∀x∈b.entries,Tw x.pred
 own:∀x∈b.bT,Tw x.pred
def wV(b:aH)(a:bG):Bool:=decide (a.id∈b.seen) && hU b a.bN && tK a.pred
def iE(t:dA)(b:aH):List DV:=[.int .i64 b.me,eL t.aM 1 bO b.aM,eL t.aR 4 aG b.aR,eL t.seen 2 eID b.seen,eL t.entries 7 aD b.entries,eL t.bT 3 cP b.bT]
def Em(b:aH):Bool :=
 mF (fun x y=>decide (x<y)) b.aM && mF (fun x y=>kK x y) b.seen && mF (fun x y:bG=>kK x.id y.id) b.aR && mF (fun x y:fT=>kK x.id y.id) b.bT && mF ltE b.entries
def Rq(b:aH):Bool :=
 Em b && !(b.aR.any fun a=>!wV b a) && !(b.entries.any fun e=>!mQ b e) && !(b.bT.any fun o=>!tK o.pred)
end Go.Dm.Tc
/-
What functions of the program compute,part 12: an advertisement forgotten.
-/
namespace Go.Dm.Tc
theorem s160(tg:Bool)(a b:Int)(p1 p2 p3 p4 p5:DV)(c d:Int):pcF D CA [.agg [.int .i64 a,.int .i64 b,p1,p2,p3,p4,p5],.iptr tg [.int .i64 c,.int .i64 d] 0]=some (.bool (decide ((⟨a,b⟩:ID)=⟨c,d⟩))):=by
 unfold pcF
 rw[aJ _ _ _ _ (by simp[CA])]
 by_cases h1:a=c<;>by_cases h2:b=d<;>simp[CA,h1,h2]
theorem ND(x:ID)(c d:Int):(decide (x.aW=c) && decide (x.seq=d))=decide (x=⟨c,d⟩):=by
 cases x with|mk a b=>by_cases h1:a=c<;>by_cases h2:b=d<;>simp[h1,h2]
def cQ{α:Type}(key:α→ID)(x:ID)(l:List α):List α:=l.filter fun a=>!decide (key a=x)
theorem Hz{α:Type}(key:α→ID){l:List α}(hr:eE (l.map key)){x:ID}{i:Nat}{a:α}(hi:l[i]?=some a)(ha:key a=x):l.take i++l.drop (i+1)=cQ key x l:=by
 have bC:i<l.length:=by
  by_cases h:i<l.length
  ·exact h
  ·rw[List.getElem?_eq_none (by omega)]at hi;cases hi
 have xI:l[i]=a:=by rw[List.getElem?_eq_getElem bC]at hi;exact Option.some.inj hi
 have eG:∀j (hj:j<l.length),j≠i→key l[j]≠x:=by
  intro j hj hji e
  rcases Nat.lt_or_gt_of_ne hji with h|h
  ·have:=List.pairwise_iff_getElem.1 hr j i (by simpa using hj) (by simpa using bC) h
   simp only[List.getElem_map,xI,ha,e]at this
   rw[iV]at this;omega
  ·have:=List.pairwise_iff_getElem.1 hr i j (by simpa using bC) (by simpa using hj) h
   simp only[List.getElem_map,xI,ha,e]at this
   rw[iV]at this;omega
 have h1:(l.take i).filter (fun a=>!decide (key a=x))=l.take i:=by
  rw[List.filter_eq_self]
  intro y hy
  obtain⟨j,hj,rfl⟩:=List.mem_iff_getElem.1 hy
  rw[List.length_take]at hj
  have:=eG j (by omega) (by omega)
  simpa using this
 have h2:(l.drop (i+1)).filter (fun a=>!decide (key a=x))=l.drop (i+1):=by
  rw[List.filter_eq_self]
  intro y hy
  obtain⟨j,hj,rfl⟩:=List.mem_iff_getElem.1 hy
  rw[List.length_drop]at hj
  have:=eG (i+1+j) (by omega) (by omega)
  simpa using this
 have h3:(l.drop i).filter (fun a=>!decide (key a=x))=l.drop (i+1):=by
  rw[List.drop_eq_getElem_cons bC,List.filter_cons,xI,ha,h2];simp
 calc l.take i++l.drop (i+1)=(l.take i++l.drop i).filter (fun a=>!decide (key a=x)):=by rw[List.filter_append,h1,h3]
  _=_:=by rw[List.take_append_drop];rfl
def bU(b:aH)(x:ID)(bK:Int):aH×Bool :=
 match b.aR.find? (fun a=>a.id=x)with
 | none=>(b,false)
 | some a=>if a.bN=bK then({b with aR:=cQ (fun a=>a.id) x b.aR,entries:=cQ (fun e=>e.tree) x b.entries},true)else(b,false)
theorem s107(t:dA)(b:aH)(c d q:Int)(hs:fG b)(ra:eE (b.aR.map (·.id))) :
  pcF D Vb [aE t b,.agg [.int .i64 c,.int .i64 d],.int .i64 q]=some (.tup [aE .none (bU b ⟨c,d⟩ q).1,.bool (bU b ⟨c,d⟩ q).2]):=by
 obtain⟨me,aM,adv,seen,ent,own⟩:=b
 obtain⟨R,hR⟩:∃ R,R=DV.tup [aE .none (bU ⟨me,aM,adv,seen,ent,own⟩ ⟨c,d⟩ q).1,.bool (bU ⟨me,aM,adv,seen,ent,own⟩ ⟨c,d⟩ q).2]:=⟨_,rfl⟩
 rw[←hR]
 unfold pcF
 rw[aJ _ _ _ _ (by simp[Vb])]
 simp[Vb,aE]
 generalize hA:fc D _ _ _=A
 obtain⟨v1,v2,v3,v4,v5,K,rfl,o1,o2,o3,o4,o5,x⟩:=q151 hA hs (by simp) (by simp)
 simp at o1 o2 o3 o4 o5 x
 clear hA
 have a0:=x.get 0 (by decide)
 have a1:=x.get 1 (by decide)
 have a2:=x.get 2 (by decide)
 have q0:=x.lim
 have w0:=x.wf
 have n0:=x.le
 simp at a0 a1 a2 q0
 have l0:0<K.n:=by omega
 have l2:2<K.n:=by omega
 have r1:∀o,resolve true (K.set 0 o) 199 v1=some (eL true 1 bO aM):=fun o=>(o1.aU w0 (by decide) l0).resolve true (fun y _=>(kI y).1) (by decide)
 have r2:∀o,resolve true (K.set 0 o) 199 v2=some (eL true 4 aG adv):=fun o=>(o2.aU w0 (by decide) l0).resolve true (fun y _=>(iI y).1) (by decide)
 have r3:∀o,resolve true (K.set 0 o) 199 v3=some (eL true 2 eID seen):=fun o=>(o3.aU w0 (by decide) l0).resolve true (fun y _=>(qB y).1) (by decide)
 have r4:∀o,resolve true (K.set 0 o) 199 v4=some (eL true 7 aD ent):=fun o=>(o4.aU w0 (by decide) l0).resolve true (fun y _=>(cA y).1) (by decide)
 have r5:∀o,resolve true (K.set 0 o) 199 v5=some (eL true 3 cP own):=fun o=>(o5.aU w0 (by decide) l0).resolve true (fun y _=>(lV y).1) (by decide)
 have r1':∀o o',resolve false ((K.set 0 o).set 2 o') 198 v1=some (eL false 1 bO aM):=fun o o'=>((o1.aU w0 (by decide) l0).aU w0.set (by decide) l2).resolve false (fun y _=>(kI y).1) (by decide)
 have r2':∀o o',resolve false ((K.set 0 o).set 2 o') 198 v2=some (eL false 4 aG adv):=fun o o'=>((o2.aU w0 (by decide) l0).aU w0.set (by decide) l2).resolve false (fun y _=>(iI y).1) (by decide)
 have r3':∀o o',resolve false ((K.set 0 o).set 2 o') 198 v3=some (eL false 2 eID seen):=fun o o'=>((o3.aU w0 (by decide) l0).aU w0.set (by decide) l2).resolve false (fun y _=>(qB y).1) (by decide)
 have r4':∀o o',resolve false ((K.set 0 o).set 2 o') 198 v4=some (eL false 7 aD ent):=fun o o'=>((o4.aU w0 (by decide) l0).aU w0.set (by decide) l2).resolve false (fun y _=>(cA y).1) (by decide)
 have r5':∀o o',resolve false ((K.set 0 o).set 2 o') 198 v5=some (eL false 3 cP own):=fun o o'=>((o5.aU w0 (by decide) l0).aU w0.set (by decide) l2).resolve false (fun y _=>(lV y).1) (by decide)
 have Aw:adv.length≤1000000:=by have:=hs.adv;simp only at this;omega
 have kZ:ent.length≤1000000:=by have:=hs.ent;simp only at this;omega
 simp only at ra
 have hf:=Cx (fun a:bG=>a.id) ra ⟨c,d⟩
 cases hq:adv.find? (fun a=>a.id=⟨c,d⟩)with
 | none =>
  rw[hq]at hf
  simp only at hf
  simp[a0,a1,a2,q0,w0,l0,l2,GD,DG,r1,r2,r3,r4,r5,r1',r2',r3',r4',r5',ra,Aw,hf,aI]
  simp[hR,bU,hq,aE,dA.none]
 | some a =>
  rw[hq]at hf
  simp only at hf
  obtain⟨hf1,TB⟩:=hf
  have TD:a.id=⟨c,d⟩:=by simpa using List.find?_some hq
  obtain⟨i,hi⟩:∃ i,aV (fun b:bG=>bV b.id ⟨c,d⟩) adv=i:=⟨_,rfl⟩
  have Gz:i<adv.length:=by
   by_cases h:i<adv.length
   ·exact h
   ·rw[hi,List.getElem?_eq_none (by omega)]at TB;cases TB
  rw[hi]at TB
  obtain⟨id,sp,cap,hv2,HM,P1,NJ,Dy,Bs⟩:=o2.toR.index (i:=i) (x:=aG a) (by simp[TB]) .i64
  have hid0:¬id=0:=by omega
  have hid2:¬id=2:=by omega
  simp only[aG]at Bs
  by_cases uI:a.bN=q
  ·have hw:IntKind.i64.wrap ((i:Int)+1)=(i:Int)+1:=aT (by omega) (by omega)
   have hwo:=Hz (fun a:bG=>a.id) ra TB TD
   simp[a0,a1,a2,q0,w0,l0,l2,GD,DG,r1,r2,r3,r4,r5,ra,Aw,hf1,hi,Dy,HM,hid0,Bs,eq_true uI,hw]
   generalize hH:K.set 0 _=H
   have wH:WF H:=by rw[←hH];exact w0.set
   have nH:H.n=K.n:=by rw[←hH];rfl
   have lH:H.lim=0:=by rw[←hH];exact q0
   have g0:H.get 0=some (.arr 36 6 [.agg [.int .i64 me,v1,v2,v3,v4,v5]] (some 1)):=by rw[←hH,bY w0 l0,if_pos rfl]
   have g1:H.get 1=some (.arr 40 2 [.agg [.int .i64 c,.int .i64 d]] (some 1)):=by rw[←hH,bY w0 l0,if_neg (by decide)];exact a1
   have g2:H.get 2=some (.arr 36 6 [.agg [.int .i64 0,.nsl,.nsl,.nsl,.nsl,.nsl]] (some 1)):=by rw[←hH,bY w0 l0,if_neg (by decide)];exact a2
   have p1:Own 3 H v1 3 1 (aM.map bO):=by rw[←hH];exact o1.aU w0 (by decide) l0
   have p2:Own 3 H v2 93 4 (adv.map aG):=by rw[←hH];exact o2.aU w0 (by decide) l0
   have p3:Own 3 H v3 40 2 (seen.map eID):=by rw[←hH];exact o3.aU w0 (by decide) l0
   have p4:Own 3 H v4 114 7 (ent.map aD):=by rw[←hH];exact o4.aU w0 (by decide) l0
   have p5:Own 3 H v5 98 3 (own.map cP):=by rw[←hH];exact o5.aU w0 (by decide) l0
   clear hH r1 r2 r3 r4 r5 r1' r2' r3' r4' r5' Dy Bs HM hid0 hid2 hv2 P1 NJ
   obtain⟨v2',K2,hD,m2,x2,k2⟩:=s158 3 H v2 adv i p2 Gz Aw wH (by omega)
   rw[hwo]at m2
   have b0:=x2.get 0 (by decide)
   have b1:=x2.get 1 (by decide)
   have b2:=x2.get 2 (by decide)
   have q2:=x2.lim
   have w2:=x2.wf
   have n2:=x2.le
   rw[g0]at b0
   rw[g1]at b1
   rw[g2]at b2
   rw[lH]at q2
   have Ax:0<K2.n:=by omega
   simp[hD,b0,b1,b2,q2,w2,Ax,m2.bD,m2.aP,turn]
   generalize hH':K2.set 0 _=H'
   have wH':WF H':=by rw[←hH'];exact w2.set
   have nH':H'.n=K2.n:=by rw[←hH'];rfl
   have lH':H'.lim=0:=by rw[←hH'];exact q2
   have g0':H'.get 0=some (.arr 36 6 [.agg [.int .i64 me,v1,v2',v3,v4,v5]] (some 1)):=by rw[←hH',bY w2 Ax,if_pos rfl]
   have g1':H'.get 1=some (.arr 40 2 [.agg [.int .i64 c,.int .i64 d]] (some 1)):=by rw[←hH',bY w2 Ax,if_neg (by decide)];exact b1
   have g2':H'.get 2=some (.arr 36 6 [.agg [.int .i64 0,.nsl,.nsl,.nsl,.nsl,.nsl]] (some 1)):=by rw[←hH',bY w2 Ax,if_neg (by decide)];exact b2
   replace p1:Own 3 H' v1 3 1 (aM.map bO):=by rw[←hH'];exact(p1.keep k2 x2.lim (by decide)).aU w2 (by decide) Ax
   replace m2:OwnR 3 H' v2' 93 4 ((cQ (fun a=>a.id) ⟨c,d⟩ adv).map aG):=by rw[←hH'];exact m2.aU w2 (by decide) Ax
   replace p3:Own 3 H' v3 40 2 (seen.map eID):=by rw[←hH'];exact(p3.keep k2 x2.lim (by decide)).aU w2 (by decide) Ax
   replace p4:Own 3 H' v4 114 7 (ent.map aD):=by rw[←hH'];exact(p4.keep k2 x2.lim (by decide)).aU w2 (by decide) Ax
   replace p5:Own 3 H' v5 98 3 (own.map cP):=by rw[←hH'];exact(p5.keep k2 x2.lim (by decide)).aU w2 (by decide) Ax
   clear hH' hD
   obtain⟨v4',K3,hD,m4,x3,k3⟩:=s159 3 H' v4 ent 160 [.ptr 1 2 0 0] [.iptr true [.int .i64 c,.int .i64 d] 0] (fun e=>decide (e.tree=⟨c,d⟩)) p4 kZ wH' (by omega)
    (by simp[g1'])
    (fun y _ h'=>by simp[aD,e160,s160,ND])
    (fun y _ h' hx=>by
     have:=(hx.get 1 (by decide)).trans g1'
     simp[aD,e160,s160,this,ND])
   have c0:=x3.get 0 (by decide)
   have c1:=x3.get 1 (by decide)
   have c2:=x3.get 2 (by decide)
   have q3:=x3.lim
   have w3:=x3.wf
   have n3:=x3.le
   rw[g0']at c0
   rw[g1']at c1
   rw[g2']at c2
   rw[lH']at q3
   have h30:0<K3.n:=by omega
   have h32:2<K3.n:=by omega
   replace p1:=p1.keep k3 x3.lim (by decide)
   replace m2:=m2.keep k3 x3.lim (by decide)
   replace p3:=p3.keep k3 x3.lim (by decide)
   replace p5:=p5.keep k3 x3.lim (by decide)
   have r1:∀o o',resolve false ((K3.set 0 o).set 2 o') 198 v1=some (eL false 1 bO aM):=fun o o'=>((p1.aU w3 (by decide) h30).aU w3.set (by decide) h32).resolve false (fun y _=>(kI y).1) (by decide)
   have r2:=fun o o'=>((m2.aU (o:=o) w3 (by decide) h30).aU (o:=o') w3.set (by decide) h32).resolve (n:=198) false (fun y _=>(iI y).1) (by decide)
   have r3:∀o o',resolve false ((K3.set 0 o).set 2 o') 198 v3=some (eL false 2 eID seen):=fun o o'=>((p3.aU w3 (by decide) h30).aU w3.set (by decide) h32).resolve false (fun y _=>(qB y).1) (by decide)
   have r4:=fun o o'=>((m4.aU (o:=o) w3 (by decide) h30).aU (o:=o') w3.set (by decide) h32).resolve (n:=198) false (fun y _=>(cA y).1) (by decide)
   have r5:∀o o',resolve false ((K3.set 0 o).set 2 o') 198 v5=some (eL false 3 cP own):=fun o o'=>((p5.aU w3 (by decide) h30).aU w3.set (by decide) h32).resolve false (fun y _=>(lV y).1) (by decide)
   simp[g0',lH',hD,c0,c2,q3,w3,h30,h32,m4.bD,m4.aP,turn,r1,r2,r3,r4,r5,aI]
   simp[hR,bU,hq,uI,aE,dA.none,cQ]
  ·simp[a0,a1,a2,q0,w0,l0,l2,GD,DG,r1,r2,r3,r4,r5,r1',r2',r3',r4',r5',ra,Aw,hf1,hi,Dy,HM,hid0,Bs,uI,aI]
   simp[hR,bU,hq,uI,aE,dA.none]
end Go.Dm.Tc
/-
What the reference's functions compute,part 3: an advertisement forgotten.
-/
namespace Go.Dm.Tc
theorem O0{ety:Nat}{a b c:aA}(x:iF ety a b)(y:iF ety b c):iF ety a c:=fun k o hg eG=>y k o (x k o hg eG) eG
theorem l126(S:List Fr)(h0:aA)(c d:Int)(t:Bool)(ent:List aX)(hl:ent.length≤1000000)(aL:h0.lim=0)(hn:3≤h0.n)(g1:h0.get 1=some (.arr 40 2 [.agg [.int .i64 c,.int .i64 d]] (some 1))) :
  ∀(rest:List aX) (i:Nat) (eR:List aX) (f:cT) (h:aA),ent.drop i=rest→eR.length≤i→f 3=.ptr 0 6 0 0→f 4=.ptr 1 2 0 0→f 6=.ptr 2 6 0 0→f 42=eL t 7 aD ent→f 43=.int .i64 ent.length→f 44=.int .i64 i →
   OwnR 3 h (f 9) 114 7 (eR.map aD)→Ext 3 h0 h→iF 114 h0 h →
  ∃ f' h',run D 60 (.block 0::.seq Qj::S) (.loop Qi) f h=run D 60 S Qj f' h'∧f' 3=.ptr 0 6 0 0∧f' 6=.ptr 2 6 0 0∧OwnR 3 h' (f' 9) 114 7 ((eR++cQ (fun e=>e.tree) ⟨c,d⟩ rest).map aD)∧Ext 3 h0 h'∧iF 114 h0 h':=by
 intro rest
 induction rest with
 | nil =>
  intro i eR f h hd ha h3 h4 h6 h42 h43 h44 ho hx hk
  have hi:=bH hd
  have:¬(i<ent.length):=by omega
  rw[aC Qi.eq_1]
  simp[h42,h43,h44,this]
  refine⟨_,_,rfl,by simp[h3],by simp[h6],?_,hx,hk⟩
  simpa[cQ]using ho
 | cons e rest ih =>
  intro i eR f h hd ha h3 h4 h6 h42 h43 h44 ho hx hk
  obtain⟨hi,he,eJ⟩:=bR hd
  have hlH:h.lim=0:=hx.lim.trans aL
  have Og:=(hx.get 1 (by decide)).trans g1
  have hnh:=hx.le
  have n1:¬1=h.n:=by omega
  have hw:IntKind.i64.wrap ((i:Int)+1)=(i:Int)+1:=aT (by omega) (by omega)
  rw[aC Qi.eq_1]
  by_cases hc:e.tree=⟨c,d⟩
  ·have uL:e.tree.aW=c:=by rw[hc]
   have Av:e.tree.seq=d:=by rw[hc]
   simp[h3,h4,h6,h42,h43,h44,hi,he,hlH,Og,n1,aD,uL,Av,hw]
   have hf:cQ (fun e:aX=>e.tree) ⟨c,d⟩ (e::rest)=cQ (fun e:aX=>e.tree) ⟨c,d⟩ rest:=by simp[cQ,hc]
   rw[hf,←List.map_append]
   generalize hF:upd _ 44 _=F
   refine ih (i+1) eR F _ eJ (by omega) ?_ ?_ ?_ ?_ ?_ ?_ ?_ hx.push hk.push
   ·rw[←hF];simp[h3]
   ·rw[←hF];simp[h4]
   ·rw[←hF];simp[h6]
   ·rw[←hF];simp[h42]
   ·rw[←hF];simp[h43]
   ·rw[←hF];simp
   ·rw[←hF];simp;exact ho.push
  ·have FL:¬(e.tree.aW=c∧e.tree.seq=d):=fun q=>hc (by cases e with|mk t s p q u=>cases t;simp_all)
   have Ua:(e.tree.aW == c && e.tree.seq == d)=false:=by
    cases hb:(e.tree.aW == c && e.tree.seq == d)with
    | false=>rfl
    | true=>exact absurd (by simpa using hb) FL
   simp[h3,h4,h6,h42,h43,h44,hi,he,hlH,Og,n1,aD,Ua]
   generalize hA:aY _ _ _ _ _ _=A
   obtain⟨v',h',rfl,Kk,uG,qJ⟩:=ho.push.push.append hx.push.push.wf (by simp;omega) (by simp[hlH]) hA (by simp;omega) (by decide)
   clear hA
   have hf:cQ (fun e:aX=>e.tree) ⟨c,d⟩ (e::rest)=e::cQ (fun e:aX=>e.tree) ⟨c,d⟩ rest:=by simp[cQ,hc]
   rw[hf]
   simp[h44,hw]
   generalize hF:upd _ 44 _=F
   have:=ih (i+1) (eR++[e]) F h' eJ (by simp;omega) (by rw[←hF];simp[h3]) (by rw[←hF];simp[h4]) (by rw[←hF];simp[h6]) (by rw[←hF];simp[h42]) (by rw[←hF];simp[h43]) (by rw[←hF];simp) (by rw[←hF];simp;simpa[aD]using Kk) (hx.push.push.trans uG) (O0 hk.push.push qJ)
   simpa using this
theorem uM{α:Type}(p:α→Bool)(l:List α):match l.find? p with
  | some a=>∃ i,l.findIdx? p=some i∧l[i]?=some a
  | none=>l.findIdx? p=none:=by
 cases h:l.find? p with
 | none=>simp only;rw[List.findIdx?_eq_none_iff];intro a ha;have:=List.find?_eq_none.1 h a ha;simpa using this
 | some a =>
  simp only
  have h1:=List.find?_some h
  cases hi:l.findIdx? p with
  | none=>rw[List.findIdx?_eq_none_iff]at hi;have:=hi a (List.mem_of_find?_eq_some h);rw[h1]at this;cases this
  | some i =>
   refine⟨i,rfl,?_⟩
   obtain⟨hl,hp,hq⟩:=List.findIdx?_eq_some_iff_getElem.1 hi
   obtain⟨hpa,u1,u2,VE,hn⟩:=List.find?_eq_some_iff_append.1 h
   have:u1.length=i:=by
    rcases Nat.lt_trichotomy u1.length i with bC|he|hgt
    ·have:=hq u1.length bC
     subst VE
     simp[h1]at this
    ·exact he
    ·exfalso
     subst VE
     have:=hn (u1[i]'hgt) (List.getElem_mem hgt)
     rw[List.getElem_append_left hgt]at hp
     rw[hp]at this
     cases this
   subst VE
   rw[←this]
   simp
theorem s126(b:aH)(c d q:Int)(hs:fG b)(ra:eE (b.aR.map (·.id))) :
  pcF D Mg [aE .none b,.agg [.int .i64 c,.int .i64 d],.int .i64 q]=some (.tup [aE .none (bU b ⟨c,d⟩ q).1,.bool (bU b ⟨c,d⟩ q).2]):=by
 obtain⟨me,aM,adv,seen,ent,own⟩:=b
 obtain⟨z1,z2,z3,z4,z5⟩:=hs
 simp only at z1 z2 z3 z4 z5 ra
 obtain⟨R,hR⟩:∃ R,R=DV.tup [aE .none (bU ⟨me,aM,adv,seen,ent,own⟩ ⟨c,d⟩ q).1,.bool (bU ⟨me,aM,adv,seen,ent,own⟩ ⟨c,d⟩ q).2]:=⟨_,rfl⟩
 rw[←hR]
 have Aw:adv.length≤1000000:=by omega
 have kZ:ent.length≤1000000:=by omega
 have xJ:=uM (fun a:bG=>decide (a.id=⟨c,d⟩)) adv
 unfold pcF
 rw[aJ _ _ _ _ (by simp[Mg])]
 cases hq:adv.find? (fun a=>a.id=⟨c,d⟩)with
 | none =>
  rw[hq]at xJ
  simp only at xJ
  simp[Mg,aE,dA.none,Di,Cg,Aw,xJ,gV,aI]
  simp[hR,bU,hq,dA.none,aE]
 | some a =>
  rw[hq]at xJ
  simp only at xJ
  obtain⟨i,hi,xI⟩:=xJ
  have TD:a.id=⟨c,d⟩:=by simpa using List.find?_some hq
  have Gz:i<adv.length:=by
   by_cases h:i<adv.length
   ·exact h
   ·rw[List.getElem?_eq_none (by omega)]at xI;cases xI
  have As:¬(i:Int)<0:=by omega
  have hw:IntKind.i64.wrap ((i:Int)+1)=(i:Int)+1:=aT (by omega) (by omega)
  by_cases uI:a.bN=q
  ·have hwo:=Hz (fun a:bG=>a.id) ra xI TD
   simp[Mg,aE,dA.none,Di,Cg,Aw,hi,gV,As,xI,aG,eq_true uI,Nat.le_of_lt Gz,hw]
   have P2:i≤adv.length:=Nat.le_of_lt Gz
   generalize hA:aY _ _ _ _ _ _=A
   obtain⟨i1,K1,rfl,o1,x1,y1,j1⟩:=(fO.fresh (lo:=3) (ety:=93) (sz:=4) (xs:=[]) (cap:=some 0) (by simp) (by simp)).append (n:=0) rfl (by simp) (by simp) (by simp) hA (by simp;omega) (by decide)
   clear hA
   have a0:=x1.get 0 (by decide)
   have a1:=x1.get 1 (by decide)
   have a2:=x1.get 2 (by decide)
   have q1:=x1.lim
   have w1:=x1.wf
   have n1:=x1.le
   have u1:=o1.lo
   have m0:¬0=i1:=by omega
   have m1:¬i1=0:=by omega
   have m2:¬i1=1:=by omega
   have m3:¬1=i1:=by omega
   simp at a0 a1 a2 q1 o1
   simp[a0,a1,a2,q1,m0,m1,m2,m3,P2,hw,Gz,Nat.succ_le_of_lt Gz]
   generalize hA:aY _ _ _ _ _ _=A
   obtain⟨i2,K2,rfl,o2,x2,y2,j2⟩:=o1.append (by simp[P2]) w1 n1 (by omega) hA (by simp;omega) (by decide)
   clear hA
   have b0:=x2.get 0 (by decide)
   have b1:=x2.get 1 (by decide)
   have b2:=x2.get 2 (by decide)
   have q2:=x2.lim
   have w2:=x2.wf
   have n2:=x2.le
   have u2:=o2.lo
   rw[a0]at b0
   rw[a1]at b1
   rw[a2]at b2
   rw[q1]at q2
   have l2:0<K2.n:=by omega
   have cH:(List.take i (List.map aG adv)++List.drop (i+1) (List.map aG adv))=(cQ (fun a=>a.id) ⟨c,d⟩ adv).map aG:=by rw[←hwo];simp
   have o2':fO 3 K2 i2 93 4 ((cQ (fun a=>a.id) ⟨c,d⟩ adv).map aG):=by rw[←cH];exact o2
   have hlw:(cQ (fun a=>a.id) ⟨c,d⟩ adv).length=i+(adv.length-(i+1)):=by rw[←hwo];simp[Nat.min_eq_left P2]
   simp[b0,q2,w2,l2,turn]
   generalize hF:upd _ 44 _=F
   generalize hK:K2.set 0 _=K3
   have e0:K3.get 0=some (.arr 36 6 [.agg [.int .i64 me,eL false 1 bO aM,.sl i2 4 0 ((cQ (fun a=>a.id) ⟨c,d⟩ adv).map aG).length,eL false 2 eID seen,eL false 7 aD ent,eL false 3 cP own]] (some 1)):=by
    rw[←hK];simp[w2,l2,hlw,Nat.min_eq_left P2]
   have e1:K3.get 1=some (.arr 40 2 [.agg [.int .i64 c,.int .i64 d]] (some 1)):=by
    rw[←hK];simp[w2,l2,b1]
   have e2:K3.get 2=some (.arr 36 6 [.agg [.int .i64 0,.nsl,.nsl,.nsl,.nsl,.nsl]] (some 1)):=by
    rw[←hK];simp[w2,l2,b2]
   have w3:WF K3:=by rw[←hK];exact w2.set
   have q3:K3.lim=0:=by rw[←hK];exact q2
   have n3:3≤K3.n:=by rw[←hK];exact n2
   have o3:fO 3 K3 i2 93 4 ((cQ (fun a=>a.id) ⟨c,d⟩ adv).map aG):=by rw[←hK];exact o2'.aU w2 (by decide) l2
   obtain⟨f1,K4,k1,k2,k3,o4,x4,y4⟩:=l126 [] K3 c d false ent kZ q3 n3 e1 ent 0 [] F K3 rfl (by simp) (by rw[←hF];simp) (by rw[←hF];simp) (by rw[←hF];simp) (by rw[←hF];simp) (by rw[←hF];simp) (by rw[←hF];simp) (by rw[←hF];simp;exact .nil rfl rfl) (.refl n3 w3) (.refl _ _)
   rw[k1]
   clear hF hK k1
   have c0:=x4.get 0 (by decide)
   have c2:=x4.get 2 (by decide)
   have q4:=x4.lim
   have w4:=x4.wf
   have n4:=x4.le
   rw[e0]at c0
   rw[e2]at c2
   rw[q3]at q4
   have l4:0<K4.n:=by omega
   have l42:2<K4.n:=by omega
   have s3:=o3.keep y4 x4.lim (by decide)
   simp only[List.nil_append]at o4
   have r3:=fun o o'=>((s3.toR.aU (o:=o) w4 (by decide) l4).aU (o:=o') w4.set (by decide) l42).resolve (n:=198) false (fun y _=>(iI y).1) (by decide)
   have r4:=fun o o'=>((o4.aU (o:=o) w4 (by decide) l4).aU (o:=o') w4.set (by decide) l42).resolve (n:=198) false (fun y _=>(cA y).1) (by decide)
   simp only[List.length_map]at c0 r3
   simp[Qj,k2,k3,c0,c2,q4,w4,l4,l42,turn,o4.bD,o4.aP,-kY,r3,r4,aI]
   simp[hR,bU,hq,uI,dA.none,aE]
  ·simp[Mg,aE,dA.none,Di,Cg,Aw,hi,gV,As,xI,aG,uI,aI]
   simp[hR,bU,hq,uI,dA.none,aE,aG]
end Go.Dm.Tc
/-
Calls that let go of rows,brought into form;closed runs.
-/
namespace Go.Dm.Tc
def AP:Option (DV×aA)→(aA→Option (List DV×aA))→Option (List DV×aA)
 | some (v,h),k=>match k h with|some (r,h')=>some (v::r,h')|none=>none
 | none,_=>none
def VJ(v:DV):Option (List DV×aA)→Option (List DV×aA)
 | some (r,h)=>some (v::r,h)
 | none=>none
def aggH:Option (List DV×aA)→Option (DV×aA)
 | some (r,h)=>some (.agg r,h)
 | none=>none
theorem Bj(v:DV)(r:List DV)(h:aA):VJ v (some (r,h))=some (v::r,h):=_root_.id rfl
theorem Fg(r:List DV)(h:aA):aggH (some (r,h))=some (.agg r,h):=_root_.id rfl
theorem Bk(v:DV)(h:aA)(k:aA→Option (List DV×aA)):AP (some (v,h)) k=VJ v (k h):=by
 simp only[AP];cases k h<;>rfl
theorem Kc(f:aA→DV→Option (DV×aA))(h:aA):vJ f h []=some ([],h):=_root_.id rfl
theorem Eu(f:aA→DV→Option (DV×aA))(h:aA)(v:DV)(r:List DV):vJ f h (v::r)=AP (f h v) (fun h1=>vJ f h1 r):=by
 simp only[vJ,AP]
 cases f h v with
 | none=>rfl
 | some p=>rfl
theorem Td(h:aA)(cs:List DV):jE h (.agg cs)=aggH (vJ iU h cs):=by
 simp only[jE];cases vJ iU h cs<;>rfl
theorem AM(h:aA)(k:IntKind)(n:Int):jE h (.int k n)=some (.int k n,h):=_root_.id rfl
theorem Q1{α:Type}(h:aA)(t:Bool)(sz:Nat)(e:α→DV)(xs:List α):jE h (eL t sz e xs)=some (eL t sz e xs,h):=by cases xs<;>rfl
theorem Yj(h:aA)(p:bJ):jE h (bE p)=some (bE p,h):=Q1 ..
theorem AL(h:aA)(s:List UInt8):jE h (.str s)=some (.str s,h):=_root_.id rfl
theorem Q0(h:aA)(k:IntKind)(n:Int):iU h (.int k n)=some (.int k n,h):=_root_.id rfl
theorem AK(h:aA)(b:Bool):iU h (.bool b)=some (.bool b,h):=_root_.id rfl
theorem NR(h:aA):iU h .nsl=some (.nsl,h):=_root_.id rfl
theorem AJ{α:Type}(h:aA)(t:Bool)(sz:Nat)(e:α→DV)(xs:List α):iU h (eL t sz e xs)=some (eL t sz e xs,h):=by cases xs<;>rfl
theorem AI(h:aA)(p:bJ):iU h (bE p)=some (bE p,h):=AJ ..
theorem NS(h:aA)(t:Bool)(sz:Nat)(xs:List DV):iU h (.isl t sz xs)=some (.isl t sz xs,h):=_root_.id rfl
attribute [simp] Bj Fg Bk Kc Eu Td AM Q1 Yj AL Q0 AK NR AJ AI NS S4
theorem nn1(n:Nat):(n=n+1)=False:=eq_false (by omega)
theorem mm1(n:Nat):(n+1=n)=False:=eq_false (by omega)
theorem nn2(n:Nat):(n=n+1+1)=False:=eq_false (by omega)
theorem mm2(n:Nat):(n+1+1=n)=False:=eq_false (by omega)
theorem nn3(n:Nat):(n=n+1+1+1)=False:=eq_false (by omega)
theorem mm3(n:Nat):(n+1+1+1=n)=False:=eq_false (by omega)
theorem nn4(n:Nat):(n=n+1+1+1+1)=False:=eq_false (by omega)
theorem mm4(n:Nat):(n+1+1+1+1=n)=False:=eq_false (by omega)
theorem nn5(n:Nat):(n=n+1+1+1+1+1)=False:=eq_false (by omega)
theorem mm5(n:Nat):(n+1+1+1+1+1=n)=False:=eq_false (by omega)
theorem nn6(n:Nat):(n=n+1+1+1+1+1+1)=False:=eq_false (by omega)
theorem mm6(n:Nat):(n+1+1+1+1+1+1=n)=False:=eq_false (by omega)
theorem nn7(n:Nat):(n=n+1+1+1+1+1+1+1)=False:=eq_false (by omega)
theorem mm7(n:Nat):(n+1+1+1+1+1+1+1=n)=False:=eq_false (by omega)
theorem nn8(n:Nat):(n=n+1+1+1+1+1+1+1+1)=False:=eq_false (by omega)
theorem mm8(n:Nat):(n+1+1+1+1+1+1+1+1=n)=False:=eq_false (by omega)
theorem nn9(n:Nat):(n=n+1+1+1+1+1+1+1+1+1)=False:=eq_false (by omega)
theorem mm9(n:Nat):(n+1+1+1+1+1+1+1+1+1=n)=False:=eq_false (by omega)
theorem nn10(n:Nat):(n=n+1+1+1+1+1+1+1+1+1+1)=False:=eq_false (by omega)
theorem mm10(n:Nat):(n+1+1+1+1+1+1+1+1+1+1=n)=False:=eq_false (by omega)
theorem nn11(n:Nat):(n=n+1+1+1+1+1+1+1+1+1+1+1)=False:=eq_false (by omega)
theorem mm11(n:Nat):(n+1+1+1+1+1+1+1+1+1+1+1=n)=False:=eq_false (by omega)
theorem nn12(n:Nat):(n=n+1+1+1+1+1+1+1+1+1+1+1+1)=False:=eq_false (by omega)
theorem mm12(n:Nat):(n+1+1+1+1+1+1+1+1+1+1+1+1=n)=False:=eq_false (by omega)
attribute [simp] nn1 mm1 nn2 mm2 nn3 mm3 nn4 mm4 nn5 mm5 nn6 mm6 nn7 mm7 nn8 mm8 nn9 mm9 nn10 mm10 nn11 mm11 nn12 mm12
theorem nX{k n:Nat}{df:aQ}{args ds:List DV}{d:DV}(he:∀args h,fc D k args h=Gp D df h (args.mapM (resolve true h cY)))(hd:args.mapM (resolve true oH cY)=some ds)(hr:Zn D n k args oH=some (d,oH)):pcF D df ds=some d:=by
 have h1:fc D k args oH=some (d,oH):=Tf.2 ⟨n,hr⟩
 rw[he,hd,Bn]at h1
 cases h2:pcF D df ds with
 | none=>rw[h2]at h1;cases h1
 | some x=>rw[h2,Bm]at h1;injection h1 with h1;injection h1 with h1;rw[h1]
end Go.Dm.Tc
/-
Plain laws,part 1: predicates Gu of numbers are right;rows that rise stay so.
-/
namespace Go.Dm.Tc
theorem Se:∀nm∈lL,Ak nm=true∧nm.length≤1000000:=by decide
theorem BF:∀i:Nat,(qK.getD i []).length≤3:=by
 intro i
 by_cases h:i<qK.length
 ·have:∀x∈qK,x.length≤3:=by decide
  rw[List.getD_eq_getElem?_getD,List.getElem?_eq_getElem h]
  exact this _ (List.getElem_mem h)
 ·rw[List.getD_eq_getElem?_getD,List.getElem?_eq_none (by omega)]
  simp
theorem Fz(nm:List UInt8)(n:Int):(qL nm n).name=nm:=by unfold qL;split<;>rfl
theorem Si{nm:List UInt8}(h:Ak nm=true)(n:Int):dC (qL nm n)=true:=by
 unfold qL
 split
 ·have b1:=dB (IntKind.i64.wrap (n.tdiv 40)) (show(0:Int)≤9 by decide)
  simp only[dC,h,Bool.true_and,if_true]
  simp
  omega
 ·have ht:=BF (aS (IntKind.i64.wrap (n.tdiv 4)) 0 6).toNat
  split
  ·simp only[dC,h,Bool.true_and]
   simp
   simp at ht
   omega
  ·simp only[dC,h,Bool.true_and]
   simp
   simp at ht
   omega
theorem Fv{c:eQ}(hc:dC c=true):∀(eR:bJ) (prev:Option (List UInt8)),mG prev eR=true→(∀d∈eR,Go.Op.bytesLess d.name c.name=true)→(∀n,prev=some n→Go.Op.bytesLess n c.name=true)→mG prev (eR++[c])=true
 | [],prev,_,_,hp=>by
  simp only[List.nil_append,mG,hc,Bool.true_and,Bool.and_true]
  cases prev with
  | none=>rfl
  | some n=>exact hp n rfl
 | d::r,prev,h,hd,hp=>by
  simp only[mG,Bool.and_eq_true]at h
  simp only[List.cons_append,mG,Bool.and_eq_true]
  exact⟨h.1,Fv hc r (some d.name) h.2 (fun x hx=>hd x (List.mem_cons_of_mem _ hx)) (fun n hn=>by injection hn with hn;rw[←hn];exact hd d (List.mem_cons_self ..))⟩
theorem tL(has vals:List Int):∀(rest:List (List UInt8)) (i:Nat) (eR:bJ),(∀nm∈rest,Ak nm=true∧nm.length≤1000000)→rest.Pairwise (fun a b=>Go.Op.bytesLess a b=true)→mG none eR=true→eR.length≤5 →
  (∀d∈eR,d.name.length≤1000000∧∀nm∈rest,Go.Op.bytesLess d.name nm=true)→mG none (gQ has vals rest i eR)=true∧(gQ has vals rest i eR).length≤5∧∀d∈gQ has vals rest i eR,d.name.length≤1000000
 | [],_,eR,_,_,h,hl,hd=>⟨h,hl,fun d hx=>(hd d hx).1⟩
 | nm::r,i,eR,hn,hp,h,hl,hd=>by
  rw[List.pairwise_cons]at hp
  simp only[gQ]
  split
  ·rename_i hc
   have hr:=Si (hn nm (List.mem_cons_self ..)).1 (zL vals i)
   refine tL has vals r (i+1) _ (fun x hx=>hn x (List.mem_cons_of_mem _ hx)) hp.2 (Fv hr eR none h (fun d hx=>by rw[Fz];exact(hd d hx).2 nm (List.mem_cons_self ..)) (fun n e=>by cases e)) (by simp;omega) ?_
   intro d hx
   rcases List.mem_append.1 hx with hx|hx
   ·exact⟨(hd d hx).1,fun y hy=>(hd d hx).2 y (List.mem_cons_of_mem _ hy)⟩
   ·simp only[List.mem_singleton]at hx
    subst hx
    rw[Fz]
    exact⟨(hn nm (List.mem_cons_self ..)).2,fun y hy=>hp.1 y hy⟩
  ·exact tL has vals r (i+1) eR (fun x hx=>hn x (List.mem_cons_of_mem _ hx)) hp.2 h hl (fun d hx=>⟨(hd d hx).1,fun y hy=>(hd d hx).2 y (List.mem_cons_of_mem _ hy)⟩)
structure cB(p:bJ):Prop where
 right:tK p=true
 names:Tw p
 len:p.length≤5
theorem fC(has vals:List Int):cB (eD has vals):=by
 obtain⟨h1,h2,h3⟩:=tL has vals lL 0 [] Se (by decide) rfl (by simp) (by simp)
 exact⟨by unfold tK;rw[show mG none (eD has vals)=true from h1,Bool.true_and];exact decide_eq_true h2,⟨Nat.le_trans h2 (by decide),h3⟩,h2⟩
theorem pM{α:Type}(key:α→ID)(a:α){l:List α}(h:eE (l.map key))(hn:∀b∈l,key b≠key a):eE ((iS key a l).map key):=by
 obtain⟨r1,r2⟩:=Jk key h (key a)
 have hp:l.Pairwise fun x y=>bV (key x) (key y)<0:=by unfold eE at h;exact List.pairwise_map.1 h
 unfold eE iS
 rw[List.pairwise_map,List.pairwise_append,List.pairwise_cons]
 generalize hk:aV (fun b=>bV (key b) (key a)) l=k at *
 have hJ:∀b∈l.take k,bV (key b) (key a)<0:=by
  intro b hb
  obtain⟨i,hi,rfl⟩:=List.mem_iff_getElem.1 hb
  rw[List.getElem_take]
  rw[List.length_take]at hi
  exact r1 i (by omega) (by omega)
 have nN:∀b∈l.drop k,bV (key a) (key b)<0:=by
  intro b hb
  obtain⟨i,hi,rfl⟩:=List.mem_iff_getElem.1 hb
  rw[List.length_drop]at hi
  rw[List.getElem_drop]
  have:=r2 (k+i) (by omega) (by omega)
  rcases GJ (key l[k+i]) (key a)with h1|h1|h1
  ·exact absurd h1 this
  ·exact absurd h1 (hn _ (List.getElem_mem _))
  ·exact h1
 refine⟨hp.sublist (List.take_sublist ..),⟨fun b hb=>nN b hb,hp.sublist (List.drop_sublist ..)⟩,?_⟩
 intro x hx y hy
 rcases List.mem_cons.1 hy with rfl|hy
 ·exact hJ x hx
 ·exact Gl (hJ x hx) (nN y hy)
theorem nZ{α:Type}(key:α→ID)(a:α)(l:List α)(b:α):b∈iS key a l↔b=a∨b∈l:=by
 unfold iS
 rw[List.mem_append,List.mem_cons]
 constructor
 ·rintro(h|h|h)
  ·exact .inr (List.mem_of_mem_take h)
  ·exact .inl h
  ·exact .inr (List.mem_of_mem_drop h)
 ·rintro(h|h)
  ·exact .inr (.inl h)
  ·rw[←List.take_append_drop (aV (fun b=>bV (key b) (key a)) l) l,List.mem_append]at h
   exact h.elim .inl fun h=>.inr (.inr h)
theorem Hn{α:Type}(key:α→ID)(a:α)(l:List α):(iS key a l).length=l.length+1:=by
 unfold iS
 rw[List.length_append,List.length_cons,List.length_take,List.length_drop]
 have:=cZ (fun b=>bV (key b) (key a)) l
 omega
theorem nT{α:Type}(key:α→ID){l:List α}(x:ID)(h:eE (l.map key)):eE ((cQ key x l).map key):=by
 unfold eE at *
 rw[List.pairwise_map]at *
 exact h.sublist (List.filter_sublist ..)
theorem sP{α:Type}{key:α→ID}{x:ID}{l:List α}{a:α}(h:a∈cQ key x l):a∈l∧key a≠x:=by
 have:=List.mem_filter.1 h
 simpa using this
theorem wN{α:Type}(key:α→ID)(x:ID)(l:List α):(cQ key x l).length≤l.length:=List.length_filter_le ..
end Go.Dm.Tc
/-
Plain laws,part 2: a broker that was told of advertisements alone;sets of IDs as maps.
-/
namespace Go.Dm.Tc
structure yB(m0:Int)(nr:List Int)(b:aH)(n:Nat):Prop where
 me:b.me=m0
 aM:b.aM=nr
 ent:b.entries=[]
 own:b.bT=[]
 ra:eE (b.aR.map (·.id))
 rs:eE b.seen
 la:b.aR.length≤n
 ls:b.seen.length≤n
 sub:∀a∈b.aR,a.id∈b.seen
 par:∀a∈b.aR,a.bN=-1∨a.bN∈nr
 prd:∀a∈b.aR,cB a.pred
section
variable {me:Int} {aM:List Int} {b:aH} {n:Nat}
theorem yB.start(me:Int)(aM:List Int):yB me aM ⟨me,aM,[],[],[],[]⟩ 0:=⟨rfl,rfl,rfl,rfl,List.Pairwise.nil,List.Pairwise.nil,Nat.le_refl _,Nat.le_refl _,fun a h=>(by cases h),fun a h=>(by cases h),fun a h=>(by cases h)⟩
theorem yB.mono{m:Nat}(h:yB me aM b n)(hm:n≤m):yB me aM b m:={h with la:=Nat.le_trans h.la hm,ls:=Nat.le_trans h.ls hm}
theorem yB.learn(h:yB me aM b n)(a:bG)(hp:a.bN=-1∨a.bN∈aM)(hr:cB a.pred):yB me aM (bM b a).1 (n+1):=by
 unfold bM
 split
 ·exact h.mono (Nat.le_succ n)
 ·rename_i hm
  refine⟨h.me,h.aM,h.ent,h.own,?_,?_,?_,?_,?_,?_,?_⟩
  ·exact pM (fun a:bG=>a.id) a h.ra (fun b hb e=>hm (by rw[←e];exact h.sub b hb))
  ·have:=pM (fun x:ID=>x) a.id (l:=b.seen) (by simpa using h.rs) (fun b hb e=>hm (by rw[←e];exact hb))
   simpa using this
  ·simp only[Hn];exact Nat.succ_le_succ h.la
  ·simp only[Hn];exact Nat.succ_le_succ h.ls
  ·intro x hx
   rw[nZ]at hx ⊢
   rcases hx with rfl|hx
   ·exact .inl rfl
   ·exact .inr (h.sub x hx)
  ·intro x hx
   rw[nZ]at hx
   rcases hx with rfl|hx
   ·exact hp
   ·exact h.par x hx
  ·intro x hx
   rw[nZ]at hx
   rcases hx with rfl|hx
   ·exact hr
   ·exact h.prd x hx
theorem yB.forget(h:yB me aM b n)(x:ID)(q:Int):yB me aM (bU b x q).1 n:=by
 unfold bU
 split
 ·exact h
 ·split
  ·refine⟨h.me,h.aM,?_,h.own,nT _ x h.ra,h.rs,Nat.le_trans (wN ..) h.la,h.ls,fun a ha=>h.sub a (sP ha).1,fun a ha=>h.par a (sP ha).1,fun a ha=>h.prd a (sP ha).1⟩
   simp[h.ent,cQ]
  ·exact h
theorem yB.sized(h:yB me aM b n)(hn:n≤1000)(hl:aM.length≤1000):fG b:=⟨by rw[h.aM];omega,by have:=h.la;omega,by have:=h.ls;omega,by rw[h.ent];decide,by rw[h.own];decide⟩
theorem yB.sizedP(h:yB me aM b n):Fh b:=⟨fun a ha=>(h.prd a ha).names.1,fun a ha=>(by rw[h.ent]at ha;cases ha),fun a ha=>(by rw[h.own]at ha;cases ha)⟩
theorem yB.right(h:yB me aM b n)(hn:mF (fun x y=>decide (x<y)) aM=true):Rq b=true:=by
 unfold Rq Em
 rw[h.aM,h.ent,h.own,rC (key:=fun a:bG=>a.id) h.ra,show mF (fun x y=>kK x y) b.seen=true from rC (key:=fun a:ID=>a) (by simpa using h.rs),hn]
 have:(b.aR.any fun a=>!wV b a)=false:=by
  rw[List.any_eq_false]
  intro a ha
  have h1:=h.sub a ha
  have h2:=h.par a ha
  have h3:=(h.prd a ha).right
  have h4:hU b a.bN=true:=by
   unfold hU
   rw[h.aM]
   rcases h2 with e|e
   ·simp[e]
   ·simp[e]
  simp[wV,h1,h3,h4]
 rw[this]
 rfl
end
def c6:Option DO→Option (List (DV×DV))
 | some (.mp es)=>some es
 | _=>none
theorem vS(h:aA)(id:Nat):xM h (.map id)=c6 (h.get id):=by
 simp only[xM,c6]
 cases h.get id with
 | none=>rfl
 | some o=>cases o<;>rfl
theorem Fb(es:List (DV×DV)):c6 (some (.mp es))=some es:=_root_.id rfl
def PT(h:aA)(q:EqT)(id:Nat)(k x:DV):Option DO→Option aA
 | some (.mp es)=>if h.lim≤id∧(jK q k k).isSome=true then
   match tD q k es with
   | some (some (i,_))=>some (h.set id (.mp (es.set i (k,x))))
   | some none=>some (h.set id (.mp (es++[(k,x)])))
   | none=>none
  else none
 | _=>none
theorem Ue(h:aA)(q:EqT)(id:Nat)(k x:DV):Bv h q (.map id) k x=PT h q id k x (h.get id):=by
 simp only[Bv,PT]
 cases h.get id with
 | none=>rfl
 | some o=>cases o<;>rfl
end Go.Dm.Tc
/-
What functions of the program compute,part 13: is a constraint wider than another one?
-/
namespace Go.Dm.Tc
def iN(s p:List UInt8):Bool:=decide (p.length≤s.length) && (s.take p.length == p)
theorem s230(s p:List UInt8):pcF D C5 [.str s,.str p]=some (.bool (iN s p)):=by
 unfold pcF
 rw[aJ _ _ _ _ (by simp[C5])]
 by_cases h:p.length≤s.length
 ·have hs:pF (.str s) none (some (.int .i64 (p.length:Int)))=some (.str (s.take p.length)):=by
   simp only[pF]
   rw[jM _ _ _ _ h]
   simp only[xW]
   simp
  simp[C5,h,hs,iN]
 ·simp[C5,h,iN]
theorem RA(s p:List UInt8):pcF D C7 [.str s,.str p]=some (.bool (iN s p)):=by
 unfold pcF
 rw[aJ _ _ _ _ (by simp[C7])]
 by_cases h:p.length≤s.length
 ·have hs:pF (.str s) none (some (.int .i64 (p.length:Int)))=some (.str (s.take p.length)):=by
   simp only[pF]
   rw[jM _ _ _ _ h]
   simp only[xW]
   simp
  simp[C7,h,hs,iN]
 ·simp[C7,h,iN]
theorem YG(s p:List UInt8):pcF D BO [.str s,.str p]=some (.bool (iN s p)):=by
 unfold pcF
 rw[aJ _ _ _ _ (by simp[BO])]
 simp[BO,e230,s230]
theorem I7(s:List UInt8):pcF D BN [.str s]=some (uQ ⟨true,0,s⟩):=by
 unfold pcF
 rw[aJ _ _ _ _ (by simp[BN])]
 simp[BN,turn,uQ]
def iY(c:eQ)(s:List UInt8):Bool:=if c.kind=2 then s == c.text else if c.kind=3 then iN s c.text else false
theorem DF(nm:List UInt8)(k lo hi:Int)(tx:List UInt8)(s:List UInt8) :
  pcF D zY [.agg [.str nm,.int .i64 k,.int .i64 lo,.int .i64 hi,.str tx],.agg [.bool true,.int .i64 0,.str s]]=some (.bool (iY ⟨nm,k,lo,hi,tx⟩ s)):=by
 unfold pcF
 rw[aJ _ _ _ _ (by simp[zY])]
 by_cases k1:k=1
 ·subst k1
  simp[zY,iY]
 ·by_cases k2:k=2
  ·subst k2
   simp[zY,iY]
  ·by_cases k3:k=3
   ·subst k3
    simp[zY,iY,d8,YG]
   ·simp[zY,iY,k1,k2,k3]
def pC(c x:eQ):Bool :=
 if x.kind=1 then decide (c.kind=1) && decide (c.lo≤x.lo) && decide (x.hi≤c.hi)
 else if x.kind=3 then decide (c.kind=3) && iN x.text c.text
 else if x.kind=2 then iY c x.text
 else false
theorem s182(c x:eQ):pcF D Gs [.agg [.str c.name,.int .i64 c.kind,.int .i64 c.lo,.int .i64 c.hi,.str c.text],.agg [.str x.name,.int .i64 x.kind,.int .i64 x.lo,.int .i64 x.hi,.str x.text]]=some (.bool (pC c x)):=by
 obtain⟨nm,k,lo,hi,tx⟩:=c
 obtain⟨nm',k',lo',gJ,tx'⟩:=x
 unfold pcF
 rw[aJ _ _ _ _ (by simp[Gs])]
 simp only
 by_cases k1:k'=1
 ·subst k1
  by_cases j:k=1
  ·by_cases h1:lo≤lo'
   ·simp[Gs,pC,j,h1]
   ·simp[Gs,pC,j,h1]
  ·simp[Gs,pC,j]
 ·by_cases k3:k'=3
  ·subst k3
   by_cases j:k=3
   ·simp[Gs,pC,j,d8,YG]
   ·simp[Gs,pC,j]
  ·by_cases k2:k'=2
   ·subst k2
    simp[Gs,pC,Yw,I7,uQ,Yx,DF]
   ·simp[Gs,pC,k1,k2,k3]
end Go.Dm.Tc
/-
What functions of the program compute,part 14: does a predicate cover another one?
-/
namespace Go.Dm.Tc
def mL(p:bJ):List (DV×DV):=p.map fun c=>(.str c.name,.agg [.str c.name,.int .i64 c.kind,.int .i64 c.lo,.int .i64 c.hi,.str c.text])
theorem vN(s:List UInt8):∀{p:bJ},(∀c∈p,c.name≠s)→xH (.prim 2) (.str s) (mL p)=some 0
 | [],_=>rfl
 | y::r,h=>by
  have h1:(s == y.name)=false:=beq_eq_false_iff_ne.2 fun e=>h y (List.mem_cons_self ..) e.symm
  have ih:=vN s (p:=r) fun c hc=>h c (List.mem_cons_of_mem _ hc)
  simp only[mL,List.map_cons,xH,uP,rO,h1]
  rw[show xH _ _ (r.map _)=some 0 from ih]
theorem Ba(s:List UInt8):∀{p:bJ} (i:Nat),(∀c∈p,c.name≠s)→lE (.prim 2) (.str s) (mL p) i=some none
 | [],_,_=>rfl
 | y::r,i,h=>by
  have h1:(s == y.name)=false:=beq_eq_false_iff_ne.2 fun e=>h y (List.mem_cons_self ..) e.symm
  have ih:=Ba s (p:=r) (i+1) fun c hc=>h c (List.mem_cons_of_mem _ hc)
  simp only[mL,List.map_cons,lE,uP,rO,h1]
  exact ih
def pQ(p:bJ):Prop:=p.Pairwise fun a b=>a.name≠b.name
theorem Kp(s:List UInt8):∀{p:bJ} {c:eQ},pQ p→p.find? (fun c=>decide (c.name=s))=some c→xH (.prim 2) (.str s) (mL p)=some 1
 | [],_,_,h=>by cases h
 | y::r,c,hu,h=>by
  unfold pQ at hu
  rw[List.pairwise_cons]at hu
  simp only[mL,List.map_cons,xH,uP,rO]
  by_cases h1:y.name=s
  ·rw[show(s == y.name)=true by rw[h1];simp,show xH _ _ (r.map _)=some 0 from vN s fun c hc e=>hu.1 c hc (by rw[h1,e])]
  ·rw[show(s == y.name)=false from beq_eq_false_iff_ne.2 fun e=>h1 e.symm]
   rw[List.find?_cons,decide_eq_false h1]at h
   rw[show xH _ _ (r.map _)=some 1 from Kp s hu.2 h]
theorem Lc(s:List UInt8):∀{p:bJ} {c:eQ} (i:Nat),p.find? (fun c=>decide (c.name=s))=some c→∃ j,lE (.prim 2) (.str s) (mL p) i=some (some (j,.agg [.str c.name,.int .i64 c.kind,.int .i64 c.lo,.int .i64 c.hi,.str c.text]))
 | [],_,_,h=>by cases h
 | y::r,c,i,h=>by
  simp only[mL,List.map_cons,lE,uP,rO]
  by_cases h1:y.name=s
  ·rw[List.find?_cons,decide_eq_true h1]at h
   simp only[Option.some.injEq]at h
   subst h
   rw[show(s == y.name)=true by rw[h1];simp]
   exact⟨i,rfl⟩
  ·rw[List.find?_cons,decide_eq_false h1]at h
   rw[show(s == y.name)=false from beq_eq_false_iff_ne.2 fun e=>h1 e.symm]
   exact Lc s (i+1) h
theorem Xm{p:bJ}(hu:pQ p)(z:DV)(s:List UInt8):yL (.prim 2) z true (.str s) (some (mL p))=some (match p.find? (fun c=>decide (c.name=s))with
  | some c=>.tup [.agg [.str c.name,.int .i64 c.kind,.int .i64 c.lo,.int .i64 c.hi,.str c.text],.bool true]
  | none=>.tup [z,.bool false]):=by
 have he:(jK (.prim 2) (.str s) (.str s)).isSome=true:=by simp
 simp only[yL,he,if_true]
 cases hf:p.find? (fun c=>decide (c.name=s))with
 | none =>
  have hn:∀c∈p,c.name≠s:=fun c hc=>by simpa using List.find?_eq_none.1 hf c hc
  simp only[tD,vN s hn,Ba s 0 hn]
  rfl
 | some c =>
  obtain⟨j,hj⟩:=Lc s 0 hf
  simp only[tD,Kp s hu hf,hj]
  rfl
theorem HZ{h:aA}{id:Nat}{p:bJ}{c:eQ}(hn:∀d∈p,d.name≠c.name)(hl:h.lim≤id):PT h (.prim 2) id (.str c.name) (.agg [.str c.name,.int .i64 c.kind,.int .i64 c.lo,.int .i64 c.hi,.str c.text]) (some (.mp (mL p)))=some (h.set id (.mp (mL (p++[c])))):=by
 have he:(jK (.prim 2) (.str c.name) (.str c.name)).isSome=true:=by simp
 simp only[PT,he,hl,and_self,if_true,tD,vN c.name hn,Ba c.name 0 hn]
 simp[mL]
def jS(a b:bJ):Bool:=a.all fun c=>match b.find? (fun x=>decide (x.name=c.name))with
 | some x=>pC c x
 | none=>false
theorem l144(S:List Fr)(b:bJ)(hb:pQ b)(hl:b.length≤1000000)(a:bJ) :
  ∀(rest done:bJ) (i:Nat) (f:cT) (h:aA),b=done++rest→done.length=i→f 0=eL false 5 aO a→f 5=.map 0→f 13=eL false 5 aO b→f 14=.int .i64 b.length→f 15=.int .i64 i→h.get 0=some (.mp (mL done))→h.lim=0→1≤h.n→WF h →
  ∃ f' h',run D 46 (.block 0::.seq Qe::S) (.loop Qd) f h=run D 46 S Qe f' h'∧f' 0=eL false 5 aO a∧f' 5=.map 0∧h'.get 0=some (.mp (mL b))∧h'.lim=0∧1≤h'.n∧WF h':=by
 intro rest
 induction rest with
 | nil =>
  intro done i f h hd hi h0 h5 lY Gc zC g aL hn wf
  have:¬(i<b.length):=by rw[hd];simp;omega
  rw[aC Qd.eq_1]
  simp[Gc,zC,this]
  exact⟨_,_,rfl,by simp[h0],by simp[h5],by rw[hd];simpa using g,aL,hn,wf⟩
 | cons c rest ih =>
  intro done i f h hd hi h0 h5 lY Gc zC g aL hn wf
  have bC:i<b.length:=by rw[hd];simp;omega
  have he:b[i]=c:=by simp only[hd];rw[List.getElem_append_right (by omega)];simp[hi]
  have hnd:∀d∈done,d.name≠c.name:=by
   intro d hdm
   unfold pQ at hb
   rw[hd,List.pairwise_append]at hb
   exact hb.2.2 d hdm c (List.mem_cons_self ..)
  have n0:¬0=h.n:=by omega
  have l0:0<h.n:=by omega
  have m0:¬h.n=0:=by omega
  have sJ:=fun(H:aA) (hl:H.lim≤0)=>HZ (h:=H) (id:=0) (p:=done) (c:=c) hnd hl
  rw[aC Qd.eq_1]
  simp[h5,lY,Gc,zC,bC,he,aO,aL,n0,m0,l0,g,wf,Ue,sJ]
  rw[aT (by omega) (by omega)]
  generalize hF:upd _ 15 _=F
  refine ih (done++[c]) (i+1) F _ (by rw[hd];simp) (by simp[hi]) ?_ ?_ ?_ ?_ ?_ ?_ ?_ ?_ ?_
  ·rw[←hF];simp[h0]
  ·rw[←hF];simp[h5]
  ·rw[←hF];simp[lY]
  ·rw[←hF];simp[Gc]
  ·rw[←hF];simp
  ·simp[n0,m0,l0,wf]
  ·simp[aL]
  ·simp
  ·simp[wf]
theorem m144(a b:bJ)(hb:pQ b)(hl:a.length≤1000000) :
  ∀(rest:bJ) (i:Nat) (f:cT) (h:aA),a.drop i=rest→f 5=.map 0→f 24=eL false 5 aO a→f 25=.int .i64 a.length→f 26=.int .i64 i→h.get 0=some (.mp (mL b))→h.lim=0→1≤h.n→WF h →
  cW (fin [.t 4] (run D 46 [.block 2,.seq E6] (.loop Qc) f h))=some (.bool (jS rest b)):=by
 intro rest
 induction rest with
 | nil =>
  intro i f h hd h5 h24 h25 h26 g aL hn wf
  have hi:=bH hd
  have:¬(i<a.length):=by omega
  rw[aC Qc.eq_1]
  simp[E6,h25,h26,this,jS]
 | cons c rest ih =>
  intro i f h hd h5 h24 h25 h26 g aL hn wf
  obtain⟨hi,he,eJ⟩:=bR hd
  have n0:¬0=h.n:=by omega
  have m0:¬h.n=0:=by omega
  have hlk:=fun z=>Xm hb z c.name
  rw[aC Qc.eq_1]
  cases hf:b.find? (fun x=>decide (x.name=c.name))with
  | none =>
   rw[hf]at hlk
   simp[h5,h24,h25,h26,hi,he,aO,aL,n0,m0,g,wf,vS,Fb,hlk,turn,jS,hf]
  | some x =>
   rw[hf]at hlk
   cases hw:pC c x with
   | false=>simp[h5,h24,h25,h26,hi,he,aO,aL,n0,m0,g,wf,vS,Fb,hlk,turn,jS,hf,e182,s182,hw]
   | true =>
    simp[h5,h24,h25,h26,hi,he,aO,aL,n0,m0,g,wf,vS,Fb,hlk,turn,e182,s182,hw]
    rw[aT (by omega) (by omega)]
    refine(ih (i+1) _ _ eJ ?_ ?_ ?_ ?_ ?_ ?_ ?_ ?_).trans ?_<;>simp[h5,h24,h25,aO,g,aL,n0,m0,wf,jS,hf,hw]<;>omega
theorem s144(a b:bJ)(hb:pQ b)(FI:a.length≤1000000)(hlb:b.length≤1000000):pcF D CK [bE a,bE b]=some (.bool (jS a b)):=by
 unfold pcF
 rw[aJ _ _ _ _ (by simp[CK])]
 simp only[bE]
 simp[CK]
 generalize hF:upd _ 15 _=F
 obtain⟨f',h',k1,k2,k3,k4,k5,k6,k7⟩:=l144 [] b hb hlb a b [] 0 F (oH.push (.mp [])) (by simp) rfl (by rw[←hF];simp) (by rw[←hF];simp) (by rw[←hF];simp) (by rw[←hF];simp) (by rw[←hF];simp) (by simp[mL]) (by simp) (by simp) (by simp)
 rw[k1]
 clear hF k1
 simp[Qe,k2]
 refine(m144 a b hb FI a 0 _ h' rfl ?_ ?_ ?_ ?_ k4 k5 k6 k7)<;>simp[k3]
end Go.Dm.Tc
/-
What functions of the program compute,part 15: an entry's place;an entry found;a tree's entries.
-/
namespace Go.Dm.Tc
def fB(tree sub:ID)(e:aX):Int:=if e.tree=tree∧e.sub=sub then 0 else if kK e.tree tree=true∨(e.tree=tree∧kK e.sub sub=true)then -1 else 1
theorem mS{a b:ID}:kK a b=true↔a.aW<b.aW∨a.aW=b.aW∧a.seq<b.seq:=by
 unfold kK;rw[decide_eq_true_iff,iV]
theorem ID.ext'{a b:ID}:a=b↔a.aW=b.aW∧a.seq=b.seq:=by cases a;cases b;simp
theorem yG{tree sub:ID}{e:aX}:fB tree sub e<0↔kK e.tree tree=true∨(e.tree=tree∧kK e.sub sub=true):=by
 unfold fB
 split
 ·rename_i h
  rw[h.1,h.2,mS,mS]
  constructor
  ·intro q;omega
  ·rintro(q|⟨_,q⟩)<;>omega
 ·split
  ·rename_i h;exact⟨fun _=>h,fun _=>by decide⟩
  ·rename_i h;exact⟨fun q=>by omega,fun q=>absurd q h⟩
theorem nA{tree sub:ID}{e:aX}:fB tree sub e=0↔e.tree=tree∧e.sub=sub:=by
 unfold fB
 split
 ·rename_i h;exact⟨fun _=>h,fun _=>rfl⟩
 ·rename_i h
  split<;>exact⟨fun q=>by omega,fun q=>absurd q h⟩
theorem SJ(a b:aX):ltE a b=true↔fB b.tree b.sub a<0:=by
 rw[yG,mS,mS]
 unfold ltE cmpE orI
 rw[decide_eq_true_iff]
 split
 ·rename_i h
  rw[uS]at h
  rw[iV,h]
  constructor
  ·intro q;exact .inr ⟨rfl,q⟩
  ·rintro(q|⟨_,q⟩)
   ·omega
   ·exact q
 ·rename_i h
  rw[uS]at h
  rw[iV]
  constructor
  ·intro q;exact .inl q
  ·rintro(q|⟨q,_⟩)
   ·exact q
   ·exact absurd q h
def fR(l:List aX):Prop:=l.Pairwise fun a b=>fB b.tree b.sub a<0
theorem Ae{t s:ID}{a b:aX}(h1:fB b.tree b.sub a<0)(h2:fB t s b≤0):fB t s a<0:=by
 rw[yG,mS,mS]at *
 by_cases h0:fB t s b=0
 ·rw[nA]at h0
  rw[h0.1,h0.2]at h1
  exact h1
 ·have h3:fB t s b<0:=by omega
  rw[yG,mS,mS]at h3
  rw[ID.ext']at *
  omega
theorem UP{l:List aX}(h:fR l)(t s:ID):∀i j (hi:i<l.length) (hj:j<l.length),i≤j→fB t s l[j]<0→fB t s l[i]<0:=by
 intro i j hi hj SY bC
 rcases Nat.lt_or_eq_of_le SY with hl|rfl
 ·exact Ae (List.pairwise_iff_getElem.1 h i j hi hj hl) (by omega)
 ·exact bC
theorem Ny:∀{l:List aX},fR l→mF ltE l=true
 | [],_=>rfl
 | [a],_=>rfl
 | a::b::r,h=>by
  unfold fR at h
  rw[List.pairwise_cons]at h
  simp only[mF,Bool.and_eq_true]
  exact⟨(SJ a b).2 (h.1 b (List.mem_cons_self ..)),Ny (l:=b::r) h.2⟩
def isE(tree sub:ID)(e:aX):Bool:=decide (e.tree=tree∧e.sub=sub)
theorem hitE{l:List aX}(h:fR l)(t s:ID):match l.find? (isE t s)with
  | some a=>eZ (fB t s) l=true∧l[aV (fB t s) l]?=some a
  | none=>eZ (fB t s) l=false:=by
 cases hf:l.find? (isE t s)with
 | some a =>
  have TD:a.tree=t∧a.sub=s:=by simpa[isE]using List.find?_some hf
  obtain⟨i,hi,xI⟩:=List.mem_iff_getElem.1 (List.mem_of_find?_eq_some hf)
  have h0:fB t s a=0:=nA.2 TD
  have hk:aV (fB t s) l=i:=by
   refine pK (Nat.le_of_lt hi) (fun q hq=>?_) (fun hq=>?_)
   ·exact Ae (List.pairwise_iff_getElem.1 h q i (by omega) hi hq) (by rw[xI,h0];decide)
   ·rw[xI,h0];decide
  have Ya:l[aV (fB t s) l]?=some a:=by rw[hk,List.getElem?_eq_getElem hi,xI]
  refine⟨?_,Ya⟩
  unfold eZ
  rw[Ya]
  simp[h0]
 | none =>
  unfold eZ
  cases hg:l[aV (fB t s) l]? with
  | none=>rfl
  | some a =>
   have:=List.find?_eq_none.1 hf a (List.mem_of_getElem? hg)
   simp only[decide_eq_false_iff_not]
   rw[nA]
   simpa[isE]using this
theorem s195(tg:Bool)(e:aX)(c d t1 t2:Int):pcF D Uy [.agg [.int .i64 e.tree.aW,.int .i64 e.tree.seq,.int .i64 e.sub.aW,.int .i64 e.sub.seq,bE e.pred,.int .i64 e.bK,.bool e.up],.agg [.int .i64 c,.int .i64 d],.iptr tg [.int .i64 t1,.int .i64 t2] 0]=some (.int .i64 (fB ⟨t1,t2⟩ ⟨c,d⟩ e)):=by
 obtain⟨⟨a1,a2⟩,⟨b1,b2⟩,p,q,u⟩:=e
 unfold pcF
 rw[aJ _ _ _ _ (by simp[Uy])]
 simp only
 have hA:((a1 == t1) && (a2 == t2))=decide ((⟨a1,a2⟩:ID)=⟨t1,t2⟩):=by by_cases h1:a1=t1<;>by_cases h2:a2=t2<;>simp[h1,h2]
 have hB:((b1 == c) && (b2 == d))=decide ((⟨b1,b2⟩:ID)=⟨c,d⟩):=by by_cases h1:b1=c<;>by_cases h2:b2=d<;>simp[h1,h2]
 by_cases h1:(⟨a1,a2⟩:ID)=⟨t1,t2⟩
 ·rw[decide_eq_true h1]at hA
  have bC:kK ⟨a1,a2⟩ ⟨t1,t2⟩=false:=by rw[h1];simp[kK,(uS (a:=⟨t1,t2⟩)).2 rfl]
  by_cases h2:(⟨b1,b2⟩:ID)=⟨c,d⟩
  ·rw[decide_eq_true h2]at hB
   simp[Uy,-Bool.and_eq_true,-beq_iff_eq,hA,hB,fB,h1,h2]
  ·rw[decide_eq_false h2]at hB
   cases hs:kK ⟨b1,b2⟩ ⟨c,d⟩<;>simp[Uy,-Bool.and_eq_true,-beq_iff_eq,hA,hB,fB,eq_true h1,h2,e70,s70,bC,hs]
 ·rw[decide_eq_false h1]at hA
  cases bC:kK ⟨a1,a2⟩ ⟨t1,t2⟩<;>simp[Uy,-Bool.and_eq_true,-beq_iff_eq,hA,fB,h1,e70,s70,bC]
end Go.Dm.Tc
/-
What functions of the program compute,part 16: an entry found;a tree's entries;is a predicate covered?
-/
namespace Go.Dm.Tc
theorem s156(x0 x1 x2 x3 x5:DV)(t:Bool)(l:List aX)(a b c d:Int)(hr:fR l)(hl:l.length≤1000000) :
  pcF D CD [.agg [x0,x1,x2,x3,eL t 7 aD l,x5],.agg [.int .i64 a,.int .i64 b],.agg [.int .i64 c,.int .i64 d]]=some (.tup [.int .i64 (aV (fB ⟨a,b⟩ ⟨c,d⟩) l),.bool (eZ (fB ⟨a,b⟩ ⟨c,d⟩) l)]):=by
 have hb:=s194 t l c d 195 [.iptr true [.int .i64 a,.int .i64 b] 0] (fB ⟨a,b⟩ ⟨c,d⟩) (fun x _ h=>by simp[aD,e195,s195]) hl (UP hr ⟨a,b⟩ ⟨c,d⟩)
 unfold pcF
 rw[aJ _ _ _ _ (by simp[CD])]
 simp[CD,e194,hb,aI]
def ofT(tree:ID)(l:List aX):List aX:=l.filter fun e=>decide (e.tree=tree)
theorem l142(t:Bool)(l:List aX)(c d:Int)(hl:l.length≤1000000)(h0:aA)(g1:h0.get 1=some (.arr 40 2 [.agg [.int .i64 c,.int .i64 d]] (some 1)))(aL:h0.lim=0)(hn:2≤h0.n) :
  ∀(rest eR:List aX) (i:Nat) (f:cT) (h:aA),l.drop i=rest→eR.length≤i→f 3=.ptr 1 2 0 0→f 9=eL t 7 aD l→f 10=.int .i64 l.length→f 11=.int .i64 i→OwnR 2 h (f 5) 114 7 (eR.map aD)→Ext 2 h0 h →
  cW (fin [.t 4] (run D 25 [.block 0,.seq E7] (.loop Qf) f h))=some (eL false 7 aD (eR++ofT ⟨c,d⟩ rest)):=by
 intro rest
 induction rest with
 | nil =>
  intro eR i f h hd ha h3 h9 hY lG ho hx
  have hi:=bH hd
  have:¬(i<l.length):=by omega
  rw[aC Qf.eq_1]
  simp only[ofT,List.filter_nil,List.append_nil]
  have hout:=ho.out (k:=22) (fun y _=>(cA y).1.mono (by decide)) (fun y _=>(cA y).2) (by decide)
  simp[E7,hY,lG,this,-hZ]
  exact hout
 | cons e rest ih =>
  intro eR i f h hd ha h3 h9 hY lG ho hx
  obtain⟨hi,he,eJ⟩:=bR hd
  have hlH:h.lim=0:=hx.lim.trans aL
  have Og:=(hx.get 1 (by decide)).trans g1
  have hnh:=hx.le
  have n1:¬1=h.n:=by omega
  have hw:IntKind.i64.wrap ((i:Int)+1)=(i:Int)+1:=aT (by omega) (by omega)
  rw[aC Qf.eq_1]
  by_cases hc:e.tree=⟨c,d⟩
  ·have uL:e.tree.aW=c:=by rw[hc]
   have Av:e.tree.seq=d:=by rw[hc]
   have hf:ofT ⟨c,d⟩ (e::rest)=e::ofT ⟨c,d⟩ rest:=by simp[ofT,hc]
   rw[hf,List.append_cons]
   simp[h3,h9,hY,lG,hi,he,hlH,Og,n1,aD,uL,Av]
   generalize hA:aY _ _ _ _ _ _=A
   obtain⟨v',h',rfl,Kk,uG,_⟩:=ho.push.push.append hx.push.push.wf (hx.push.push.le) (by simp[hlH]) hA (by simp;omega) (by decide)
   clear hA
   simp[lG,hw]
   generalize hF:upd _ 11 _=F
   have:=ih (eR++[e]) (i+1) F h' eJ (by simp;omega) (by rw[←hF];simp[h3]) (by rw[←hF];simp[h9]) (by rw[←hF];simp[hY]) (by rw[←hF];simp) (by rw[←hF];simp;simpa[aD,uL,Av]using Kk) (hx.push.push.trans uG)
   simpa using this
  ·have Ua:=qD hc
   simp only at Ua
   have hf:ofT ⟨c,d⟩ (e::rest)=ofT ⟨c,d⟩ rest:=by simp[ofT,hc]
   rw[hf]
   simp[h3,h9,hY,lG,hi,he,hlH,Og,n1,aD,Ua,hw]
   generalize hF:upd _ 11 _=F
   exact ih eR (i+1) F _ eJ (by omega) (by rw[←hF];simp[h3]) (by rw[←hF];simp[h9]) (by rw[←hF];simp[hY]) (by rw[←hF];simp) (by rw[←hF];simp;exact ho.push) hx.push
theorem s142(x0 x1 x2 x3 x5:DV)(t:Bool)(l:List aX)(c d:Int)(hl:l.length≤1000000) :
  pcF D E8 [.agg [x0,x1,x2,x3,eL t 7 aD l,x5],.agg [.int .i64 c,.int .i64 d]]=some (eL false 7 aD (ofT ⟨c,d⟩ l)):=by
 unfold pcF
 rw[aJ _ _ _ _ (by simp[E8])]
 simp[E8,-hZ]
 refine(l142 t l c d hl _ ?_ ?_ ?_ l [] 0 _ _ rfl (by simp) ?_ ?_ ?_ ?_ ?_ (Ext.refl ?_ ?_))<;>simp
 exact .nil rfl rfl
theorem s143(tg:Bool)(e:aX)(p:bJ)(hu:pQ p)(hp:p.length≤1000000)(he:e.pred.length≤1000000):pcF D CL [.agg [.int .i64 e.tree.aW,.int .i64 e.tree.seq,.int .i64 e.sub.aW,.int .i64 e.sub.seq,bE e.pred,.int .i64 e.bK,.bool e.up],.iptr tg [bE p] 0]=some (.bool (e.up && jS e.pred p)):=by
 unfold pcF
 rw[aJ _ _ _ _ (by simp[CL])]
 cases e.up<;>simp[CL,e144,s144,hu,hp,he]
def cK(l:List aX)(tree:ID)(p:bJ):Bool:=(ofT tree l).any fun e=>e.up && jS e.pred p
theorem s90(x0 x1 x2 x3 x5:DV)(t:Bool)(l:List aX)(c d:Int)(p:bJ)(hl:l.length≤1000000)(hu:pQ p)(hp:p.length≤1000000)(he:∀e∈l,e.pred.length≤1000000)(f0:jP 20 x0)(f1:jP 20 x1)(f2:jP 20 x2)(f3:jP 20 x3)(f5:jP 20 x5) :
  pcF D t90 [.agg [x0,x1,x2,x3,eL t 7 aD l,x5],.agg [.int .i64 c,.int .i64 d],bE p]=some (.bool (cK l ⟨c,d⟩ p)):=by
 have g0:∀h,resolve true h 199 x0=some x0:=fun h=>f0 _ _ _ (by decide)
 have g1:∀h,resolve true h 199 x1=some x1:=fun h=>f1 _ _ _ (by decide)
 have g2:∀h,resolve true h 199 x2=some x2:=fun h=>f2 _ _ _ (by decide)
 have g3:∀h,resolve true h 199 x3=some x3:=fun h=>f3 _ _ _ (by decide)
 have g5:∀h,resolve true h 199 x5=some x5:=fun h=>f5 _ _ _ (by decide)
 have dS:(ofT ⟨c,d⟩ l).length≤1000000:=Nat.le_trans (List.length_filter_le ..) hl
 have PJ:=s84 false (ofT ⟨c,d⟩ l) 143 [.iptr true [bE p] 0] (fun e=>e.up && jS e.pred p) (fun x hx=>by
  simp only[List.mem_singleton]at hx;subst hx;exact(FO _ _ _).mono (by decide)) (fun x hx h=>by
  have:=he x (List.mem_filter.1 hx).1
  simp[aD,e143,s143,hu,hp,this]) dS
 unfold pcF
 rw[aJ _ _ _ _ (by simp[t90])]
 simp[t90,e142,s142,g0,g1,g2,g3,g5,hl,e84,PJ,cK,-List.any_eq_true]
end Go.Dm.Tc
/-
What functions of the program compute,part 17: is a broker tight?
-/
namespace Go.Dm.Tc
def dR(b:aH)(x:ID):Int:=((b.aR.find? fun a=>a.id=x).getD qA).bN
def IK(b:aH)(e:aX):Bool:=e.up || decide (dR b e.tree=-1) || cK b.entries e.tree e.pred
def C1(b:aH):Bool:=b.entries.all (IK b)
structure T8(b:aH):Prop where
 unl:∀e∈b.entries,pQ e.pred
 len:∀e∈b.entries,e.pred.length≤1000000
end Go.Dm.Tc
/-
What the reference's functions compute,part 4: an entry's place;is a predicate covered?
-/
namespace Go.Dm.Tc
theorem l147(h0:aA)(a b c d:Int)(t:Bool)(l:List aX)(hl:l.length≤1000000)(g1:h0.get 1=some (.arr 40 2 [.agg [.int .i64 a,.int .i64 b]] (some 1)))(g2:h0.get 2=some (.arr 40 2 [.agg [.int .i64 c,.int .i64 d]] (some 1)))(aL:h0.lim=0) :
  ∀(rest:List aX) (i:Nat) (f:cT) (h:aA),l.drop i=rest→f 4=.ptr 1 2 0 0→f 5=.ptr 2 2 0 0→f 10=eL t 7 aD l→f 11=.int .i64 l.length→f 12=.int .i64 i→Ext 3 h0 h →
  cW (fin [.t 6] (run D 29 [.block 0,.seq Pz] (.loop Ip) f h))=some (.int .i64 (gV ((rest.findIdx? (isE ⟨a,b⟩ ⟨c,d⟩)).map (·+i)))):=by
 intro rest
 induction rest with
 | nil =>
  intro i f h hd h4 h5 hY lG gE hx
  have hi:=bH hd
  have:¬(i<l.length):=by omega
  rw[aC Ip.eq_1]
  simp[Pz,lG,gE,this,gV]
 | cons e rest ih =>
  intro i f h hd h4 h5 hY lG gE hx
  obtain⟨hi,he,eJ⟩:=bR hd
  have Og:=(hx.get 1 (by decide)).trans g1
  have HM:=(hx.get 2 (by decide)).trans g2
  have hnh:=hx.le
  have n1:¬1=h.n:=by omega
  have n2:¬2=h.n:=by omega
  have sZ:h.lim=0:=hx.lim.trans aL
  have hw:IntKind.i64.wrap ((i:Int)+1)=(i:Int)+1:=aT (by omega) (by omega)
  rw[aC Ip.eq_1]
  have next:∀F H,isE ⟨a,b⟩ ⟨c,d⟩ e=false→F 4=.ptr 1 2 0 0→F 5=.ptr 2 2 0 0→F 10=eL t 7 aD l→F 11=.int .i64 l.length→F 12=.int .i64 ((i:Int)+1)→Ext 3 h0 H→cW (fin [.t 6] (run D 29 [.block 0,.seq Pz] (.loop Ip) F H))=some (.int .i64 (gV (((e::rest).findIdx? (isE ⟨a,b⟩ ⟨c,d⟩)).map (·+i)))):=fun F H q a1 a2 a3 a4 a5 a6=>by
   refine(ih (i+1) F H eJ a1 a2 a3 a4 (by rw[a5];simp) a6).trans ?_
   simp[List.findIdx?_cons,q]
   congr 2
   funext q
   simp
   omega
  by_cases h1:e.tree=⟨a,b⟩
  ·have uL:e.tree.aW=a:=by rw[h1]
   have Av:e.tree.seq=b:=by rw[h1]
   by_cases h2:e.sub=⟨c,d⟩
   ·have hc3:e.sub.aW=c:=by rw[h2]
    have hc4:e.sub.seq=d:=by rw[h2]
    have hq:isE ⟨a,b⟩ ⟨c,d⟩ e=true:=by simp[isE,h1,h2]
    simp[h4,h5,hY,lG,gE,hi,he,n1,n2,Og,HM,aD,sZ,uL,Av,hc3,hc4,hq,List.findIdx?_cons,gV]
   ·have Ub:=qD h2
    simp only at Ub
    have hq:isE ⟨a,b⟩ ⟨c,d⟩ e=false:=by simp[isE,h2]
    simp[h4,h5,hY,lG,gE,hi,he,n1,n2,Og,HM,aD,sZ,uL,Av,Ub,hw]
    exact next _ _ hq (by simp[h4]) (by simp[h5]) (by simp[hY]) (by simp[lG]) (by simp) hx.push
  ·have tN:=qD h1
   simp only at tN
   have hq:isE ⟨a,b⟩ ⟨c,d⟩ e=false:=by simp[isE,h1]
   simp[h4,h5,hY,lG,gE,hi,he,n1,n2,Og,HM,aD,sZ,tN,hw]
   exact next _ _ hq (by simp[h4]) (by simp[h5]) (by simp[hY]) (by simp[lG]) (by simp) hx.push
theorem s147(x0 x1 x2 x3 x5:DV)(t:Bool)(l:List aX)(a b c d:Int)(hl:l.length≤1000000) :
  pcF D CH [.agg [x0,x1,x2,x3,eL t 7 aD l,x5],.agg [.int .i64 a,.int .i64 b],.agg [.int .i64 c,.int .i64 d]]=some (.int .i64 (gV (l.findIdx? (isE ⟨a,b⟩ ⟨c,d⟩)))):=by
 unfold pcF
 rw[aJ _ _ _ _ (by simp[CH])]
 simp[CH]
 refine(l147 _ a b c d t l hl ?_ ?_ ?_ l 0 _ _ rfl ?_ ?_ ?_ ?_ ?_ (Ext.refl ?_ ?_)).trans ?_<;>simp
def jD(a b:eQ):Bool :=
 if a.kind=1 then decide (b.kind=1) && decide (b.lo≤a.lo) && decide (a.hi≤b.hi)
 else if b.kind=2 then decide (a.kind=2) && (a.text == b.text)
 else decide (b.kind=3) && iN a.text b.text
theorem s215(a b:eQ):pcF D Gr [.agg [.str a.name,.int .i64 a.kind,.int .i64 a.lo,.int .i64 a.hi,.str a.text],.agg [.str b.name,.int .i64 b.kind,.int .i64 b.lo,.int .i64 b.hi,.str b.text]]=some (.bool (jD a b)):=by
 obtain⟨nm,k,lo,hi,tx⟩:=a
 obtain⟨nm',k',lo',gJ,tx'⟩:=b
 unfold pcF
 rw[aJ _ _ _ _ (by simp[Gr])]
 simp only
 by_cases k1:k=1
 ·subst k1
  by_cases j:k'=1
  ·by_cases h1:lo'≤lo
   ·simp[Gr,jD,j,h1]
   ·simp[Gr,jD,j,h1]
  ·simp[Gr,jD,j]
 ·by_cases k2:k'=2
  ·subst k2
   by_cases j:k=2
   ·simp[Gr,jD,j]
   ·simp[Gr,jD,k1,j]
  ·by_cases k3:k'=3
   ·subst k3
    simp[Gr,jD,k1,TS,RA]
   ·simp[Gr,jD,k1,k2,k3]
theorem Nc{c x:eQ}(hx:dC x=true):jD x c=pC c x:=by
 have hk:x.kind=1∨x.kind=2∨x.kind=3:=by
  unfold dC at hx
  rw[Bool.and_eq_true]at hx
  have:=hx.2
  split at this
  ·rename_i h;exact .inl h
  ·split at this
   ·rename_i h;exact .inr (.inr h)
   ·split at this
    ·rename_i h;exact .inr (.inl h)
    ·cases this
 unfold jD pC iY
 rcases hk with h|h|h
 ·simp[h]
 ·by_cases h2:c.kind=2
  ·simp[h,h2]
  ·by_cases h3:c.kind=3<;>simp[h,h2,h3]
 ·by_cases h2:c.kind=2
  ·simp[h,h2]
  ·simp[h,h2]
end Go.Dm.Tc
/-
What the reference's functions compute,part 5: does a predicate cover another one? is it covered?
-/
namespace Go.Dm.Tc
def inC(x:eQ)(b:bJ):Bool:=b.any fun y=>decide (y.name=x.name) && jD y x
theorem l184(S:List Fr)(b:bJ)(hl:b.length≤1000000)(a:bJ)(x:eQ)(n11:DV)(i12:DV)(id:Nat) :
  ∀(rest:bJ) (i:Nat) (eR:Bool) (f:cT) (h:aA),b.drop i=rest→f 1=eL false 5 aO b→f 10=eL false 5 aO a→f 11=n11→f 12=i12→f 6=.ptr id 5 0 0→f 7=.bool eR→f 16=eL false 5 aO b→f 17=.int .i64 b.length→f 18=.int .i64 i →
   h.get id=some (.arr 96 5 [aO x] (some 1))→h.lim=0→WF h →
  ∃ f' h',run D 39 (.block 2::.seq zZ::S) (.loop Il) f h=run D 39 S zZ f' h'∧f' 1=eL false 5 aO b∧f' 10=eL false 5 aO a∧f' 11=n11∧f' 12=i12∧f' 7=.bool (eR || inC x rest)∧h'.lim=0∧WF h':=by
 intro rest
 induction rest with
 | nil =>
  intro i eR f h hd h1 hY lG gE h6 h7 zO Cz h18 g aL wf
  have hi:=bH hd
  have:¬(i<b.length):=by omega
  rw[aC Il.eq_1]
  simp[Cz,h18,this]
  exact⟨_,_,rfl,by simp[h1],by simp[hY],by simp[lG],by simp[gE],by simp[h7,inC],aL,wf⟩
 | cons y rest ih =>
  intro i eR f h hd h1 hY lG gE h6 h7 zO Cz h18 g aL wf
  obtain⟨hi,he,eJ⟩:=bR hd
  have bC:=bB g
  have n0:¬id=h.n:=by omega
  have hw:IntKind.i64.wrap ((i:Int)+1)=(i:Int)+1:=aT (by omega) (by omega)
  simp only[aO]at g
  rw[aC Il.eq_1]
  have rX:(eR || inC x (y::rest))=((eR || (decide (y.name=x.name) && jD y x)) || inC x rest):=by simp[inC,Bool.or_assoc]
  rw[rX]
  have next:∀(F:cT) (acc':Bool),F 1=eL false 5 aO b→F 10=eL false 5 aO a→F 11=n11→F 12=i12→F 6=.ptr id 5 0 0→F 7=.bool acc'→F 16=eL false 5 aO b→F 17=.int .i64 b.length→F 18=.int .i64 ((i:Int)+1) →
    ∃ f' h',run D 39 (.block 2::.seq zZ::S) (.loop Il) F (h.push (.arr 96 5 [.agg [.str y.name,.int .i64 y.kind,.int .i64 y.lo,.int .i64 y.hi,.str y.text]] (some 1)))=run D 39 S zZ f' h'∧f' 1=eL false 5 aO b∧f' 10=eL false 5 aO a∧f' 11=n11∧f' 12=i12∧f' 7=.bool (acc' || inC x rest)∧h'.lim=0∧WF h':=fun F acc' a1 a2 a3 a4 a5 a6 a7 a8 a9 =>
   ih (i+1) acc' F _ eJ a1 a2 a3 a4 a5 a6 a7 a8 (by rw[a9];simp) (by rw[cM,if_neg n0];exact g) aL wf.push
  cases eR with
  | true =>
   simp[h1,h6,h7,zO,Cz,h18,hi,he,aO,aL,n0,g,hw]
   generalize hF:upd _ 18 _=F
   have:=next F true (by rw[←hF];simp[h1]) (by rw[←hF];simp[hY]) (by rw[←hF];simp[lG]) (by rw[←hF];simp[gE]) (by rw[←hF];simp[h6]) (by rw[←hF];simp) (by rw[←hF];simp[zO,aO]) (by rw[←hF];simp[Cz]) (by rw[←hF];simp)
   simpa using this
  | false =>
   by_cases hn:y.name=x.name
   ·simp[h1,h6,h7,zO,Cz,h18,hi,he,aO,aL,n0,g,hw,eq_true hn,beq_iff_eq.2 hn,e215,s215]
    generalize hF:upd _ 18 _=F
    have:=next F (jD y x) (by rw[←hF];simp[h1]) (by rw[←hF];simp[hY]) (by rw[←hF];simp[lG]) (by rw[←hF];simp[gE]) (by rw[←hF];simp[h6]) (by rw[←hF];simp) (by rw[←hF];simp[zO,aO]) (by rw[←hF];simp[Cz]) (by rw[←hF];simp)
    simpa using this
   ·simp[h1,h6,h7,zO,Cz,h18,hi,he,aO,aL,n0,g,hw,hn]
    generalize hF:upd _ 18 _=F
    have:=next F false (by rw[←hF];simp[h1]) (by rw[←hF];simp[hY]) (by rw[←hF];simp[lG]) (by rw[←hF];simp[gE]) (by rw[←hF];simp[h6]) (by rw[←hF];simp) (by rw[←hF];simp[zO,aO]) (by rw[←hF];simp[Cz]) (by rw[←hF];simp)
    simpa using this
theorem m184(a b:bJ)(FI:a.length≤1000000)(hl:b.length≤1000000) :
  ∀(rest:bJ) (i:Nat) (f:cT) (h:aA),a.drop i=rest→f 1=eL false 5 aO b→f 10=eL false 5 aO a→f 11=.int .i64 a.length→f 12=.int .i64 i→h.lim=0→WF h →
  cW (fin [.t 4] (run D 39 [.block 0,.seq Pn] (.loop Ik) f h))=some (.bool (rest.all fun x=>inC x b)):=by
 intro rest
 induction rest with
 | nil =>
  intro i f h hd h1 hY lG gE aL wf
  have hi:=bH hd
  have:¬(i<a.length):=by omega
  rw[aC Ik.eq_1]
  simp[Pn,lG,gE,this]
 | cons x rest ih =>
  intro i f h hd h1 hY lG gE aL wf
  obtain⟨hi,he,eJ⟩:=bR hd
  have hw:IntKind.i64.wrap ((i:Int)+1)=(i:Int)+1:=aT (by omega) (by omega)
  rw[aC Ik.eq_1]
  simp[h1,hY,lG,gE,hi,he,aO,aL]
  generalize hF:upd _ 18 _=F
  obtain⟨f',h',k1,k2,k3,k4,k5,k6,k7,k8⟩:=l184 (.block 1::.seq D3::.loop Ik::[.block 0,.seq Pn]) b hl a x (.int .i64 a.length) (.int .i64 i) h.n b 0 false F (h.push (.arr 96 5 [aO x] (some 1))) rfl (by rw[←hF];simp[h1]) (by rw[←hF];simp[hY,aO]) (by rw[←hF];simp[lG]) (by rw[←hF];simp[gE]) (by rw[←hF];simp) (by rw[←hF];simp) (by rw[←hF];simp[aO]) (by rw[←hF];simp) (by rw[←hF];simp) (by simp) (by exact aL) wf.push
  simp only[aO]at k1
  rw[k1]
  clear hF k1
  simp only[Bool.false_or]at k6
  cases hq:inC x b with
  | false =>
   rw[hq]at k6
   simp[zZ,k6,hq]
  | true =>
   rw[hq]at k6
   simp[zZ,D3,k5,k6,hq,hw]
   refine(ih (i+1) _ h' eJ ?_ ?_ ?_ ?_ k7 k8).trans ?_<;>simp[k2,k3,k4]
theorem s184(a b:bJ)(FI:a.length≤1000000)(hl:b.length≤1000000):pcF D D4 [bE a,bE b]=some (.bool (a.all fun x=>inC x b)):=by
 unfold pcF
 rw[aJ _ _ _ _ (by simp[D4])]
 simp only[bE]
 simp[D4]
 refine(m184 a b FI hl a 0 _ _ rfl ?_ ?_ ?_ ?_ ?_ ?_).trans ?_<;>simp
end Go.Dm.Tc
/-
Plain laws,part 3: names of right predicates are unlike;the two coverings are alike. The reference's Covered.
-/
namespace Go.Dm.Tc
theorem IG{a b:UInt8}:(decide (a<b))=decide (a.toNat<b.toNat):=by
 by_cases h:a<b
 ·rw[decide_eq_true h,decide_eq_true (UInt8.lt_iff_toNat_lt.1 h)]
 ·rw[decide_eq_false h,decide_eq_false (fun q=>h (UInt8.lt_iff_toNat_lt.2 q))]
theorem OP:∀a:List UInt8,Go.Op.bytesLess a a=false
 | []=>rfl
 | a::r=>by simp only[Go.Op.bytesLess,IG,OP r];simp
theorem xX:∀{a b c:List UInt8},Go.Op.bytesLess a b=true→Go.Op.bytesLess b c=true→Go.Op.bytesLess a c=true
 | _,[],_,h,_=>by cases ‹List UInt8›<;>simp[Go.Op.bytesLess]at h
 | _,_::_,[],_,h=>by simp[Go.Op.bytesLess]at h
 | [],_::_,_::_,_,_=>rfl
 | a::x,b::y,c::z,h1,h2=>by
  simp only[Go.Op.bytesLess,IG,Bool.or_eq_true,Bool.and_eq_true,decide_eq_true_iff,beq_iff_eq]at *
  rcases h1 with h1|⟨rfl,h1⟩
  ·rcases h2 with h2|⟨rfl,h2⟩
   ·exact .inl (by omega)
   ·exact .inl h1
  ·rcases h2 with h2|⟨rfl,h2⟩
   ·exact .inl h2
   ·exact .inr ⟨rfl,xX h1 h2⟩
theorem Cj:∀{p:bJ} {prev:Option (List UInt8)},mG prev p=true→(∀n,prev=some n→∀c∈p,Go.Op.bytesLess n c.name=true)∧p.Pairwise fun a b=>Go.Op.bytesLess a.name b.name=true
 | [],_,_=>⟨fun _ _ _ h=>(by cases h),List.Pairwise.nil⟩
 | c::r,prev,h=>by
  simp only[mG,Bool.and_eq_true]at h
  obtain⟨⟨_,h2⟩,h3⟩:=h
  obtain⟨k1,k2⟩:=Cj h3
  refine⟨fun n hn d hd=>?_,List.pairwise_cons.2 ⟨fun d hd=>k1 c.name rfl d hd,k2⟩⟩
  subst hn
  rcases List.mem_cons.1 hd with rfl|hd
  ·exact h2
  ·exact xX h2 (k1 c.name rfl d hd)
theorem Fw:∀{p:bJ} {prev:Option (List UInt8)},mG prev p=true→∀c∈p,dC c=true
 | [],_,_,_,h=>by cases h
 | c::r,prev,h,d,hd=>by
  simp only[mG,Bool.and_eq_true]at h
  rcases List.mem_cons.1 hd with rfl|hd
  ·exact h.1.1
  ·exact Fw h.2 d hd
theorem cB.unlike{p:bJ}(h:cB p):pQ p:=by
 have:=h.right
 unfold tK at this
 rw[Bool.and_eq_true]at this
 refine(Cj this.1).2.imp fun {a b} VE e=>?_
 rw[e,OP]at VE
 cases VE
theorem cB.each{p:bJ}(h:cB p):∀c∈p,dC c=true:=by
 have:=h.right
 unfold tK at this
 rw[Bool.and_eq_true]at this
 exact Fw this.1
theorem cB.nil:cB []:=⟨rfl,⟨by decide,fun c h=>by cases h⟩,by decide⟩
theorem Xs(x:eQ):∀{b:bJ},pQ b→(∀y∈b,dC y=true)→inC x b=match b.find? (fun y=>decide (y.name=x.name))with
  | some y=>pC x y
  | none=>false
 | [],_,_=>rfl
 | y::r,hu,hr=>by
  unfold pQ at hu
  rw[List.pairwise_cons]at hu
  unfold inC
  rw[List.any_cons,List.find?_cons]
  by_cases h:y.name=x.name
  ·rw[decide_eq_true h]
   have:(r.any fun y=>decide (y.name=x.name) && jD y x)=false:=by
    rw[List.any_eq_false]
    intro z hz
    have:¬z.name=x.name:=fun e=>hu.1 z hz (by rw[h,e])
    simp[this]
   rw[this,Bool.true_and,Bool.or_false]
   exact Nc (hr y (List.mem_cons_self ..))
  ·rw[decide_eq_false h,Bool.false_and,Bool.false_or]
   exact Xs x hu.2 fun z hz=>hr z (List.mem_cons_of_mem _ hz)
theorem Rv(a:bJ){b:bJ}(h:cB b):(a.all fun x=>inC x b)=jS a b:=by
 unfold jS
 congr 1
 funext x
 exact Xs x h.unlike h.each
theorem RB(a b:bJ)(FI:a.length≤1000000)(h:cB b):pcF D D4 [bE a,bE b]=some (.bool (jS a b)):=by
 rw[←Rv a h]
 exact s184 a b FI (Nat.le_trans h.len (by decide))
theorem l148(t:Bool)(l:List aX)(c d:Int)(p:bJ)(hl:l.length≤1000000)(hp:cB p)(dH:∀e∈l,e.pred.length≤1000000)(h0:aA)(g1:h0.get 1=some (.arr 40 2 [.agg [.int .i64 c,.int .i64 d]] (some 1)))(aL:h0.lim=0) :
  ∀(rest:List aX) (i:Nat) (f:cT) (h:aA),l.drop i=rest→f 2=bE p→f 4=.ptr 1 2 0 0→f 10=eL t 7 aD l→f 11=.int .i64 l.length→f 12=.int .i64 i→Ext 2 h0 h →
  cW (fin [.t 6] (run D 31 [.block 0,.seq Py] (.loop Io) f h))=some (.bool (cK rest ⟨c,d⟩ p)):=by
 intro rest
 induction rest with
 | nil =>
  intro i f h hd h2 h4 hY lG gE hx
  have hi:=bH hd
  have:¬(i<l.length):=by omega
  rw[aC Io.eq_1]
  simp[Py,lG,gE,this,cK,ofT]
 | cons e rest ih =>
  intro i f h hd h2 h4 hY lG gE hx
  obtain⟨hi,he,eJ⟩:=bR hd
  have Og:=(hx.get 1 (by decide)).trans g1
  have hnh:=hx.le
  have n1:¬1=h.n:=by omega
  have sZ:h.lim=0:=hx.lim.trans aL
  have hw:IntKind.i64.wrap ((i:Int)+1)=(i:Int)+1:=aT (by omega) (by omega)
  have NM:=RB e.pred p (dH e (by rw[←he];exact List.getElem_mem hi)) hp
  have next:∀F H,F 2=bE p→F 4=.ptr 1 2 0 0→F 10=eL t 7 aD l→F 11=.int .i64 l.length→F 12=.int .i64 ((i:Int)+1)→Ext 2 h0 H →
    cW (fin [.t 6] (run D 31 [.block 0,.seq Py] (.loop Io) F H))=some (.bool (cK rest ⟨c,d⟩ p)):=fun F H a1 a2 a3 a4 a5 a6=>ih (i+1) F H eJ a1 a2 a3 a4 (by rw[a5];simp) a6
  rw[aC Io.eq_1]
  by_cases ht:e.tree=⟨c,d⟩
  ·have uL:e.tree.aW=c:=by rw[ht]
   have Av:e.tree.seq=d:=by rw[ht]
   have Ua:cK (e::rest) ⟨c,d⟩ p=((e.up && jS e.pred p) || cK rest ⟨c,d⟩ p):=by simp[cK,ofT,ht]
   rw[Ua]
   cases sJ:e.up with
   | false =>
    simp[h2,h4,hY,lG,gE,hi,he,n1,Og,aD,sZ,uL,Av,sJ,hw]
    exact next _ _ (by simp[h2]) (by simp[h4]) (by simp[hY]) (by simp[lG]) (by simp) hx.push
   | true =>
    cases hcp:jS e.pred p with
    | false =>
     rw[hcp]at NM
     simp[h2,h4,hY,lG,gE,hi,he,n1,Og,aD,sZ,uL,Av,sJ,hw,e184,NM]
     exact next _ _ (by simp[h2]) (by simp[h4]) (by simp[hY]) (by simp[lG]) (by simp) hx.push
    | true =>
     rw[hcp]at NM
     simp[h2,h4,hY,lG,gE,hi,he,n1,Og,aD,sZ,uL,Av,sJ,hw,e184,NM]
  ·have tN:=qD ht
   simp only at tN
   have Ua:cK (e::rest) ⟨c,d⟩ p=cK rest ⟨c,d⟩ p:=by simp[cK,ofT,ht]
   rw[Ua]
   simp[h2,h4,hY,lG,gE,hi,he,n1,Og,aD,sZ,tN,hw]
   exact next _ _ (by simp[h2]) (by simp[h4]) (by simp[hY]) (by simp[lG]) (by simp) hx.push
theorem s148(x0 x1 x2 x3 x5:DV)(t:Bool)(l:List aX)(c d:Int)(p:bJ)(hl:l.length≤1000000)(hp:cB p)(dH:∀e∈l,e.pred.length≤1000000) :
  pcF D CG [.agg [x0,x1,x2,x3,eL t 7 aD l,x5],.agg [.int .i64 c,.int .i64 d],bE p]=some (.bool (cK l ⟨c,d⟩ p)):=by
 unfold pcF
 rw[aJ _ _ _ _ (by simp[CG])]
 simp[CG]
 refine(l148 t l c d p hl hp dH _ ?_ ?_ l 0 _ _ rfl ?_ ?_ ?_ ?_ ?_ (Ext.refl ?_ ?_)).trans ?_<;>simp
end Go.Dm.Tc
/-
What functions of the program compute,part 18: an entry added.
-/
namespace Go.Dm.Tc
def tM(e:aX)(l:List aX):List aX:=l.take (aV (fB e.tree e.sub) l)++e::l.drop (aV (fB e.tree e.sub) l)
def jU(b:aH)(e:aX):Bool :=
 match b.aR.find? (fun a=>a.id=e.tree)with
 | none=>false
 | some a=>!(b.entries.any (isE e.tree e.sub)) && !(decide (e.bK=a.bN) && !decide (a.bN=-1))
def pD(b:aH)(e:aX):Bool:=!decide (dR b e.tree=-1) && !cK b.entries e.tree e.pred
def dW(b:aH)(e:aX):aH×Bool :=
 if jU b e=true then({b with entries:=tM {e with up:=pD b e} b.entries},pD b e)else(b,false)
theorem Yl{l:List aX}{t s:ID}:l.any (isE t s)=gK (l.find? (isE t s)):=by
 cases h:l.find? (isE t s)with
 | none =>
  rw[List.any_eq_false.2]
  ·rfl
  ·intro x hx
   have:=List.find?_eq_none.1 h x hx
   simpa using this
 | some a=>exact List.any_eq_true.2 ⟨a,List.mem_of_find?_eq_some h,List.find?_some h⟩
theorem s105(b:aH)(e:aX)(hs:fG b)(hq:T8 b)(UU:cB e.pred)(ra:eE (b.aR.map (·.id)))(re:fR b.entries) :
  pcF D G4 [aE .none b,.agg [.int .i64 e.tree.aW,.int .i64 e.tree.seq,.int .i64 e.sub.aW,.int .i64 e.sub.seq,bE e.pred,.int .i64 e.bK,.bool e.up]]=some (.tup [aE .none (dW b e).1,.bool (dW b e).2]):=by
 obtain⟨me,aM,adv,seen,ent,own⟩:=b
 obtain⟨⟨tc,td⟩,⟨sc,sd⟩,p,bK,up⟩:=e
 obtain⟨z1,z2,z3,z4,z5⟩:=hs
 simp only at z1 z2 z3 z4 z5 ra re UU
 obtain⟨R,hR⟩:∃ R,R=DV.tup [aE .none (dW ⟨me,aM,adv,seen,ent,own⟩ ⟨⟨tc,td⟩,⟨sc,sd⟩,p,bK,up⟩).1,.bool (dW ⟨me,aM,adv,seen,ent,own⟩ ⟨⟨tc,td⟩,⟨sc,sd⟩,p,bK,up⟩).2]:=⟨_,rfl⟩
 rw[←hR]
 have Aw:adv.length≤1000000:=by omega
 have kZ:ent.length≤1000000:=by omega
 have f1:=fun {α:Type} (t:Bool) (sz:Nat) (e:α→DV) (xs:List α)=>(gS t sz e xs).mono (show 1≤20 by decide)
 have hFd:=fun u4=>s89 (.int .i64 me) (eL false 1 bO aM) (eL false 2 eID seen) (eL u4 7 aD ent) (eL false 3 cP own) false adv tc td ra Aw ((fL _ _).mono (by decide)) (f1 _ _ _ _) (f1 _ _ _ _) (f1 _ _ _ _) (f1 _ _ _ _)
 have hPl:=fun u4=>s156 (.int .i64 me) (eL false 1 bO aM) (eL false 4 aG adv) (eL false 2 eID seen) (eL false 3 cP own) u4 ent tc td sc sd re kZ
 have hCv:=fun u4=>s90 (.int .i64 me) (eL false 1 bO aM) (eL false 4 aG adv) (eL false 2 eID seen) (eL false 3 cP own) u4 ent tc td p kZ UU.unlike (Nat.le_trans UU.len (by decide)) hq.len ((fL _ _).mono (by decide)) (f1 _ _ _ _) (f1 _ _ _ _) (f1 _ _ _ _) (f1 _ _ _ _)
 have wG:=hitE re ⟨tc,td⟩ ⟨sc,sd⟩
 have Ku:=Yl (l:=ent) (t:=⟨tc,td⟩) (s:=⟨sc,sd⟩)
 unfold pcF
 rw[aJ _ _ _ _ (by simp[G4])]
 simp[G4,aE,dA.none,i7]
 generalize hA:dN _ _ _ _ _=A
 obtain⟨v4,K,rfl,o4,x,_⟩:=yR (lo:=3) (qF ..) (by simp) (by simp) (by simp) (by simp;omega) (by decide) hA
 clear hA
 have a0:=x.get 0 (by decide)
 have a1:=x.get 1 (by decide)
 have a2:=x.get 2 (by decide)
 have q0:=x.lim
 have w0:=x.wf
 have n0:=x.le
 simp at a0 a1 a2 q0
 have l0':0<K.n:=by omega
 obtain⟨H,hH⟩:∃ H,H=K.set 0 (.arr 36 6 [.agg [.int .i64 me,eL false 1 bO aM,eL false 4 aG adv,eL false 2 eID seen,v4,eL false 3 cP own]] (some 1)):=⟨_,rfl⟩
 have wH:WF H:=by rw[hH];exact w0.set
 have nH:H.n=K.n:=by rw[hH];rfl
 have lH:H.lim=0:=by rw[hH];exact q0
 have g0:H.get 0=some (.arr 36 6 [.agg [.int .i64 me,eL false 1 bO aM,eL false 4 aG adv,eL false 2 eID seen,v4,eL false 3 cP own]] (some 1)):=by rw[hH,bY w0 l0',if_pos rfl]
 have g1:H.get 1=some (.arr 114 7 [.agg [.int .i64 tc,.int .i64 td,.int .i64 sc,.int .i64 sd,bE p,.int .i64 bK,.bool up]] (some 1)):=by rw[hH,bY w0 l0',if_neg (by decide)];exact a1
 have g2:H.get 2=some (.arr 36 6 [.agg [.int .i64 0,.nsl,.nsl,.nsl,.nsl,.nsl]] (some 1)):=by rw[hH,bY w0 l0',if_neg (by decide)];exact a2
 have st4:=o4.bD
 have ec4:=o4.aP
 replace o4:Own 3 H v4 114 7 (ent.map aD):=by rw[hH];exact o4.aU w0 (by decide) l0'
 simp[a0,a1,a2,q0,w0,l0',st4,ec4,turn]
 rw[←hH]
 clear hH
 have l0:0<H.n:=by omega
 have l1:1<H.n:=by omega
 have l2:2<H.n:=by omega
 have nn0:¬0=H.n:=by omega
 have nn1:¬1=H.n:=by omega
 have nn2:¬2=H.n:=by omega
 have mm0:¬H.n=0:=by omega
 have mm1:¬H.n=1:=by omega
 have mm2:¬H.n=2:=by omega
 have r1:resolve true H 199 v4=some (eL true 7 aD ent):=o4.resolve true (fun y _=>(cA y).1) (by decide)
 have r1p:∀o,resolve true (H.push o) 199 v4=some (eL true 7 aD ent):=fun o=>o4.push.resolve true (fun y _=>(cA y).1) (by decide)
 have r2:∀o o',resolve false ((H.set 2 o').push o) 198 v4=some (eL false 7 aD ent):=fun o o'=>((o4.aU wH (by decide) l2).push).resolve false (fun y _=>(cA y).1) (by decide)
 cases Ho:adv.find? (fun a=>decide (a.id=⟨tc,td⟩))with
 | none =>
  rw[Ho]at hFd
  have wF:jU ⟨me,aM,adv,seen,ent,own⟩ ⟨⟨tc,td⟩,⟨sc,sd⟩,p,bK,up⟩=false:=by simp[jU,Ho]
  simp[g0,g1,g2,lH,wH,nn0,nn1,nn2,mm0,mm1,mm2,l0,l1,l2,e89,hFd,He,hPl,wG,r1,r2,aG,turn,aI,gK,qA,r1p]
  simp[hR,dW,wF,aE,dA.none]
 | some a =>
  rw[Ho]at hFd
  simp only[aG,Option.getD_some]at hFd
  cases yP:ent.find? (isE ⟨tc,td⟩ ⟨sc,sd⟩)with
  | some e2 =>
   rw[yP]at wG Ku
   simp only at wG
   have hhit':=wG.1
   have wF:jU ⟨me,aM,adv,seen,ent,own⟩ ⟨⟨tc,td⟩,⟨sc,sd⟩,p,bK,up⟩=false:=by simp only[jU,Ho,Ku];simp[gK]
   simp[g0,g1,g2,lH,wH,nn0,nn1,nn2,mm0,mm1,mm2,l0,l1,l2,e89,hFd,He,hPl,r1,r2,aG,turn,aI,gK,r1p,hhit']
   simp[hR,dW,wF,aE,dA.none]
  | none =>
   rw[yP]at wG Ku
   simp only at wG
   by_cases P5:bK=a.bN∧¬a.bN=-1
   ·have wF:jU ⟨me,aM,adv,seen,ent,own⟩ ⟨⟨tc,td⟩,⟨sc,sd⟩,p,bK,up⟩=false:=by simp only[jU,Ho,Ku];simp[P5.1,P5.2]
    have hf1:=P5.1
    have TB:=P5.2
    subst hf1
    simp[g0,g1,g2,lH,wH,nn0,nn1,nn2,mm0,mm1,mm2,l0,l1,l2,e89,hFd,He,hPl,wG,r1,r2,aG,turn,aI,gK,r1p,TB]
    simp[hR,dW,wF,aE,dA.none]
   ·have wF:jU ⟨me,aM,adv,seen,ent,own⟩ ⟨⟨tc,td⟩,⟨sc,sd⟩,p,bK,up⟩=true:=by
     simp only[jU,Ho,Ku,gK]
     by_cases h1:bK=a.bN
     ·have h2:a.bN=-1:=by
       by_cases h2:a.bN=-1
       ·exact h2
       ·exact absurd ⟨h1,h2⟩ P5
      simp[h2]
     ·simp[h1]
    have xF:dR ⟨me,aM,adv,seen,ent,own⟩ ⟨tc,td⟩=a.bN:=by simp[dR,Ho]
    by_cases Cs:a.bN=-1
    ·have sJ:pD ⟨me,aM,adv,seen,ent,own⟩ ⟨⟨tc,td⟩,⟨sc,sd⟩,p,bK,up⟩=false:=by simp[pD,xF,Cs]
     by_cases NL:bK=a.bN
     ·simp[g0,g1,g2,lH,wH,nn0,nn1,nn2,mm0,mm1,mm2,l0,l1,l2,e89,hFd,He,hPl,wG,r1,aG,turn,r1p,gK,eq_true Cs,eq_true NL]
      generalize hA:fc D _ _ _=A
      have o4i:=o4.push (o:=.arr 93 4 [.agg [.int .i64 a.id.aW,.int .i64 a.id.seq,bE a.pred,.int .i64 a.bN]] (some 1))
      obtain⟨v4',K2,rfl,p4,x2,_⟩:=RO hA 3 ent ⟨⟨tc,td⟩,⟨sc,sd⟩,p,bK,false⟩ (vety:=114) (c:=1) (by
        have:=((o4i.aU (id:=1) (o:=.arr 114 7 [.agg [.int .i64 tc,.int .i64 td,.int .i64 sc,.int .i64 sd,bE p,.int .i64 bK,.bool false]] (some 1)) wH.push (by decide) (by simp;omega)).push (o:=.arr 114 7 [.agg [.int .i64 tc,.int .i64 td,.int .i64 sc,.int .i64 sd,bE p,.int .i64 bK,.bool false]] (some 1)))
        simpa[l1,wH]using this) (by simp[aD,nn0,nn1,nn2,mm0,mm1,mm2,l0,l1,l2,wH]) (cZ _ _) kZ (by simp[wH]) (by simp;omega) (by simp[lH])
      clear hA
      have b0:=x2.get 0 (by decide)
      have b1:=x2.get 1 (by decide)
      have b2:=x2.get 2 (by decide)
      have q2:=x2.lim
      have w2:=x2.wf
      have n2:=x2.le
      simp[g0,g1,g2,lH,wH,nn0,nn1,nn2,mm0,mm1,mm2,l0,l1,l2]at b0 b1 b2 q2
      have Ax:0<K2.n:=by omega
      have NO:2<K2.n:=by omega
      have r4':=fun o o'=>((p4.aU (o:=o) w2 (by decide) Ax).aU (o:=o') w2.set (by decide) NO).resolve (n:=198) false (fun y _=>(cA y).1) (by decide)
      simp[b0,b1,b2,q2,w2,Ax,NO,p4.bD,p4.aP,turn,r4',aI]
      simp[hR,dW,wF,sJ,aE,dA.none,tM]
     ·simp[g0,g1,g2,lH,wH,nn0,nn1,nn2,mm0,mm1,mm2,l0,l1,l2,e89,hFd,He,hPl,wG,r1,aG,turn,r1p,gK,eq_true Cs,NL]
      generalize hA:fc D _ _ _=A
      have o4i:=o4.push (o:=.arr 93 4 [.agg [.int .i64 a.id.aW,.int .i64 a.id.seq,bE a.pred,.int .i64 a.bN]] (some 1))
      obtain⟨v4',K2,rfl,p4,x2,_⟩:=RO hA 3 ent ⟨⟨tc,td⟩,⟨sc,sd⟩,p,bK,false⟩ (vety:=114) (c:=1) (by
        have:=((o4i.aU (id:=1) (o:=.arr 114 7 [.agg [.int .i64 tc,.int .i64 td,.int .i64 sc,.int .i64 sd,bE p,.int .i64 bK,.bool false]] (some 1)) wH.push (by decide) (by simp;omega)).push (o:=.arr 114 7 [.agg [.int .i64 tc,.int .i64 td,.int .i64 sc,.int .i64 sd,bE p,.int .i64 bK,.bool false]] (some 1)))
        simpa[l1,wH]using this) (by simp[aD,nn0,nn1,nn2,mm0,mm1,mm2,l0,l1,l2,wH]) (cZ _ _) kZ (by simp[wH]) (by simp;omega) (by simp[lH])
      clear hA
      have b0:=x2.get 0 (by decide)
      have b1:=x2.get 1 (by decide)
      have b2:=x2.get 2 (by decide)
      have q2:=x2.lim
      have w2:=x2.wf
      have n2:=x2.le
      simp[g0,g1,g2,lH,wH,nn0,nn1,nn2,mm0,mm1,mm2,l0,l1,l2]at b0 b1 b2 q2
      have Ax:0<K2.n:=by omega
      have NO:2<K2.n:=by omega
      have r4':=fun o o'=>((p4.aU (o:=o) w2 (by decide) Ax).aU (o:=o') w2.set (by decide) NO).resolve (n:=198) false (fun y _=>(cA y).1) (by decide)
      simp[b0,b1,b2,q2,w2,Ax,NO,p4.bD,p4.aP,turn,r4',aI]
      simp[hR,dW,wF,sJ,aE,dA.none,tM]
    ·have P6:¬bK=a.bN:=fun e=>P5 ⟨e,Cs⟩
     cases hC:cK ent ⟨tc,td⟩ p with
     | true =>
      rw[hC]at hCv
      have sJ:pD ⟨me,aM,adv,seen,ent,own⟩ ⟨⟨tc,td⟩,⟨sc,sd⟩,p,bK,up⟩=false:=by simp[pD,hC]
      simp[g0,g1,g2,lH,wH,nn0,nn1,nn2,mm0,mm1,mm2,l0,l1,l2,e89,hFd,He,hPl,wG,r1,aG,turn,r1p,gK,Cs,P6,e90,hCv]
      generalize hA:fc D _ _ _=A
      have o4i:=o4.push (o:=.arr 93 4 [.agg [.int .i64 a.id.aW,.int .i64 a.id.seq,bE a.pred,.int .i64 a.bN]] (some 1))
      obtain⟨v4',K2,rfl,p4,x2,_⟩:=RO hA 3 ent ⟨⟨tc,td⟩,⟨sc,sd⟩,p,bK,false⟩ (vety:=114) (c:=1) (by
        have:=((o4i.aU (id:=1) (o:=.arr 114 7 [.agg [.int .i64 tc,.int .i64 td,.int .i64 sc,.int .i64 sd,bE p,.int .i64 bK,.bool false]] (some 1)) wH.push (by decide) (by simp;omega)).push (o:=.arr 114 7 [.agg [.int .i64 tc,.int .i64 td,.int .i64 sc,.int .i64 sd,bE p,.int .i64 bK,.bool false]] (some 1)))
        simpa[l1,wH]using this) (by simp[aD,nn0,nn1,nn2,mm0,mm1,mm2,l0,l1,l2,wH]) (cZ _ _) kZ (by simp[wH]) (by simp;omega) (by simp[lH])
      clear hA
      have b0:=x2.get 0 (by decide)
      have b1:=x2.get 1 (by decide)
      have b2:=x2.get 2 (by decide)
      have q2:=x2.lim
      have w2:=x2.wf
      have n2:=x2.le
      simp[g0,g1,g2,lH,wH,nn0,nn1,nn2,mm0,mm1,mm2,l0,l1,l2]at b0 b1 b2 q2
      have Ax:0<K2.n:=by omega
      have NO:2<K2.n:=by omega
      have r4':=fun o o'=>((p4.aU (o:=o) w2 (by decide) Ax).aU (o:=o') w2.set (by decide) NO).resolve (n:=198) false (fun y _=>(cA y).1) (by decide)
      simp[b0,b1,b2,q2,w2,Ax,NO,p4.bD,p4.aP,turn,r4',aI]
      simp[hR,dW,wF,sJ,aE,dA.none,tM]
     | false =>
      rw[hC]at hCv
      have sJ:pD ⟨me,aM,adv,seen,ent,own⟩ ⟨⟨tc,td⟩,⟨sc,sd⟩,p,bK,up⟩=true:=by simp[pD,xF,Cs,hC]
      simp[g0,g1,g2,lH,wH,nn0,nn1,nn2,mm0,mm1,mm2,l0,l1,l2,e89,hFd,He,hPl,wG,r1,aG,turn,r1p,gK,Cs,P6,e90,hCv]
      generalize hA:fc D _ _ _=A
      have o4i:=o4.push (o:=.arr 93 4 [.agg [.int .i64 a.id.aW,.int .i64 a.id.seq,bE a.pred,.int .i64 a.bN]] (some 1))
      obtain⟨v4',K2,rfl,p4,x2,_⟩:=RO hA 3 ent ⟨⟨tc,td⟩,⟨sc,sd⟩,p,bK,true⟩ (vety:=114) (c:=1) (by
        have:=((o4i.aU (id:=1) (o:=.arr 114 7 [.agg [.int .i64 tc,.int .i64 td,.int .i64 sc,.int .i64 sd,bE p,.int .i64 bK,.bool true]] (some 1)) wH.push (by decide) (by simp;omega)).push (o:=.arr 114 7 [.agg [.int .i64 tc,.int .i64 td,.int .i64 sc,.int .i64 sd,bE p,.int .i64 bK,.bool true]] (some 1)))
        simpa[l1,wH]using this) (by simp[aD,nn0,nn1,nn2,mm0,mm1,mm2,l0,l1,l2,wH]) (cZ _ _) kZ (by simp[wH]) (by simp;omega) (by simp[lH])
      clear hA
      have b0:=x2.get 0 (by decide)
      have b1:=x2.get 1 (by decide)
      have b2:=x2.get 2 (by decide)
      have q2:=x2.lim
      have w2:=x2.wf
      have n2:=x2.le
      simp[g0,g1,g2,lH,wH,nn0,nn1,nn2,mm0,mm1,mm2,l0,l1,l2]at b0 b1 b2 q2
      have Ax:0<K2.n:=by omega
      have NO:2<K2.n:=by omega
      have r4':=fun o o'=>((p4.aU (o:=o) w2 (by decide) Ax).aU (o:=o') w2.set (by decide) NO).resolve (n:=198) false (fun y _=>(cA y).1) (by decide)
      simp[b0,b1,b2,q2,w2,Ax,NO,p4.bD,p4.aP,turn,r4',aI]
      simp[hR,dW,wF,sJ,aE,dA.none,tM]
end Go.Dm.Tc
/-
What the reference's functions compute,part 6: an entry added.
-/
namespace Go.Dm.Tc
theorem l96(S:List Fr)(h:aA)(x0 x1 x2 x3 x5:DV)(l:List aX)(tc td sc sd:Int)(p q r:DV)(hl:l.length≤1000000)
  (g0:h.get 0=some (.arr 36 6 [.agg [x0,x1,x2,x3,eL false 7 aD l,x5]] (some 1))) (g1:h.get 1=some (.arr 114 7 [.agg [.int .i64 tc,.int .i64 td,.int .i64 sc,.int .i64 sd,p,q,r]] (some 1))) (aL:h.lim=0) :
  ∀(n i:Nat) (f:cT),aV (fB ⟨tc,td⟩ ⟨sc,sd⟩) l-i=n→i≤aV (fB ⟨tc,td⟩ ⟨sc,sd⟩) l→f 2=.ptr 0 6 0 0→f 3=.ptr 1 7 0 0→f 7=.int .i64 i →
  ∃ f',run D 115 (.block 0::.seq Fk::S) (.loop Ih) f h=run D 115 S Fk f' h∧f' 2=.ptr 0 6 0 0∧f' 3=.ptr 1 7 0 0∧f' 4=f 4∧f' 5=f 5∧f' 7=.int .i64 (aV (fB ⟨tc,td⟩ ⟨sc,sd⟩) l):=by
 intro n
 induction n with
 | zero =>
  intro i f hn hi h2 h3 h7
  have dS:aV (fB ⟨tc,td⟩ ⟨sc,sd⟩) l=i:=by omega
  rw[aC Ih.eq_1]
  by_cases bC:i<l.length
  ·have ZM:=Cm (fB ⟨tc,td⟩ ⟨sc,sd⟩) hi (List.getElem?_eq_getElem bC)
   have Xx:¬fB ⟨tc,td⟩ ⟨sc,sd⟩ l[i]<0:=fun hc=>by have:=ZM.1 hc;omega
   rw[yG]at Xx
   obtain⟨e,he⟩:∃ e,l[i]=e:=⟨_,rfl⟩
   rw[he]at Xx
   have AC:kK ⟨e.tree.aW,e.tree.seq⟩ ⟨tc,td⟩=false:=by
    cases hq:kK e.tree ⟨tc,td⟩with
    | false=>rfl
    | true=>exact absurd (.inl hq) Xx
   by_cases ht:e.tree=⟨tc,td⟩
   ·have uL:e.tree.aW=tc:=by rw[ht]
    have Av:e.tree.seq=td:=by rw[ht]
    have hn2:kK ⟨e.sub.aW,e.sub.seq⟩ ⟨sc,sd⟩=false:=by
     cases hq:kK e.sub ⟨sc,sd⟩with
     | false=>rfl
     | true=>exact absurd (.inr ⟨ht,hq⟩) Xx
    simp[h2,h3,h7,g0,g1,bC,he,aL,aD,e94,s94,AC,hn2]
    simp only[uL,Av]at AC
    simp[uL,Av,AC,e94,s94,hn2]
    exact⟨_,rfl,by simp[h2],by simp[h3],by simp,by simp,by simp[h7,dS]⟩
   ·have tN:=qD ht
    simp only at tN
    simp[h2,h3,h7,g0,g1,bC,he,aL,aD,e94,s94,AC,tN]
    exact⟨_,rfl,by simp[h2],by simp[h3],by simp,by simp,by simp[h7,dS]⟩
  ·simp[h2,h3,h7,g0,g1,bC]
   exact⟨_,rfl,by simp[h2],by simp[h3],by simp,by simp,by simp[h7,dS]⟩
 | succ n ih =>
  intro i f hn hi h2 h3 h7
  have bC:i<l.length:=by have:=cZ (fB ⟨tc,td⟩ ⟨sc,sd⟩) l;omega
  obtain⟨e,he⟩:∃ e,l[i]=e:=⟨_,rfl⟩
  have Xw:fB ⟨tc,td⟩ ⟨sc,sd⟩ e<0:=by
   have:=Sm (fB ⟨tc,td⟩ ⟨sc,sd⟩) (l:=l) (i:=i) (a:=l[i]) (by omega) (List.getElem?_eq_getElem bC)
   rw[he]at this
   exact of_decide_eq_true this
  rw[yG]at Xw
  have hw:IntKind.i64.wrap ((i:Int)+1)=(i:Int)+1:=aT (by omega) (by omega)
  rw[aC Ih.eq_1]
  have next:∀F,F 2=.ptr 0 6 0 0→F 3=.ptr 1 7 0 0→F 4=f 4→F 5=f 5→F 7=.int .i64 ((i:Int)+1) →
    ∃ f',run D 115 (.block 0::.seq Fk::S) (.loop Ih) F h=run D 115 S Fk f' h∧f' 2=.ptr 0 6 0 0∧f' 3=.ptr 1 7 0 0∧f' 4=f 4∧f' 5=f 5∧f' 7=.int .i64 (aV (fB ⟨tc,td⟩ ⟨sc,sd⟩) l):=fun F a1 a2 a3 a4 a5=>by
   obtain⟨f',k1,k2,k3,k4,k5,k6⟩:=ih (i+1) F (by omega) (by omega) a1 a2 (by rw[a5];simp)
   exact⟨f',k1,k2,k3,by rw[k4,a3],by rw[k5,a4],k6⟩
  cases hq:kK e.tree ⟨tc,td⟩with
  | true =>
   have uH:kK ⟨e.tree.aW,e.tree.seq⟩ ⟨tc,td⟩=true:=hq
   simp[h2,h3,h7,g0,g1,bC,he,aL,aD,e94,s94,uH,hw]
   generalize hF:upd _ 7 _=F
   exact next F (by rw[←hF];simp[h2]) (by rw[←hF];simp[h3]) (by rw[←hF];simp) (by rw[←hF];simp) (by rw[←hF];simp)
  | false =>
   obtain⟨ht,hs⟩:=Xw.resolve_left (by rw[hq];simp)
   have uH:kK ⟨e.tree.aW,e.tree.seq⟩ ⟨tc,td⟩=false:=hq
   have Ga:kK ⟨e.sub.aW,e.sub.seq⟩ ⟨sc,sd⟩=true:=hs
   have uL:e.tree.aW=tc:=by rw[ht]
   have Av:e.tree.seq=td:=by rw[ht]
   simp only[uL,Av]at uH
   simp[h2,h3,h7,g0,g1,bC,he,aL,aD,e94,s94,uL,Av,uH,Ga,hw]
   generalize hF:upd _ 7 _=F
   exact next F (by rw[←hF];simp[h2]) (by rw[←hF];simp[h3]) (by rw[←hF];simp) (by rw[←hF];simp) (by rw[←hF];simp)
end Go.Dm.Tc
