/- A part of the proof. -/
import Derived.Test.YtfkbogedodngeaaGreatDoorMs1
set_option linter.all false
set_option maxRecDepth 100000
namespace Go.Dm.Tc
structure lT where
 to:Int
 kind:Int
 tree:ID
 id:ID
 pred:bN
 deriving DecidableEq,Inhabited
def jW(o:lT):DV:=.agg [.int .i64 o.to,.int .i64 o.kind,.int .i64 o.tree.aW,.int .i64 o.tree.seq,.int .i64 o.id.aW,.int .i64 o.id.seq,bQ o.pred,.isl false 0 []]
def mF(es:List DV)(os:List lT):Prop:=es.length=os.length∧∀(tag:Bool) (h:aA) (n:Nat),21≤n→es.mapM (resolve tag h n)=some (os.map jW)
theorem mF.nil:mF [] []:=⟨rfl,fun _ _ _ _=>rfl⟩
theorem mF.append{a b:List DV}{x y:List lT}(h1:mF a x)(h2:mF b y):mF (a++b) (x++y):=by
 refine⟨by simp[h1.1,h2.1],fun tag h n hn=>?_⟩
 rw[List.mapM_append,h1.2 tag h n hn,h2.2 tag h n hn]
 simp
def Db(to k tc td ic id:Int)(pd ad:DV):DV:=.agg [.int .i64 to,.int .i64 k,.int .i64 tc,.int .i64 td,.int .i64 ic,.int .i64 id,pd,ad]
def Zp(pd:DV)(p:bN):Prop:=pd=bQ p∨(pd=.nsl∧p=[])
def ND(ad:DV):Prop:=ad=.nsl∨ad=.isl false 0 []
theorem Zp.res{pd:DV}{p:bN}(h:Zp pd p)(tag:Bool)(hp:aA)(n:Nat)(hn:20≤n):resolve tag hp n pd=some (bQ p):=by
 obtain⟨m,rfl⟩:∃ m,n=m+1:=⟨n-1,by omega⟩
 rcases h with rfl|⟨rfl,rfl⟩
 ·exact Vq ..
 ·rfl
theorem ND.res{ad:DV}(h:ND ad)(tag:Bool)(hp:aA)(n:Nat)(hn:20≤n):resolve tag hp n ad=some (.isl false 0 []):=by
 obtain⟨m,rfl⟩:∃ m,n=m+1:=⟨n-1,by omega⟩
 rcases h with rfl|rfl
 ·rfl
 ·rfl
theorem JE{to k tc td ic id:Int}{pd ad:DV}{p:bN}(hp:Zp pd p)(ha:ND ad)(tag:Bool)(h:aA)(n:Nat)(hn:21≤n):resolve tag h n (Db to k tc td ic id pd ad)=some (jW ⟨to,k,⟨tc,td⟩,⟨ic,id⟩,p⟩):=by
 obtain⟨m,rfl⟩:∃ m,n=m+1:=⟨n-1,by omega⟩
 obtain⟨q,rfl⟩:∃ q,m=q+1:=⟨m-1,by omega⟩
 have h1:=hp.res tag h (q+1) (by omega)
 have h2:=ha.res tag h (q+1) (by omega)
 unfold Db jW
 rw[U7]
 simp[h1,h2]
theorem mF.one{to k tc td ic id:Int}{pd ad:DV}{p:bN}(hp:Zp pd p)(ha:ND ad):mF [Db to k tc td ic id pd ad] [⟨to,k,⟨tc,td⟩,⟨ic,id⟩,p⟩] :=
 ⟨rfl,fun tag h n hn=>by simp only[List.mapM_cons,List.mapM_nil,JE hp ha tag h n hn];rfl⟩
theorem jX(o:lT):gP 20 (jW o)∧Unl 22 (jW o):=⟨rG (by
  intro x hx
  simp only[List.mem_cons,List.not_mem_nil,or_false]at hx
  rcases hx with rfl|rfl|rfl|rfl|rfl|rfl|rfl|rfl
  all_goals first|exact iS _ _|exact sF false 5 bC o.pred|exact fun t h m hm=>by obtain⟨q,rfl,_⟩:=cV hm;rfl),sV (by
  intro x hx
  simp only[List.mem_cons,List.not_mem_nil,or_false]at hx
  rcases hx with rfl|rfl|rfl|rfl|rfl|rfl|rfl|rfl
  all_goals first|exact(rU _ _).mono (by decide)|exact(vW o.pred).mono (by decide)|exact fun n hn=>by obtain⟨q,rfl,_⟩:=cV (k:=20) hn;simp[bH])⟩
theorem xQ{lo:Nat}{h:aA}{v:DV}{ety:Nat}{es:List DV}{os:List lT}(w:OwnR lo h v ety 8 es)(r:mF es os)(tag:Bool){n:Nat}(hn:22≤n):resolve tag h n v=some (eL tag 8 jW os):=by
 obtain⟨m,rfl,hm⟩:=cV (k:=21) hn
 cases w with
 | nil hv hx =>
  subst hv;subst hx
  have:os=[]:=List.length_eq_zero_iff.1 r.1.symm
  subst this;rfl
 | arr id sp cap hv hg hl hi =>
  subst hv
  have Bq:=r.2 tag h m hm
  simp only[Dm.resolve,hg,true_and,Nat.zero_add,List.length_append,Nat.le_add_right,if_true,List.drop_zero,List.take_left,Bq]
  rfl
def Aq(aL:List Int)(but k tc td ic id:Int)(p:bN):List lT:=(aL.filter fun n=>!decide (n=but)).map fun n=>⟨n,k,⟨tc,td⟩,⟨ic,id⟩,p⟩
def mW(aL:List Int)(but k tc td ic id:Int)(pd ad:DV):List DV:=(aL.filter fun n=>!decide (n=but)).map fun n=>Db n k tc td ic id pd ad
theorem zO{but k tc td ic id:Int}{pd ad:DV}{p:bN}(hp:Zp pd p)(ha:ND ad):∀(aL:List Int),mF (mW aL but k tc td ic id pd ad) (Aq aL but k tc td ic id p)
 | []=>mF.nil
 | x::r=>by
  have ih:=zO (but:=but) (k:=k) (tc:=tc) (td:=td) (ic:=ic) (id:=id) hp ha r
  unfold mW Aq at *
  by_cases hx:x=but
  ·simp only[List.filter_cons,hx,decide_true,Bool.not_true,Bool.false_eq_true,if_false];exact ih
  ·simp only[List.filter_cons,hx,decide_false,Bool.not_false,if_true,List.map_cons]
   exact mF.append (mF.one (to:=x) hp ha) ih
theorem l118(t:dZ)(b:aF)(but k tc td ic id:Int)(pd ad:DV)(N:Nat)(ta tb:Nat)(hl:b.aL.length≤1000000)(h0:aA)(g0:h0.get N=some (.arr ta 6 [aI t b] (some 1)))(g1:h0.get (N+1)=some (.arr tb 7 [.agg [.int .i64 k,.int .i64 tc,.int .i64 td,.int .i64 ic,.int .i64 id,pd,ad]] (some 1)))(XD:h0.lim≤N) :
  ∀(rest:List Int) (i:Nat) (es:List DV) (v:DV) (f:dJ) (h:aA),b.aL.drop i=rest→es.length≤i→f 1=.int .i64 but→f 3=.ptr N 6 0 0→f 5=.ptr (N+1) 7 0 0→f 7=v→f 11=eL t.aL 1 cF b.aL→f 12=.int .i64 b.aL.length→f 13=.int .i64 i→OwnR (N+2) h v 206 8 es→Ext (N+2) h0 h →
  ∃ v' h',fin [.t 6] (run D 28 [.block 0,.seq D4] (.loop Pu) f h)=some (v',h')∧OwnR (N+2) h' v' 206 8 (es++mW rest but k tc td ic id pd ad)∧Ext (N+2) h0 h':=by
 intro rest
 induction rest with
 | nil =>
  intro i es v f h hd he h1 h3 h5 h7 pT pS Tj ho x
  have hi:=cY hd
  have:¬(i<b.aL.length):=by omega
  rw[aC Pu.eq_1]
  simp[D4,pS,Tj,this,h7]
  first
   | exact⟨_,_,⟨rfl,rfl⟩,by simpa[mW]using ho,x⟩
   | exact⟨by simpa[mW]using ho,x⟩
 | cons y rest ih =>
  intro i es v f h hd he h1 h3 h5 h7 pT pS Tj ho x
  obtain⟨hi,vR,fV⟩:=cN hd
  have a0:=(x.get N (by omega)).trans g0
  have a1:=(x.get (N+1) (by omega)).trans g1
  rw[aC Pu.eq_1]
  by_cases hy:y=but
  ·subst hy
   simp[h1,h3,h5,h7,pT,pS,Tj,hi,vR,cF]
   rw[bE (by omega) (by omega)]
   generalize hF:upd _ 13 _=F
   have hr:mW (y::rest) y k tc td ic id pd ad=mW rest y k tc td ic id pd ad:=by simp[mW]
   rw[hr]
   refine ih (i+1) es v F h fV (by omega) ?_ ?_ ?_ ?_ ?_ ?_ ?_ ho x
   all_goals (rw[←hF];simp[h1,h3,h5,h7,pT,pS])
  ·simp[h1,h3,h5,h7,pT,pS,Tj,hi,vR,hy,a1,cF]
   generalize hA:aU _ _ _ _ _ _=A
   obtain⟨v',K,rfl,p',x',_⟩:=OwnR.append (ho.push) (by simp[x.wf]) (by have:=x.le;simp;omega) (by have:=x.le;have:=x.lim;simp;omega) hA (by simp;omega) (by decide)
   clear hA
   simp[Tj]
   rw[bE (by omega) (by omega)]
   generalize hF:upd _ 13 _=F
   have hr:mW (y::rest) but k tc td ic id pd ad=Db y k tc td ic id pd ad::mW rest but k tc td ic id pd ad:=by simp[mW,hy]
   obtain⟨v2,K2,k1,k2,k3⟩:=ih (i+1) (es++[Db y k tc td ic id pd ad]) v' F K fV (by simp;omega) (by rw[←hF];simp[h1]) (by rw[←hF];simp[h3]) (by rw[←hF];simp[h5]) (by rw[←hF];simp) (by rw[←hF];simp[pT]) (by rw[←hF];simp[pS]) (by rw[←hF];simp) (by simpa[Db]using p') (x.push.trans x')
   exact⟨v2,K2,k1,by rw[hr];simpa using k2,k3⟩
theorem e8{h:aA}{A:Option (DV×aA)}{t:dZ}{b:aF}{but k tc td ic id:Int}{pd ad:DV}(hA:fc D 118 [aI t b,.int .i64 but,.agg [.int .i64 k,.int .i64 tc,.int .i64 td,.int .i64 ic,.int .i64 id,pd,ad]] h=A)(hl:b.aL.length≤1000000)(wf:WF h)(aO:h.lim≤h.n) :
  ∃ v' h',A=some (v',h')∧OwnR h.n h' v' 206 8 (mW b.aL but k tc td ic id pd ad)∧Ext h.n h h':=by
 subst hA
 rw[e118,aP _ _ _ _ (by simp[HO])]
 simp[HO]
 generalize hF:upd _ 13 _=F
 generalize hH:aA.push _ _=H0
 have hn:h.n+2≤H0.n:=by rw[←hH];simp
 have g0:H0.get h.n=some (.arr 37 6 [aI t b] (some 1)):=by rw[←hH];simp
 have g1:H0.get (h.n+1)=some (.arr 49 7 [.agg [.int .i64 k,.int .i64 tc,.int .i64 td,.int .i64 ic,.int .i64 id,pd,ad]] (some 1)):=by rw[←hH];simp
 have hw:WF H0:=by rw[←hH];simp[wf]
 have hm:H0.lim≤h.n:=by rw[←hH];simpa using aO
 obtain⟨v',h',k1,k2,k3⟩:=l118 t b but k tc td ic id pd ad h.n _ _ hl H0 g0 g1 hm b.aL 0 [] .nsl F H0 rfl (by simp) (by rw[←hF];simp) (by rw[←hF];simp) (by rw[←hF];simp) (by rw[←hF];simp) (by rw[←hF];simp) (by rw[←hF];simp) (by rw[←hF];simp) (.nil rfl rfl) (.refl hn hw)
 refine⟨v',h',k1,by simpa using k2.lower (by omega:h.n≤h.n+2),?_⟩
 have k4:=k3.lower (by omega:h.n≤h.n+2)
 refine⟨k4.le,by rw[k4.lim,←hH];simp,fun id eO=>?_,k4.wf⟩
 rw[k4.get id eO,←hH]
 have e1:¬id=h.n:=by omega
 have e2:¬id=h.n+1:=by omega
 simp[e1,e2]
end Go.Dm.Tc
/-
What functions compute,part 35: an advertisement comes by a link.
-/
namespace Go.Dm.Tc
theorem IL(tc td sc sd:Int)(p:bN)(q:Int)(u:Bool):pcF D BM [.agg [.int .i64 tc,.int .i64 td,.int .i64 sc,.int .i64 sd,bQ p,.int .i64 q,.bool u]]=some (.agg [.int .i64 3,.int .i64 tc,.int .i64 td,.int .i64 sc,.int .i64 sd,bQ p,.isl false 0 []]):=by
 unfold pcF
 rw[aP _ _ _ _ (by simp[BM])]
 simp[BM,turn]
structure ZL(b:aF)(k:Nat):Prop where
 aL:b.aL.length≤100000
 adv:b.aG.length≤100000
 seen:b.seen.length≤100000
 own:b.bJ.length≤100000
 ent:b.entries.length+k≤100000
theorem ZL.sized{b:aF}{k:Nat}(h:ZL b k):jF b:=⟨h.aL,h.adv,h.seen,by have:=h.ent;omega,h.own⟩
theorem ZL.less{b:aF}{k m:Nat}(h:ZL b k)(hm:m≤k):ZL b m:=⟨h.aL,h.adv,h.seen,h.own,by have:=h.ent;omega⟩
theorem yC(b:aF)(e:bB):(fZ b e).1.aL=b.aL∧(fZ b e).1.aG=b.aG∧(fZ b e).1.seen=b.seen∧(fZ b e).1.bJ=b.bJ∧(fZ b e).1.me=b.me∧(fZ b e).1.entries.length≤b.entries.length+1:=by
 unfold fZ
 split
 ·exact⟨rfl,rfl,rfl,rfl,rfl,by simp only[Xf];omega⟩
 ·exact⟨rfl,rfl,rfl,rfl,rfl,by simp⟩
theorem ZL.add{b:aF}{k:Nat}(h:ZL b (k+1))(e:bB):ZL (fZ b e).1 k:=by
 obtain⟨h1,h2,h3,h4,_,h5⟩:=yC b e
 have:=h.ent
 exact⟨by rw[h1];exact h.aL,by rw[h2];exact h.adv,by rw[h3];exact h.seen,by rw[h4];exact h.own,by omega⟩
def gS(cJ:Int)(x:ID)(p:bN)(st:aF×List lT)(o:fQ):aF×List lT :=
 if zT o.pred p=true then((fZ st.1 ⟨x,o.id,o.pred,-1,false⟩).1,if(fZ st.1 ⟨x,o.id,o.pred,-1,false⟩).2=true then st.2++[⟨cJ,3,x,o.id,o.pred⟩]else st.2)
 else st
def dN(b:aF)(cJ:Int)(x:ID)(p:bN):aF×List lT :=
 if(bX b ⟨x,p,cJ⟩).2=true then b.bJ.foldl (gS cJ x p) ((bX b ⟨x,p,cJ⟩).1,Aq b.aL cJ 1 x.aW x.seq 0 0 p)else(b,[])
def zB:DV:=.agg [.int .i64 0,.nsl,.nsl,.nsl,.nsl,.nsl]
theorem l46(xc xd cJ:Int)(p:bN)(hp:cZ p)(t:Bool)(bJ:List fQ)(ho:∀o∈bJ,cZ o.pred)(hl:bJ.length≤100000)(tx tb tn:Nat) :
  ∀(rest:List fQ) (i:Nat) (nb:aF) (iJ:List lT) (es:List DV) (v:DV) (f:dJ) (h:aA),bJ.drop i=rest→cC nb→ZL nb rest.length→mF es iJ→es.length+rest.length≤1000000 →
  f 1=.int .i64 cJ→f 3=bQ p→f 6=.ptr 1 2 0 0→f 8=.ptr 2 6 0 0→f 4=.ptr 0 6 0 0→f 11=v→f 35=eL t 3 cB bJ→f 36=.int .i64 bJ.length→f 37=.int .i64 i →
  h.get 1=some (.arr tx 2 [.agg [.int .i64 xc,.int .i64 xd]] (some 1))→h.get 2=some (.arr tb 6 [zB] (some 1))→h.get 0=some (.arr tn 6 [aI .none nb] (some 1))→OwnR 3 h v 206 8 es→h.lim=0→3≤h.n→WF h →
  dY (fin [.cell 8 (some 6),.t 9] (run D 69 [.block 0,.seq HM] (.loop T0) f h))=some (.tup [aI .none (rest.foldl (gS cJ ⟨xc,xd⟩ p) (nb,iJ)).1,eL false 8 jW (rest.foldl (gS cJ ⟨xc,xd⟩ p) (nb,iJ)).2]):=by
 intro rest
 induction rest with
 | nil =>
  intro i nb iJ es v f h hd Di hz hr Ep h1 h3 h6 h8 hB hO hW hL hI g1 g2 gB hv aO hn wf
  have hi:=cY hd
  have:¬(i<bJ.length):=by omega
  have l2:2<h.n:=by omega
  have n2:¬0=2:=by decide
  have r1:=fun o=>xQ (hv.bU (o:=o) wf (by decide:2<3) l2) hr false (n:=199) (by decide)
  have hu:bH 199 (eL false 8 jW iJ)=true:=kC (fun y _=>(jX y).2) 199 (by decide)
  rw[aC T0.eq_1]
  simp only[zB]at g2
  simp[HM,hL,hI,this,h8,hB,hO,gB,g2,aO,l2,wf,turn,aT,r1,hu]
 | cons o rest ih =>
  intro i nb iJ es v f h hd Di hz hr Ep h1 h3 h6 h8 hB hO hW hL hI g1 g2 gB hv aO hn wf
  obtain⟨hi,he,fV⟩:=cN hd
  have Ru:=ho o (by rw[←he];exact List.getElem_mem hi)
  obtain⟨⟨oc,od⟩,op⟩:=o
  simp only at Ru
  have hm:=VU op p Ru hp
  have uW:=V9 Di hz.sized xc xd oc od Ru (-1) false
  have Fn:=Di.add (e:=⟨⟨xc,xd⟩,⟨oc,od⟩,op,-1,false⟩) (by simp[jJ]) Ru
  have Eo:=hz.add ⟨⟨xc,xd⟩,⟨oc,od⟩,op,-1,false⟩
  obtain⟨m,eN⟩:∃ m,h.n=m+3:=⟨h.n-3,by omega⟩
  simp only[List.length_cons]at Ep
  rw[aC T0.eq_1]
  simp only[List.foldl_cons]
  cases hq:zT op p with
  | false =>
   rw[hq]at hm
   have cW:gS cJ ⟨xc,xd⟩ p (nb,iJ) ⟨⟨oc,od⟩,op⟩=(nb,iJ):=by simp[gS,hq]
   rw[cW]
   simp[hL,hI,hW,hi,he,cB,h3,aO,wf,turn,Sl,hm]
   rw[bE (by omega) (by omega)]
   generalize hF:upd _ 37 _=F
   refine ih (i+1) nb iJ es v F _ fV Di (hz.less (by simp)) hr (by omega) ?_ ?_ ?_ ?_ ?_ ?_ ?_ ?_ ?_ ?_ ?_ ?_ hv.push ?_ ?_ ?_
   all_goals first
    | (rw[←hF];simp[h1,h3,h6,h8,hB,hO,hW,hL];done)
    | (simp[eN,g1,g2,gB,aO,wf];done)
    | (simp[eN];omega)
  | true =>
   rw[hq]at hm
   cases hu:(fZ nb ⟨⟨xc,xd⟩,⟨oc,od⟩,op,-1,false⟩).2 with
   | false =>
    rw[hu]at uW
    have cW:gS cJ ⟨xc,xd⟩ p (nb,iJ) ⟨⟨oc,od⟩,op⟩=((fZ nb ⟨⟨xc,xd⟩,⟨oc,od⟩,op,-1,false⟩).1,iJ):=by simp[gS,hq,hu]
    rw[cW]
    simp[hL,hI,hW,hi,he,cB,h3,h6,hB,eN,g1,gB,aO,wf,turn,Sl,hm,Yo,uW]
    rw[bE (by omega) (by omega)]
    generalize hF:upd _ 37 _=F
    refine ih (i+1) _ iJ es v F _ fV Fn Eo hr (by omega) ?_ ?_ ?_ ?_ ?_ ?_ ?_ ?_ ?_ ?_ ?_ ?_ (((hv.bU wf (by decide:0<3) (by omega)).push).push) ?_ ?_ ?_
    all_goals first
     | (rw[←hF];simp[h1,h3,h6,h8,hB,hO,hW,hL];done)
     | (simp[eN,g1,g2,gB,aO,wf];done)
     | (simp[eN];omega)
   | true =>
    rw[hu]at uW
    have cW:gS cJ ⟨xc,xd⟩ p (nb,iJ) ⟨⟨oc,od⟩,op⟩=((fZ nb ⟨⟨xc,xd⟩,⟨oc,od⟩,op,-1,false⟩).1,iJ++[⟨cJ,3,⟨xc,xd⟩,⟨oc,od⟩,op⟩]):=by simp[gS,hq,hu]
    rw[cW]
    simp[hL,hI,hW,hi,he,cB,h1,h3,h6,hB,hO,eN,g1,gB,aO,wf,turn,Sl,hm,Yo,uW,LY,IL]
    generalize hA:aU _ _ _ _ _ _=A
    obtain⟨v',K,rfl,p',x',_⟩:=OwnR.append ((((hv.bU wf (by decide:0<3) (by omega)).push).push).push) (by simp[wf]) (by simp[eN]<;>omega) (by simp[aO]) hA (by simp;omega) (by decide)
    clear hA
    have a1:=x'.get 1 (by decide)
    have a2:=x'.get 2 (by decide)
    have aB:=x'.get 0 (by decide)
    have al:=x'.lim
    simp[eN,g1,g2,gB,aO,wf]at a1 a2 aB al
    have vN:=mF.append hr (mF.one (to:=cJ) (k:=3) (tc:=xc) (td:=xd) (ic:=oc) (id:=od) (pd:=bQ op) (ad:=.isl false 0 []) (.inl rfl) (.inr rfl))
    simp[hI]
    rw[bE (by omega) (by omega)]
    generalize hF:upd _ 37 _=F
    refine ih (i+1) _ _ _ v' F K fV Fn Eo vN (by simp;omega) ?_ ?_ ?_ ?_ ?_ ?_ ?_ ?_ ?_ a1 a2 aB (by simpa[Db]using p') al x'.le x'.wf
    all_goals (rw[←hF];simp[h1,h3,h6,h8,hB,hO,hW,hL])
theorem s46(b:aF)(xc xd cJ:Int)(p:bN)(hi:cC b)(hz:ZL b b.bJ.length)(hp:cZ p)(hf:jJ b cJ=true)(jU:b.aG.length<100000∧b.seen.length<100000) :
  pcF D t46 [aI .none b,.int .i64 cJ,.agg [.int .i64 xc,.int .i64 xd],bQ p]=some (.tup [aI .none (dN b cJ ⟨xc,xd⟩ p).1,eL false 8 jW (dN b cJ ⟨xc,xd⟩ p).2]):=by
 have hlearn:pcF D Pz [aI .none b,.agg [.int .i64 xc,.int .i64 xd,bQ p,.int .i64 cJ]]=some (.tup [aI .none (bX b ⟨⟨xc,xd⟩,p,cJ⟩).1,.bool (bX b ⟨⟨xc,xd⟩,p,cJ⟩).2]):=by
  first
   | exact V8 hi hz.sized xc xd p cJ
   | exact V8 .none hi hz.sized xc xd p cJ
 have Fn:=hi.learn (a:=⟨⟨xc,xd⟩,p,cJ⟩) hf hp
 have Eo:ZL (bX b ⟨⟨xc,xd⟩,p,cJ⟩).1 b.bJ.length:=by
  obtain⟨h1,h2,h3,h4,h5⟩:=hz
  unfold bX
  split
  ·exact⟨h1,h2,h3,h4,h5⟩
  ·refine⟨h1,?_,?_,h4,h5⟩
   ·have:=eI (fun a:bD=>bK a.id ⟨xc,xd⟩) b.aG
    simp only[iK,List.length_append,List.length_cons,List.length_take,List.length_drop];omega
   ·have:=eI (fun a:ID=>bK a ⟨xc,xd⟩) b.seen
    simp only[iK,List.length_append,List.length_cons,List.length_take,List.length_drop];omega
 unfold pcF
 rw[aP _ _ _ _ (by simp[t46])]
 cases hq:(bX b ⟨⟨xc,xd⟩,p,cJ⟩).2 with
 | false =>
  rw[hq]at hlearn
  have ha:dN b cJ ⟨xc,xd⟩ p=(b,[]):=by simp[dN,hq]
  rw[ha]
  have hb:(bX b ⟨⟨xc,xd⟩,p,cJ⟩).1=b:=by
   unfold bX at hq ⊢
   split at hq
   ·rename_i hs;rw[if_pos hs]
   ·cases hq
  rw[hb]at hlearn
  simp[t46,v9,hlearn,turn,aT,oO]
 | true =>
  rw[hq]at hlearn
  have ha:dN b cJ ⟨xc,xd⟩ p=b.bJ.foldl (gS cJ ⟨xc,xd⟩ p) ((bX b ⟨⟨xc,xd⟩,p,cJ⟩).1,Aq b.aL cJ 1 xc xd 0 0 p):=by simp[dN,hq]
  rw[ha]
  simp[t46,v9,hlearn,turn]
  generalize hA:fc D _ _ _=A
  obtain⟨v1,K,rfl,o1,x1⟩:=e8 hA (Nat.le_trans Eo.aL (by decide)) (by simp) (by simp)
  clear hA
  have hnear:(bX b ⟨⟨xc,xd⟩,p,cJ⟩).1.aL=b.aL:=by unfold bX;split<;>rfl
  have howns:(bX b ⟨⟨xc,xd⟩,p,cJ⟩).1.bJ=b.bJ:=by unfold bX;split<;>rfl
  have a0:=x1.get 0 (by simp)
  have a1:=x1.get 1 (by simp)
  have a2:=x1.get 2 (by simp)
  have aB:=x1.get 0 (by simp)
  have al:=x1.lim
  simp at a0 a1 a2 aB al o1
  simp[a0,aB,howns]
  generalize hF:upd _ 37 _=F
  have iZ:=zO (but:=cJ) (k:=1) (tc:=xc) (td:=xd) (ic:=0) (id:=0) (pd:=bQ p) (ad:=.nsl) (.inl rfl) (.inl rfl) b.aL
  have cM:(mW b.aL cJ 1 xc xd 0 0 (bQ p) .nsl).length≤b.aL.length:=by unfold mW;rw[List.length_map];exact List.length_filter_le ..
  have z1:=hz.aL
  have z2:=hz.own
  try simp only[hnear]at o1
  refine l46 xc xd cJ p hp false b.bJ hi.po z2 _ _ _ b.bJ 0 _ _ _ v1 F K rfl Fn Eo iZ (by omega) ?_ ?_ ?_ ?_ ?_ ?_ ?_ ?_ ?_ a1 a2 aB o1 al (by have:=x1.le;simpa using this) x1.wf
  all_goals first|(rw[←hF];simp;done)|(rw[←hF];simp[dZ.none])
end Go.Dm.Tc
/-
What functions compute,part 36: an advertisement taken back;a broker's side.
-/
namespace Go.Dm.Tc
theorem _root_.Go.Dm.OwnR.wl{lo:Nat}{h:aA}{v:DV}{ety sz:Nat}{xs:List DV}(w:OwnR lo h v ety sz xs){m:Nat}(hm:m≤lo):OwnR lo (Dm.wl h m) v ety sz xs:=by
 cases w with
 | nil hv hx=>exact .nil hv hx
 | arr id sp cap hv hg hl hi=>exact .arr id sp cap hv hg (Nat.le_trans hm hi) hi
def eX(b:aF)(cJ:Int)(x:ID):aF×List lT :=
 if(dH b x cJ).2=true then((dH b x cJ).1,Aq b.aL cJ 2 x.aW x.seq 0 0 [])else(b,[])
theorem s119(b:aF)(xc xd cJ:Int)(hi:cC b)(hz:jF b) :
  pcF D D3 [aI .none b,.int .i64 cJ,.agg [.int .i64 xc,.int .i64 xd]]=some (.tup [aI .none (eX b cJ ⟨xc,xd⟩).1,eL false 8 jW (eX b cJ ⟨xc,xd⟩).2]):=by
 have hf:pcF D Kx [aI .none b,.agg [.int .i64 xc,.int .i64 xd],.int .i64 cJ]=some (.tup [aI .none (dH b ⟨xc,xd⟩ cJ).1,.bool (dH b ⟨xc,xd⟩ cJ).2]):=by
  first
   | exact Xb hi hz xc xd cJ
   | exact Xb .none hi hz xc xd cJ
 have hnear:(dH b ⟨xc,xd⟩ cJ).1.aL=b.aL:=by
  unfold dH
  repeat' split
  all_goals rfl
 unfold pcF
 rw[aP _ _ _ _ (by simp[D3])]
 cases hq:(dH b ⟨xc,xd⟩ cJ).2 with
 | false =>
  have ha:eX b cJ ⟨xc,xd⟩=(b,[]):=by simp[eX,hq]
  have hb:(dH b ⟨xc,xd⟩ cJ).1=b:=by
   unfold dH at hq ⊢
   split
   ·rfl
   ·rename_i a he
    rw[he]at hq
    simp only at hq
    split
    ·rename_i hs;rw[if_pos hs]at hq;cases hq
    ·rfl
  rw[hq,hb]at hf
  rw[ha]
  simp[D3,t6,hf,turn,aT,oO]
 | true =>
  have ha:eX b cJ ⟨xc,xd⟩=((dH b ⟨xc,xd⟩ cJ).1,Aq b.aL cJ 2 xc xd 0 0 []):=by simp[eX,hq]
  rw[hq]at hf
  rw[ha]
  simp[D3,t6,hf,turn,aT]
  generalize hA:fc D _ _ _=A
  obtain⟨v1,K,rfl,o1,x1⟩:=e8 hA (by have:=hz.aL;first|omega|(rw[hnear];omega)) (by simp) (by simp)
  clear hA
  have a0:=x1.get 0 (by simp)
  have a1:=x1.get 1 (by simp)
  have a2:=x1.get 2 (by simp)
  have al:=x1.lim
  simp at a0 a1 a2 al o1
  try simp only[hnear]at o1
  have iZ:=zO (but:=cJ) (k:=2) (tc:=xc) (td:=xd) (ic:=0) (id:=0) (pd:=.nsl) (ad:=.nsl) (p:=[]) (.inr ⟨rfl,rfl⟩) (.inl rfl) b.aL
  have hn:=x1.le
  simp at hn
  have l2:2<K.n:=by omega
  have r1:∀o,resolve false (Dm.wl (K.set 2 o) 0) 199 v1=some (eL false 8 jW (Aq b.aL cJ 2 xc xd 0 0 [])):=fun o=>xQ ((o1.bU (o:=o) x1.wf (by decide) l2).wl (Nat.zero_le _)) iZ false (by decide)
  have hu:bH 199 (eL false 8 jW (Aq b.aL cJ 2 xc xd 0 0 []))=true:=kC (fun y _=>(jX y).2) 199 (by decide)
  simp[a0,a1,a2,al,l2,x1.wf,turn,aT,r1,hu]
end Go.Dm.Tc
/-
What the reference's functions compute,part 12: a aW of the broker's subscribes.
-/
namespace Go.Dm.Tc
def subOwn(b:aF)(x:ID)(p:bN):aF:={b with bJ:=iK (fun o=>o.id) ⟨x,p⟩ b.bJ}
def eH(x:ID)(p:bN)(st:aF×List lT)(a:bD):aF×List lT :=
 if zT p a.pred=true then((fZ st.1 ⟨a.id,x,p,-1,false⟩).1,if(fZ st.1 ⟨a.id,x,p,-1,false⟩).2=true then st.2++[⟨a.bP,3,a.id,x,p⟩]else st.2)
 else st
def fG(b:aF)(x:ID)(p:bN):aF×List lT :=
 if iN (fun o:fQ=>bK o.id x) b.bJ=true then(b,[])else b.aG.foldl (eH x p) (subOwn b x p,[])
theorem l44(xc xd:Int)(p:bN)(hp:cZ p)(t:Bool)(nO:List bD)(ho:∀o∈nO,cZ o.pred)(hl:nO.length≤100000)(tx tb tn:Nat) :
  ∀(rest:List bD) (i:Nat) (nb:aF) (iJ:List lT) (es:List DV) (v:DV) (f:dJ) (h:aA),nO.drop i=rest→cC nb→ZL nb rest.length→mF es iJ→es.length+rest.length≤1000000 →
  f 2=bQ p→f 3=.ptr 0 6 0 0→f 4=.ptr 1 2 0 0→f 6=.ptr 2 6 0 0→f 9=v→f 65=eL t 4 aJ nO→f 66=.int .i64 nO.length→f 67=.int .i64 i →
  h.get 1=some (.arr tx 2 [.agg [.int .i64 xc,.int .i64 xd]] (some 1))→h.get 2=some (.arr tb 6 [zB] (some 1))→h.get 0=some (.arr tn 6 [aI .none nb] (some 1))→OwnR 3 h v 206 8 es→h.lim=0→3≤h.n→WF h →
  dY (fin [.cell 6 (some 6),.t 7] (run D 99 [.block 2,.seq Uc] (.loop Gt) f h))=some (.tup [aI .none (rest.foldl (eH ⟨xc,xd⟩ p) (nb,iJ)).1,eL false 8 jW (rest.foldl (eH ⟨xc,xd⟩ p) (nb,iJ)).2]):=by
 intro rest
 induction rest with
 | nil =>
  intro i nb iJ es v f h hd Di hz hr Ep h2 h3 h4 h6 h9 hW hL hI g1 g2 gB hv aO hn wf
  have hi:=cY hd
  have:¬(i<nO.length):=by omega
  have l2:2<h.n:=by omega
  have r1:=fun o=>xQ (hv.bU (o:=o) wf (by decide:2<3) l2) hr false (n:=199) (by decide)
  have hu:bH 199 (eL false 8 jW iJ)=true:=kC (fun y _=>(jX y).2) 199 (by decide)
  rw[aC Gt.eq_1]
  simp only[zB]at g2
  simp[Uc,hL,hI,this,h3,h6,h9,gB,g2,aO,l2,wf,turn,aT,r1,hu]
 | cons o rest ih =>
  intro i nb iJ es v f h hd Di hz hr Ep h2 h3 h4 h6 h9 hW hL hI g1 g2 gB hv aO hn wf
  obtain⟨hi,he,fV⟩:=cN hd
  have Ru:=ho o (by rw[←he];exact List.getElem_mem hi)
  obtain⟨⟨oc,od⟩,op,oq⟩:=o
  simp only at Ru
  have hm:=VU p op hp Ru
  have uW:=V9 Di hz.sized oc od xc xd hp (-1) false
  have Fn:=Di.add (e:=⟨⟨oc,od⟩,⟨xc,xd⟩,p,-1,false⟩) (by simp[jJ]) hp
  have Eo:=hz.add ⟨⟨oc,od⟩,⟨xc,xd⟩,p,-1,false⟩
  obtain⟨m,eN⟩:∃ m,h.n=m+3:=⟨h.n-3,by omega⟩
  simp only[List.length_cons]at Ep
  rw[aC Gt.eq_1]
  simp only[List.foldl_cons]
  cases hq:zT p op with
  | false =>
   rw[hq]at hm
   have cW:eH ⟨xc,xd⟩ p (nb,iJ) ⟨⟨oc,od⟩,op,oq⟩=(nb,iJ):=by simp[eH,hq]
   rw[cW]
   simp[hL,hI,hW,hi,he,aJ,h2,aO,wf,turn,Sl,hm]
   rw[bE (by omega) (by omega)]
   generalize hF:upd _ 67 _=F
   refine ih (i+1) nb iJ es v F _ fV Di (hz.less (by simp)) hr (by omega) ?_ ?_ ?_ ?_ ?_ ?_ ?_ ?_ ?_ ?_ ?_ hv.push ?_ ?_ ?_
   all_goals first
    | (rw[←hF];simp[h2,h3,h4,h6,h9,hW,hL];done)
    | (simp[eN,g1,g2,gB,aO,wf];done)
    | (simp[eN]<;>omega)
  | true =>
   rw[hq]at hm
   cases hu:(fZ nb ⟨⟨oc,od⟩,⟨xc,xd⟩,p,-1,false⟩).2 with
   | false =>
    rw[hu]at uW
    have cW:eH ⟨xc,xd⟩ p (nb,iJ) ⟨⟨oc,od⟩,op,oq⟩=((fZ nb ⟨⟨oc,od⟩,⟨xc,xd⟩,p,-1,false⟩).1,iJ):=by simp[eH,hq,hu]
    rw[cW]
    simp[hL,hI,hW,hi,he,aJ,h2,h3,h4,eN,g1,gB,aO,wf,turn,Sl,hm,Yo,uW]
    rw[bE (by omega) (by omega)]
    generalize hF:upd _ 67 _=F
    refine ih (i+1) _ iJ es v F _ fV Fn Eo hr (by omega) ?_ ?_ ?_ ?_ ?_ ?_ ?_ ?_ ?_ ?_ ?_ (((hv.bU wf (by decide:0<3) (by omega)).push).push) ?_ ?_ ?_
    all_goals first
     | (rw[←hF];simp[h2,h3,h4,h6,h9,hW,hL];done)
     | (simp[eN,g1,g2,gB,aO,wf];done)
     | (simp[eN]<;>omega)
   | true =>
    rw[hu]at uW
    have cW:eH ⟨xc,xd⟩ p (nb,iJ) ⟨⟨oc,od⟩,op,oq⟩=((fZ nb ⟨⟨oc,od⟩,⟨xc,xd⟩,p,-1,false⟩).1,iJ++[⟨oq,3,⟨oc,od⟩,⟨xc,xd⟩,p⟩]):=by simp[eH,hq,hu]
    rw[cW]
    simp[hL,hI,hW,hi,he,aJ,h2,h3,h4,h9,eN,g1,gB,aO,wf,turn,Sl,hm,Yo,uW,LY,IL]
    generalize hA:aU _ _ _ _ _ _=A
    obtain⟨v',K,rfl,p',x',_⟩:=OwnR.append ((((hv.bU wf (by decide:0<3) (by omega)).push).push).push) (by simp[wf]) (by simp[eN]<;>omega) (by simp[aO]) hA (by simp;omega) (by decide)
    clear hA
    have a1:=x'.get 1 (by decide)
    have a2:=x'.get 2 (by decide)
    have aB:=x'.get 0 (by decide)
    have al:=x'.lim
    simp[eN,g1,g2,gB,aO,wf]at a1 a2 aB al
    have vN:=mF.append hr (mF.one (to:=oq) (k:=3) (tc:=oc) (td:=od) (ic:=xc) (id:=xd) (pd:=bQ p) (ad:=.isl false 0 []) (.inl rfl) (.inr rfl))
    simp[hI]
    rw[bE (by omega) (by omega)]
    generalize hF:upd _ 67 _=F
    refine ih (i+1) _ _ _ v' F K fV Fn Eo vN (by simp;omega) ?_ ?_ ?_ ?_ ?_ ?_ ?_ ?_ a1 a2 aB (by simpa[Db]using p') al x'.le x'.wf
    all_goals (rw[←hF];simp[h2,h3,h4,h6,h9,hW,hL])
end Go.Dm.Tc
/-
What the reference's functions compute,part 13: a aW of the broker's subscribes,with its row still written.
-/
namespace Go.Dm.Tc
theorem LI{lo:Nat}{h:aA}{i ety:Nat}{os:List fQ}{n:Nat}(o:dL lo h i ety 3 (os.map cB))(hn:n=os.length):gI h (.sl i 3 0 n)=some (eL false 3 cB os,h.set i .dead):=by
 subst hn
 obtain⟨⟨sp,cap,hg⟩,hl,_⟩:=o
 have hb:(List.take os.length (List.map cB os++sp)).all (eZ 200 0)=true:=by
  rw[List.take_left' (by simp),List.all_eq_true]
  intro x hx
  obtain⟨y,_,rfl⟩:=List.mem_map.1 hx
  exact(SG y).belowN (by decide)
 simp only[gI,hg,hl,List.drop_zero,hb,List.length_append,List.length_map,Nat.zero_add,Nat.le_add_right,and_self,if_true]
 rw[List.take_left' (by simp)]
 cases os<;>rfl
theorem n44(xc xd:Int)(p:bN)(hp:cZ p)(t:Bool)(nO:List bD)(ho:∀o∈nO,cZ o.pred)(hl:nO.length≤100000)(tx tb tn:Nat)(nb:aF)(Di:cC nb)(iw:Nat) :
  ∀(rest:List bD) (i:Nat) (f:dJ) (h:aA),nO.drop i=rest→ZL nb rest.length →
  f 2=bQ p→f 3=.ptr 0 6 0 0→f 4=.ptr 1 2 0 0→f 6=.ptr 2 6 0 0→f 9=.nsl→f 65=eL t 4 aJ nO→f 66=.int .i64 nO.length→f 67=.int .i64 i →
  h.get 1=some (.arr tx 2 [.agg [.int .i64 xc,.int .i64 xd]] (some 1))→h.get 2=some (.arr tb 6 [zB] (some 1)) →
  h.get 0=some (.arr tn 6 [.agg [.int .i64 nb.me,eL false 1 cF nb.aL,eL false 4 aJ nb.aG,eL false 2 eID nb.seen,eL false 7 aN nb.entries,.sl iw 3 0 nb.bJ.length]] (some 1))→dL 3 h iw 134 3 (nb.bJ.map cB)→h.lim=0→3≤h.n→WF h →
  dY (fin [.cell 6 (some 6),.t 7] (run D 99 [.block 2,.seq Uc] (.loop Gt) f h))=some (.tup [aI .none (rest.foldl (eH ⟨xc,xd⟩ p) (nb,[])).1,eL false 8 jW (rest.foldl (eH ⟨xc,xd⟩ p) (nb,[])).2]):=by
 intro rest
 induction rest with
 | nil =>
  intro i f h hd hz h2 h3 h4 h6 h9 hW hL hI g1 g2 gB hv aO hn wf
  have hi:=cY hd
  have:¬(i<nO.length):=by omega
  have l2:2<h.n:=by omega
  have r1:∀o,resolve false (h.set 2 o) 198 (.sl iw 3 0 nb.bJ.length)=some (eL false 3 cB nb.bJ):=fun o=>by
   have:=(hv.bU (o:=o) wf (by decide:2<3) l2).toR.resolve (n:=198) false (fun y _=>(xO y).1) (by decide)
   simpa using this
  have hu:=S3 174 nb.bJ
  rw[aC Gt.eq_1]
  simp only[zB]at g2
  simp[Uc,hL,hI,this,h3,h6,h9,gB,g2,aO,l2,wf,turn,aT,r1]
  exact⟨rfl,rfl⟩
 | cons o rest ih =>
  intro i f h hd hz h2 h3 h4 h6 h9 hW hL hI g1 g2 gB hv aO hn wf
  obtain⟨hi,he,fV⟩:=cN hd
  have Ru:=ho o (by rw[←he];exact List.getElem_mem hi)
  obtain⟨⟨oc,od⟩,op,oq⟩:=o
  simp only at Ru
  have hm:=VU p op hp Ru
  have uW:=V9 Di hz.sized oc od xc xd hp (-1) false
  have Fn:=Di.add (e:=⟨⟨oc,od⟩,⟨xc,xd⟩,p,-1,false⟩) (by simp[jJ]) hp
  have Eo:=hz.add ⟨⟨oc,od⟩,⟨xc,xd⟩,p,-1,false⟩
  obtain⟨m,eN⟩:∃ m,h.n=m+3:=⟨h.n-3,by omega⟩
  have N7:=hv.lt
  have hi3:=hv.lo
  have k0:¬iw=0:=by omega
  have k1:¬iw=1:=by omega
  have k2:¬iw=2:=by omega
  have k0':¬0=iw:=by omega
  have k1':¬1=iw:=by omega
  have k2':¬2=iw:=by omega
  have k3:¬iw=m+3:=by omega
  have k4:¬iw=m+3+1:=by omega
  have k5:iw<m+3:=by omega
  have k6:iw<m+3+1:=by omega
  have rQ:∀o1 o2,gI ((h.push o1).push o2) (.sl iw 3 0 nb.bJ.length)=some (eL false 3 cB nb.bJ,((h.push o1).push o2).set iw .dead):=fun o1 o2=>LI (hv.push.push) rfl
  have Fq:DV.agg [.int .i64 nb.me,eL false 1 cF nb.aL,eL false 4 aJ nb.aG,eL false 2 eID nb.seen,eL false 7 aN nb.entries,eL false 3 cB nb.bJ]=aI .none nb:=rfl
  rw[aC Gt.eq_1]
  simp only[List.foldl_cons]
  cases hq:zT p op with
  | false =>
   rw[hq]at hm
   have cW:eH ⟨xc,xd⟩ p (nb,[]) ⟨⟨oc,od⟩,op,oq⟩=(nb,[]):=by simp[eH,hq]
   rw[cW]
   simp[hL,hI,hW,hi,he,aJ,h2,aO,wf,turn,Sl,hm]
   rw[bE (by omega) (by omega)]
   generalize hF:upd _ 67 _=F
   refine ih (i+1) F _ fV (hz.less (by simp)) ?_ ?_ ?_ ?_ ?_ ?_ ?_ ?_ ?_ ?_ ?_ hv.push ?_ ?_ ?_
   all_goals first
    | (rw[←hF];simp[h2,h3,h4,h6,h9,hW,hL];done)
    | (simp[eN,g1,g2,gB,aO,wf];done)
    | (simp[eN]<;>omega)
  | true =>
   rw[hq]at hm
   cases hu:(fZ nb ⟨⟨oc,od⟩,⟨xc,xd⟩,p,-1,false⟩).2 with
   | false =>
    rw[hu]at uW
    have cW:eH ⟨xc,xd⟩ p (nb,[]) ⟨⟨oc,od⟩,op,oq⟩=((fZ nb ⟨⟨oc,od⟩,⟨xc,xd⟩,p,-1,false⟩).1,[]):=by simp[eH,hq,hu]
    rw[cW]
    simp[hL,hI,hW,hi,he,aJ,h2,h3,h4,eN,g1,gB,aO,wf,turn,Sl,hm,Yo,rQ,Fq,uW,k0,k1,k2,k0',k1',k2',k3,k4,k5,k6]
    rw[bE (by omega) (by omega)]
    generalize hF:upd _ 67 _=F
    refine l44 xc xd p hp t nO ho hl tx tb tn rest (i+1) _ [] [] .nsl F _ fV Fn Eo mF.nil (by have:=hz.ent;simp at this ⊢;omega) ?_ ?_ ?_ ?_ ?_ ?_ ?_ ?_ ?_ ?_ ?_ (.nil rfl rfl) ?_ ?_ ?_
    all_goals first
     | (rw[←hF];simp[h2,h3,h4,h6,h9,hW,hL];done)
     | (simp[eN,g1,g2,gB,aO,wf,k0,k1,k2,k0',k1',k2',k3,k4,k5,k6];done)
     | (simp[eN]<;>omega)
   | true =>
    rw[hu]at uW
    have cW:eH ⟨xc,xd⟩ p (nb,[]) ⟨⟨oc,od⟩,op,oq⟩=((fZ nb ⟨⟨oc,od⟩,⟨xc,xd⟩,p,-1,false⟩).1,[⟨oq,3,⟨oc,od⟩,⟨xc,xd⟩,p⟩]):=by simp[eH,hq,hu]
    rw[cW]
    simp[hL,hI,hW,hi,he,aJ,h2,h3,h4,h9,eN,g1,gB,aO,wf,turn,Sl,hm,Yo,rQ,Fq,uW,k0,k1,k2,k0',k1',k2',k3,k4,k5,k6,LY,IL]
    generalize hA:aU _ _ _ _ _ _=A
    obtain⟨v',K,rfl,p',x',_⟩:=OwnR.append (lo:=3) (OwnR.start 3 _ 206 8) (by simp[wf]) (by simp[eN]<;>omega) (by simp[aO]) hA (by simp) (by decide)
    clear hA
    have a1:=x'.get 1 (by decide)
    have a2:=x'.get 2 (by decide)
    have aB:=x'.get 0 (by decide)
    have al:=x'.lim
    simp[eN,g1,g2,gB,aO,wf,k0,k1,k2,k0',k1',k2',k3,k4,k5,k6]at a1 a2 aB al
    have vN:=mF.one (to:=oq) (k:=3) (tc:=oc) (td:=od) (ic:=xc) (id:=xd) (pd:=bQ p) (ad:=.isl false 0 []) (.inl rfl) (.inr rfl)
    simp[hI]
    rw[bE (by omega) (by omega)]
    generalize hF:upd _ 67 _=F
    refine l44 xc xd p hp t nO ho hl tx tb tn rest (i+1) _ _ _ v' F K fV Fn Eo vN (by have:=hz.ent;simp at this;simp;omega) ?_ ?_ ?_ ?_ ?_ ?_ ?_ ?_ a1 a2 aB (by simpa[Db]using p') al x'.le x'.wf
    all_goals (rw[←hF];simp[h2,h3,h4,h6,h9,hW,hL])
end Go.Dm.Tc
/-
What the reference's functions compute,part 14: a aW of the broker's subscribes,all of it.
-/
namespace Go.Dm.Tc
theorem o44(S:List Fr)(h:aA)(x0 x1 x2 x3 x4:DV)(t:Bool)(l:List fQ)(c d:Int)(ta tb:Nat)(hl:l.length≤1000000)
  (g0:h.get 0=some (.arr tb 6 [.agg [x0,x1,x2,x3,x4,eL t 3 cB l]] (some 1))) (g1:h.get 1=some (.arr ta 2 [.agg [.int .i64 c,.int .i64 d]] (some 1))) :
  ∀(n i:Nat) (f:dJ),aV (fun b=>bK b.id ⟨c,d⟩) l-i=n→i≤aV (fun b=>bK b.id ⟨c,d⟩) l→f 3=.ptr 0 6 0 0→f 4=.ptr 1 2 0 0→f 8=.int .i64 i →
  ∃ f',run D 99 (.block 0::.seq Mu::S) (.loop T2) f h=run D 99 S Mu f' h∧f' 3=.ptr 0 6 0 0∧f' 4=.ptr 1 2 0 0∧f' 2=f 2∧f' 6=f 6∧f' 8=.int .i64 (aV (fun b=>bK b.id ⟨c,d⟩) l):=by
 intro n
 induction n with
 | zero =>
  intro i f hn hi h2 h3 h6
  have fY:aV (fun b=>bK b.id ⟨c,d⟩) l=i:=by omega
  rw[aC T2.eq_1]
  by_cases aZ:i<l.length
  ·have WW:=Bi (fun b:fQ=>bK b.id ⟨c,d⟩) hi (List.getElem?_eq_getElem aZ)
   have Zu:iD ⟨l[i].id.aW,l[i].id.seq⟩ ⟨c,d⟩=false:=by
    unfold iD
    simp only[decide_eq_false_iff_not]
    intro hc
    have:=WW.1 hc
    omega
   simp[h2,h3,h6,g0,g1,aZ,cB,Ke,Hw,Zu]
   exact⟨_,rfl,by simp[h2],by simp[h3],by simp,by simp,by simp[h6,fY]⟩
  ·simp[h2,h3,h6,g0,g1,aZ]
   exact⟨_,rfl,by simp[h2],by simp[h3],by simp,by simp,by simp[h6,fY]⟩
 | succ n ih =>
  intro i f hn hi h2 h3 h6
  have aZ:i<l.length:=by have:=eI (fun b:fQ=>bK b.id ⟨c,d⟩) l;omega
  have Zu:iD ⟨l[i].id.aW,l[i].id.seq⟩ ⟨c,d⟩=true:=Rs (fun b:fQ=>bK b.id ⟨c,d⟩) (by omega) (List.getElem?_eq_getElem aZ)
  rw[aC T2.eq_1]
  simp[h2,h3,h6,g0,g1,aZ,cB,Ke,Hw,Zu]
  rw[bE (by omega) (by omega)]
  generalize hF:upd _ 8 _=F
  obtain⟨f',k1,k2,k3,k4,k5,k6⟩:=ih (i+1) F (by omega) (by omega) (by rw[←hF];simp[h2]) (by rw[←hF];simp[h3]) (by rw[←hF];simp)
  exact⟨f',k1,k2,k3,by rw[k4,←hF];simp,by rw[k5,←hF];simp,k6⟩
theorem EA{α:Type}(key:α→ID)(a:α)(l:List α):(iK key a l).length=l.length+1:=by
 unfold iK
 have:=eI (fun b=>bK (key b) (key a)) l
 simp only[List.length_append,List.length_cons,List.length_take,List.length_drop]
 omega
theorem W5{l:List fQ}(hr:dB (l.map (·.id)))(x:ID):iN (fun o:fQ=>bK o.id x) l=false→∀o∈l,o.id≠x:=by
 intro hh o ho
 have hf:=Jh (fun a:fQ=>a.id) hr x
 cases hq:l.find? (fun b=>decide (b.id=x))with
 | none=>exact(yW (fun a:fQ=>a.id) x).1 hq o ho
 | some a=>rw[hq]at hf;rw[hf.1]at hh;cases hh
theorem cC.subOwn{b:aF}(h:cC b){x:ID}{p:bN}(hp:cZ p)(hn:∀o∈b.bJ,o.id≠x):cC (subOwn b x p):=by
 obtain⟨h1,h2,h3,h4,h5,h6,h7,h8,h9,jY,pT,pS,Tj⟩:=h
 refine⟨h1,h2,h3,h4,oE (fun o:fQ=>o.id) ⟨x,p⟩ h5 hn,h6,h7,h8,h9,?_,pT,pS,Tj⟩
 intro o ho
 unfold Tc.subOwn iK at ho
 simp only at ho
 rcases List.mem_append.1 ho with h|h
 ·exact jY o (List.mem_of_mem_take h)
 ·rcases List.mem_cons.1 h with rfl|h
  ·exact hp
  ·exact jY o (List.mem_of_mem_drop h)
theorem s44(b:aF)(xc xd:Int)(p:bN)(hi:cC b)(hz:ZL b b.aG.length)(hp:cZ p)(ho:b.bJ.length<100000) :
  pcF D t44 [aI .none b,.agg [.int .i64 xc,.int .i64 xd],bQ p]=some (.tup [aI .none (fG b ⟨xc,xd⟩ p).1,eL false 8 jW (fG b ⟨xc,xd⟩ p).2]):=by
 unfold pcF
 rw[aP _ _ _ _ (by simp[t44])]
 obtain⟨me,aL,adv,seen,ent,own⟩:=b
 simp[t44]
 generalize hF:upd _ 8 _=F
 generalize hH:aA.push _ _=H
 simp only at ho
 obtain⟨f',k1,k2,k3,k4,k5,k6⟩:=o44 [] H (.int .i64 me) (eL false 1 cF aL) (eL false 4 aJ adv) (eL false 2 eID seen) (eL false 7 aN ent) false own xc xd _ _ (by omega) (by rw[←hH];simp[aI,dZ.none];rfl) (by rw[←hH];simp;rfl) _ 0 F rfl (Nat.zero_le _) (by rw[←hF];simp) (by rw[←hF];simp) (by rw[←hF];simp)
 rw[k1]
 have g0:H.get 0=some (.arr 37 6 [.agg [.int .i64 me,eL false 1 cF aL,eL false 4 aJ adv,eL false 2 eID seen,eL false 7 aN ent,eL false 3 cB own]] (some 1)):=by rw[←hH];simp[aI,dZ.none]
 have g1:H.get 1=some (.arr 45 2 [.agg [.int .i64 xc,.int .i64 xd]] (some 1)):=by rw[←hH];simp
 have g2:H.get 2=some (.arr 37 6 [.agg [.int .i64 0,.nsl,.nsl,.nsl,.nsl,.nsl]] (some 1)):=by rw[←hH];simp
 have W3:H.n=3:=by rw[←hH];simp
 have aO:H.lim=0:=by rw[←hH];simp
 have wf:WF H:=by rw[←hH];simp
 have q2:f' 2=bQ p:=by rw[k4,←hF];simp
 have q6:f' 6=.ptr 2 6 0 0:=by rw[k5,←hF];simp
 clear k1 hH hF k4 k5
 have jU:=eI (fun b:fQ=>bK b.id ⟨xc,xd⟩) own
 cases hh:iN (fun o:fQ=>bK o.id ⟨xc,xd⟩) own with
 | true =>
  have ha:fG ⟨me,aL,adv,seen,ent,own⟩ ⟨xc,xd⟩ p=(⟨me,aL,adv,seen,ent,own⟩,[]):=by simp only[fG,hh,if_true]
  rw[ha]
  unfold iN at hh
  split at hh
  ·rename_i o hox
   have aZ:=(List.getElem?_eq_some_iff.1 hox).1
   have hoe:=(List.getElem?_eq_some_iff.1 hox).2
   have eO:o.id=⟨xc,xd⟩:=by have:=of_decide_eq_true hh;exact wZ.1 this
   have c1:o.id.aW=xc:=by rw[eO]
   have c2:o.id.seq=xd:=by rw[eO]
   simp[Mu,k2,k3,k6,q6,g0,g1,g2,aZ,hoe,cB,c1,c2,aO,W3,wf,turn,aT]
   exact⟨rfl,rfl⟩
  ·cases hh
 | false =>
  have ha:fG ⟨me,aL,adv,seen,ent,own⟩ ⟨xc,xd⟩ p=adv.foldl (eH ⟨xc,xd⟩ p) (subOwn ⟨me,aL,adv,seen,ent,own⟩ ⟨xc,xd⟩ p,[]):=by simp only[fG,hh];rfl
  rw[ha]
  have Cn:=W5 hi.ro ⟨xc,xd⟩ hh
  have hinv:=hi.subOwn hp Cn
  have hkey:∀(aZ:aV (fun b:fQ=>bK b.id ⟨xc,xd⟩) own<own.length),¬(own[aV (fun b:fQ=>bK b.id ⟨xc,xd⟩) own].id.aW=xc∧own[aV (fun b:fQ=>bK b.id ⟨xc,xd⟩) own].id.seq=xd):=fun aZ hc=>Cn _ (List.getElem_mem aZ) (ID.ext'.2 hc)
  generalize vO:aV (fun b:fQ=>bK b.id ⟨xc,xd⟩) own=k at *
  have oG:min k own.length=k:=by omega
  have ofr:dL 3 (H.push (.arr 134 3 [] (some 0))) 3 134 3 []:=by have:=dL.fresh (lo:=3) (h:=H) (ety:=134) (sz:=3) (xs:=[]) (cap:=some 0) (by omega) (by omega);rw[W3]at this;exact this
  by_cases aZ:k<own.length
  have Lw:=hkey aZ
  simp[Mu,k2,k3,k6,q2,g0,g1,g2,aZ,jU,cB,Lw,aO,W3,wf,turn]
  rotate_left
  simp[Mu,k2,k3,k6,q2,g0,g1,g2,aZ,jU,cB,aO,W3,wf,turn]
  all_goals
   generalize hA:aU _ _ _ _ _ _=A
   obtain⟨i1,K1,rfl,o1,x1,y1,j1⟩:=ofr.append (n:=0) rfl wf.push (by simp;omega) (by simp[aO]) hA (by simp;omega) (by decide)
   clear hA
   have a0:=x1.get 0 (by decide)
   have a1:=x1.get 1 (by decide)
   have a2:=x1.get 2 (by decide)
   have q1:=x1.lim
   have w1:=x1.wf
   have n1:=x1.le
   have u1:=o1.lo
   have m0:¬0=i1:=by omega
   have m1:¬i1=0:=by omega
   have m2:¬i1=1:=by omega
   have m3:¬1=i1:=by omega
   simp[g0,g1,g2,W3,aO]at a0 a1 a2 q1 o1
   simp[k2,k3,q2,g0,g1,a0,a1,a2,q1,w1,m0,m1,m2,m3,jU,W3]
   generalize hA:aU _ _ _ _ _ _=A
   obtain⟨i2,K2,rfl,o2,x2,y2,j2⟩:=(o1.push (o:=_)).append (by simp[jU]) (by simp[w1]) (by simp;omega) (by simp[q1]) hA (by simp;omega) (by decide)
   clear hA
   have b0:=x2.get 0 (by decide)
   have b1:=x2.get 1 (by decide)
   have b2:=x2.get 2 (by decide)
   have p2:=x2.lim
   have w2:=x2.wf
   have n2:=x2.le
   have u2:=o2.lo
   have c0:¬0=K1.n:=by omega
   have c1:¬1=K1.n:=by omega
   have c2:¬2=K1.n:=by omega
   have m4:¬i2=0:=by omega
   have m5:¬i2=1:=by omega
   simp[a0,a1,a2,q1,c0,c1,c2]at b0 b1 b2 p2 o2
   simp[k2,k3,k6,g0,g1,a0,b0,b1,b2,p2,m0,m1,m2,m3,m4,m5,jU,W3]
   generalize hA:aU _ _ _ _ _ _=A
   obtain⟨i3,K3,rfl,o3,x3,y3,j3⟩:=o2.append (by simp[jU]) w2 n2 (by omega) hA (by simp;omega) (by decide)
   clear hA
   have d0:=x3.get 0 (by decide)
   have d1:=x3.get 1 (by decide)
   have d2:=x3.get 2 (by decide)
   have p3:=x3.lim
   have w3:=x3.wf
   have n3:=x3.le
   have l3:0<K3.n:=by omega
   rw[b0]at d0
   rw[b1]at d1
   rw[b2]at d2
   rw[p2]at p3
   simp[k2,k3,g0,b0,d0,p3,w3,l3,turn,oG]
   generalize hF2:upd _ 67 _=F2
   have cM:(List.take k (List.map cB own)++[DV.agg [.int .i64 xc,.int .i64 xd,bQ p]]++List.drop k (List.map cB own))=(subOwn ⟨me,aL,adv,seen,ent,own⟩ ⟨xc,xd⟩ p).bJ.map cB:=by simp[subOwn,iK,vO,cB]
   rw[cM]at o3
   have ED:(subOwn ⟨me,aL,adv,seen,ent,own⟩ ⟨xc,xd⟩ p).bJ.length=k+1+(own.length-k):=by simp[subOwn,iK,vO,oG];omega
   have KX:ZL (subOwn ⟨me,aL,adv,seen,ent,own⟩ ⟨xc,xd⟩ p) adv.length:=⟨hz.aL,hz.adv,hz.seen,by rw[ED];omega,hz.ent⟩
   refine n44 xc xd p hp false adv hi.pa hz.adv 45 37 37 _ hinv i3 adv 0 F2 _ rfl KX ?_ ?_ ?_ ?_ ?_ ?_ ?_ ?_ ?_ ?_ ?_ (o3.bU w3 (by decide) l3) ?_ ?_ ?_
   all_goals first
    | (rw[←hF2];simp[q2,k2,k3,q6];done)
    | (simp[d1,d2,p3,w3,l3,zB];done)
    | (rw[ED];simp[w3,l3,subOwn];done)
    | (simp;omega)
end Go.Dm.Tc
/-
What the reference's functions compute,part 15: an entry dropped.
-/
namespace Go.Dm.Tc
def qR(to:Int)(mO:List bB):List lT:=mO.map fun e=>⟨to,3,e.tree,e.sub,e.pred⟩
def iT(b:aF)(t s:ID)(q:Int):aF×List lT :=
 if(dK b t s q).2.2=true then((dK b t s q).1,qR (dP b t) (dK b t s q).2.1++[⟨dP b t,4,t,s,[]⟩])else((dK b t s q).1,[])
theorem l116(S:List Fr)(t:Bool)(mO:List bB)(hl:mO.length≤100000)(to:Int)(h0:aA)(aO:h0.lim≤4)(P:Res→Prop) :
  ∀(rest:List bB) (i:Nat) (iJ:List lT) (es:List DV) (v:DV) (f:dJ) (h:aA),mO.drop i=rest→mF es iJ→(es.length≤i∧i≤mO.length)→f 12=.int .i64 to→f 13=v→f 36=eL t 7 aN mO→f 37=.int .i64 mO.length→f 38=.int .i64 i→OwnR 4 h v 206 8 es→Ext 4 h0 h →
  (∀f' h' v' es',f' 13=v'→f' 12=.int .i64 to→(∀r,r<12→f' r=f r)→es'.length≤mO.length→mF es' (iJ++qR to rest)→OwnR 4 h' v' 206 8 es'→Ext 4 h0 h'→P (run D 59 S Hf f' h')) →
  P (run D 59 (.block 0::.seq Hf::S) (.loop Qa) f h):=by
 intro rest
 induction rest with
 | nil =>
  intro i iJ es v f h hd hr he pS Tj h36 h37 h38 ho x hP
  have hi:=cY hd
  have:¬(i<mO.length):=by omega
  have k:∀r q:Nat,r<12→12≤q→¬r=q:=fun r q h1 h2=>by omega
  rw[aC Qa.eq_1]
  simp[h37,h38,this]
  refine hP _ h v es (by simp[Tj]) (by simp[pS]) (fun r LB=>by simp[k r _ LB]) (by omega) (by simpa[qR]using hr) ho x
 | cons e rest ih =>
  intro i iJ es v f h hd hr he pS Tj h36 h37 h38 ho x hP
  obtain⟨hi,vR,fV⟩:=cN hd
  obtain⟨⟨tc,td⟩,⟨sc,sd⟩,p,q,u⟩:=e
  have hnl:=x.le
  have Je:=x.lim
  have k:∀r q:Nat,r<12→12≤q→¬r=q:=fun r q h1 h2=>by omega
  rw[aC Qa.eq_1]
  have XD:h.lim≤h.n:=by omega
  simp[pS,Tj,h36,h37,h38,hi,vR,aN,x.wf,turn,XD,LY,IL]
  generalize hA:aU _ _ _ _ _ _=A
  obtain⟨v',K,rfl,p',x',_⟩:=OwnR.append (ho.push.push) (by simp[x.wf]) (by simp;omega) (by simp;omega) hA (by simp;omega) (by decide)
  clear hA
  simp[h38]
  rw[bE (by omega) (by omega)]
  generalize hF:upd _ 38 _=F
  have vN:=mF.append hr (mF.one (to:=to) (k:=3) (tc:=tc) (td:=td) (ic:=sc) (id:=sd) (pd:=bQ p) (ad:=.isl false 0 []) (.inl rfl) (.inr rfl))
  refine ih (i+1) _ _ v' F K fV vN ⟨by simp;omega,by omega⟩ ?_ ?_ ?_ ?_ ?_ (by simpa[Db]using p') ((x.push.push).trans x') ?_
  all_goals first
   | (rw[←hF];simp[pS,Tj,h36,h37];done)
   | skip
  intro f' h' v2 es' a1 a2 a3 a4 a5 a6 a7
  refine hP f' h' v2 es' a1 a2 (fun r LB=>?_) a4 (by simpa[qR]using a5) a6 a7
  rw[a3 r LB,←hF]
  simp[k r _ LB]
theorem HK{b:aF}(h:cC b){t s:ID}{q:Int}(hu:(dK b t s q).2.2=true):(dK b t s q).1.aG=b.aG∧∃ a,jK b t=some a:=by
 rcases qS h t s q with⟨e,_⟩|⟨e,_,_,_,_,ht⟩|⟨e,hm,hi,_,_,r',u',ht,_⟩
 ·rw[e]at hu;cases hu
 ·rw[ht]at hu;cases hu
 ·rw[ht]
  refine⟨rfl,?_⟩
  obtain⟨a,ha,_⟩:=gQ.1 (h.ent e hm)
  have:e.tree=t:=by simp only[isE,Bool.and_eq_true,decide_eq_true_eq]at hi;first|exact hi.1|exact hi.2
  exact⟨a,by rw[←this];exact ha⟩
theorem Tx{b:aF}(h:cC b)(t s:ID)(q:Int):(dK b t s q).2.1.length≤b.entries.length:=by
 exact Tu b t s q
theorem VT(b:aF)(tc td sc sd q:Int)(hi:cC b)(hz:jF b) :
  pcF D D5 [aI .none b,.agg [.int .i64 tc,.int .i64 td],.agg [.int .i64 sc,.int .i64 sd],.int .i64 q]=some (.tup [aI .none (iT b ⟨tc,td⟩ ⟨sc,sd⟩ q).1,eL false 8 jW (iT b ⟨tc,td⟩ ⟨sc,sd⟩ q).2]):=by
 have ht:=WS hi hz tc td sc sd q
 unfold pcF
 rw[aP _ _ _ _ (by simp[D5])]
 cases hu:(dK b ⟨tc,td⟩ ⟨sc,sd⟩ q).2.2 with
 | false =>
  rw[hu]at ht
  have hd:iT b ⟨tc,td⟩ ⟨sc,sd⟩ q=((dK b ⟨tc,td⟩ ⟨sc,sd⟩ q).1,[]):=by simp[iT,hu]
  rw[hd]
  simp[D5,t8,ht,turn,aT,oO]
 | true =>
  rw[hu]at ht
  obtain⟨Ma,a,ha⟩:=HK hi hu
  have hd:iT b ⟨tc,td⟩ ⟨sc,sd⟩ q=((dK b ⟨tc,td⟩ ⟨sc,sd⟩ q).1,qR (dP b ⟨tc,td⟩) (dK b ⟨tc,td⟩ ⟨sc,sd⟩ q).2.1++[⟨dP b ⟨tc,td⟩,4,⟨tc,td⟩,⟨sc,sd⟩,[]⟩]):=by simp[iT,hu]
  rw[hd]
  have wN:=tK (fun a:bD=>decide (a.id=⟨tc,td⟩)) b.aG
  have GM:b.aG.find? (fun a=>decide (a.id=⟨tc,td⟩))=some a:=ha
  rw[GM]at wN
  obtain⟨j,hj,GJ⟩:=wN
  have hFi:pcF D Ud [aI .none (dK b ⟨tc,td⟩ ⟨sc,sd⟩ q).1,.agg [.int .i64 tc,.int .i64 td]]=some (.int .i64 j):=by
   have:=Ba (.int .i64 (dK b ⟨tc,td⟩ ⟨sc,sd⟩ q).1.me) (eL false 1 cF (dK b ⟨tc,td⟩ ⟨sc,sd⟩ q).1.aL) (eL false 2 eID (dK b ⟨tc,td⟩ ⟨sc,sd⟩ q).1.seen) (eL false 7 aN (dK b ⟨tc,td⟩ ⟨sc,sd⟩ q).1.entries) (eL false 3 cB (dK b ⟨tc,td⟩ ⟨sc,sd⟩ q).1.bJ) false (dK b ⟨tc,td⟩ ⟨sc,sd⟩ q).1.aG tc td (by rw[Ma];have:=hz.adv;omega)
   rw[Ma,hj]at this
   simpa[eM,aI,dZ.none,Ma]using this
  have Lv:dP b ⟨tc,td⟩=a.bP:=by rw[fC,ha];rfl
  have Rz:j<b.aG.length:=(List.getElem?_eq_some_iff.1 GJ).1
  have hjg:b.aG[j]=a:=(List.getElem?_eq_some_iff.1 GJ).2
  rw[Lv]
  simp[D5,t8,ht,turn,Ce,hFi,Ma,Rz,hjg,aJ]
  generalize hF:upd _ 38 _=F
  generalize hH:aA.push _ _=H0
  have hul:(dK b ⟨tc,td⟩ ⟨sc,sd⟩ q).2.1.length≤100000:=Nat.le_trans (Tx hi ..) hz.ent
  generalize (dK b ⟨tc,td⟩ ⟨sc,sd⟩ q).2.1=mO at *
  generalize Jk:(dK b ⟨tc,td⟩ ⟨sc,sd⟩ q).1=b1 at *
  have hn4:H0.n=4:=by rw[←hH];simp
  have Dh:H0.lim=0:=by rw[←hH];simp
  have hw0:WF H0:=by rw[←hH];simp
  refine l116 [] false mO hul a.bP H0 (by omega) (fun r=>dY (fin [.cell 8 (some 6),.t 9] r)=some (.tup [aI .none b1,eL false 8 jW (qR a.bP mO++[⟨a.bP,4,⟨tc,td⟩,⟨sc,sd⟩,[]⟩])])) mO 0 [] [] .nsl F H0 rfl mF.nil ⟨by simp,Nat.zero_le _⟩ (by rw[←hF];simp) (by rw[←hF];simp) (by rw[←hF];simp) (by rw[←hF];simp) (by rw[←hF];simp) (.nil rfl rfl) (.refl (by omega) hw0) fun f' h' v' es' q13 q12 qr mP hrw WZ x=>?_
  have q4:f' 4=.ptr 0 6 0 0:=by rw[qr 4 (by decide),←hF];simp
  have q5:f' 5=.ptr 1 2 0 0:=by rw[qr 5 (by decide),←hF];simp
  have q6:f' 6=.ptr 2 2 0 0:=by rw[qr 6 (by decide),←hF];simp
  have q8:f' 8=.ptr 3 6 0 0:=by rw[qr 8 (by decide),←hF];simp
  have a0:h'.get 0=some (.arr 37 6 [aI .none b1] (some 1)):=(x.get 0 (by decide)).trans (by rw[←hH];simp)
  have a1:h'.get 1=some (.arr 45 2 [.agg [.int .i64 tc,.int .i64 td]] (some 1)):=(x.get 1 (by decide)).trans (by rw[←hH];simp)
  have a2:h'.get 2=some (.arr 45 2 [.agg [.int .i64 sc,.int .i64 sd]] (some 1)):=(x.get 2 (by decide)).trans (by rw[←hH];simp)
  have a3:h'.get 3=some (.arr 37 6 [.agg [.int .i64 0,.nsl,.nsl,.nsl,.nsl,.nsl]] (some 1)):=(x.get 3 (by decide)).trans (by rw[←hH];simp)
  have al:h'.lim=0:=x.lim.trans Dh
  obtain⟨m,eN⟩:∃ m,h'.n=m+4:=⟨h'.n-4,by have:=x.le;omega⟩
  have iZ:=mF.append hrw (mF.one (to:=a.bP) (k:=4) (tc:=tc) (td:=td) (ic:=sc) (id:=sd) (pd:=.nsl) (ad:=.nsl) (p:=[]) (.inr ⟨rfl,rfl⟩) (.inl rfl))
  simp only[List.nil_append]at iZ
  cases WZ with
  | nil hv hx =>
   subst hv
   subst hx
   simp[Hf,q4,q5,q6,q8,q12,q13,a0,a1,a2,a3,al,eN,x.wf]
   generalize hA:aU _ _ _ _ _ _=A
   obtain⟨v2,K,rfl,p',x',_⟩:=OwnR.append (lo:=4) (OwnR.start 4 _ 206 8) (by simp[x.wf]) (by simp[eN]<;>omega) (by simp[eN,al]) hA (by simp<;>omega) (by decide)
   clear hA
   have b0:=x'.get 0 (by decide)
   have b1':=x'.get 1 (by decide)
   have b2:=x'.get 2 (by decide)
   have b3:=x'.get 3 (by decide)
   have bl:=x'.lim
   have bn:=x'.le
   have l3:3<K.n:=by omega
   simp[eN,a0,a1,a2,a3,al]at b0 b1' b2 b3 bl p'
   have r1:∀o,resolve false (Dm.wl (K.set 3 o) 0) 199 v2=some (eL false 8 jW (qR a.bP mO++[⟨a.bP,4,⟨tc,td⟩,⟨sc,sd⟩,[]⟩])):=fun o=>xQ ((by simpa[Db]using(p'.bU (o:=o) x'.wf (by decide) l3).wl (Nat.zero_le _)):OwnR 4 (Dm.wl (K.set 3 o) 0) v2 206 8 _) iZ false (by decide)
   have M8:bH 199 (eL false 8 jW (qR a.bP mO++[⟨a.bP,4,⟨tc,td⟩,⟨sc,sd⟩,[]⟩]))=true:=kC (fun y _=>(jX y).2) 199 (by decide)
   simp[q8,b0,b1',b2,b3,bl,al,l3,x'.wf,turn,aT,r1,M8]
  | arr id sp cap hv hg XD fY =>
   subst hv
   have hidn:=cI hg
   have e0:¬0=id:=by omega
   have e1:¬1=id:=by omega
   have e2:¬2=id:=by omega
   simp[Hf,q4,q5,q6,q8,q12,q13,a0,a1,a2,a3,al,eN,x.wf,e0,e1,e2]
   generalize hA:aU _ _ _ _ _ _=A
   obtain⟨v2,K,rfl,p',x',_⟩:=OwnR.append (lo:=4) (OwnR.push (.arr id sp cap rfl hg XD fY)) (by simp[x.wf]) (by simp[eN]<;>omega) (by simp[eN,al]) hA (by simp<;>omega) (by decide)
   clear hA
   have b0:=x'.get 0 (by decide)
   have b1':=x'.get 1 (by decide)
   have b2:=x'.get 2 (by decide)
   have b3:=x'.get 3 (by decide)
   have bl:=x'.lim
   have bn:=x'.le
   have l3:3<K.n:=by omega
   simp[eN,a0,a1,a2,a3,al]at b0 b1' b2 b3 bl p'
   have r1:∀o,resolve false (K.set 3 o) 199 v2=some (eL false 8 jW (qR a.bP mO++[⟨a.bP,4,⟨tc,td⟩,⟨sc,sd⟩,[]⟩])):=fun o=>xQ ((by simpa[Db]using p'.bU (o:=o) x'.wf (by decide) l3):OwnR 4 (K.set 3 o) v2 206 8 _) iZ false (by decide)
   have M8:bH 199 (eL false 8 jW (qR a.bP mO++[⟨a.bP,4,⟨tc,td⟩,⟨sc,sd⟩,[]⟩]))=true:=kC (fun y _=>(jX y).2) 199 (by decide)
   simp[q8,b0,b1',b2,b3,bl,al,l3,x'.wf,turn,aT,r1,M8]
end Go.Dm.Tc
/-
What the reference's functions compute,part 16: subscriptions by a link.
-/
namespace Go.Dm.Tc
def uM(b:aF)(q:Int)(t s:ID)(p:bN):aF×List lT :=
 ((fZ b ⟨t,s,p,q,false⟩).1,if(fZ b ⟨t,s,p,q,false⟩).2=true then[⟨dP b t,3,t,s,p⟩]else[])
theorem SR{b:aF}{e:bB}(hu:(fZ b e).2=true):∃ a,jK b e.tree=some a:=by
 unfold fZ at hu
 split at hu
 ·rename_i hm
  obtain⟨a,ha,_⟩:=zU.1 hm
  exact⟨a,ha⟩
 ·cases hu
theorem d9{b c:aF}(Ma:c.aG=b.aG)(hz:jF b){tc td:Int}{a:bD}(ha:jK b ⟨tc,td⟩=some a) :
  ∃ j:Nat,pcF D Ud [aI .none c,.agg [.int .i64 tc,.int .i64 td]]=some (.int .i64 j)∧∃ hj:j<b.aG.length,b.aG[j]=a:=by
 have wN:=tK (fun a:bD=>decide (a.id=⟨tc,td⟩)) b.aG
 have GM:b.aG.find? (fun a=>decide (a.id=⟨tc,td⟩))=some a:=ha
 rw[GM]at wN
 obtain⟨j,hj,GJ⟩:=wN
 refine⟨j,?_,(List.getElem?_eq_some_iff.1 GJ)⟩
 have:=Ba (.int .i64 c.me) (eL false 1 cF c.aL) (eL false 2 eID c.seen) (eL false 7 aN c.entries) (eL false 3 cB c.bJ) false c.aG tc td (by rw[Ma];have:=hz.adv;omega)
 rw[Ma,hj]at this
 simpa[eM,aI,dZ.none,Ma]using this
theorem s121(b:aF)(k tc td sc sd q:Int)(p:bN)(hi:cC b)(hz:jF b) :
  pcF D BL [aI .none b,.int .i64 q,.agg [.int .i64 k,.int .i64 tc,.int .i64 td,.int .i64 sc,.int .i64 sd,bQ p,.isl false 0 []]]=some (.tup [aI .none (iT b ⟨tc,td⟩ ⟨sc,sd⟩ q).1,eL false 8 jW (iT b ⟨tc,td⟩ ⟨sc,sd⟩ q).2]):=by
 have hd:=VT b tc td sc sd q hi hz
 have M8:∀os:List lT,bH 199 (eL false 8 jW os)=true:=fun os=>kC (fun y _=>(jX y).2) 199 (by decide)
 unfold pcF
 rw[aP _ _ _ _ (by simp[BL])]
 simp[BL,SC,hd,turn,aT,M8]
theorem s120(b:aF)(k tc td sc sd q:Int)(p:bN)(hi:cC b)(hz:jF b)(hp:cZ p) :
  pcF D D2 [aI .none b,.int .i64 q,.agg [.int .i64 k,.int .i64 tc,.int .i64 td,.int .i64 sc,.int .i64 sd,bQ p,.isl false 0 []]]=some (.tup [aI .none (uM b q ⟨tc,td⟩ ⟨sc,sd⟩ p).1,eL false 8 jW (uM b q ⟨tc,td⟩ ⟨sc,sd⟩ p).2]):=by
 have uW:=V9 hi hz tc td sc sd hp q false
 unfold pcF
 rw[aP _ _ _ _ (by simp[D2])]
 cases hu:(fZ b ⟨⟨tc,td⟩,⟨sc,sd⟩,p,q,false⟩).2 with
 | false =>
  rw[hu]at uW
  have hd:uM b q ⟨tc,td⟩ ⟨sc,sd⟩ p=((fZ b ⟨⟨tc,td⟩,⟨sc,sd⟩,p,q,false⟩).1,[]):=by simp[uM,hu]
  rw[hd]
  simp[D2,Yo,uW,turn,aT,oO]
 | true =>
  rw[hu]at uW
  obtain⟨a,ha⟩:=SR hu
  obtain⟨j,hFi,Rz,hjg⟩:=d9 (yC b ⟨⟨tc,td⟩,⟨sc,sd⟩,p,q,false⟩).2.1 hz ha
  have Ma:=(yC b ⟨⟨tc,td⟩,⟨sc,sd⟩,p,q,false⟩).2.1
  have Lv:dP b ⟨tc,td⟩=a.bP:=by rw[fC,ha];rfl
  have hd:uM b q ⟨tc,td⟩ ⟨sc,sd⟩ p=((fZ b ⟨⟨tc,td⟩,⟨sc,sd⟩,p,q,false⟩).1,[⟨a.bP,3,⟨tc,td⟩,⟨sc,sd⟩,p⟩]):=by simp[uM,hu,Lv]
  rw[hd]
  have ri:∀h,resolve false h 197 (.isl false 0 [])=some (.isl false 0 []):=fun _=>rfl
  simp[D2,ri,Yo,uW,turn,Ce,hFi,Ma,Rz,hjg,aJ,LY,IL,aT]
  have M8:bH 199 (eL false 8 jW [⟨a.bP,3,⟨tc,td⟩,⟨sc,sd⟩,p⟩])=true:=kC (fun y _=>(jX y).2) 199 (by decide)
  exact⟨M8,rfl⟩
end Go.Dm.Tc
/-
What the reference's functions compute,part 17: a aW of the broker's ends a subscription.
-/
namespace Go.Dm.Tc
def gH(x:ID)(st:aF×List lT)(a:bD):aF×List lT:=((iT st.1 a.id x (-1)).1,st.2++(iT st.1 a.id x (-1)).2)
def endOwn(b:aF)(x:ID):aF:={b with bJ:=dE (fun o=>o.id) x b.bJ}
def dI(b:aF)(x:ID):aF×List lT :=
 if(dE (fun o:fQ=>o.id) x b.bJ).length=b.bJ.length then(b,[])else b.aG.foldl (gH x) (endOwn b x,[])
theorem Hx:∀(os:List lT),mF (os.map jW) os:=fun os=>⟨by simp,fun tag h n hn=>mL fun x hx=>by
 obtain⟨o,_,rfl⟩:=List.mem_map.1 hx
 exact(jX o).1 tag h n (by omega)⟩
theorem nI(b:aF)(t s:ID)(q:Int):(iT b t s q).1=(dK b t s q).1:=by unfold iT;split<;>rfl
theorem Yp{b:aF}(h:cC b)(t s:ID)(q:Int):(iT b t s q).2.length≤b.entries.length+1:=by
 unfold iT
 split
 ·have:=Tx h t s q;simp[qR];exact this
 ·simp
theorem ZL.take{b:aF}(h:ZL b 0)(hi:cC b)(t s:ID)(q:Int):ZL (dK b t s q).1 0:=by
 obtain⟨h1,h2,h3,h4,h5⟩:=h
 rcases qS hi t s q with⟨e,_⟩|⟨e,_,_,_,_,ht⟩|⟨e,hm,_,_,_,r',u',ht,hr,_⟩
 ·rw[e];exact⟨h1,h2,h3,h4,h5⟩
 ·rw[ht]
  have:=List.length_filter_le (fun x=>!isE t s x) b.entries
  exact⟨h1,h2,h3,h4,by simp only;omega⟩
 ·rw[ht]
  have:=List.length_filter_le (fun x=>!isE t s x) b.entries
  have h6:=hr.len
  exact⟨h1,h2,h3,h4,by simp only;omega⟩
theorem l45(xc xd:Int)(t:Bool)(nO:List bD)(hl:nO.length≤1000)(tx tb tn:Nat) :
  ∀(rest:List bD) (i:Nat) (nb:aF) (iJ:List lT) (es:List DV) (v:DV) (f:dJ) (h:aA),nO.drop i=rest→cC nb→ZL nb 0→mF es iJ→es.length≤i*100001 →
  f 2=.ptr 0 6 0 0→f 3=.ptr 1 2 0 0→f 4=.ptr 2 6 0 0→f 9=v→f 40=eL t 4 aJ nO→f 41=.int .i64 nO.length→f 42=.int .i64 i →
  h.get 1=some (.arr tx 2 [.agg [.int .i64 xc,.int .i64 xd]] (some 1))→h.get 2=some (.arr tb 6 [zB] (some 1))→h.get 0=some (.arr tn 6 [aI .none nb] (some 1))→OwnR 3 h v 206 8 es→h.lim=0→3≤h.n→WF h →
  dY (fin [.cell 4 (some 6),.t 5] (run D 63 [.block 2,.seq Ub] (.loop Gs) f h))=some (.tup [aI .none (rest.foldl (gH ⟨xc,xd⟩) (nb,iJ)).1,eL false 8 jW (rest.foldl (gH ⟨xc,xd⟩) (nb,iJ)).2]):=by
 intro rest
 induction rest with
 | nil =>
  intro i nb iJ es v f h hd Di hz hr Ep h2 h3 h4 h9 hW hL hI g1 g2 gB hv aO hn wf
  have hi:=cY hd
  have:¬(i<nO.length):=by omega
  have l2:2<h.n:=by omega
  have r1:=fun o=>xQ (hv.bU (o:=o) wf (by decide:2<3) l2) hr false (n:=199) (by decide)
  have hu:bH 199 (eL false 8 jW iJ)=true:=kC (fun y _=>(jX y).2) 199 (by decide)
  rw[aC Gs.eq_1]
  simp only[zB]at g2
  simp[Ub,hL,hI,this,h2,h4,h9,gB,g2,aO,l2,wf,turn,aT,r1,hu]
 | cons o rest ih =>
  intro i nb iJ es v f h hd Di hz hr Ep h2 h3 h4 h9 hW hL hI g1 g2 gB hv aO hn wf
  obtain⟨hi,he,fV⟩:=cN hd
  obtain⟨⟨oc,od⟩,op,oq⟩:=o
  have Es:=VT nb oc od xc xd (-1) Di hz.sized
  have Fn:cC (iT nb ⟨oc,od⟩ ⟨xc,xd⟩ (-1)).1:=by rw[nI];exact Di.take ..
  have Eo:ZL (iT nb ⟨oc,od⟩ ⟨xc,xd⟩ (-1)).1 0:=by rw[nI];exact hz.take Di ..
  have TI:=Yp Di ⟨oc,od⟩ ⟨xc,xd⟩ (-1)
  have kL:=hz.ent
  obtain⟨m,eN⟩:∃ m,h.n=m+3:=⟨h.n-3,by omega⟩
  rw[aC Gs.eq_1]
  simp only[List.foldl_cons]
  have cW:gH ⟨xc,xd⟩ (nb,iJ) ⟨⟨oc,od⟩,op,oq⟩=((iT nb ⟨oc,od⟩ ⟨xc,xd⟩ (-1)).1,iJ++(iT nb ⟨oc,od⟩ ⟨xc,xd⟩ (-1)).2):=rfl
  rw[cW]
  generalize hB1:(iT nb ⟨oc,od⟩ ⟨xc,xd⟩ (-1)).1=b1 at *
  generalize hO1:(iT nb ⟨oc,od⟩ ⟨xc,xd⟩ (-1)).2=o1 at *
  have mP:∀p1 p2 p3,elems (((h.push p1).push p2).push p3) 8 v=some es:=fun p1 p2 p3=>hv.push.push.push.elems
  simp[hL,hI,hW,hi,he,aJ,h2,h3,h4,h9,eN,g1,gB,aO,wf,turn,SC,Es,mP]
  have ofr:∀p1 p2,dL (m+5) (((h.push p1).push p2).push (.arr 206 8 [] (some 0))) (m+3+1+1) 206 8 []:=fun p1 p2=>by
   have:=dL.fresh (lo:=m+5) (h:=(h.push p1).push p2) (ety:=206) (sz:=8) (xs:=[]) (cap:=some 0) (by simp[aO]) (by simp[eN])
   simpa[eN]using this
  have hi1000:i*100001≤1000*100001:=Nat.mul_le_mul_right _ (by omega)
  generalize hA:aU _ _ _ _ _ _=A
  obtain⟨i1,K1,rfl,u1,x1,y1,j1⟩:=(ofr _ _).append (n:=0) rfl (by simp[wf]) (by simp[eN]) (by simp[aO]) hA (by simp;omega) (by decide)
  clear hA
  have a0:=x1.get 0 (by omega)
  have a1:=x1.get 1 (by omega)
  have a2:=x1.get 2 (by omega)
  have a4:=x1.get (m+3+1) (by omega)
  have al:=x1.lim
  have an:=x1.le
  have ul:=u1.lo
  simp[eN,g1,g2,gB,aO,wf]at a0 a1 a2 a4 al u1
  have m4:¬m+3+1=i1:=by omega
  simp[h9,m4]
  generalize hA:aU _ _ _ _ _ _=A
  obtain⟨i2,K2,rfl,u2,x2,y2,j2⟩:=u1.append (by simp) x1.wf an (by omega) hA (by simp;omega) (by decide)
  clear hA
  have b0:=x2.get 0 (by omega)
  have b1':=x2.get 1 (by omega)
  have b2:=x2.get 2 (by omega)
  have bl:=x2.lim
  have bn:=x2.le
  have l0:0<K2.n:=by omega
  rw[a0]at b0
  rw[a1]at b1'
  rw[a2]at b2
  rw[al]at bl
  simp[hI,h2,b0,bl,l0,x2.wf,turn]
  rw[bE (by omega) (by omega)]
  generalize hF:upd _ 42 _=F
  have vN:=mF.append hr (Hx o1)
  have QZ:OwnR 3 (K2.set 0 (.arr tn 6 [aI .none b1] (some 1))) (.sl i2 8 0 (es.length+o1.length)) 206 8 (es++o1.map jW):=by
   have:=(u2.toR.bU (o:=.arr tn 6 [aI .none b1] (some 1)) x2.wf (by omega:0<m+5) l0).lower (by omega:3≤m+5)
   simpa using this
  refine ih (i+1) b1 (iJ++o1) _ _ F _ fV Fn Eo vN (by simp[Nat.add_mul];omega) ?_ ?_ ?_ ?_ ?_ ?_ ?_ ?_ ?_ ?_ QZ ?_ ?_ ?_
  all_goals first
   | (rw[←hF];simp[h2,h3,h4,h9,hW,hL];done)
   | (simp[b0,b1',b2,bl,l0,x2.wf];done)
   | (simp;omega)
end Go.Dm.Tc
/-
What the reference's functions compute,part 18: a aW of the broker's ends a subscription,all of it.
-/
namespace Go.Dm.Tc
theorem m45(S:List Fr)(xc xd:Int)(t:Bool)(bJ:List fQ)(hl:bJ.length≤100000)(tx:Nat)(h0:aA)(g1:h0.get 1=some (.arr tx 2 [.agg [.int .i64 xc,.int .i64 xd]] (some 1)))(aO:h0.lim=0)(P:Res→Prop) :
  ∀(rest:List fQ) (i:Nat) (iA:List fQ) (v:DV) (f:dJ) (h:aA),bJ.drop i=rest→(iA.length≤i∧i≤bJ.length)→f 3=.ptr 1 2 0 0→f 6=v→f 15=eL t 3 cB bJ→f 16=.int .i64 bJ.length→f 17=.int .i64 i→OwnR 3 h v 134 3 (iA.map cB)→Ext 3 h0 h →
  (∀f' h' v',f' 6=v'→(∀r,r<6→f' r=f r)→OwnR 3 h' v' 134 3 ((iA++dE (fun o=>o.id) ⟨xc,xd⟩ rest).map cB)→Ext 3 h0 h'→P (run D 63 S Ua f' h')) →
  P (run D 63 (.block 0::.seq Ua::S) (.loop T1) f h):=by
 intro rest
 induction rest with
 | nil =>
  intro i iA v f h hd he h3 h6 X1 W9 W8 ho x hP
  have hi:=cY hd
  have:¬(i<bJ.length):=by omega
  have k:∀r q:Nat,r<6→6≤q→¬r=q:=fun r q h1 h2=>by omega
  rw[aC T1.eq_1]
  simp[W9,W8,this]
  exact hP _ h v (by simp[h6]) (fun r hr=>by simp[k r _ hr]) (by simpa[dE]using ho) x
 | cons o rest ih =>
  intro i iA v f h hd he h3 h6 X1 W9 W8 ho x hP
  obtain⟨hi,vR,fV⟩:=cN hd
  obtain⟨⟨oc,od⟩,op⟩:=o
  have a1:=(x.get 1 (by decide)).trans g1
  have al:=x.lim.trans aO
  obtain⟨m,eN⟩:∃ m,h.n=m+3:=⟨h.n-3,by have:=x.le;omega⟩
  have k:∀r q:Nat,r<6→6≤q→¬r=q:=fun r q h1 h2=>by omega
  rw[aC T1.eq_1]
  by_cases hx:oc=xc∧od=xd
  ·obtain⟨rfl,rfl⟩:=hx
   simp[h3,h6,X1,W9,W8,hi,vR,cB,x.wf,al,a1,eN,turn]
   rw[bE (by omega) (by omega)]
   generalize hF:upd _ 17 _=F
   refine ih (i+1) iA v F _ fV (by omega) ?_ ?_ ?_ ?_ ?_ ho.push x.push fun f' h' v' q6 qr q8 q9=>?_
   all_goals first
    | (rw[←hF];simp[h3,h6,X1,W9];done)
    | skip
   refine hP f' h' v' q6 (fun r hr=>?_) (by simpa[dE]using q8) q9
   rw[qr r hr,←hF]
   simp[k r _ hr]
  ·have Bl:¬(oc=xc∧od=xd):=hx
   have NK:¬oc=xc∨¬od=xd:=by omega
   have eO:¬(⟨oc,od⟩:ID)=⟨xc,xd⟩:=fun e=>hx (by injection e with e1 e2;exact⟨e1,e2⟩)
   simp[h3,h6,X1,W9,W8,hi,vR,cB,x.wf,al,a1,eN,turn,Bl,NK]
   generalize hA:aU _ _ _ _ _ _=A
   obtain⟨v',K,rfl,p',x',_⟩:=OwnR.append (ho.push.push) (by simp[x.wf]) (by simp[eN]<;>omega) (by simp[al]) hA (by simp;omega) (by decide)
   clear hA
   simp[W8,NK]
   rw[bE (by omega) (by omega)]
   generalize hF:upd _ 17 _=F
   refine ih (i+1) (iA++[⟨⟨oc,od⟩,op⟩]) v' F K fV (by simp;omega) ?_ ?_ ?_ ?_ ?_ (by simpa[cB]using p') ((x.push.push).trans x') fun f' h' v2 q6 qr q8 q9=>?_
   all_goals first
    | (rw[←hF];simp[h3,h6,X1,W9];done)
    | skip
   refine hP f' h' v2 q6 (fun r hr=>?_) (by simpa[dE,eO]using q8) q9
   rw[qr r hr,←hF]
   simp[k r _ hr]
end Go.Dm.Tc
/-
What the reference's functions compute,part 19: the end of a subscription,with the row still written.
-/
namespace Go.Dm.Tc
theorem r45(xc xd:Int)(t:Bool)(nO:List bD)(hl:nO.length≤1000)(tx tb tn:Nat)(nb:aF)(Di:cC nb)(hz:ZL nb 0)(w:DV)(f:dJ)(h:aA)
  (h2:f 2=.ptr 0 6 0 0) (h3:f 3=.ptr 1 2 0 0) (h4:f 4=.ptr 2 6 0 0) (h9:f 9=.nsl) (hW:f 40=eL t 4 aJ nO) (hL:f 41=.int .i64 nO.length) (hI:f 42=.int .i64 0)
  (g1:h.get 1=some (.arr tx 2 [.agg [.int .i64 xc,.int .i64 xd]] (some 1))) (g2:h.get 2=some (.arr tb 6 [zB] (some 1))) (gB:h.get 0=some (.arr tn 6 [.agg [.int .i64 nb.me,eL false 1 cF nb.aL,eL false 4 aJ nb.aG,eL false 2 eID nb.seen,eL false 7 aN nb.entries,w]] (some 1)))
  (hv:OwnR 3 h w 134 3 (nb.bJ.map cB)) (aO:h.lim=0) (hn:3≤h.n) (wf:WF h) :
  dY (fin [.cell 4 (some 6),.t 5] (run D 63 [.block 2,.seq Ub] (.loop Gs) f h))=some (.tup [aI .none (nO.foldl (gH ⟨xc,xd⟩) (nb,[])).1,eL false 8 jW (nO.foldl (gH ⟨xc,xd⟩) (nb,[])).2]):=by
 cases nO with
 | nil =>
  have l2:2<h.n:=by omega
  have r1:∀o,resolve false (h.set 2 o) 198 w=some (eL false 3 cB nb.bJ):=fun o=>(hv.bU (o:=o) wf (by decide:2<3) l2).resolve (n:=198) false (fun y _=>(xO y).1) (by decide)
  rw[aC Gs.eq_1]
  simp only[zB]at g2
  simp only[List.length_nil]at hL
  simp[Ub,hL,hI,h2,h4,h9,gB,g2,aO,l2,wf,turn,aT,r1]
  exact⟨rfl,rfl⟩
 | cons o rest =>
  have hi:0<(o::rest).length:=by simp
  obtain⟨⟨oc,od⟩,op,oq⟩:=o
  have Es:=VT nb oc od xc xd (-1) Di hz.sized
  have Fn:cC (iT nb ⟨oc,od⟩ ⟨xc,xd⟩ (-1)).1:=by rw[nI];exact Di.take ..
  have Eo:ZL (iT nb ⟨oc,od⟩ ⟨xc,xd⟩ (-1)).1 0:=by rw[nI];exact hz.take Di ..
  have TI:=Yp Di ⟨oc,od⟩ ⟨xc,xd⟩ (-1)
  have kL:=hz.ent
  obtain⟨m,eN⟩:∃ m,h.n=m+3:=⟨h.n-3,by omega⟩
  rw[aC Gs.eq_1]
  simp only[List.foldl_cons]
  have cW:gH ⟨xc,xd⟩ (nb,[]) ⟨⟨oc,od⟩,op,oq⟩=((iT nb ⟨oc,od⟩ ⟨xc,xd⟩ (-1)).1,(iT nb ⟨oc,od⟩ ⟨xc,xd⟩ (-1)).2):=by simp[gH]
  rw[cW]
  generalize hB1:(iT nb ⟨oc,od⟩ ⟨xc,xd⟩ (-1)).1=b1 at *
  generalize hO1:(iT nb ⟨oc,od⟩ ⟨xc,xd⟩ (-1)).2=o1 at *
  simp only[List.length_cons]at hL
  cases hv with
  | nil hv hx =>
   subst hv
   have Fq:DV.agg [.int .i64 nb.me,eL false 1 cF nb.aL,eL false 4 aJ nb.aG,eL false 2 eID nb.seen,eL false 7 aN nb.entries,.isl false 0 []]=aI .none nb:=by
    have:nb.bJ=[]:=by simpa using hx
    unfold aI
    rw[this];rfl
   simp[hL,hI,hW,aJ,h2,h3,h4,h9,eN,g1,gB,aO,wf,turn,SC,Fq,Es]
   have ofr:∀p1 p2,dL (m+5) (((h.push p1).push p2).push (.arr 206 8 [] (some 0))) (m+3+1+1) 206 8 []:=fun p1 p2=>by
    have:=dL.fresh (lo:=m+5) (h:=(h.push p1).push p2) (ety:=206) (sz:=8) (xs:=[]) (cap:=some 0) (by simp[aO]) (by simp[eN])
    simpa[eN]using this
   generalize hA:aU _ _ _ _ _ _=A
   obtain⟨i1,K1,rfl,u1,x1,y1,j1⟩:=(ofr _ _).append (n:=0) rfl (by simp[wf]) (by simp[eN]) (by simp[aO]) hA (by simp) (by decide)
   clear hA
   have a0:=x1.get 0 (by omega)
   have a1:=x1.get 1 (by omega)
   have a2:=x1.get 2 (by omega)
   have a4:=x1.get (m+3+1) (by omega)
   have al:=x1.lim
   have an:=x1.le
   have ul:=u1.lo
   simp[eN,g1,g2,gB,aO,wf]at a0 a1 a2 a4 al u1
   have m4:¬m+3+1=i1:=by omega
   simp[h9,m4]
   generalize hA:aU _ _ _ _ _ _=A
   obtain⟨i2,K2,rfl,u2,x2,y2,j2⟩:=u1.append (by simp) x1.wf an (by omega) hA (by simp;omega) (by decide)
   clear hA
   have b0:=x2.get 0 (by omega)
   have b1':=x2.get 1 (by omega)
   have b2:=x2.get 2 (by omega)
   have bl:=x2.lim
   have bn:=x2.le
   have l0:0<K2.n:=by omega
   rw[a0]at b0
   rw[a1]at b1'
   rw[a2]at b2
   rw[al]at bl
   simp[hI,h2,b0,bl,l0,x2.wf,turn]
   generalize hF:upd _ 42 _=F
   have QZ:OwnR 3 (K2.set 0 (.arr tn 6 [aI .none b1] (some 1))) (.sl i2 8 0 o1.length) 206 8 (o1.map jW):=by
    have:=(u2.toR.bU (o:=.arr tn 6 [aI .none b1] (some 1)) x2.wf (by omega:0<m+5) l0).lower (by omega:3≤m+5)
    simpa using this
   refine l45 xc xd t (⟨⟨oc,od⟩,op,oq⟩::rest) hl tx tb tn rest 1 b1 o1 _ _ F _ rfl Fn Eo (Hx o1) (by simp;omega) ?_ ?_ ?_ ?_ ?_ ?_ ?_ ?_ ?_ ?_ QZ ?_ ?_ ?_
   all_goals first
    | (rw[←hF];simp[h2,h3,h4,h9,hW,hL];done)
    | (simp[b0,b1',b2,bl,l0,x2.wf];done)
    | (simp;omega)
  | arr iw sp cap hv hg XD fY =>
   have ho:dL 3 h iw 134 3 (nb.bJ.map cB):=⟨⟨sp,cap,hg⟩,XD,fY⟩
   have N7:=ho.lt
   subst hv
   simp only[List.length_map]at gB
   have k0:¬iw=0:=by omega
   have k1:¬iw=1:=by omega
   have k2:¬iw=2:=by omega
   have k0':¬0=iw:=by omega
   have k1':¬1=iw:=by omega
   have k2':¬2=iw:=by omega
   have k3:¬iw=m+3:=by omega
   have k4:¬iw=m+3+1:=by omega
   have k5:iw<m+3:=by omega
   have k6:iw<m+3+1:=by omega
   have rQ:∀p1,gI (h.push p1) (.sl iw 3 0 nb.bJ.length)=some (eL false 3 cB nb.bJ,(h.push p1).set iw .dead):=fun p1=>LI ho.push rfl
   have Fq:DV.agg [.int .i64 nb.me,eL false 1 cF nb.aL,eL false 4 aJ nb.aG,eL false 2 eID nb.seen,eL false 7 aN nb.entries,eL false 3 cB nb.bJ]=aI .none nb:=rfl
   simp[hL,hI,hW,aJ,h2,h3,h4,h9,eN,g1,gB,aO,wf,turn,SC,Fq,Es,rQ,k0,k1,k2,k0',k1',k2',k3,k4,k5,k6]
   have ofr:∀p1 p2,dL (m+5) ((((h.set iw .dead).push p1).push p2).push (.arr 206 8 [] (some 0))) (m+3+1+1) 206 8 []:=fun p1 p2=>by
    have:=dL.fresh (lo:=m+5) (h:=((h.set iw .dead).push p1).push p2) (ety:=206) (sz:=8) (xs:=[]) (cap:=some 0) (by simp[aO]) (by simp[eN])
    simpa[eN]using this
   generalize hA:aU _ _ _ _ _ _=A
   obtain⟨i1,K1,rfl,u1,x1,y1,j1⟩:=(ofr _ _).append (n:=0) rfl (by simp[wf]) (by simp[eN]) (by simp[aO]) hA (by simp) (by decide)
   clear hA
   have a0:=x1.get 0 (by omega)
   have a1:=x1.get 1 (by omega)
   have a2:=x1.get 2 (by omega)
   have a4:=x1.get (m+3+1) (by omega)
   have al:=x1.lim
   have an:=x1.le
   have ul:=u1.lo
   simp[eN,g1,g2,gB,aO,wf,k0,k1,k2,k0',k1',k2',k3,k4,k5,k6]at a0 a1 a2 a4 al u1
   have m4:¬m+3+1=i1:=by omega
   simp[h9,m4]
   generalize hA:aU _ _ _ _ _ _=A
   obtain⟨i2,K2,rfl,u2,x2,y2,j2⟩:=u1.append (by simp) x1.wf an (by omega) hA (by simp;omega) (by decide)
   clear hA
   have b0:=x2.get 0 (by omega)
   have b1':=x2.get 1 (by omega)
   have b2:=x2.get 2 (by omega)
   have bl:=x2.lim
   have bn:=x2.le
   have l0:0<K2.n:=by omega
   rw[a0]at b0
   rw[a1]at b1'
   rw[a2]at b2
   rw[al]at bl
   simp[hI,h2,b0,bl,l0,x2.wf,turn]
   generalize hF:upd _ 42 _=F
   have QZ:OwnR 3 (K2.set 0 (.arr tn 6 [aI .none b1] (some 1))) (.sl i2 8 0 o1.length) 206 8 (o1.map jW):=by
    have:=(u2.toR.bU (o:=.arr tn 6 [aI .none b1] (some 1)) x2.wf (by omega:0<m+5) l0).lower (by omega:3≤m+5)
    simpa using this
   refine l45 xc xd t (⟨⟨oc,od⟩,op,oq⟩::rest) hl tx tb tn rest 1 b1 o1 _ _ F _ rfl Fn Eo (Hx o1) (by simp;omega) ?_ ?_ ?_ ?_ ?_ ?_ ?_ ?_ ?_ ?_ QZ ?_ ?_ ?_
   all_goals first
    | (rw[←hF];simp[h2,h3,h4,h9,hW,hL];done)
    | (simp[b0,b1',b2,bl,l0,x2.wf];done)
    | (simp;omega)
end Go.Dm.Tc
/-
What the reference's functions compute,part 20: the end of a subscription,all of it.
-/
namespace Go.Dm.Tc
theorem cC.endOwn{b:aF}(h:cC b)(x:ID):cC (endOwn b x):=by
 obtain⟨h1,h2,h3,h4,h5,h6,h7,h8,h9,jY,pT,pS,Tj⟩:=h
 refine⟨h1,h2,h3,h4,mQ (fun o:fQ=>o.id) x h5,h6,h7,h8,h9,?_,pT,pS,Tj⟩
 intro o ho
 exact jY o ((List.mem_filter.1 ho).1)
theorem ZL.endOwn{b:aF}(h:ZL b 0)(x:ID):ZL (endOwn b x) 0 :=
 ⟨h.aL,h.adv,h.seen,Nat.le_trans (List.length_filter_le ..) h.own,h.ent⟩
theorem s45(b:aF)(xc xd:Int)(hi:cC b)(hz:ZL b 0)(ha:b.aG.length≤1000) :
  pcF D t45 [aI .none b,.agg [.int .i64 xc,.int .i64 xd]]=some (.tup [aI .none (dI b ⟨xc,xd⟩).1,eL false 8 jW (dI b ⟨xc,xd⟩).2]):=by
 unfold pcF
 rw[aP _ _ _ _ (by simp[t45])]
 simp[t45]
 generalize hF:upd _ 17 _=F
 generalize hH:aA.push _ _=H
 have g0:H.get 0=some (.arr 37 6 [aI .none b] (some 1)):=by rw[←hH];simp
 have g1:H.get 1=some (.arr 45 2 [.agg [.int .i64 xc,.int .i64 xd]] (some 1)):=by rw[←hH];simp
 have g2:H.get 2=some (.arr 37 6 [.agg [.int .i64 0,.nsl,.nsl,.nsl,.nsl,.nsl]] (some 1)):=by rw[←hH];simp
 have W3:H.n=3:=by rw[←hH];simp
 have aO:H.lim=0:=by rw[←hH];simp
 have wf:WF H:=by rw[←hH];simp
 refine m45 [] xc xd false b.bJ hz.own _ H g1 aO (fun r=>dY (fin [.cell 4 (some 6),.t 5] r)=some (.tup [aI .none (dI b ⟨xc,xd⟩).1,eL false 8 jW (dI b ⟨xc,xd⟩).2])) b.bJ 0 [] .nsl F H rfl ⟨Nat.zero_le _,Nat.zero_le _⟩ (by rw[←hF];simp) (by rw[←hF];simp) (by rw[←hF];simp[dZ.none]) (by rw[←hF];simp) (by rw[←hF];simp) (.nil rfl rfl) (.refl (by omega) wf) fun f' h' v' q6 qr WZ x=>?_
 have q2:f' 2=.ptr 0 6 0 0:=by rw[qr 2 (by decide),←hF];simp
 have q3:f' 3=.ptr 1 2 0 0:=by rw[qr 3 (by decide),←hF];simp
 have q4:f' 4=.ptr 2 6 0 0:=by rw[qr 4 (by decide),←hF];simp
 have a0:=(x.get 0 (by decide)).trans g0
 have a1:=(x.get 1 (by decide)).trans g1
 have a2:=(x.get 2 (by decide)).trans g2
 have al:=x.lim.trans aO
 have hn:=x.le
 have l0:0<h'.n:=by omega
 have l2:2<h'.n:=by omega
 simp only[List.nil_append]at WZ
 have cM:=WZ.lenV
 simp only[List.length_map]at cM
 by_cases he:(dE (fun o:fQ=>o.id) ⟨xc,xd⟩ b.bJ).length=b.bJ.length
 ·have hu:dI b ⟨xc,xd⟩=(b,[]):=by simp only[dI,he,if_true]
  rw[hu]
  rw[he]at cM
  simp[Ua,q2,q3,q4,q6,a0,a1,a2,al,cM,l2,x.wf,turn,aT,oO]
 ·have hu:dI b ⟨xc,xd⟩=b.aG.foldl (gH ⟨xc,xd⟩) (endOwn b ⟨xc,xd⟩,[]):=by simp only[dI,if_neg he]
  rw[hu]
  have vR:¬((dE (fun o:fQ=>o.id) ⟨xc,xd⟩ b.bJ).length:Int)=b.bJ.length:=by omega
  simp[Ua,q2,q3,q4,q6,a0,a1,a2,al,cM,he,vR,l0,l2,x.wf,turn,WZ.bF,WZ.aK]
  generalize hF2:upd _ 42 _=F2
  refine r45 xc xd false b.aG ha 45 37 37 (endOwn b ⟨xc,xd⟩) (hi.endOwn _) (hz.endOwn _) v' F2 _ ?_ ?_ ?_ ?_ ?_ ?_ ?_ ?_ ?_ ?_ (WZ.bU x.wf (by decide) l0) ?_ ?_ ?_
  all_goals first
   | (rw[←hF2];simp[q2,q3,q4];done)
   | (rw[←hF2];simp[q2,q3,q4,dZ.none];done)
   | (simp[a1,l0,x.wf];rfl)
   | (simp[a1,a2,al,l0,x.wf,zB];done)
   | (simp[l0,x.wf];rfl)
   | (simp;omega)
end Go.Dm.Tc
/-
What the reference's functions compute,part 21: a message comes by a link;a broker's side.
-/
namespace Go.Dm.Tc
theorem Vs(t:Bool)(h:aA)(n:Nat):resolve t h (n+1) (.isl false 0 [])=some (.isl false 0 []):=rfl
def pD(b:aF)(q k:Int)(t s:ID)(p:bN):aF×List lT :=
 if k=1 then dN b q t p else if k=2 then eX b q t else if k=3 then uM b q t s p else iT b t s q
theorem s47(b:aF)(q k tc td sc sd:Int)(p:bN)(hi:cC b)(hz:ZL b b.bJ.length)(hp:cZ p)(hf:jJ b q=true)(jU:b.aG.length<100000∧b.seen.length<100000)(hk:k=1∨k=2∨k=3∨k=4) :
  pcF D t47 [aI .none b,.int .i64 q,.agg [.int .i64 k,.int .i64 tc,.int .i64 td,.int .i64 sc,.int .i64 sd,bQ p,.isl false 0 []]]=some (.tup [aI .none (pD b q k ⟨tc,td⟩ ⟨sc,sd⟩ p).1,eL false 8 jW (pD b q k ⟨tc,td⟩ ⟨sc,sd⟩ p).2,.isl false 0 []]):=by
 have h1:=s46 b tc td q p hi hz hp hf jU
 have h2:=s119 b tc td q hi hz.sized
 have h3:=s120 b k tc td sc sd q p hi hz.sized hp
 have h4:=s121 b k tc td sc sd q p hi hz.sized
 have M8:∀os:List lT,bH 199 (eL false 8 jW os)=true:=fun os=>kC (fun y _=>(jX y).2) 199 (by decide)
 unfold pcF
 rw[aP _ _ _ _ (by simp[t47])]
 rcases hk with rfl|rfl|rfl|rfl
 ·simp[t47,pD,e46,h1,turn,aT,M8]
 ·simp[t47,pD,e119,h2,turn,aT,M8]
 ·simp[t47,pD,e120,Vs,h3,turn,aT,M8]
 ·simp[t47,pD,e121,Vs,h4,turn,aT,M8]
def fA(b:aF)(n:Int):Int:=(b.aL[(aQ n 0 b.aL.length).toNat]?).getD (-1)
theorem s43(t:dZ)(b:aF)(n:Int)(hz:jF b):pcF D t43 [aI t b,.int .i64 n]=some (.int .i64 (fA b n)):=by
 unfold fA
 have hw:=s10 n 0 b.aL.length (by omega) (by decide) (by have:=hz.aL;omega)
 obtain⟨w1,w2⟩:=eE n (lo:=0) (hi:=b.aL.length) (by omega)
 generalize aQ n 0 b.aL.length=w at *
 obtain⟨k,rfl⟩:∃ k:Nat,w=k:=⟨w.toNat,by omega⟩
 unfold pcF
 rw[aP _ _ _ _ (by simp[t43])]
 by_cases hk:k<b.aL.length
 ·simp[t43,e10,hw,hk,cF]
 ·simp[t43,e10,hw,hk]
end Go.Dm.Tc
/-
What every broker keeps that is told anything: plain laws.
-/
namespace Go.Dm.Tc
structure vS(a b:aF)(k:Nat):Prop where
 me:b.me=a.me
 aL:b.aL=a.aL
 adv:b.aG=a.aG
 seen:b.seen=a.seen
 own:b.bJ=a.bJ
 ent:b.entries.length≤a.entries.length+k
theorem vS.refl(a:aF)(k:Nat):vS a a k:=⟨rfl,rfl,rfl,rfl,rfl,by omega⟩
theorem vS.trans{a b c:aF}{j k:Nat}(h1:vS a b j)(h2:vS b c k):vS a c (j+k) :=
 ⟨h2.me.trans h1.me,h2.aL.trans h1.aL,h2.adv.trans h1.adv,h2.seen.trans h1.seen,h2.own.trans h1.own,by have:=h1.ent;have:=h2.ent;omega⟩
theorem vS.mono{a b:aF}{j k:Nat}(h:vS a b j)(hk:j≤k):vS a b k:=⟨h.me,h.aL,h.adv,h.seen,h.own,by have:=h.ent;omega⟩
theorem Ob(b:aF)(e:bB):vS b (fZ b e).1 1:=by
 obtain⟨h1,h2,h3,h4,h5,h6⟩:=yC b e
 exact⟨h5,h1,h2,h3,h4,h6⟩
theorem Zm(cJ:Int)(x:ID)(p:bN):∀(l:List fQ) (st:aF×List lT),cC st.1→(∀o∈l,cZ o.pred)→cC (l.foldl (gS cJ x p) st).1∧vS st.1 (l.foldl (gS cJ x p) st).1 l.length
 | [],st,h,_=>⟨h,.refl _ _⟩
 | o::r,st,h,hp=>by
  have h1:cC (gS cJ x p st o).1∧vS st.1 (gS cJ x p st o).1 1:=by
   unfold gS
   split
   ·exact⟨h.add (by simp[jJ]) (hp o (List.mem_cons_self ..)),Ob ..⟩
   ·exact⟨h,.refl _ _⟩
  have h2:=Zm cJ x p r (gS cJ x p st o) h1.1 fun o ho=>hp o (List.mem_cons_of_mem _ ho)
  exact⟨h2.1,(h1.2.trans h2.2).mono (by simp only[List.length_cons];omega)⟩
theorem Uf(x:ID)(p:bN)(hp:cZ p):∀(l:List bD) (st:aF×List lT),cC st.1→cC (l.foldl (eH x p) st).1∧vS st.1 (l.foldl (eH x p) st).1 l.length
 | [],st,h=>⟨h,.refl _ _⟩
 | o::r,st,h=>by
  have h1:cC (eH x p st o).1∧vS st.1 (eH x p st o).1 1:=by
   unfold eH
   split
   ·exact⟨h.add (by simp[jJ]) hp,Ob ..⟩
   ·exact⟨h,.refl _ _⟩
  have h2:=Uf x p hp r (eH x p st o) h1.1
  exact⟨h2.1,(h1.2.trans h2.2).mono (by simp only[List.length_cons];omega)⟩
theorem Ye(x:ID):∀(l:List bD) (st:aF×List lT),cC st.1→cC (l.foldl (gH x) st).1∧vS st.1 (l.foldl (gH x) st).1 0
 | [],st,h=>⟨h,.refl _ _⟩
 | o::r,st,h=>by
  have h1:cC (gH x st o).1∧vS st.1 (gH x st o).1 0:=by
   unfold gH
   rw[nI]
   refine⟨h.take ..,?_⟩
   have hl:=Tv h o.id x (-1)
   rw[Mt]at hl ⊢
   exact⟨rfl,rfl,rfl,rfl,rfl,hl⟩
  have h2:=Ye x r (gH x st o) h1.1
  exact⟨h2.1,(h1.2.trans h2.2).mono (by omega)⟩
end Go.Dm.Tc
/-
What every broker keeps that is told anything,call by call.
-/
namespace Go.Dm.Tc
theorem Qk(n:Nat):(n+1)*(n+1)=n*n+n+n+1:=by rw[Nat.add_mul,Nat.mul_add];omega
theorem vS.sz{a b:aF}{k n:Nat}(h:vS a b k)(z:SzK a n)(hk:k≤n+n+1):SzK b (n+1):=by
 obtain⟨h1,h2,h3,h4,h5,h6⟩:=h
 obtain⟨z1,z2,z3,z4,z5⟩:=z
 have:=Qk n
 exact⟨by rw[h2];exact z1,by rw[h3];omega,by rw[h4];omega,by rw[h5];omega,by omega⟩
theorem xG{b:aF}{n:Nat}(h:cC b)(z:SzK b n){cJ:Int}{x:ID}{p:bN}(hf:jJ b cJ=true)(hp:cZ p):cC (dN b cJ x p).1∧SzK (dN b cJ x p).1 (n+1):=by
 unfold dN
 split
 ·rename_i hq
  have hi:=h.learn (a:=⟨x,p,cJ⟩) hf hp
  have hk:=Zm cJ x p b.bJ ((bX b ⟨x,p,cJ⟩).1,Aq b.aL cJ 1 x.aW x.seq 0 0 p) hi h.po
  refine⟨hk.1,?_⟩
  obtain⟨h1,h2,h3,h4,h5,h6⟩:=hk.2
  have z':=z.learn ⟨x,p,cJ⟩
  have he:(bX b ⟨x,p,cJ⟩).1.entries=b.entries:=by unfold bX;split<;>rfl
  have hn:(bX b ⟨x,p,cJ⟩).1.aL=b.aL:=by unfold bX;split<;>rfl
  have ho:(bX b ⟨x,p,cJ⟩).1.bJ=b.bJ:=by unfold bX;split<;>rfl
  obtain⟨z1,z2,z3,z4,z5⟩:=z
  have:=Qk n
  simp only at h2 h3 h4 h5 h6
  rw[he]at h6
  exact⟨by rw[h2,hn];exact z1,by rw[h3];exact z'.adv,by rw[h4];exact z'.seen,by rw[h5,ho];omega,by omega⟩
 ·exact⟨h,z.mono (by omega)⟩
theorem Cp{b:aF}{n:Nat}(h:cC b)(z:SzK b n)(cJ:Int)(x:ID):cC (eX b cJ x).1∧SzK (eX b cJ x).1 (n+1):=by
 unfold eX
 split
 ·exact⟨h.forget x cJ,(z.forget x cJ).mono (by omega)⟩
 ·exact⟨h,z.mono (by omega)⟩
theorem J9{b:aF}{n:Nat}(h:cC b)(z:SzK b n){q:Int}{t s:ID}{p:bN}(hf:jJ b q=true)(hp:cZ p):cC (uM b q t s p).1∧SzK (uM b q t s p).1 (n+1) :=
 ⟨h.add hf hp,z.add _⟩
theorem FC{b:aF}{n:Nat}(h:cC b)(z:SzK b n)(t s:ID)(q:Int):cC (iT b t s q).1∧SzK (iT b t s q).1 (n+1):=by
 rw[nI]
 exact⟨h.take ..,(z.take h ..).mono (by omega)⟩
theorem Hi{b:aF}{n:Nat}(h:cC b)(z:SzK b n){x:ID}{p:bN}(hp:cZ p):cC (fG b x p).1∧SzK (fG b x p).1 (n+1):=by
 unfold fG
 split
 ·exact⟨h,z.mono (by omega)⟩
 ·rename_i hh
  have hi:=h.subOwn hp (W5 h.ro x (by simpa using hh))
  have hk:=Uf x p hp b.aG (subOwn b x p,[]) hi
  refine⟨hk.1,?_⟩
  obtain⟨h1,h2,h3,h4,h5,h6⟩:=hk.2
  have hl:(subOwn b x p).bJ.length=b.bJ.length+1:=EA ..
  obtain⟨z1,z2,z3,z4,z5⟩:=z
  have:=Qk n
  simp only at h2 h3 h4 h5 h6
  exact⟨by rw[h2];exact z1,by rw[h3];exact Nat.le_succ_of_le z2,by rw[h4];exact Nat.le_succ_of_le z3,by rw[h5,hl];omega,by have:(subOwn b x p).entries=b.entries:=rfl;rw[this]at h6;omega⟩
theorem Co{b:aF}{n:Nat}(h:cC b)(z:SzK b n)(x:ID):cC (dI b x).1∧SzK (dI b x).1 (n+1):=by
 unfold dI
 split
 ·exact⟨h,z.mono (by omega)⟩
 ·have hk:=Ye x b.aG (endOwn b x,[]) (h.endOwn x)
  have z':SzK (endOwn b x) n:=⟨z.aL,z.adv,z.seen,Nat.le_trans (List.length_filter_le ..) z.own,z.ent⟩
  exact⟨hk.1,hk.2.sz z' (by omega)⟩
end Go.Dm.Tc
/-
The broker that numbers make: what it is.
-/
namespace Go.Dm.Tc
def cG(b:aF)(q:nR):aF :=
 let t:ID:=⟨aQ q.tree 0 2,0⟩
 let x:ID:=⟨aQ q.aW 0 4,aQ q.seq 0 2⟩
 let f:=fA b q.cJ
 let k:=aQ q.kind 1 7
 let p:=dV q.has q.vals
 if k=6 then(fG b x p).1 else if k=7 then(dI b x).1
 else if k=3∧f=-1∨k=4∧f=-1∨k=5 then(dN b f t p).1
 else(pD b f k t x p).1
def jI(n:Nat):List Int:=(List.range n).map fun i:Nat=>((i:Int)+1)
def bL(n:Nat):aF:=⟨0,jI n,[],[],[],[]⟩
def yB(aL:Int)(l:List nR):aF:=(l.take 12).foldl cG (bL (aQ aL 1 4).toNat)
theorem fN(b:aF)(n:Int):jJ b (fA b n)=true:=by
 unfold fA jJ
 cases h:b.aL[(aQ n 0 b.aL.length).toNat]? with
 | none=>simp
 | some x=>simp[List.mem_of_getElem? h]
theorem dS{b:aF}{n:Nat}(h:cC b)(z:SzK b n)(q:nR):cC (cG b q)∧SzK (cG b q) (n+1):=by
 have hp:=fD q.has q.vals
 have hf:=fN b q.cJ
 unfold cG
 simp only
 split
 ·exact Hi h z hp
 ·split
  ·exact Co h z _
  ·split
   ·exact xG h z hf hp
   ·unfold pD
    split
    ·exact xG h z hf hp
    ·split
     ·exact Cp h z _ _
     ·split
      ·exact J9 h z hf hp
      ·exact FC h z _ _ _
theorem Ek(n:Nat)(hn:n≤4):cH (fun x y=>decide (x<y)) (jI n)=true∧∀x∈jI n,0≤x:=by
 rcases n with _|_|_|_|_|n
 ·decide
 ·decide
 ·decide
 ·decide
 ·decide
 ·omega
theorem zJ(n:Nat)(hn:n≤4):cC (bL n)∧SzK (bL n) 0 :=
 ⟨cC.start (Ek n hn).1 (Ek n hn).2,SzK.start (by simp[jI];omega)⟩
theorem Gp : ∀ (l : List nR) {b : aF} {n : Nat}, cC b → SzK b n → cC (l.foldl cG b) ∧ SzK (l.foldl cG b) (n + l.length)
  | [], _, _, h, z => ⟨h, z⟩
  | q :: r, b, n, h, z => by
    obtain⟨h1, z1⟩ := dS h z q
    obtain⟨h2, z2⟩ := Gp r h1 z1
    exact⟨h2, by have : n + (q :: r).length = n + 1 + r.length := by simp only[List.length_cons]; omega
                 rw[this]; exact z2⟩
theorem Sw(aL:Int)(l:List nR):cC (yB aL l)∧SzK (yB aL l) 12:=by
 have hw:=eE aL (lo:=1) (hi:=4) (by decide)
 obtain⟨h,z⟩:=zJ (aQ aL 1 4).toNat (by omega)
 obtain⟨h2,z2⟩:=Gp (l.take 12) h z
 exact⟨h2,z2.mono (by simp only[List.length_take];omega)⟩
end Go.Dm.Tc
/-
The broker that numbers make: the walk.
-/
namespace Go.Dm.Tc
set_option maxHeartbeats 4000000 in
theorem l9(t:Bool)(aL:Int)(l:List nR)(hh:∀q∈l,q.has.length≤9223372036854775807)(tx tb tn:Nat) :
  ∀(n i:Nat) (nb:aF) (f:dJ) (h:aA),12-i=n→cC nb→SzK nb i→i≤12 →
  f 1=.ptr 0 2 0 0→f 2=.ptr 1 6 0 0→f 3=.ptr 2 6 0 0→f 5=.int .i64 i →
  h.get 0=some (.arr tx 2 [.agg [.int .i64 aL,eL t 7 fX l]] (some 1))→h.get 1=some (.arr tb 6 [zB] (some 1))→h.get 2=some (.arr tn 6 [aI .none nb] (some 1))→h.lim=0→3≤h.n→WF h →
  dY (fin [.cell 2 (some 6)] (run D 124 [.block 2,.seq B0] (.loop Ty) f h))=some (aI .none (((l.take 12).drop i).foldl cG nb)):=by
 intro n
 induction n with
 | zero =>
  intro i nb f h hn hi hz jV h1 h2 h3 h5 g0 g1 g2 aO W3 wf
  have:i=12:=by omega
  subst this
  have he:(l.take 12).drop 12=[]:=List.drop_eq_nil_of_le (by simp;omega)
  have l1:1<h.n:=by omega
  rw[aC Ty.eq_1,he]
  simp only[zB]at g1
  by_cases aZ:12<l.length
  ·have qG:(12:Int)<l.length:=by omega
   simp[qG,B0,h1,h2,h3,h5,g0,g1,g2,aZ,aO,l1,wf,turn]
  ·have qG:¬(12:Int)<l.length:=by omega
   simp[qG,B0,h1,h2,h3,h5,g0,g1,g2,aZ,aO,l1,wf,turn]
 | succ n ih =>
  intro i nb f h hn hi hz jV h1 h2 h3 h5 g0 g1 g2 aO W3 wf
  have hi12':i<12:=by omega
  have Bt:(i:Int)<12:=by omega
  by_cases aZ:i<l.length
  ·have qZ:(i:Int)<l.length:=by omega
   have SZ:jF nb:=hz.sized (by omega)
   have nB:=s43 .none nb l[i].cJ SZ
   have nD:=s26 false false l[i].has l[i].vals (hh _ (List.getElem_mem aZ))
   have w1:=s10 l[i].tree 0 2 (by decide) (by decide) (by decide)
   have w2:=s10 l[i].aW 0 4 (by decide) (by decide) (by decide)
   have w3:=s10 l[i].seq 0 2 (by decide) (by decide) (by decide)
   have w4:=s10 l[i].kind 1 7 (by decide) (by decide) (by decide)
   obtain⟨m,eN⟩:∃ m,h.n=m+3:=⟨h.n-3,by omega⟩
   rw[aC Ty.eq_1]
   by_cases k6:aQ l[i].kind 1 7=6
   ·simp[h1,h3,h5,g0,g2,aZ,qZ,Bt,aO,wf,eN,turn,fX,e10,w1,w2,w3,w4,e43,nB,e26,nD,k6]
    have hS:=s44 nb (aQ l[i].aW 0 4) (aQ l[i].seq 0 2) (dV l[i].has l[i].vals) hi ⟨by have:=hz.aL;omega,by have:=hz.adv;omega,by have:=hz.seen;omega,by have:=hz.own;omega,by have:=hz.ent;have:=hz.adv;have:=Nat.mul_le_mul jV jV;omega⟩ (fD ..) (by have:=hz.own;omega)
    have tI:cG nb l[i]=(fG nb ⟨aQ l[i].aW 0 4,aQ l[i].seq 0 2⟩ (dV l[i].has l[i].vals)).1:=by simp[cG,k6]
    have Es:(l.take 12).drop i=l[i]::(l.take 12).drop (i+1):=by
     have:i<(l.take 12).length:=by simp;omega
     rw[List.drop_eq_getElem_cons this];simp
    rw[Es,List.foldl_cons]
    simp[e44,hS,eN,g2,aO,wf,h3,h5,turn,tZ]
    rw[bE (by omega) (by omega)]
    generalize hF:upd _ 5 _=F
    have hk:=dS hi hz l[i]
    rw[←tI]
    refine ih (i+1) (cG nb l[i]) F _ (by omega) hk.1 hk.2 (by omega) ?_ ?_ ?_ ?_ ?_ ?_ ?_ ?_ ?_ ?_
    all_goals first
     | (rw[←hF];simp[h1,h2,h3];done)
     | (simp[eN,g0,g1,g2,aO,wf];done)
     | (simp[eN]<;>omega)
   ·by_cases k7:aQ l[i].kind 1 7=7
    ·simp[h1,h3,h5,g0,g2,aZ,qZ,Bt,aO,wf,eN,turn,fX,e10,w1,w2,w3,w4,e43,nB,e26,nD,k7]
     have hS:=s45 nb (aQ l[i].aW 0 4) (aQ l[i].seq 0 2) hi ⟨by have:=hz.aL;omega,by have:=hz.adv;omega,by have:=hz.seen;omega,by have:=hz.own;omega,by have:=hz.ent;have:=Nat.mul_le_mul jV jV;omega⟩ (by have:=hz.adv;omega)
     have tI:cG nb l[i]=(dI nb ⟨aQ l[i].aW 0 4,aQ l[i].seq 0 2⟩).1:=by simp[cG,k7]
     have Es:(l.take 12).drop i=l[i]::(l.take 12).drop (i+1):=by
      have:i<(l.take 12).length:=by simp;omega
      rw[List.drop_eq_getElem_cons this];simp
     rw[Es,List.foldl_cons]
     simp[e45,hS,eN,g2,aO,wf,h3,h5,turn,tZ]
     rw[bE (by omega) (by omega)]
     generalize hF:upd _ 5 _=F
     have hk:=dS hi hz l[i]
     rw[←tI]
     refine ih (i+1) (cG nb l[i]) F _ (by omega) hk.1 hk.2 (by omega) ?_ ?_ ?_ ?_ ?_ ?_ ?_ ?_ ?_ ?_
     all_goals first
      | (rw[←hF];simp[h1,h2,h3];done)
      | (simp[eN,g0,g1,g2,aO,wf];done)
      | (simp[eN]<;>omega)
    ·by_cases k5:aQ l[i].kind 1 7=5
     ·simp[h1,h3,h5,g0,g2,aZ,qZ,Bt,aO,wf,eN,turn,fX,e10,w1,w2,w3,w4,e43,nB,e26,nD,k5]
      have hS:=s46 nb (aQ l[i].tree 0 2) 0 (fA nb l[i].cJ) (dV l[i].has l[i].vals) hi ⟨by have:=hz.aL;omega,by have:=hz.adv;omega,by have:=hz.seen;omega,by have:=hz.own;omega,by have:=hz.ent;have:=hz.own;have:=Nat.mul_le_mul jV jV;omega⟩ (fD ..) (fN ..) ⟨by have:=hz.adv;omega,by have:=hz.seen;omega⟩
      have tI:cG nb l[i]=(dN nb (fA nb l[i].cJ) ⟨aQ l[i].tree 0 2,0⟩ (dV l[i].has l[i].vals)).1:=by simp[cG,k5]
      have Es:(l.take 12).drop i=l[i]::(l.take 12).drop (i+1):=by
       have:i<(l.take 12).length:=by simp;omega
       rw[List.drop_eq_getElem_cons this];simp
      rw[Es,List.foldl_cons]
      simp[e46,hS,eN,g2,aO,wf,h3,h5,turn,tZ]
      rw[bE (by omega) (by omega)]
      generalize hF:upd _ 5 _=F
      have hk:=dS hi hz l[i]
      rw[←tI]
      refine ih (i+1) (cG nb l[i]) F _ (by omega) hk.1 hk.2 (by omega) ?_ ?_ ?_ ?_ ?_ ?_ ?_ ?_ ?_ ?_
      all_goals first
       | (rw[←hF];simp[h1,h2,h3];done)
       | (simp[eN,g0,g1,g2,aO,wf];done)
       | (simp[eN]<;>omega)
     ·by_cases k3:aQ l[i].kind 1 7=3∧fA nb l[i].cJ=-1
      ·simp[h1,h3,h5,g0,g2,aZ,qZ,Bt,aO,wf,eN,turn,fX,e10,w1,w2,w3,w4,e43,nB,e26,nD,k3.1,k3.2]
       have hS:=s46 nb (aQ l[i].tree 0 2) 0 (fA nb l[i].cJ) (dV l[i].has l[i].vals) hi ⟨by have:=hz.aL;omega,by have:=hz.adv;omega,by have:=hz.seen;omega,by have:=hz.own;omega,by have:=hz.ent;have:=hz.own;have:=Nat.mul_le_mul jV jV;omega⟩ (fD ..) (fN ..) ⟨by have:=hz.adv;omega,by have:=hz.seen;omega⟩
       have hS2:=hS
       rw[k3.2]at hS2
       have tI:cG nb l[i]=(dN nb (fA nb l[i].cJ) ⟨aQ l[i].tree 0 2,0⟩ (dV l[i].has l[i].vals)).1:=by simp[cG,k3.1,k3.2]
       have Es:(l.take 12).drop i=l[i]::(l.take 12).drop (i+1):=by
        have:i<(l.take 12).length:=by simp;omega
        rw[List.drop_eq_getElem_cons this];simp
       rw[Es,List.foldl_cons]
       simp[e46,hS2,eN,g2,aO,wf,h3,h5,turn,tZ]
       rw[bE (by omega) (by omega)]
       generalize hF:upd _ 5 _=F
       have hk:=dS hi hz l[i]
       rw[k3.2]at tI
       rw[←tI]
       refine ih (i+1) (cG nb l[i]) F _ (by omega) hk.1 hk.2 (by omega) ?_ ?_ ?_ ?_ ?_ ?_ ?_ ?_ ?_ ?_
       all_goals first
        | (rw[←hF];simp[h1,h2,h3];done)
        | (simp[eN,g0,g1,g2,aO,wf];done)
        | (simp[eN]<;>omega)
      ·by_cases k4:aQ l[i].kind 1 7=4∧fA nb l[i].cJ=-1
       ·simp[h1,h3,h5,g0,g2,aZ,qZ,Bt,aO,wf,eN,turn,fX,e10,w1,w2,w3,w4,e43,nB,e26,nD,k4.1,k4.2]
        have hS:=s46 nb (aQ l[i].tree 0 2) 0 (fA nb l[i].cJ) (dV l[i].has l[i].vals) hi ⟨by have:=hz.aL;omega,by have:=hz.adv;omega,by have:=hz.seen;omega,by have:=hz.own;omega,by have:=hz.ent;have:=hz.own;have:=Nat.mul_le_mul jV jV;omega⟩ (fD ..) (fN ..) ⟨by have:=hz.adv;omega,by have:=hz.seen;omega⟩
        have hS2:=hS
        rw[k4.2]at hS2
        have tI:cG nb l[i]=(dN nb (fA nb l[i].cJ) ⟨aQ l[i].tree 0 2,0⟩ (dV l[i].has l[i].vals)).1:=by simp[cG,k4.1,k4.2]
        have Es:(l.take 12).drop i=l[i]::(l.take 12).drop (i+1):=by
         have:i<(l.take 12).length:=by simp;omega
         rw[List.drop_eq_getElem_cons this];simp
        rw[Es,List.foldl_cons]
        simp[e46,hS2,eN,g2,aO,wf,h3,h5,turn,tZ]
        rw[bE (by omega) (by omega)]
        generalize hF:upd _ 5 _=F
        have hk:=dS hi hz l[i]
        rw[k4.2]at tI
        rw[←tI]
        refine ih (i+1) (cG nb l[i]) F _ (by omega) hk.1 hk.2 (by omega) ?_ ?_ ?_ ?_ ?_ ?_ ?_ ?_ ?_ ?_
        all_goals first
         | (rw[←hF];simp[h1,h2,h3];done)
         | (simp[eN,g0,g1,g2,aO,wf];done)
         | (simp[eN]<;>omega)
       ·have LE:aQ l[i].kind 1 7=1∨aQ l[i].kind 1 7=2∨aQ l[i].kind 1 7=3∨aQ l[i].kind 1 7=4:=by have:=eE l[i].kind (lo:=1) (hi:=7) (by decide);omega
        have hk5:=LE
        rcases hk5 with kk|kk|kk|kk
        ·simp[h1,h3,h5,g0,g2,aZ,qZ,Bt,aO,wf,eN,turn,fX,e10,w1,w2,w3,w4,e43,nB,e26,nD,kk]
         have hS:=s47 nb (fA nb l[i].cJ) (aQ l[i].kind 1 7) (aQ l[i].tree 0 2) 0 (aQ l[i].aW 0 4) (aQ l[i].seq 0 2) (dV l[i].has l[i].vals) hi ⟨by have:=hz.aL;omega,by have:=hz.adv;omega,by have:=hz.seen;omega,by have:=hz.own;omega,by have:=hz.ent;have:=hz.own;have:=Nat.mul_le_mul jV jV;omega⟩ (fD ..) (fN ..) ⟨by have:=hz.adv;omega,by have:=hz.seen;omega⟩ LE
         rw[kk]at hS
         have tI:cG nb l[i]=(pD nb (fA nb l[i].cJ) 1 ⟨aQ l[i].tree 0 2,0⟩ ⟨aQ l[i].aW 0 4,aQ l[i].seq 0 2⟩ (dV l[i].has l[i].vals)).1:=by simp[cG,kk]
         have Es:(l.take 12).drop i=l[i]::(l.take 12).drop (i+1):=by
          have:i<(l.take 12).length:=by simp;omega
          rw[List.drop_eq_getElem_cons this];simp
         rw[Es,List.foldl_cons]
         simp[e47,hS,eN,g2,aO,wf,h3,h5,turn,tZ]
         rw[bE (by omega) (by omega)]
         generalize hF:upd _ 5 _=F
         have hk:=dS hi hz l[i]
         rw[←tI]
         refine ih (i+1) (cG nb l[i]) F _ (by omega) hk.1 hk.2 (by omega) ?_ ?_ ?_ ?_ ?_ ?_ ?_ ?_ ?_ ?_
         all_goals first
          | (rw[←hF];simp[h1,h2,h3];done)
          | (simp[eN,g0,g1,g2,aO,wf];done)
          | (simp[eN]<;>omega)
        ·simp[h1,h3,h5,g0,g2,aZ,qZ,Bt,aO,wf,eN,turn,fX,e10,w1,w2,w3,w4,e43,nB,e26,nD,kk]
         have hS:=s47 nb (fA nb l[i].cJ) (aQ l[i].kind 1 7) (aQ l[i].tree 0 2) 0 (aQ l[i].aW 0 4) (aQ l[i].seq 0 2) (dV l[i].has l[i].vals) hi ⟨by have:=hz.aL;omega,by have:=hz.adv;omega,by have:=hz.seen;omega,by have:=hz.own;omega,by have:=hz.ent;have:=hz.own;have:=Nat.mul_le_mul jV jV;omega⟩ (fD ..) (fN ..) ⟨by have:=hz.adv;omega,by have:=hz.seen;omega⟩ LE
         rw[kk]at hS
         have tI:cG nb l[i]=(pD nb (fA nb l[i].cJ) 2 ⟨aQ l[i].tree 0 2,0⟩ ⟨aQ l[i].aW 0 4,aQ l[i].seq 0 2⟩ (dV l[i].has l[i].vals)).1:=by simp[cG,kk]
         have Es:(l.take 12).drop i=l[i]::(l.take 12).drop (i+1):=by
          have:i<(l.take 12).length:=by simp;omega
          rw[List.drop_eq_getElem_cons this];simp
         rw[Es,List.foldl_cons]
         simp[e47,hS,eN,g2,aO,wf,h3,h5,turn,tZ]
         rw[bE (by omega) (by omega)]
         generalize hF:upd _ 5 _=F
         have hk:=dS hi hz l[i]
         rw[←tI]
         refine ih (i+1) (cG nb l[i]) F _ (by omega) hk.1 hk.2 (by omega) ?_ ?_ ?_ ?_ ?_ ?_ ?_ ?_ ?_ ?_
         all_goals first
          | (rw[←hF];simp[h1,h2,h3];done)
          | (simp[eN,g0,g1,g2,aO,wf];done)
          | (simp[eN]<;>omega)
        ·have kf:¬fA nb l[i].cJ=-1:=fun e=>k3 ⟨kk,e⟩
         simp[h1,h3,h5,g0,g2,aZ,qZ,Bt,aO,wf,eN,turn,fX,e10,w1,w2,w3,w4,e43,nB,e26,nD,kk,kf]
         have hS:=s47 nb (fA nb l[i].cJ) (aQ l[i].kind 1 7) (aQ l[i].tree 0 2) 0 (aQ l[i].aW 0 4) (aQ l[i].seq 0 2) (dV l[i].has l[i].vals) hi ⟨by have:=hz.aL;omega,by have:=hz.adv;omega,by have:=hz.seen;omega,by have:=hz.own;omega,by have:=hz.ent;have:=hz.own;have:=Nat.mul_le_mul jV jV;omega⟩ (fD ..) (fN ..) ⟨by have:=hz.adv;omega,by have:=hz.seen;omega⟩ LE
         rw[kk]at hS
         have tI:cG nb l[i]=(pD nb (fA nb l[i].cJ) 3 ⟨aQ l[i].tree 0 2,0⟩ ⟨aQ l[i].aW 0 4,aQ l[i].seq 0 2⟩ (dV l[i].has l[i].vals)).1:=by simp[cG,kk,kf]
         have Es:(l.take 12).drop i=l[i]::(l.take 12).drop (i+1):=by
          have:i<(l.take 12).length:=by simp;omega
          rw[List.drop_eq_getElem_cons this];simp
         rw[Es,List.foldl_cons]
         simp[e47,hS,eN,g2,aO,wf,h3,h5,turn,tZ]
         rw[bE (by omega) (by omega)]
         generalize hF:upd _ 5 _=F
         have hk:=dS hi hz l[i]
         rw[←tI]
         refine ih (i+1) (cG nb l[i]) F _ (by omega) hk.1 hk.2 (by omega) ?_ ?_ ?_ ?_ ?_ ?_ ?_ ?_ ?_ ?_
         all_goals first
          | (rw[←hF];simp[h1,h2,h3];done)
          | (simp[eN,g0,g1,g2,aO,wf];done)
          | (simp[eN]<;>omega)
        ·have kf:¬fA nb l[i].cJ=-1:=fun e=>k4 ⟨kk,e⟩
         simp[h1,h3,h5,g0,g2,aZ,qZ,Bt,aO,wf,eN,turn,fX,e10,w1,w2,w3,w4,e43,nB,e26,nD,kk,kf]
         have hS:=s47 nb (fA nb l[i].cJ) (aQ l[i].kind 1 7) (aQ l[i].tree 0 2) 0 (aQ l[i].aW 0 4) (aQ l[i].seq 0 2) (dV l[i].has l[i].vals) hi ⟨by have:=hz.aL;omega,by have:=hz.adv;omega,by have:=hz.seen;omega,by have:=hz.own;omega,by have:=hz.ent;have:=hz.own;have:=Nat.mul_le_mul jV jV;omega⟩ (fD ..) (fN ..) ⟨by have:=hz.adv;omega,by have:=hz.seen;omega⟩ LE
         rw[kk]at hS
         have tI:cG nb l[i]=(pD nb (fA nb l[i].cJ) 4 ⟨aQ l[i].tree 0 2,0⟩ ⟨aQ l[i].aW 0 4,aQ l[i].seq 0 2⟩ (dV l[i].has l[i].vals)).1:=by simp[cG,kk,kf]
         have Es:(l.take 12).drop i=l[i]::(l.take 12).drop (i+1):=by
          have:i<(l.take 12).length:=by simp;omega
          rw[List.drop_eq_getElem_cons this];simp
         rw[Es,List.foldl_cons]
         simp[e47,hS,eN,g2,aO,wf,h3,h5,turn,tZ]
         rw[bE (by omega) (by omega)]
         generalize hF:upd _ 5 _=F
         have hk:=dS hi hz l[i]
         rw[←tI]
         refine ih (i+1) (cG nb l[i]) F _ (by omega) hk.1 hk.2 (by omega) ?_ ?_ ?_ ?_ ?_ ?_ ?_ ?_ ?_ ?_
         all_goals first
          | (rw[←hF];simp[h1,h2,h3];done)
          | (simp[eN,g0,g1,g2,aO,wf];done)
          | (simp[eN]<;>omega)
  ·have qZ:¬(i:Int)<l.length:=by omega
   have he:(l.take 12).drop i=[]:=List.drop_eq_nil_of_le (by simp;omega)
   have l1:1<h.n:=by omega
   rw[aC Ty.eq_1,he]
   simp only[zB]at g1
   simp[B0,h1,h2,h3,h5,g0,g1,g2,aZ,qZ,aO,l1,wf,turn]
end Go.Dm.Tc
/-
The broker that numbers make: its neighbours,and the first that it is told.
-/
namespace Go.Dm.Tc
theorem RO{lo:Nat}{h:aA}{i ety:Nat}{os:List Int}{n:Nat}(o:dL lo h i ety 1 (os.map cF))(hn:n=os.length):gI h (.sl i 1 0 n)=some (eL false 1 cF os,h.set i .dead):=by
 subst hn
 obtain⟨⟨sp,cap,hg⟩,hl,_⟩:=o
 have hb:(List.take os.length (List.map cF os++sp)).all (eZ 200 0)=true:=by
  rw[List.take_left' (by simp),List.all_eq_true]
  intro x hx
  obtain⟨y,_,rfl⟩:=List.mem_map.1 hx
  rfl
 simp only[gI,hg,hl,List.drop_zero,hb,List.length_append,List.length_map,Nat.zero_add,Nat.le_add_right,and_self,if_true]
 rw[List.take_left' (by simp)]
 cases os<;>rfl
theorem Vr{t:Bool}{ety K:Nat}(H:aA)(sp:List DV)(cap:Option Nat):Da t H 198 1 0 K (some (.arr ety 1 ((jI K).map cF++sp) cap))=some (eL t 1 cF (jI K)):=by
 have hl:(jI K).length=K:=by simp[jI]
 rw[fB,if_pos ⟨rfl,by simp[hl]⟩,List.drop_zero,List.take_left' (by simp[hl])]
 have:vQ t H 198 ((jI K).map cF)=some ((jI K).map cF):=mL fun x hx=>by
  obtain⟨y,_,rfl⟩:=List.mem_map.1 hx
  exact CZ.1 y t H 198 (by decide)
 rw[this]
 rfl
theorem xV(n:Nat):(jI n).length=n:=by simp[jI]
set_option maxHeartbeats 4000000 in
theorem n9(t:Bool)(aL:Int)(l:List nR)(hh:∀q∈l,q.has.length≤9223372036854775807)(tx tb tn:Nat)
  (K:Nat) (hK:K≤4) (iw:Nat) (f:dJ) (h:aA)
  (h1:f 1=.ptr 0 2 0 0) (h2:f 2=.ptr 1 6 0 0) (h3:f 3=.ptr 2 6 0 0) (h5:f 5=.int .i64 0)
  (g0:h.get 0=some (.arr tx 2 [.agg [.int .i64 aL,eL t 7 fX l]] (some 1))) (g1:h.get 1=some (.arr tb 6 [zB] (some 1))) (g2:h.get 2=some (.arr tn 6 [.agg [.int .i64 0,.sl iw 1 0 K,.nsl,.nsl,.nsl,.nsl]] (some 1)))
  (ho:dL 3 h iw 3 1 ((jI K).map cF)) (aO:h.lim=0) (W3:3≤h.n) (wf:WF h) :
  dY (fin [.cell 2 (some 6)] (run D 124 [.block 2,.seq B0] (.loop Ty) f h))=some (aI .none ((l.take 12).foldl cG (bL K))):=by
 obtain⟨hi,hz⟩:=zJ K hK
 have N7:=ho.lt
 have hi3:=ho.lo
 have l1:1<h.n:=by omega
 by_cases aZ:0<l.length
 ·have qZ:(0:Int)<l.length:=by omega
  have SZ:jF (bL K):=hz.sized (by omega)
  have nB:=s43 ⟨true,false,false,false,false⟩ (bL K) l[0].cJ SZ
  have nD:=s26 false false l[0].has l[0].vals (hh _ (List.getElem_mem aZ))
  have w1:=s10 l[0].tree 0 2 (by decide) (by decide) (by decide)
  have w2:=s10 l[0].aW 0 4 (by decide) (by decide) (by decide)
  have w3:=s10 l[0].seq 0 2 (by decide) (by decide) (by decide)
  have w4:=s10 l[0].kind 1 7 (by decide) (by decide) (by decide)
  obtain⟨m,eN⟩:∃ m,h.n=m+3:=⟨h.n-3,by omega⟩
  have m0:¬iw=0:=by omega
  have m1:¬iw=1:=by omega
  have m2:¬iw=2:=by omega
  have m0':¬0=iw:=by omega
  have m1':¬1=iw:=by omega
  have m2':¬2=iw:=by omega
  have m3:¬iw=m+3:=by omega
  have m4:¬iw=m+3+1:=by omega
  have m5:¬iw=m+3+1+1:=by omega
  have m6:¬iw=m+3+1+1+1:=by omega
  have j3:iw<m+3:=by omega
  have j4:iw<m+3+1:=by omega
  have j5:iw<m+3+1+1:=by omega
  have j6:iw<m+3+1+1+1:=by omega
  have rQ:∀o1 o2 o3 o4,gI ((((h.push o1).push o2).push o3).push o4) (.sl iw 1 0 K)=some (eL false 1 cF (jI K),((((h.push o1).push o2).push o3).push o4).set iw .dead):=fun o1 o2 o3 o4=>RO ho.push.push.push.push (xV K).symm
  obtain⟨sp,cap,hg⟩:=ho.get
  have N0:∀H,Da true H 198 1 0 K (some (.arr 3 1 ((jI K).map cF++sp) cap))=some (eL true 1 cF (jI K)):=fun H=>Vr H sp cap
  have Fq:DV.agg [.int .i64 0,eL false 1 cF (jI K),.isl false 0 [],.isl false 0 [],.isl false 0 [],.isl false 0 []]=aI .none (bL K):=rfl
  have RK:DV.agg [.int .i64 0,eL true 1 cF (jI K),.isl false 0 [],.isl false 0 [],.isl false 0 [],.isl false 0 []]=aI ⟨true,false,false,false,false⟩ (bL K):=rfl
  have hfold:(l.take 12).foldl cG (bL K)=((l.take 12).drop 1).foldl cG (cG (bL K) l[0]):=by cases l with
   | nil=>simp at aZ
   | cons a l=>simp
  have jV:0≤12:=by decide
  obtain⟨R,hR⟩:∃ R,R=aI .none (((l.take 12).drop 1).foldl cG (cG (bL K) l[0])):=⟨_,rfl⟩
  rw[hfold,←hR,aC Ty.eq_1]
  by_cases k6:aQ l[0].kind 1 7=6
  ·simp[h1,h3,h5,g0,g2,aZ,qZ,aO,wf,eN,turn,fX,e10,w1,w2,w3,w4,e43,N0,-fB,hg,j3,j4,j5,j6,m0,m1,m2,m0',m1',m2',m3,m4,m5,m6,RK,nB,e26,nD,k6]
   have hS:=s44 (bL K) (aQ l[0].aW 0 4) (aQ l[0].seq 0 2) (dV l[0].has l[0].vals) hi ⟨by have:=hz.aL;omega,by have:=hz.adv;omega,by have:=hz.seen;omega,by have:=hz.own;omega,by have:=hz.ent;have:=hz.adv;have:=Nat.mul_le_mul jV jV;omega⟩ (fD ..) (by have:=hz.own;omega)
   have tI:cG (bL K) l[0]=(fG (bL K) ⟨aQ l[0].aW 0 4,aQ l[0].seq 0 2⟩ (dV l[0].has l[0].vals)).1:=by simp[cG,k6]
   simp[e44,hS,eN,g2,aO,wf,h3,h5,turn,rQ,Fq,j3,j4,j5,j6,m0,m1,m2,m0',m1',m2',m3,m4,m5,m6,tZ]
   rw[hR]
   generalize hF:upd _ 5 _=F
   have hk:=dS hi hz l[0]
   rw[←tI]
   refine l9 t aL l hh tx tb tn 11 1 (cG (bL K) l[0]) F _ (by decide) hk.1 hk.2 (by decide) ?_ ?_ ?_ ?_ ?_ ?_ ?_ ?_ ?_ ?_
   all_goals first
    | (rw[←hF];simp[h1,h2,h3];done)
    | (simp[eN,g0,g1,g2,aO,wf,j3,j4,j5,j6,m0,m1,m2,m0',m1',m2',m3,m4,m5,m6];done)
    | (simp[eN,m0,m1,m2,m0',m1',m2',m3,m4,m5,m6]<;>omega)
  ·by_cases k7:aQ l[0].kind 1 7=7
   ·simp[h1,h3,h5,g0,g2,aZ,qZ,aO,wf,eN,turn,fX,e10,w1,w2,w3,w4,e43,N0,-fB,hg,j3,j4,j5,j6,m0,m1,m2,m0',m1',m2',m3,m4,m5,m6,RK,nB,e26,nD,k7]
    have hS:=s45 (bL K) (aQ l[0].aW 0 4) (aQ l[0].seq 0 2) hi ⟨by have:=hz.aL;omega,by have:=hz.adv;omega,by have:=hz.seen;omega,by have:=hz.own;omega,by have:=hz.ent;have:=Nat.mul_le_mul jV jV;omega⟩ (by have:=hz.adv;omega)
    have tI:cG (bL K) l[0]=(dI (bL K) ⟨aQ l[0].aW 0 4,aQ l[0].seq 0 2⟩).1:=by simp[cG,k7]
    simp[e45,hS,eN,g2,aO,wf,h3,h5,turn,rQ,Fq,j3,j4,j5,j6,m0,m1,m2,m0',m1',m2',m3,m4,m5,m6,tZ]
    rw[hR]
    generalize hF:upd _ 5 _=F
    have hk:=dS hi hz l[0]
    rw[←tI]
    refine l9 t aL l hh tx tb tn 11 1 (cG (bL K) l[0]) F _ (by decide) hk.1 hk.2 (by decide) ?_ ?_ ?_ ?_ ?_ ?_ ?_ ?_ ?_ ?_
    all_goals first
     | (rw[←hF];simp[h1,h2,h3];done)
     | (simp[eN,g0,g1,g2,aO,wf,j3,j4,j5,j6,m0,m1,m2,m0',m1',m2',m3,m4,m5,m6];done)
     | (simp[eN,m0,m1,m2,m0',m1',m2',m3,m4,m5,m6]<;>omega)
   ·by_cases k5:aQ l[0].kind 1 7=5
    ·simp[h1,h3,h5,g0,g2,aZ,qZ,aO,wf,eN,turn,fX,e10,w1,w2,w3,w4,e43,N0,-fB,hg,j3,j4,j5,j6,m0,m1,m2,m0',m1',m2',m3,m4,m5,m6,RK,nB,e26,nD,k5]
     have hS:=s46 (bL K) (aQ l[0].tree 0 2) 0 (fA (bL K) l[0].cJ) (dV l[0].has l[0].vals) hi ⟨by have:=hz.aL;omega,by have:=hz.adv;omega,by have:=hz.seen;omega,by have:=hz.own;omega,by have:=hz.ent;have:=hz.own;have:=Nat.mul_le_mul jV jV;omega⟩ (fD ..) (fN ..) ⟨by have:=hz.adv;omega,by have:=hz.seen;omega⟩
     have tI:cG (bL K) l[0]=(dN (bL K) (fA (bL K) l[0].cJ) ⟨aQ l[0].tree 0 2,0⟩ (dV l[0].has l[0].vals)).1:=by simp[cG,k5]
     simp[e46,hS,eN,g2,aO,wf,h3,h5,turn,rQ,Fq,j3,j4,j5,j6,m0,m1,m2,m0',m1',m2',m3,m4,m5,m6,tZ]
     rw[hR]
     generalize hF:upd _ 5 _=F
     have hk:=dS hi hz l[0]
     rw[←tI]
     refine l9 t aL l hh tx tb tn 11 1 (cG (bL K) l[0]) F _ (by decide) hk.1 hk.2 (by decide) ?_ ?_ ?_ ?_ ?_ ?_ ?_ ?_ ?_ ?_
     all_goals first
      | (rw[←hF];simp[h1,h2,h3];done)
      | (simp[eN,g0,g1,g2,aO,wf,j3,j4,j5,j6,m0,m1,m2,m0',m1',m2',m3,m4,m5,m6];done)
      | (simp[eN,m0,m1,m2,m0',m1',m2',m3,m4,m5,m6]<;>omega)
    ·by_cases k3:aQ l[0].kind 1 7=3∧fA (bL K) l[0].cJ=-1
     ·simp[h1,h3,h5,g0,g2,aZ,qZ,aO,wf,eN,turn,fX,e10,w1,w2,w3,w4,e43,N0,-fB,hg,j3,j4,j5,j6,m0,m1,m2,m0',m1',m2',m3,m4,m5,m6,RK,nB,e26,nD,k3.1,k3.2]
      have hS:=s46 (bL K) (aQ l[0].tree 0 2) 0 (fA (bL K) l[0].cJ) (dV l[0].has l[0].vals) hi ⟨by have:=hz.aL;omega,by have:=hz.adv;omega,by have:=hz.seen;omega,by have:=hz.own;omega,by have:=hz.ent;have:=hz.own;have:=Nat.mul_le_mul jV jV;omega⟩ (fD ..) (fN ..) ⟨by have:=hz.adv;omega,by have:=hz.seen;omega⟩
      have hS2:=hS
      rw[k3.2]at hS2
      have tI:cG (bL K) l[0]=(dN (bL K) (fA (bL K) l[0].cJ) ⟨aQ l[0].tree 0 2,0⟩ (dV l[0].has l[0].vals)).1:=by simp[cG,k3.1,k3.2]
      simp[e46,hS2,eN,g2,aO,wf,h3,h5,turn,rQ,Fq,j3,j4,j5,j6,m0,m1,m2,m0',m1',m2',m3,m4,m5,m6,tZ]
      rw[hR]
      generalize hF:upd _ 5 _=F
      have hk:=dS hi hz l[0]
      rw[k3.2]at tI
      rw[←tI]
      refine l9 t aL l hh tx tb tn 11 1 (cG (bL K) l[0]) F _ (by decide) hk.1 hk.2 (by decide) ?_ ?_ ?_ ?_ ?_ ?_ ?_ ?_ ?_ ?_
      all_goals first
       | (rw[←hF];simp[h1,h2,h3];done)
       | (simp[eN,g0,g1,g2,aO,wf,j3,j4,j5,j6,m0,m1,m2,m0',m1',m2',m3,m4,m5,m6];done)
       | (simp[eN,m0,m1,m2,m0',m1',m2',m3,m4,m5,m6]<;>omega)
     ·by_cases k4:aQ l[0].kind 1 7=4∧fA (bL K) l[0].cJ=-1
      ·simp[h1,h3,h5,g0,g2,aZ,qZ,aO,wf,eN,turn,fX,e10,w1,w2,w3,w4,e43,N0,-fB,hg,j3,j4,j5,j6,m0,m1,m2,m0',m1',m2',m3,m4,m5,m6,RK,nB,e26,nD,k4.1,k4.2]
       have hS:=s46 (bL K) (aQ l[0].tree 0 2) 0 (fA (bL K) l[0].cJ) (dV l[0].has l[0].vals) hi ⟨by have:=hz.aL;omega,by have:=hz.adv;omega,by have:=hz.seen;omega,by have:=hz.own;omega,by have:=hz.ent;have:=hz.own;have:=Nat.mul_le_mul jV jV;omega⟩ (fD ..) (fN ..) ⟨by have:=hz.adv;omega,by have:=hz.seen;omega⟩
       have hS2:=hS
       rw[k4.2]at hS2
       have tI:cG (bL K) l[0]=(dN (bL K) (fA (bL K) l[0].cJ) ⟨aQ l[0].tree 0 2,0⟩ (dV l[0].has l[0].vals)).1:=by simp[cG,k4.1,k4.2]
       simp[e46,hS2,eN,g2,aO,wf,h3,h5,turn,rQ,Fq,j3,j4,j5,j6,m0,m1,m2,m0',m1',m2',m3,m4,m5,m6,tZ]
       rw[hR]
       generalize hF:upd _ 5 _=F
       have hk:=dS hi hz l[0]
       rw[k4.2]at tI
       rw[←tI]
       refine l9 t aL l hh tx tb tn 11 1 (cG (bL K) l[0]) F _ (by decide) hk.1 hk.2 (by decide) ?_ ?_ ?_ ?_ ?_ ?_ ?_ ?_ ?_ ?_
       all_goals first
        | (rw[←hF];simp[h1,h2,h3];done)
        | (simp[eN,g0,g1,g2,aO,wf,j3,j4,j5,j6,m0,m1,m2,m0',m1',m2',m3,m4,m5,m6];done)
        | (simp[eN,m0,m1,m2,m0',m1',m2',m3,m4,m5,m6]<;>omega)
      ·have LE:aQ l[0].kind 1 7=1∨aQ l[0].kind 1 7=2∨aQ l[0].kind 1 7=3∨aQ l[0].kind 1 7=4:=by have:=eE l[0].kind (lo:=1) (hi:=7) (by decide);omega
       have hk5:=LE
       rcases hk5 with kk|kk|kk|kk
       ·simp[h1,h3,h5,g0,g2,aZ,qZ,aO,wf,eN,turn,fX,e10,w1,w2,w3,w4,e43,N0,-fB,hg,j3,j4,j5,j6,m0,m1,m2,m0',m1',m2',m3,m4,m5,m6,RK,nB,e26,nD,kk]
        have hS:=s47 (bL K) (fA (bL K) l[0].cJ) (aQ l[0].kind 1 7) (aQ l[0].tree 0 2) 0 (aQ l[0].aW 0 4) (aQ l[0].seq 0 2) (dV l[0].has l[0].vals) hi ⟨by have:=hz.aL;omega,by have:=hz.adv;omega,by have:=hz.seen;omega,by have:=hz.own;omega,by have:=hz.ent;have:=hz.own;have:=Nat.mul_le_mul jV jV;omega⟩ (fD ..) (fN ..) ⟨by have:=hz.adv;omega,by have:=hz.seen;omega⟩ LE
        rw[kk]at hS
        have tI:cG (bL K) l[0]=(pD (bL K) (fA (bL K) l[0].cJ) 1 ⟨aQ l[0].tree 0 2,0⟩ ⟨aQ l[0].aW 0 4,aQ l[0].seq 0 2⟩ (dV l[0].has l[0].vals)).1:=by simp[cG,kk]
        simp[e47,hS,eN,g2,aO,wf,h3,h5,turn,rQ,Fq,j3,j4,j5,j6,m0,m1,m2,m0',m1',m2',m3,m4,m5,m6,tZ]
        rw[hR]
        generalize hF:upd _ 5 _=F
        have hk:=dS hi hz l[0]
        rw[←tI]
        refine l9 t aL l hh tx tb tn 11 1 (cG (bL K) l[0]) F _ (by decide) hk.1 hk.2 (by decide) ?_ ?_ ?_ ?_ ?_ ?_ ?_ ?_ ?_ ?_
        all_goals first
         | (rw[←hF];simp[h1,h2,h3];done)
         | (simp[eN,g0,g1,g2,aO,wf,j3,j4,j5,j6,m0,m1,m2,m0',m1',m2',m3,m4,m5,m6];done)
         | (simp[eN,m0,m1,m2,m0',m1',m2',m3,m4,m5,m6]<;>omega)
       ·simp[h1,h3,h5,g0,g2,aZ,qZ,aO,wf,eN,turn,fX,e10,w1,w2,w3,w4,e43,N0,-fB,hg,j3,j4,j5,j6,m0,m1,m2,m0',m1',m2',m3,m4,m5,m6,RK,nB,e26,nD,kk]
        have hS:=s47 (bL K) (fA (bL K) l[0].cJ) (aQ l[0].kind 1 7) (aQ l[0].tree 0 2) 0 (aQ l[0].aW 0 4) (aQ l[0].seq 0 2) (dV l[0].has l[0].vals) hi ⟨by have:=hz.aL;omega,by have:=hz.adv;omega,by have:=hz.seen;omega,by have:=hz.own;omega,by have:=hz.ent;have:=hz.own;have:=Nat.mul_le_mul jV jV;omega⟩ (fD ..) (fN ..) ⟨by have:=hz.adv;omega,by have:=hz.seen;omega⟩ LE
        rw[kk]at hS
        have tI:cG (bL K) l[0]=(pD (bL K) (fA (bL K) l[0].cJ) 2 ⟨aQ l[0].tree 0 2,0⟩ ⟨aQ l[0].aW 0 4,aQ l[0].seq 0 2⟩ (dV l[0].has l[0].vals)).1:=by simp[cG,kk]
        simp[e47,hS,eN,g2,aO,wf,h3,h5,turn,rQ,Fq,j3,j4,j5,j6,m0,m1,m2,m0',m1',m2',m3,m4,m5,m6,tZ]
        rw[hR]
        generalize hF:upd _ 5 _=F
        have hk:=dS hi hz l[0]
        rw[←tI]
        refine l9 t aL l hh tx tb tn 11 1 (cG (bL K) l[0]) F _ (by decide) hk.1 hk.2 (by decide) ?_ ?_ ?_ ?_ ?_ ?_ ?_ ?_ ?_ ?_
        all_goals first
         | (rw[←hF];simp[h1,h2,h3];done)
         | (simp[eN,g0,g1,g2,aO,wf,j3,j4,j5,j6,m0,m1,m2,m0',m1',m2',m3,m4,m5,m6];done)
         | (simp[eN,m0,m1,m2,m0',m1',m2',m3,m4,m5,m6]<;>omega)
       ·have kf:¬fA (bL K) l[0].cJ=-1:=fun e=>k3 ⟨kk,e⟩
        simp[h1,h3,h5,g0,g2,aZ,qZ,aO,wf,eN,turn,fX,e10,w1,w2,w3,w4,e43,N0,-fB,hg,j3,j4,j5,j6,m0,m1,m2,m0',m1',m2',m3,m4,m5,m6,RK,nB,e26,nD,kk,kf]
        have hS:=s47 (bL K) (fA (bL K) l[0].cJ) (aQ l[0].kind 1 7) (aQ l[0].tree 0 2) 0 (aQ l[0].aW 0 4) (aQ l[0].seq 0 2) (dV l[0].has l[0].vals) hi ⟨by have:=hz.aL;omega,by have:=hz.adv;omega,by have:=hz.seen;omega,by have:=hz.own;omega,by have:=hz.ent;have:=hz.own;have:=Nat.mul_le_mul jV jV;omega⟩ (fD ..) (fN ..) ⟨by have:=hz.adv;omega,by have:=hz.seen;omega⟩ LE
        rw[kk]at hS
        have tI:cG (bL K) l[0]=(pD (bL K) (fA (bL K) l[0].cJ) 3 ⟨aQ l[0].tree 0 2,0⟩ ⟨aQ l[0].aW 0 4,aQ l[0].seq 0 2⟩ (dV l[0].has l[0].vals)).1:=by simp[cG,kk,kf]
        simp[e47,hS,eN,g2,aO,wf,h3,h5,turn,rQ,Fq,j3,j4,j5,j6,m0,m1,m2,m0',m1',m2',m3,m4,m5,m6,tZ]
        rw[hR]
        generalize hF:upd _ 5 _=F
        have hk:=dS hi hz l[0]
        rw[←tI]
        refine l9 t aL l hh tx tb tn 11 1 (cG (bL K) l[0]) F _ (by decide) hk.1 hk.2 (by decide) ?_ ?_ ?_ ?_ ?_ ?_ ?_ ?_ ?_ ?_
        all_goals first
         | (rw[←hF];simp[h1,h2,h3];done)
         | (simp[eN,g0,g1,g2,aO,wf,j3,j4,j5,j6,m0,m1,m2,m0',m1',m2',m3,m4,m5,m6];done)
         | (simp[eN,m0,m1,m2,m0',m1',m2',m3,m4,m5,m6]<;>omega)
       ·have kf:¬fA (bL K) l[0].cJ=-1:=fun e=>k4 ⟨kk,e⟩
        simp[h1,h3,h5,g0,g2,aZ,qZ,aO,wf,eN,turn,fX,e10,w1,w2,w3,w4,e43,N0,-fB,hg,j3,j4,j5,j6,m0,m1,m2,m0',m1',m2',m3,m4,m5,m6,RK,nB,e26,nD,kk,kf]
        have hS:=s47 (bL K) (fA (bL K) l[0].cJ) (aQ l[0].kind 1 7) (aQ l[0].tree 0 2) 0 (aQ l[0].aW 0 4) (aQ l[0].seq 0 2) (dV l[0].has l[0].vals) hi ⟨by have:=hz.aL;omega,by have:=hz.adv;omega,by have:=hz.seen;omega,by have:=hz.own;omega,by have:=hz.ent;have:=hz.own;have:=Nat.mul_le_mul jV jV;omega⟩ (fD ..) (fN ..) ⟨by have:=hz.adv;omega,by have:=hz.seen;omega⟩ LE
        rw[kk]at hS
        have tI:cG (bL K) l[0]=(pD (bL K) (fA (bL K) l[0].cJ) 4 ⟨aQ l[0].tree 0 2,0⟩ ⟨aQ l[0].aW 0 4,aQ l[0].seq 0 2⟩ (dV l[0].has l[0].vals)).1:=by simp[cG,kk,kf]
        simp[e47,hS,eN,g2,aO,wf,h3,h5,turn,rQ,Fq,j3,j4,j5,j6,m0,m1,m2,m0',m1',m2',m3,m4,m5,m6,tZ]
        rw[hR]
        generalize hF:upd _ 5 _=F
        have hk:=dS hi hz l[0]
        rw[←tI]
        refine l9 t aL l hh tx tb tn 11 1 (cG (bL K) l[0]) F _ (by decide) hk.1 hk.2 (by decide) ?_ ?_ ?_ ?_ ?_ ?_ ?_ ?_ ?_ ?_
        all_goals first
         | (rw[←hF];simp[h1,h2,h3];done)
         | (simp[eN,g0,g1,g2,aO,wf,j3,j4,j5,j6,m0,m1,m2,m0',m1',m2',m3,m4,m5,m6];done)
         | (simp[eN,m0,m1,m2,m0',m1',m2',m3,m4,m5,m6]<;>omega)
 ·have Dh:l=[]:=by cases l<;>simp_all
  subst Dh
  obtain⟨sp,cap,hg⟩:=ho.get
  have N0:∀H,Da false H 198 1 0 K (some (.arr 3 1 ((jI K).map cF++sp) cap))=some (eL false 1 cF (jI K)):=fun H=>Vr H sp cap
  have Fq:DV.agg [.int .i64 0,eL false 1 cF (jI K),.isl false 0 [],.isl false 0 [],.isl false 0 [],.isl false 0 []]=aI .none (bL K):=rfl
  have k1:¬iw=1:=by omega
  have k2:¬iw=2:=by omega
  have l2:2<h.n:=by omega
  rw[aC Ty.eq_1]
  simp only[zB]at g1
  simp[B0,h1,h2,h3,h5,g0,g1,g2,aO,l1,l2,wf,turn,N0,-fB,hg,k1,k2,Fq]
theorem K7(i:Nat):(jI (i+1)).map cF=(jI i).map cF++[.int .i64 ((i:Int)+1)]:=by
 simp[jI,List.range_succ,cF]
theorem r9(t:Bool)(aL:Int)(l:List nR)(hh:∀q∈l,q.has.length≤9223372036854775807)(tx tb tn:Nat)(K:Nat)(hK1:1≤K)(hK:K≤4) :
  ∀(n i:Nat) (v:DV) (f:dJ) (h:aA),K-i=n→i≤K→f 1=.ptr 0 2 0 0→f 2=.ptr 1 6 0 0→f 3=.ptr 2 6 0 0→f 14=.int .i64 K→f 15=.int .i64 i →
  h.get 0=some (.arr tx 2 [.agg [.int .i64 aL,eL t 7 fX l]] (some 1))→h.get 1=some (.arr tb 6 [zB] (some 1))→h.get 2=some (.arr tn 6 [.agg [.int .i64 0,v,.nsl,.nsl,.nsl,.nsl]] (some 1)) →
  OwnR 3 h v 3 1 ((jI i).map cF)→h.lim=0→3≤h.n→WF h →
  dY (fin [.cell 2 (some 6)] (run D 124 [.block 0,.seq UB] (.loop OR) f h))=some (aI .none ((l.take 12).foldl cG (bL K))):=by
 intro n
 induction n with
 | zero =>
  intro i v f h hn hi h1 h2 h3 RM X1 g0 g1 g2 ho aO W3 wf
  have:i=K:=by omega
  subst this
  rw[aC OR.eq_1]
  simp[RM,X1,UB]
  cases ho with
  | nil hv hx=>exact absurd hx (by rw[List.map_eq_nil_iff];intro e;have:=xV i;rw[e]at this;simp at this;omega)
  | arr iw sp cap hv hg hl1 EE =>
   rw[hv]at g2
   rw[List.length_map,xV]at g2
   refine n9 t aL l hh tx tb tn i hK iw _ _ ?_ ?_ ?_ ?_ g0 g1 g2 ⟨⟨sp,cap,hg⟩,hl1,EE⟩ aO W3 wf
   all_goals simp[h1,h2,h3]
 | succ n ih =>
  intro i v f h hn hi h1 h2 h3 RM X1 g0 g1 g2 ho aO W3 wf
  have aZ:i<K:=by omega
  have qZ:(i:Int)<K:=by omega
  obtain⟨m,eN⟩:∃ m,h.n=m+3:=⟨h.n-3,by omega⟩
  rw[aC OR.eq_1]
  simp[h3,RM,X1,aZ,qZ,g2,eN,aO,wf,turn,YS]
  rw[bE (by omega) (by omega)]
  generalize hA:aU _ _ _ _ _ _=A
  obtain⟨v',H,rfl,p',x',_⟩:=OwnR.append (lo:=3) ho.push (by simp[wf]) (by simp[eN]) (by simp[aO]) hA (by simp[xV];omega) (by decide)
  rw[←K7]at p'
  clear hA
  have a0:=x'.get 0 (by decide)
  have a1:=x'.get 1 (by decide)
  have a2:=x'.get 2 (by decide)
  have al:=x'.lim
  have aw:=x'.wf
  have an:=x'.le
  have l2:2<H.n:=by omega
  simp[eN,g0,g1,g2,aO]at a0 a1 a2 al
  obtain⟨m',hm'⟩:∃ m',H.n=m'+3:=⟨H.n-3,by omega⟩
  have cW:bF 1 v'=true∧aK 1 v'=[v']:=⟨p'.bF,by cases p' with
   | nil hv _=>rw[hv];rfl
   | arr _ _ _ hv _ _ _=>rw[hv];rfl⟩
  simp[h3,X1,a2,al,aw,hm',turn,cW.1,cW.2]
  rw[bE (by omega) (by omega)]
  generalize hF:upd _ 15 _=F
  refine ih (i+1) v' F _ (by omega) (by omega) ?_ ?_ ?_ ?_ ?_ ?_ ?_ ?_ (p'.bU aw (by decide) l2) ?_ ?_ ?_
  all_goals first
   | (rw[←hF];simp[h1,h2,h3,RM];done)
   | (simp[hm',a0,a1,a2,al,aw];done)
   | (simp[hm']<;>omega)
theorem s9(t:Bool)(aL:Int)(l:List nR)(hh:∀q∈l,q.has.length≤9223372036854775807) :
  pcF D t9 [.agg [.int .i64 aL,eL t 7 fX l]]=some (aI .none (yB aL l)):=by
 have hw:=s10 aL 1 4 (by decide) (by decide) (by decide)
 have hb:=eE aL (lo:=1) (hi:=4) (by decide)
 unfold yB
 generalize aQ aL 1 4=w at *
 obtain⟨K,rfl⟩:∃ K:Nat,w=K:=⟨w.toNat,by omega⟩
 rw[Int.toNat_natCast]
 unfold pcF
 rw[aP _ _ _ _ (by simp[t9])]
 simp[t9,e10,hw]
 refine r9 t aL l hh 24 37 37 K (by omega) (by omega) K 0 .nsl _ _ (by omega) (by omega) ?_ ?_ ?_ ?_ ?_ ?_ ?_ ?_ (.nil rfl rfl) ?_ ?_ ?_
 all_goals simp[zB]
end Go.Dm.Tc
/-
The broker that numbers make: how far its numbers go.
-/
namespace Go.Dm.Tc
structure gX(b:aF):Prop where
 aL:∀x∈b.aL,1≤x∧x≤4
 ne:0<b.aL.length
 seen:∀x∈b.seen,x.aW≤4
 own:∀o∈b.bJ,o.id.aW≤4
 ent:∀e∈b.entries,e.sub.aW≤4
theorem gX.learn{b:aF}(h:gX b){a:bD}(ha:a.id.aW≤4):gX (bX b a).1:=by
 unfold bX
 split
 ·exact h
 ·refine⟨h.aL,h.ne,fun x hx=>?_,h.own,h.ent⟩
  have hx:=(pA (fun x:ID=>x) a.id b.seen x).1 hx
  rcases hx with rfl|hx
  ·exact ha
  ·exact h.seen x hx
theorem gX.forget{b:aF}(h:gX b)(x:ID)(q:Int):gX (dH b x q).1:=by
 unfold dH
 split
 ·exact h
 ·split
  ·exact⟨h.aL,h.ne,h.seen,h.own,fun e he=>h.ent e (fK.1 he).1⟩
  ·exact h
theorem gX.add{b:aF}(h:gX b){e:bB}(he:e.sub.aW≤4):gX (fZ b e).1:=by
 unfold fZ
 split
 ·refine⟨h.aL,h.ne,h.seen,h.own,fun x hx=>?_⟩
  rcases tG.1 hx with rfl|hx
  ·exact he
  ·exact h.ent x hx
 ·exact h
theorem gX.take{b:aF}(h:gX b)(hi:cC b)(t s:ID)(q:Int):gX (dK b t s q).1:=by
 rcases qS hi t s q with⟨e,_⟩|⟨e,_,_,_,_,ht⟩|⟨e,_,_,_,_,r',u',ht,hr,_⟩
 ·rw[e];exact h
 ·rw[ht]
  exact⟨h.aL,h.ne,h.seen,h.own,fun x hx=>h.ent x (List.mem_filter.1 hx).1⟩
 ·rw[ht]
  refine⟨h.aL,h.ne,h.seen,h.own,fun x hx=>?_⟩
  rcases hr.mem hx with hx|⟨y,hy,_,_,rfl⟩
  ·exact h.ent x (List.mem_filter.1 hx).1
  ·exact h.ent y (List.mem_filter.1 hy).1
theorem V4(cJ:Int)(x:ID)(p:bN):∀(l:List fQ) (st:aF×List lT),gX st.1→(∀o∈l,o.id.aW≤4)→gX (l.foldl (gS cJ x p) st).1
 | [],_,h,_=>h
 | o::r,st,h,hp=>by
  have h1:gX (gS cJ x p st o).1:=by
   unfold gS
   split
   ·exact h.add (hp o (List.mem_cons_self ..))
   ·exact h
  exact V4 cJ x p r _ h1 fun o ho=>hp o (List.mem_cons_of_mem _ ho)
theorem V3(x:ID)(p:bN)(hx:x.aW≤4):∀(l:List bD) (st:aF×List lT),gX st.1→gX (l.foldl (eH x p) st).1
 | [],_,h=>h
 | o::r,st,h=>by
  have h1:gX (eH x p st o).1:=by
   unfold eH
   split
   ·exact h.add hx
   ·exact h
  exact V3 x p hx r _ h1
theorem Ww(x:ID):∀(l:List bD) (st:aF×List lT),cC st.1→gX st.1→gX (l.foldl (gH x) st).1
 | [],_,_,h=>h
 | o::r,st,hi,h=>by
  have h1:gX (gH x st o).1:=by
   unfold gH
   rw[nI]
   exact h.take hi ..
  have h2:cC (gH x st o).1:=by
   unfold gH
   rw[nI]
   exact hi.take ..
  exact Ww x r _ h2 h1
theorem yS{b:aF}(h:gX b)(cJ:Int){x:ID}(hx:x.aW≤4)(p:bN):gX (dN b cJ x p).1:=by
 unfold dN
 split
 ·exact V4 _ _ _ _ _ (h.learn (a:=⟨x,p,cJ⟩) hx) h.own
 ·exact h
theorem Fi{b:aF}(h:gX b)(cJ:Int)(x:ID):gX (eX b cJ x).1:=by
 unfold eX
 split
 ·exact h.forget ..
 ·exact h
theorem Lr{b:aF}(h:gX b){x:ID}(hx:x.aW≤4)(p:bN):gX (fG b x p).1:=by
 unfold fG
 split
 ·exact h
 ·refine V3 _ _ hx _ _ ⟨h.aL,h.ne,h.seen,fun o ho=>?_,h.ent⟩
  have ho:=(pA (fun o:fQ=>o.id) ⟨x,p⟩ b.bJ o).1 ho
  rcases ho with rfl|ho
  ·exact hx
  ·exact h.own o ho
theorem Fh{b:aF}(h:gX b)(hi:cC b)(x:ID):gX (dI b x).1:=by
 unfold dI
 split
 ·exact h
 ·exact Ww _ _ _ (hi.endOwn x) ⟨h.aL,h.ne,h.seen,fun o ho=>h.own o (fK.1 ho).1,h.ent⟩
theorem HJ{b:aF}(h:gX b)(hi:cC b)(q:nR):gX (cG b q):=by
 have w1:=eE q.tree (lo:=0) (hi:=2) (by decide)
 have w2:=eE q.aW (lo:=0) (hi:=4) (by decide)
 have hT:(⟨aQ q.tree 0 2,0⟩:ID).aW≤4:=by simp only;omega
 have hX:(⟨aQ q.aW 0 4,aQ q.seq 0 2⟩:ID).aW≤4:=by simp only;omega
 unfold cG
 simp only
 split
 ·exact Lr h hX _
 ·split
  ·exact Fh h hi _
  ·split
   ·exact yS h _ hT _
   ·unfold pD
    split
    ·exact yS h _ hT _
    ·split
     ·exact Fi h _ _
     ·split
      ·exact h.add hX
      ·rw[nI];exact h.take hi ..
theorem Mr:∀(l:List nR) {b:aF} {n:Nat},cC b→SzK b n→gX b→gX (l.foldl cG b)
 | [],_,_,_,_,h=>h
 | q::r,_,_,hi,z,h=>Mr r (dS hi z q).1 (dS hi z q).2 (HJ h hi q)
theorem BR(n : Nat)(h1 : 1 ≤ n)(hn : n ≤ 4) : gX (bL n) :=
  ⟨by rcases n with _ | _ | _ | _ | _ | n
      · decide
      · decide
      · decide
      · decide
      · decide
      · omega, by simp[bL, jI]; omega, fun x h => (by cases h), fun x h => (by cases h), fun x h => (by cases h)⟩
theorem Za(aL:Int)(l:List nR):gX (yB aL l):=by
 have hw:=eE aL (lo:=1) (hi:=4) (by decide)
 obtain⟨h,z⟩:=zJ (aQ aL 1 4).toNat (by omega)
 exact Mr (l.take 12) h z (BR _ (by omega) (by omega))
end Go.Dm.Tc
/-
Faults: a chain of them,down to an error number;what is told of one.
-/
namespace Go.Dm.Tc
def iF:List (List UInt8×Int)→Int→DV
 | [],k=>.iface 57 (.int .i64 k)
 | p::r,k=>.iface 140 (.iptr false [.str p.1,.int .i64 p.2,iF r k] 0)
theorem vD(l:List (List UInt8×Int))(k:Int):∃ T v,iF l k=.iface T v:=by
 cases l with
 | nil=>exact⟨_,_,rfl⟩
 | cons p r=>exact⟨_,_,rfl⟩
theorem Ny(l:List (List UInt8×Int))(k:Int):gP 2 (iF l k):=by
 intro tg h m hm
 obtain⟨q,rfl⟩:∃ q,m=q+2:=⟨m-2,by omega⟩
 cases l with
 | nil=>rfl
 | cons p r=>rfl
theorem Ym:∀(l:List (List UInt8×Int)) (k:Int) (n:Nat),2*l.length+2≤n→bH n (iF l k)=true
 | [],k,n,h=>by
  obtain⟨q,rfl⟩:∃ q,n=q+2:=⟨n-2,by simp at h;omega⟩
  rfl
 | p::r,k,n,h=>by
  obtain⟨q,rfl⟩:∃ q,n=q+3:=⟨n-3,by simp at h;omega⟩
  have ih:=Ym r k (q+1) (by simp at h;omega)
  show(!false && ([.str p.1,.int .i64 p.2,iF r k]:List DV).all (bH (q+1)))=true
  simp only[List.all_cons,List.all_nil,ih]
  rfl
theorem Wk(l:List (List UInt8×Int))(k:Int):vL 4 (iF l k) .nili=some false:=by
 obtain⟨T,v,h⟩:=vD l k
 rw[h];rfl
theorem Ir:vL 4 .nili .nili=some true:=rfl
theorem CP{H:aA}{id n t:Nat}(ety:Nat)(cap:Option Nat){x y z:DV}(hg:H.get id=some (.arr ety 3 [.agg [x,y,z]] cap))(hx:resolve false H n x=some x)(hy:resolve false H n y=some y)(hz:resolve false H n z=some z) :
  resolve false H (n+2) (.iface t (.ptr id 3 0 0))=some (.iface t (.iptr false [x,y,z] 0)):=by
 simp[resolve,hg,aK,hx,hy,hz]
theorem U2(op:List UInt8)(i:Int)(l:List (List UInt8×Int))(k:Int)(hl:l.length≤40):pcF D t49 [.str op,.int .i64 i,iF l k]=some (iF ((op,i)::l) k):=by
 have hr:∀h,resolve false h 198 (iF l k)=some (iF l k):=fun h=>Ny l k false h 198 (by decide)
 have M8:=Ym ((op,i)::l) k 200 (by simp;omega)
 have hN:=Wk l k
 obtain⟨T,v,he⟩:=vD l k
 have hG:iF ((op,i)::l) k=.iface 140 (.iptr false [.str op,.int .i64 i,.iface T v] 0):=by rw[iF,he]
 rw[hG]at M8 ⊢
 rw[he]at hr hN ⊢
 have RI:aK 1 (.iface T v)=[.iface T v]:=rfl
 have LB:=CP 142 (some 1) (n:=198) (t:=140) (H:=pY.push (.arr 142 3 [.agg [.str op,.int .i64 i,.iface T v]] (some 1))) (id:=0) (by simp) (x:=.str op) (y:=.int .i64 i) (z:=.iface T v) rfl rfl (hr _)
 unfold pcF
 rw[aP _ _ _ _ (by simp[t49])]
 simp[t49,hN,Nu,RI,gG]
 rw[LB]
 simp only[Z2,M8,if_true]
end Go.Dm.Tc
