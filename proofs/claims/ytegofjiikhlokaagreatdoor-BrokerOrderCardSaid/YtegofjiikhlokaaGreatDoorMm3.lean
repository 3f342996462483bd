/- A part of the proof. -/
import Derived.Test.YtegofjiikhlokaaGreatDoorMm2
import Derived.RowKit3
import Derived.Lib.Overlaps
import Derived.Lib.Bytealg
import Derived.Below
set_option linter.all false
namespace Go.Dm
theorem HJ{p p':Nat→Bool}{i:Nat}(h1:p i=true)(h2:p' i=false):∀(l:List Nat),(∀x,x∈l→p' x=true→p x=true)→i∈l→l.countP p'<l.countP p:=by
 intro l
 induction l with
 | nil=>intro _ hi;cases hi
 | cons x l ih =>
  intro h hi
  have hmono:l.countP p'≤l.countP p:=List.countP_mono_left fun y hy=>h y (List.mem_cons_of_mem _ hy)
  simp only[List.countP_cons]
  rcases List.mem_cons.1 hi with e|kE
  ·subst e
   simp only[h1,h2,if_true,Bool.false_eq_true,if_false]
   omega
  ·have:=ih (fun y hy=>h y (List.mem_cons_of_mem _ hy)) kE
   cases vB:p' x with
   | false=>simp only[Bool.false_eq_true,if_false];omega
   | true=>simp only[h x (List.mem_cons_self ..) vB,if_true];omega
theorem B7{d:DOp}(hd:d.cls=.env∨d.cls=.read):nA d=false:=by
 unfold DOp.cls at hd
 split at hd
 all_goals first|rfl|(rcases hd with h|h<;>(cases h;done))|skip
 ·split at hd
  ·rcases hd with h|h<;>cases h
  ·rename_i h;simpa using h
theorem On{cV:List (Nat×aZ)}{p:Nat}:Eu cV p=kC (cV.map (·.2)) p:=by
 unfold Eu kC
 rw[←List.map_take,List.filter_map,List.length_map]
 rfl
section
variable {P:Program} {call:oV} {ops:List Oper} {cV:List (Nat×aZ)} {bs:List Nat} {E:Nat→Env} {HS:Nat→List aA} {LS:Nat→dF} {V:Nat→DV} {B:Nat→Bool} {c ĉ ĉ1:Ctx} {env:Env} {h:aA}
 {listed:Array Bool} {a:Act} {k m0:Nat}
theorem pF{d:aZ}{env cL:Env}(h:mZ d.reads env cL):mZ d.op.tmps env cL:=fun t ht=>h t (by simp[aZ.reads,ht])
theorem Zi{d:aZ}:∀t w,d.guard=some (t,w)→t∈d.reads:=fun t w e=>by simp[aZ.reads,e]
theorem BS(F:Fit P ops cV bs){p:Nat}{y:Nat×aZ}(hy:cV[p]?=some y)(hk:y.2.kind≠.read):y.2.op.cls=.alloc∨y.2.op.cls=.heap:=by
 have Hw:=F.kind p y hy
 unfold qD at Hw
 cases hc:y.2.op.cls<;>rw[hc]at Hw<;>first|exact .inl rfl|exact .inr rfl|skip
 all_goals (cases sL:y.2.kind<;>rw[sL]at Hw<;>first|exact absurd sL hk|cases Hw)
theorem Pd(F:Fit P ops cV bs)(I:sR ops cV HS V env listed a ĉ m0)(M:nM cV E HS B c listed k ĉ)(Dc:Max cV listed k){q:Nat}{x:Nat×aZ}{o:Oper}(U:Up ops cV listed q x o)
  (La:x.2.op.cls=.heap) (hk:x.2.kind≠.read):q=k:=by
 have hq:q<cV.length:=(List.getElem?_eq_some_iff.1 U.hx).1
 rcases Dc with e|⟨y,hy,VU,hyL⟩
 ·exact absurd (M.front q x (by omega) U.hx hk) U.not
 ·rcases Nat.lt_trichotomy q k with h1|h1|h1
  ·exact absurd (M.front q x h1 U.hx hk) U.not
  ·exact h1
  ·cases hb:pC bs x.1 y.1 with
   | true=>exact absurd (Am F I U (mM F hy) hb) hyL
   | false =>
    have hf:=Lj F h1 hy U.hx hb
    have Hw:=F.kind k y hy
    unfold qD at Hw
    simp only[Zn,La,Bool.and_eq_true]at hf
    have hf:=hf.2
    cases hc:y.2.op.cls<;>rw[hc]at hf Hw<;>simp only at hf Hw
    ·cases sL:y.2.kind<;>rw[sL]at Hw<;>simp only at Hw<;>first|exact absurd sL VU|cases Hw
    ·cases sL:y.2.kind<;>rw[sL]at Hw<;>simp only at Hw<;>first|exact absurd sL VU|cases Hw
    ·cases hf
    ·cases hf
theorem SR(F:Fit P ops cV bs)(T:gR call (cV.map (·.2)) env [h] .start E HS LS V B)(hc:eZ call)(hl:h.lim≤h.n)(I:sR ops cV HS V env listed a ĉ (bG (HS k)).n)(M:nM cV E HS B c listed k ĉ)(Dc:Max cV listed k)
  {q:Nat} {x:Nat×aZ} {o:Oper} (U:Up ops cV listed q x o) (Hu:mP P o=some x.2.op) (hk:x.2.kind=.read) (hb:B q=true) :
  bG (HS (q+1))=bG (HS q)∧∃ nx v,(execOp a.eval o).run P ĉ.w=.ok nx ĉ.w∧(nx=.value v∨(nx=.skip∧v=Go.undef))∧VR (ĉ.cut (max (bG (HS q)).n (bG (HS k)).n)) (V q) v:=by
 have hq:q<cV.length:=(List.getElem?_eq_some_iff.1 U.hx).1
 have qM:k≤(cV.map (·.2)).length:=by simpa using M.k_le
 refine⟨T.same U.hx (.inl hk),?_⟩
 obtain⟨⟨hw,g,gs,hg,hf,ht⟩,_⟩:=T.step q x.2 (qY U.hx)
 have Hw:=F.kind q x U.hx
 have La:x.2.op.cls=.env∨x.2.op.cls=.read:=by
  unfold qD at Hw
  rw[hk]at Hw
  cases hc:x.2.op.cls<;>rw[hc]at Hw<;>first|exact .inl rfl|exact .inr rfl|cases Hw
 have htc:=B7 La
 rcases ht hb with⟨_,_,⟨h0,h1,TT,dK⟩,hfree,hlog⟩|⟨E2,_⟩|⟨E2,_⟩|⟨E2,_⟩
 rotate_left
 ·rw[hk]at E2;cases E2
 ·rw[hk]at E2;cases E2
 ·rw[hk]at E2;cases E2
 obtain⟨h2,p1,p2,p3⟩:=M.rel.pad (max (bG (HS q)).n (bG (HS k)).n-(bG (HS k)).n)
 have hmx:(bG (HS k)).n+(max (bG (HS q)).n (bG (HS k)).n-(bG (HS k)).n)=max (bG (HS q)).n (bG (HS k)).n:=by omega
 rw[hmx]at p1
 have hEm:=Ym F T hc hl I U
 have Kr:aK h2 (sZ (E q) x.2.reads) x.2.op=some (V q,h2):=by
  rw[Ce (pF nO)]at dK
  by_cases henv:x.2.op.cls=.env
  ·exact Jd henv dK
  ·have hrd:=La.resolve_left henv
   refine Nb ?_ htc dK
   obtain⟨m,a1,a2,a3⟩:=T.snap q (by simp;omega) _ _ TT
   have BH:m≤k:=by
    rcases Dc with e|⟨y,hy,VU,hyL⟩
    ·omega
    ·refine Nat.le_of_not_lt fun bD=>hyL ?_
     have xM:=(F.pair k q y x (by omega) hy U.hx).2.2
     simp only[xE,Bool.and_eq_true]at xM
     have h4:=xM.1.1.2
     have S1:=vL (qY hy)
     rw[if_neg VU]at S1
     have IQ:kC (cV.map (·.2)) (k+1)≤kC (cV.map (·.2)) m:=pH (by omega)
     have hlt2:Eu cV k<x.2.snap:=by rw[On];omega
     have eG:(y.2.kind != .read)=true:=by simpa using VU
     simp only[hrd,eG,beq_self_eq_true,Bool.and_self,Bool.not_true,Bool.false_or,if_pos hlt2]at h4
     exact Am F I U (mM F hy) h4
   have UD:=T.grows hc hl a3 k BH qM (fun p d g1 g2 hd IV=>by
    obtain⟨y,hy,e⟩:=tD hd
    subst e
    have hyL:=M.front p y g2 hy IV
    have eG:(y.2.kind != .read)=true:=by simpa using IV
    rcases Nat.lt_trichotomy p q with hh|hh|hh
    ·have xM:=(F.pair p q y x hh hy U.hx).2.2
     simp only[xE,Bool.and_eq_true]at xM
     have h4:=xM.1.1.2
     have IQ:kC (cV.map (·.2)) m≤kC (cV.map (·.2)) p:=pH g1
     have hlt2:¬Eu cV p<x.2.snap:=by rw[On];omega
     simp only[hrd,eG,beq_self_eq_true,Bool.and_self,Bool.not_true,Bool.false_or,if_neg hlt2,Bool.or_eq_true,Bool.and_eq_true,beq_iff_eq,decide_eq_true_eq]at h4
     rcases h4 with h4|h4
     ·exact .inl h4
     ·exact .inr ⟨h4.1.2,h4.2⟩
    ·subst hh
     have:y=x:=Option.some.inj (hy.symm.trans U.hx)
     subst this
     exact absurd hk IV
    ·by_cases Bc:y.2.op.cls=.alloc
     ·exact .inl Bc
     ·have hhp:y.2.op.cls=.heap:=(BS F hy IV).resolve_left Bc
      have xM:=(F.pair q p x y hh U.hx hy).2.2
      simp only[xE,Bool.and_eq_true]at xM
      have h4:=xM.1.2
      cases Hh:pC bs y.1 x.1 with
      | true=>exact absurd (sS F I y.1 hyL x.1 (mM F U.hx) Hh) U.not
      | false =>
       simp only[hrd,hhp,Hh,beq_self_eq_true,Bool.and_self,Bool.not_true,Bool.false_or,Bool.or_false,Bool.and_eq_true,beq_iff_eq,decide_eq_true_eq]at h4
       exact .inr ⟨h4.1,by omega⟩)
    (fun p d hd ha=>by
     obtain⟨y,hy,e⟩:=tD hd
     subst e
     exact Bs F hy ha)
   intro r hmk0 Tt
   obtain⟨ob,uN⟩:=Tt
   have hmk':mark (E q) x.2.op=some r:=by rw[Q6 (pF nO)];exact hmk0
   have htgt':=Yn hmk'
   have fS:=iD uN
   rw[a2]at uN fS ⊢
   have hid2:r.1<(bG (HS k)).n:=Nat.lt_of_lt_of_le fS (T.keeps hc hl BH qM).n
   refine lX.trans (UD r fS (fun p d g1 g2 hd IV l6=>?_)) (.of_get (p3 r.1 hid2))
   rcases Nat.lt_trichotomy p q with hh|hh|hh
   ·refine .inr fun hL=>?_
    have h6:=(T.logs (m:=p+1) q (by omega) (by simp;omega)).2 ((HS p).length-1,r.1) hL
    rw[htgt']at hfree
    have h7:=List.all_eq_true.1 hfree _ h6
    have h8:=(T.shape p (by simp;omega)).2
    have IQ:kC (cV.map (·.2)) m≤kC (cV.map (·.2)) p:=pH g1
    have hid0:Nat.beq r.1 r.1=true:=Nat.beq_refl r.1
    simp only[hid0,Bool.not_true,Bool.or_false]at h7
    have h9:(HS p).length-1+1≤x.2.snap:=Nat.le_of_ble_eq_true h7
    omega
   ·subst hh
    obtain⟨y,hy,e⟩:=tD hd
    subst e
    have:y=x:=Option.some.inj (hy.symm.trans U.hx)
    subst this
    rw[hk]at IV;cases IV
   ·cases hcm:x.2.calm with
    | false =>
     rw[hcm,hmk']at hlog
     exact .inl ((T.logs (m:=q+1) p (by omega) (by have:=(List.getElem?_eq_some_iff.1 hd).1;omega)).1 r (by rw[hlog];exact List.mem_cons_self ..))
    | true =>
     obtain⟨y,hy,e⟩:=tD hd
     subst e
     have hdk':y.2.kind≠.read:=by rw[IV];exact fun e=>by cases e
     have hyL:=M.front p y g2 hy hdk'
     have hhp:y.2.op.cls=.heap:=(BS F hy hdk').resolve_left l6
     have xM:=(F.pair q p x y hh U.hx hy).2.2
     simp only[xE,Bool.and_eq_true]at xM
     have h4:=xM.2
     simp only[hcm,hhp,beq_self_eq_true,Bool.and_self,Bool.not_true,Bool.false_or]at h4
     exact absurd (sS F I y.1 hyL x.1 (mM F U.hx) h4) U.not
 obtain⟨_,nx,v,r1,r2,r3⟩:=O6 Hu htc p1 hEm Kr
 exact⟨nx,v,r1,r2,r3⟩
theorem HI(F:Fit P ops cV bs)(T:gR call (cV.map (·.2)) env [h] .start E HS LS V B)(hc:eZ call)(nQ:pT P call)(hl:h.lim≤h.n)(I:sR ops cV HS V env listed a ĉ (bG (HS k)).n)(M:nM cV E HS B c listed k ĉ)
  (Dc:Max cV listed k) {q:Nat} {x:Nat×aZ} {o:Oper} (U:Up ops cV listed q x o) {K:Act→World→Prop} {Q:Exit→Act→World→Prop}
  (hK:∀a' ĉ1 k1,sR ops cV HS V env (listed.setIfInBounds x.1 true) a' ĉ1 (bG (HS k1)).n→nM cV E HS B c (listed.setIfInBounds x.1 true) k1 ĉ1→Max cV (listed.setIfInBounds x.1 true) k1→K a' ĉ1.w) :
  wpOp P ops.toArray Q x.1 K a ĉ.w:=by
 have fin:∀a' ĉ1 k1 m1,m1≤(bG (HS k1)).n→sR ops cV HS V env (listed.setIfInBounds x.1 true) a' ĉ1 m1→nM cV E HS B c (listed.setIfInBounds x.1 true) k1 ĉ1→K a' ĉ1.w:=by
  intro a' ĉ1 k1 m1 hm I1 M1
  obtain⟨k2,ĉ2,_,g1,g2,g3,g4,g5⟩:=M1.advance F T hc hl _ k1 ĉ1 rfl
  rw[←g2]
  exact hK a' ĉ2 k2 (I1.mono g3 (by omega)) g4 g5
 have hq:q<cV.length:=(List.getElem?_eq_some_iff.1 U.hx).1
 have hnq:=(T.keeps hc hl (by omega:q≤q+1) (by simp;omega)).n
 obtain⟨o',kk,ss,d',Ks,hcomp,rE,hd2,hd3⟩:=F.comp q x U.hx
 have k9:o'=o:=Option.some.inj (Ks.symm.trans U.ho)
 subst k9
 obtain⟨Hu,hguard,hdst,_,_⟩:=wC hcomp
 rw[rE]at Hu
 rw[hd2]at hguard
 rw[hd3]at hdst
 obtain⟨⟨hw,g,gs,hg,hf,ht⟩,_⟩:=T.step q x.2 (qY U.hx)
 have hgq:bG (HS q)=g:=by rw[hg];rfl
 have hEm:=Ym F T hc hl I U
 have hwant:=qX hguard hEm (b:=B q) (by rw[Vd Zi];exact hw)
 have Hw:=F.kind q x U.hx
 unfold wpOp
 have hoa:ops.toArray[x.1]?=some o':=by simpa using U.ho
 simp only[hoa,hwant]
 rw[←hdst]
 have ge:x.2.kind≠.read→k≤q:=fun hk=>Nat.le_of_not_lt fun bD=>U.not (M.front q x bD U.hx hk)
 have La:x.2.kind≠.read→x.2.op.cls=.alloc∨x.2.op.cls=.heap:=by
  intro hk
  unfold qD at Hw
  cases hc:x.2.op.cls<;>rw[hc]at Hw<;>first|exact .inl rfl|exact .inr rfl|skip
  all_goals (cases sL:x.2.kind<;>rw[sL]at Hw<;>first|exact absurd sL hk|cases Hw)
 cases hb:B q with
 | false =>
  rw[if_neg (by simp)]
  have hV:=(hf hb).1
  by_cases hk:x.2.kind=.read
  ·exact fin _ ĉ k _ (Nat.le_refl _) (I.mark F (fun _=>.refl _) (Nat.le_refl _) U (by rw[hV];exact .undef)) (M.same F I U hk)
  ·rcases La hk with ha|hh
   ·exact fin _ ĉ k _ (Nat.le_refl _) (I.mark F (fun _=>.refl _) (Nat.le_refl _) U (by rw[hV];exact .undef)) (M.idle F I U ha hb)
   ·have hqk:=Pd F I M Dc U hh hk
    subst hqk
    have mD:=T.same U.hx (.inr hb)
    obtain⟨ĉ1,e1,e2,e3,e4⟩:=M.turn F T hc hl I U (w':=ĉ.w) (v:=Go.undef) (d:=cH) (by rw[mD];exact pS.pure M.rel .undef)
    rw[←e1]
    exact fin _ ĉ1 (q+1) (bG (HS (q+1))).n (Nat.le_refl _) (I.mark F e2 hnq U (by rw[hV];exact .undef)) e3
 | true =>
  rw[if_pos rfl]
  refine .inl ?_
  by_cases hk:x.2.kind=.read
  ·obtain⟨mD,nx,v,r1,r2,r3⟩:=SR F T hc hl I M Dc U Hu hk hb
   unfold Oper.wp
   rw[r1]
   have key:K (a.put x.2.dst v) ĉ.w:=fin _ ĉ k _ (Nat.le_refl _) (I.mark F (fun _=>.refl _) (Nat.le_refl _) U (by rw[mD];exact r3)) (M.same F I U hk)
   rw[hdst]at key
   rcases r2 with rfl|⟨rfl,rfl⟩
   ·exact key
   ·exact key
  ·rcases La hk with ha|hh
   ·obtain⟨ety,sz,xs,hm1,e1,e2⟩:=T.alloc (qY U.hx) ha (Bs F U.hx ha) hb
    have hnk2:max (bG (HS q)).n (bG (HS k)).n=(bG (HS q)).n:=by
     have:=(T.keeps hc hl (ge hk) (by simp;omega)).n
     omega
    rw[hnk2]at hEm
    have hm2:Ha (sZ (E q) x.2.reads) x.2.op=some (ety,sz,xs):=by rw[←Q7 (pF nO)];exact hm1
    obtain⟨w',cur,val,r1,r2,r3,r4,r5,r6,r7,r8,r9,r10⟩:=NK Hu ha hEm hm2
    obtain⟨ĉ1,f1,f2,f3,f4⟩:=M.early F T hc hl I U (ge hk) ha hm1 hb r2 r3 r4 r5 r6 r7 r8 r9
    unfold Oper.wp
    have r1':(execOp a.eval o').run P ĉ.w=.ok (.value val) w':=r1
    rw[r1']
    have key:K (a.put x.2.dst val) ĉ1.w:=by
     refine fin _ ĉ1 k _ (Nat.le_refl _) (I.mark F f2 (Nat.le_refl _) U ?_) f3
     rw[e1,e2]
     refine r10 _ _ (by rw[jO (by rw[Fb];omega)];exact f4) ?_
     show World.shape? ĉ1.w ĉ.w.heap.size=_
     have r5':w'.heap[ĉ.w.heap.size]?=some (.cells cur ety (0,0)):=r5
     rw[f1]
     simp only[World.shape?,r5',r7]
    rw[f1,hdst]at key
    exact key
   ·have hqk:=Pd F I M Dc U hh hk
    subst hqk
    have hEk:eI (ĉ.cut (bG (HS q)).n) (sZ (E q) x.2.reads) a:=by rw[Nat.max_self]at hEm;exact hEm
    have go:∀v w',pS (bG (HS q)) (ĉ.cut (bG (HS q)).n) (bG (HS (q+1))) w' (V q) v→K (a.put o'.dst v) w':=by
     intro v w' hp
     obtain⟨ĉ1,e1,e2,e3,e4⟩:=M.turn F T hc hl I U hp
     rw[←e1,←hdst]
     exact fin _ ĉ1 (q+1) (bG (HS (q+1))).n (Nat.le_refl _) (I.mark F e2 hnq U (by rw[Nat.max_self];exact e4)) e3
    rcases ht hb with⟨E2,_⟩|⟨_,_,h1,s1,s2⟩|⟨_,_,h0,h1,s0,s1,s2⟩|⟨_,ids,h1,s1,_,_,s2,_⟩
    rotate_right
    ·rw[xH (pF nO),←hgq]at s1
     have QJ:bG (HS (q+1))=h1:=by rw[s2];rfl
     exact uB nQ Hu M.rel hEk s1 K Q (fun v w' hp=>go v w' (by rw[QJ];exact hp))
    ·exact absurd E2 hk
    ·rw[xH (pF nO),←hgq]at s1
     have QJ:bG (HS (q+1))=h1:=by rw[s2];rfl
     exact uB nQ Hu M.rel hEk s1 K Q (fun v w' hp=>go v w' (by rw[QJ];exact hp))
    ·have QJ:bG (HS (q+1))=h1:=by rw[s2];rfl
     unfold oK at s1
     split at s1
     ·rename_i v2 h2 s3
      cases s1
      rw[xH (pF nO),←hgq]at s3
      obtain⟨m,a1,a2,_⟩:=T.snap q (by simp;omega) _ _ s0
      have sL:=T.keeps1 hc hl q (by simp;omega)
      have aM:max h0.n (bG (HS q)).lim≤(bG (HS q)).n:=Nat.max_le.2 ⟨by rw[a2];exact(sL.2 m a1).n,sL.1⟩
      have E2:=(lP hc (h:={bG (HS q)with lim:=max h0.n (bG (HS q)).lim}) aM s3).n
      refine uB nQ Hu (M.rel.setLim aM) hEk s3 K Q (fun v w' hp=>go v w' ?_)
      obtain⟨ρ',p1,p2,p3⟩:=hp
      rw[QJ,←hgq]
      exact⟨ρ',p1.setLim (Nat.le_trans sL.1 E2),p2,p3⟩
     ·cases s1
end
end Go.Dm
namespace Go.Dm
theorem UK{listed:Array Bool}{i:Nat}(h:listed.getD i true=false):listed.getD i false=false:=by
 rcases Nat.lt_or_ge i listed.size with h'|h'
 ·simp[h']at h ⊢;exact h
 ·simp[h']at h
theorem AgA{listed:Array Bool}{i:Nat}(hi:i<listed.size)(h:listed.getD i false=false):listed.getD i true=false:=by
 simp[hi]at h ⊢;exact h
theorem o6(m j:Nat):(Array.replicate m false).getD j false=false:=by
 rcases Nat.lt_or_ge j m with h|h
 ·simp[h]
 ·simp[h]
section
variable {P:Program} {call:oV} {ops:List Oper} {cV:List (Nat×aZ)} {bs:List Nat} {E:Nat→Env} {HS:Nat→List aA} {LS:Nat→dF} {V:Nat→DV} {B:Nat→Bool} {c ĉ ĉ1:Ctx} {env:Env} {h:aA}
 {listed:Array Bool} {a:Act} {k m0:Nat}
theorem Xq{j:Nat}(hj:j∈Region.ready .any ops.toArray listed)(F:Fit P ops cV bs):∃ q x o,Up ops cV listed q x o∧x.1=j:=by
 obtain⟨h1,o,ho,lD⟩:=mem_ready.1 hj
 have Ks:ops[j]?=some o:=by simpa using ho
 have bD:j<ops.length:=(List.getElem?_eq_some_iff.1 Ks).1
 obtain⟨q,x,hx,he⟩:=F.all j bD
 subst he
 refine⟨q,x,o,⟨hx,Ks,?_,fun e he hb=>lD e (Array.mem_toList_iff.1 he) hb⟩,rfl⟩
 unfold Li
 rw[UK h1]
 simp
theorem Kf(F:Fit P ops cV bs)(mV:listed.size=ops.length)(hr:Region.ready .any ops.toArray listed=[]):∀(q:Nat) (x:Nat×aZ),cV[q]?=some x→Li listed x.1:=by
 intro q
 induction q using Nat.strongRecOn with
 | _ q ih =>
  intro x hx
  refine Classical.byContradiction fun hn=>?_
  obtain⟨o,_,_,_,ho,_⟩:=F.comp q x hx
  have hmem:x.1∈Region.ready .any ops.toArray listed:=by
   rw[mem_ready]
   refine⟨AgA (by rw[mV];exact mM F hx) (by unfold Li at hn;simpa using hn),o,by simpa using ho,fun e he hb=>?_⟩
   have qQ:=Array.mem_toList_iff.2 he
   obtain⟨h1,h2⟩:=F.edge x.1 o e ho qQ hb
   obtain⟨p,y,hy,Tq⟩:=F.all e.on (Nat.lt_trans h2 (mM F hx))
   rcases Nat.lt_trichotomy p q with hh|hh|hh
   ·have:=ih p hh y hy
    rw[Tq]at this
    exact this
   ·subst hh
    have:y=x:=Option.some.inj (hy.symm.trans hx)
    subst this
    omega
   ·have:=(F.pair q p x y hh hx hy).2.1
    rw[Tq]at this
    rw[h1]at this
    cases this
  rw[hr]at hmem
  cases hmem
theorem Pm(F:Fit P ops cV bs)(T:gR call (cV.map (·.2)) env [h] .start E HS LS V B)(hc:eZ call)(hl:h.lim≤h.n)(I:sR ops cV HS V env listed a ĉ (bG (HS k)).n)(M:nM cV E HS B c listed k ĉ)(Dc:Max cV listed k)
  (lD:∀(q:Nat) (x:Nat×aZ),cV[q]?=some x→Li listed x.1):St c (bG (HS cV.length)) (E cV.length) a ĉ.w:=by
 have hk:k=cV.length:=Dc.resolve_right fun⟨x,hx,_,hn⟩=>hn (lD k x hx)
 subst hk
 have hE:ĉ.E=c.E:=by
  funext b
  refine propext ⟨fun hb=>(M.E b hb).resolve_right fun⟨id,h1,h2⟩=>?_,M.cE b⟩
  obtain⟨_,_,p,y,h3,h4,_⟩:=M.dom id b 0 h1 h2
  have:=(List.getElem?_eq_some_iff.1 h4).1
  omega
 have Zh:ĉ.cut (bG (HS cV.length)).n=c.next ĉ.w (ĉ.cut (bG (HS cV.length)).n).ρ (bG (HS cV.length)):=by
  have hO:ĉ.O=fun b=>nU (bG (HS cV.length)) (ĉ.cut (bG (HS cV.length)).n).ρ b∨c.E b:=by
   funext b
   have:=M.rel.own b
   rw[←hE]
   exact propext this
  have hτ:ĉ.τ=c.τ:=M.le.tok
  simp only[Ctx.next,Ctx.cut]at hO ⊢
  rw[hO,hE,M.X,hτ]
 refine⟨(ĉ.cut (bG (HS cV.length)).n).ρ,by rw[←Zh];exact M.rel,by rw[←Zh];exact M.le,?_⟩
 rw[←Zh]
 have cJ:cV.length≤(cV.map (·.2)).length:=by simp
 refine⟨by rw[T.len _ cJ];exact I.asize,I.defers,fun t ht=>?_⟩
 have IP:t<env.length:=by rw[T.len _ cJ]at ht;exact ht
 by_cases hw:∃ (p:Nat) (y:Nat×aZ),cV[p]?=some y∧y.2.dst=some t
 ·obtain⟨p,y,hy,hd⟩:=hw
  have hp:=(List.getElem?_eq_some_iff.1 hy).1
  have e:=T.new (qY hy) hd IP cV.length hp cJ (fun p' d' a1 a2 fI=>by
   obtain⟨y',e1,e2⟩:=tD fI
   subst e2
   exact Hz F a1 hy e1 hd)
  have e2:(E cV.length)[t]=V p:=by rw[List.getElem?_eq_getElem ht]at e;exact Option.some.inj e
  rw[e2]
  have hn:=(T.keeps hc hl (by omega:p+1≤cV.length) cJ).n
  exact(I.vals p y t hy (lD p y hy) hd IP).mono (qS (by omega))
 ·have e:=T.old (t:=t) cV.length cJ (fun p d hp hd e=>by
   obtain⟨y,e1,e2⟩:=tD hd
   subst e2
   exact hw ⟨p,y,e1,e⟩)
  have hn:=(T.keeps hc hl (Nat.zero_le cV.length) cJ).n
  have:=(I.olds t fun p y hy _ hd=>hw ⟨p,y,hy,hd⟩).mono (qS (M:=(bG (HS cV.length)).n) (by omega))
  rw[←e,List.getElem?_eq_getElem ht]at this
  exact this
def unl(ops:List Oper)(listed:Array Bool):Nat:=(List.range ops.length).countP fun i=>!(listed.getD i false)
theorem PA(F:Fit P ops cV bs)(T:gR call (cV.map (·.2)) env [h] .start E HS LS V B)(hc:eZ call)(nQ:pT P call)(hl:h.lim≤h.n){Q:Exit→Act→World→Prop}
  (hQ:∀a' w',St c (bG (HS cV.length)) (E cV.length) a' w'→Q .normal a' w'):∀(fuel:Nat) (listed:Array Bool) (a:Act) (ĉ:Ctx) (k:Nat),unl ops listed≤fuel →
  sR ops cV HS V env listed a ĉ (bG (HS k)).n→nM cV E HS B c listed k ĉ→Max cV listed k→wpAny P .any ops.toArray Q fuel listed a ĉ.w:=by
 intro fuel
 induction fuel with
 | zero =>
  intro listed a ĉ k hu I M Dc
  have hz:unl ops listed=0:=by omega
  unfold unl at hz
  rw[List.countP_eq_zero]at hz
  have hr:Region.ready .any ops.toArray listed=[]:=by
   rw[List.eq_nil_iff_forall_not_mem]
   intro j hj
   obtain⟨q,x,o,U,e⟩:=Xq hj F
   refine U.not ?_
   have:=hz x.1 (List.mem_range.2 (mM F U.hx))
   unfold Li
   simpa using this
  exact⟨hr,hQ _ _ (Pm F T hc hl I M Dc (Kf F I.size hr))⟩
 | succ fuel ih =>
  intro listed a ĉ k hu I M Dc
  refine⟨fun hr=>hQ _ _ (Pm F T hc hl I M Dc (Kf F I.size hr)),fun j hj=>?_⟩
  obtain⟨q,x,o,U,e⟩:=Xq hj F
  subst e
  refine HI F T hc nQ hl I M Dc U fun a' ĉ1 k1 I1 M1 hmax1=>ih _ a' ĉ1 k1 ?_ I1 M1 hmax1
  have bD:x.1<listed.size:=by rw[I.size];exact mM F U.hx
  have:unl ops (listed.setIfInBounds x.1 true)<unl ops listed:=by
   refine HJ (i:=x.1) ?_ ?_ _ (fun y _ hy=>?_) (List.mem_range.2 (mM F U.hx))
   ·have:=U.not;unfold Li at this;simpa using this
   ·have:=(kU (listed:=listed) (i:=x.1) bD).2 (.inr rfl)
    unfold Li at this
    rw[this];rfl
   ·have h2:¬Li (listed.setIfInBounds x.1 true) y:=by unfold Li;simpa using hy
    have h3:¬Li listed y:=fun h3=>h2 ((kU bD).2 (.inl h3))
    unfold Li at h3
    simpa using h3
  omega
theorem V0(hm:P.follows .mixedOrders=true){id:Nat}{ops:Array Oper}{ds:List aZ}(hcomp:sE P ops.toList true=some (.draw ds))(hc:eZ call)(nQ:pT P call){cL:Env}{h':aA}
  (nL:eK call ds env [h] .start=some (cL,h')) (hR:Rel h c) (hE:eI c env a) {Q:Exit→Act→World→Prop} (hQ:∀a' w',St c h' cL a' w'→Q .normal a' w'):(Code.region id ops true).wp P Q a c.w:=by
 obtain⟨cV,bs,e,F⟩:=yA hcomp
 have e:ds=cV.map (·.2):=by cases e;rfl
 subst e
 obtain⟨E,HS,LS,V,B,T,t1,gs,t2⟩:=Pw _ _ _ _ _ _ nL
 refine wp_region_any hm ?_
 have cJ:(cV.map (·.2)).length=cV.length:=by simp
 rw[cJ]at t1 t2
 have hQ':∀a' w',St c (bG (HS cV.length)) (E cV.length) a' w'→Q .normal a' w':=fun a' w' dK=>hQ a' w' (by rw[t2]at dK;rw[←t1];exact dK)
 let ĉ:Ctx:={c with w:={c.w with drawn:=c.w.drawn+1}}
 have hH0:bG (HS 0)=h:=by rw[T.H0];rfl
 have hself:c.next c.w c.ρ h=c:=hR.same
 have hĉ:ĉ=c.next {c.w with drawn:=c.w.drawn+1} c.ρ h:=by
  have:c.O=fun b=>nU h c.ρ b∨c.E b:=by funext b;exact propext (hR.own b)
  simp only[ĉ,Ctx.next]
  rw[this]
 obtain⟨r1,r2⟩:=hR.heapEq {c.w with drawn:=c.w.drawn+1} rfl
 rw[←hĉ]at r1 r2
 have Hy:=PF r1
 have fX:(Array.replicate ops.size false).size=ops.toList.length:=by simp
 have wR:∀i,¬Li (Array.replicate ops.size false) i:=fun i=>by unfold Li;rw[o6];simp
 have I0:sR ops.toList cV HS V env (Array.replicate ops.size false) a ĉ (bG (HS 0)).n :=
  ⟨fX,fun j o _ hj=>absurd hj (wR j),hE.size,hE.defers,fun p x t _ hL=>absurd hL (wR _),fun t _=>by
   rw[Nat.max_self,hH0,Hy]
   exact(hE.get t).mono r2⟩
 have hdom:∀id,(bG (HS 0)).n≤id→ĉ.ρ id=none:=fun id fS=>by
  cases hr:ĉ.ρ id with
  | none=>rfl
  | some p =>
   have:=r1.dom id (by rw[hr];simp)
   rw[hH0]at fS
   omega
 have M0:nM cV E HS B c (Array.replicate ops.size false) 0 ĉ :=
  ⟨Nat.zero_le _,fun p x hp=>absurd hp (Nat.not_lt_zero _),by rw[hH0,Hy];exact r1,by rw[hH0,Hy];exact r2,rfl,fun b hb=>.inl hb,fun b hb=>hb,fun id b x fS hr=>(by rw[hdom id fS]at hr;cases hr),
   fun p x _ _ _ hL=>absurd hL (wR _),fun id id' b h1 _ h3=>(by rw[hdom id h1]at h3;cases h3)⟩
 obtain⟨k1,ĉ1,_,g1,g2,g3,g4,g5⟩:=M0.advance F T hc (by exact hR.lim) _ 0 ĉ rfl
 have:=PA F T hc nQ hR.lim hQ' ops.size (Array.replicate ops.size false) a ĉ1 k1 (by
  unfold unl
  refine Nat.le_trans List.countP_le_length ?_
  simp) (I0.mono g3 g1) g4 g5
 rw[g2]at this
 have e:ops.toList.toArray=ops:=by simp
 rw[e]at this
 exact this
end
end Go.Dm
namespace Go.Dm
theorem VR.belowN{c:Ctx}{d:DV}{v:Value}(h:VR c d v){N:Nat}:∀n,Dm.gG n N d=true→VR (c.cut N) d v:=by
 induction h with
 | unk v=>intro n _;exact .unk v
 | bool b=>intro n _;exact .bool b
 | int k m=>intro n _;exact .int k m
 | atl h=>intro n _;exact .atl h
 | tok h=>intro n _;exact .tok h
 | str s=>intro n _;exact .str s
 | nilp=>intro n _;exact .nilp
 | ptr h =>
  intro n hb
  cases n with
  | zero=>simp[Dm.gG]at hb
  | succ n =>
   simp only[Dm.gG,decide_eq_true_eq]at hb
   exact .ptr (by rw[jO hb];exact h)
 | iptr vals hb hO hX hc hv _=>intro n _;exact .iptr vals hb hO hX hc hv
 | nsl a=>intro n _;exact .nsl a
 | sl h hs hn hl ho =>
  intro n hb
  cases n with
  | zero=>simp[Dm.gG]at hb
  | succ n =>
   simp only[Dm.gG,decide_eq_true_eq]at hb
   exact .sl (by rw[jO hb];exact h) hs hn hl ho
 | isl0 a cap=>intro n _;exact .isl0 a cap
 | isl vals cJ kO hb hO hX fX hc hv _=>intro n _;exact .isl vals cJ kO hb hO hX fX hc hv
 | nmap=>intro n _;exact .nmap
 | map h =>
  intro n hb
  cases n with
  | zero=>simp[Dm.gG]at hb
  | succ n =>
   simp only[Dm.gG,decide_eq_true_eq]at hb
   exact .map (by rw[jO hb];exact h)
 | func hl _ ih =>
  intro n hb
  cases n with
  | zero=>simp[Dm.gG]at hb
  | succ n =>
   simp only[Dm.gG,List.all_eq_true]at hb
   exact .func hl fun i h1 h2=>ih i h1 h2 n (hb _ (List.getElem_mem h1))
 | nilf=>intro n _;exact .nilf
 | iface _ ih =>
  intro n hb
  cases n with
  | zero=>simp[Dm.gG]at hb
  | succ n =>
   simp only[Dm.gG]at hb
   exact .iface (ih n hb)
 | nili=>intro n _;exact .nili
 | agg hl h1 _ ih =>
  intro n hb
  cases n with
  | zero=>simp[Dm.gG]at hb
  | succ n =>
   simp only[Dm.gG,List.all_eq_true]at hb
   exact .agg hl h1 fun i h1 h2=>ih i h1 h2 n (hb _ (List.getElem_mem h1))
 | tup hl _ ih =>
  intro n hb
  cases n with
  | zero=>simp[Dm.gG]at hb
  | succ n =>
   simp only[Dm.gG,List.all_eq_true]at hb
   exact .tup hl fun i h1 h2=>ih i h1 h2 n (hb _ (List.getElem_mem h1))
theorem VR.cut_old{c0:Ctx}{d:DV}{v0:Value}(h:VR c0 d v0){N:Nat}(hd:∀id,c0.ρ id≠none→id<N):∀{c:Ctx} {v:Value},VR c d v→VR (c.cut N) d v:=by
 induction h with
 | unk v=>intro c v _;exact .unk v
 | bool b=>intro c v h;cases h;exact .bool b
 | int k m=>intro c v h;cases h;exact .int k m
 | atl h0=>intro c v h;cases h;exact .atl (by assumption)
 | tok h0=>intro c v h;cases h;exact .tok (by assumption)
 | str s=>intro c v h;cases h;exact .str s
 | nilp=>intro c v h;cases h;exact .nilp
 | ptr h0 =>
  intro c v h
  cases h with
  | ptr h1=>exact .ptr (by rw[jO (hd _ (by rw[h0];simp))];exact h1)
 | iptr vals hb hO hX hc hv _ =>
  intro c v h
  cases h with
  | iptr vals hb hO hX hc hv=>exact .iptr vals hb hO hX hc hv
 | nsl a=>intro c v h;cases h;exact .nsl _
 | sl h0 _ _ _ _ =>
  intro c v h
  cases h with
  | sl h1 hs hn hl ho=>exact .sl (by rw[jO (hd _ (by rw[h0];simp))];exact h1) hs hn hl ho
 | isl0 a cap =>
  intro c v h
  cases h with
  | isl0 a cap=>exact .isl0 a cap
  | isl vals cJ kO hb hO hX fX hc hv=>exact .isl vals cJ kO hb hO hX fX hc hv
 | isl _ _ _ _ _ _ _ _ _ _ =>
  intro c v h
  cases h with
  | isl0 a cap=>exact .isl0 a cap
  | isl vals cJ kO hb hO hX fX hc hv=>exact .isl vals cJ kO hb hO hX fX hc hv
 | nmap=>intro c v h;cases h;exact .nmap
 | map h0 =>
  intro c v h
  cases h with
  | map h1=>exact .map (by rw[jO (hd _ (by rw[h0];simp))];exact h1)
 | func tB _ ih =>
  intro c v h
  cases h with
  | func hl hv=>exact .func hl fun i h1 h2=>ih i h1 (by omega) hd (hv i h1 h2)
 | nilf=>intro c v h;cases h;exact .nilf
 | iface _ ih =>
  intro c v h
  cases h with
  | iface h1=>exact .iface (ih hd h1)
 | nili=>intro c v h;cases h;exact .nili
 | agg tB _ _ ih =>
  intro c v h
  cases h with
  | agg hl h1 hv=>exact .agg hl h1 fun i h1 h2=>ih i h1 (by omega) hd (hv i h1 h2)
 | tup tB _ ih =>
  intro c v h
  cases h with
  | tup hl hv=>exact .tup hl fun i h1 h2=>ih i h1 (by omega) hd (hv i h1 h2)
section
variable {h:aA} {c:Ctx}
theorem LB(hR:Rel h c){id ety sz off len:Nat}{xs:List DV}(hg:h.get id=some (.arr ety sz xs none)){v:Value}(hv:VR c (.sl id sz off len) v)(k:Nat) :
  ∃ e cap ρ1,((e=k∧cap=none)∨(e<k∧cap=some (xs.length+e))) ∧
   Rel ((h.set id .dead).push (.arr ety sz (xs++List.replicate e .unk) cap)) (c.next c.w ρ1 ((h.set id .dead).push (.arr ety sz (xs++List.replicate e .unk) cap))) ∧
   cS c (c.next c.w ρ1 ((h.set id .dead).push (.arr ety sz (xs++List.replicate e .unk) cap))) ∧
   VR (c.next c.w ρ1 ((h.set id .dead).push (.arr ety sz (xs++List.replicate e .unk) cap))) (.sl h.n sz off len) v:=by
 obtain⟨b,base,iO,kB,nn,oY,fD,hρ,fL,Eb,Ed,Kz⟩:=hv.sl_inv
 obtain⟨cur,m,g1,g2,g3,g4,g5,g6⟩:=hR.arr hg hρ
 have uM:=hR.oneRow hg hρ g1
 have main:∀e cap,xs.length+e≤m→(∀q,cap=some q→q=m∧(xs++List.replicate e DV.unk).length=m) →
   ∃ ρ1,Rel ((h.set id .dead).push (.arr ety sz (xs++List.replicate e .unk) cap)) (c.next c.w ρ1 ((h.set id .dead).push (.arr ety sz (xs++List.replicate e .unk) cap))) ∧
   cS c (c.next c.w ρ1 ((h.set id .dead).push (.arr ety sz (xs++List.replicate e .unk) cap))) ∧
   VR (c.next c.w ρ1 ((h.set id .dead).push (.arr ety sz (xs++List.replicate e .unk) cap))) (.sl h.n sz off len) v:=by
  intro e cap hem kO
  obtain⟨k1,k2⟩:=hR.moved (.arr ety sz (xs++List.replicate e .unk) cap) hg rfl rfl (base':=base) hρ c.w rfl (fun _ _=>rfl) (fun _ _ hs=>hs) (.refl _) (fun dI=>by
   refine⟨b,base,cur,m,by simp[Ctx.next],g1,g2,g3,by simpa using hem,kO,uM,fun i hi=>?_⟩
   by_cases hx:i<xs.length
   ·rw[List.getElem_append_left hx]
    obtain⟨a1,a2⟩:=g6 i hx
    refine⟨a1,fun j hj=>?_⟩
    obtain⟨u,b1,b2,b3⟩:=a2 j hj
    exact⟨u,b1,b2,b3.mono dI⟩
   ·rw[List.getElem_append_right (Nat.le_of_not_lt hx)]
    simp only[List.getElem_replicate,aP,List.length_replicate,true_and]
    intro j hj
    simp only[List.length_append,List.length_replicate]at hi
    have hb:base+i*sz+j<cur.size:=by
     have:(i+1)*sz≤m*sz:=Nat.mul_le_mul_right _ (by omega)
     rw[Nat.add_mul]at this
     omega
    exact⟨cur[base+i*sz+j],Array.getElem?_eq_getElem hb,uM _ _ (Array.getElem?_eq_getElem hb),.unk _⟩)
  refine⟨_,k1,k2,?_⟩
  rw[fD]
  exact .sl (by simp[Ctx.next]) fL Eb Ed Kz
 by_cases hk:xs.length+k≤m
 ·obtain⟨ρ1,k1,k2,k3⟩:=main k none hk (fun q hq=>by cases hq)
  exact⟨k,none,ρ1,.inl ⟨rfl,rfl⟩,k1,k2,k3⟩
 ·obtain⟨ρ1,k1,k2,k3⟩:=main (m-xs.length) (some (xs.length+(m-xs.length))) (by omega) (fun q hq=>by cases hq;simp;omega)
  exact⟨m-xs.length,_,ρ1,.inr ⟨by omega,rfl⟩,k1,k2,k3⟩
theorem EB(hR:Rel h c){id ety sz:Nat}{ob:DO}(hg:h.get id=some ob){hj:aA}{w':World}{ρj:Nat→Option (Nat×Nat)}(hRj:Rel hj (c.next w' ρj hj))(dI:cS c (c.next w' ρj hj))
  (Kw:∀i,i<h.n→hj.get i=(h.set id .dead).get i) {l:List DV} {r:DV} (Au:nG h ety sz (some (r,hj))=some l) {v:Value} (hv:VR (c.next w' ρj hj) r v) :
  pS h c ((h.set id .dead).push (.arr ety sz l none)) w' (.sl h.n sz 0 l.length) v:=by
 unfold nG at Au
 split at Au
 ·rename_i idj eQ off len h0 heq
  cases heq
  split at Au
  ·rename_i oY nT xs cap hgj
   split at Au
   ·rename_i dT
    obtain⟨e1,e2,e3,hidj,cJ,hbel⟩:=dT
    subst e1;subst e2;subst e3
    cases Au
    have fS:=iD hg
    obtain⟨b,base,iO,kB,nn,ety'',fD,hρ,fL,Eb,Ed,Kz⟩:=hv.sl_inv
    obtain⟨cur,m,g1,g2,g3,g4,g5,g6⟩:=hRj.arr hgj hρ
    have uM:=hRj.oneRow hgj hρ g1
    have Ec:((xs.drop off).take len).length=len:=by simp;omega
    have hnf:((h.set id .dead).push (.arr ety sz ((xs.drop off).take len) none)).n=h.n+1:=rfl
    let hf:aA:=(h.set id .dead).push (.arr ety sz ((xs.drop off).take len) none)
    let ρf:Nat→Option (Nat×Nat):=fun i=>if i<h.n then ρj i else if i=h.n then some (b,base+off*sz)else none
    have rlt:∀i,i<h.n→ρf i=ρj i:=fun i hi=>by simp only[ρf,if_pos hi]
    have rn:ρf h.n=some (b,base+off*sz):=by simp[ρf]
    have getf:∀i o,hf.get i=some o→(i=h.n∧o=.arr ety sz ((xs.drop off).take len) none)∨(i<h.n∧hj.get i=some o∧(h.set id .dead).get i=some o):=by
     intro i o hi
     simp only[hf,cN]at hi
     have e0:(h.set id .dead).n=h.n:=rfl
     rw[e0]at hi
     split at hi
     ·rename_i e;cases hi;exact .inl ⟨e,rfl⟩
     ·have hl:=iD hi
      have Kv:i<h.n:=hl
      exact .inr ⟨Kv,by rw[Kw i Kv];exact hi,hi⟩
    have qZ:∀y,nU hf ρf y→nU hj ρj y:=by
     rintro y ⟨i,o,x,hi,ha,hr⟩
     rcases getf i o hi with⟨e,_⟩|⟨hl,wS,_⟩
     ·subst e
      rw[rn]at hr;cases hr
      exact⟨idj,_,base,hgj,rfl,hρ⟩
     ·rw[rlt i hl]at hr
      exact⟨i,o,x,wS,ha,hr⟩
    have S4:cS ((c.next w' ρj hj).cut h.n) (c.next w' ρf hf) :=
     ⟨fun i p hp=>by
      obtain⟨h1,h2⟩:=uV hp
      show ρf i=some p
      rw[rlt i h1];exact h2,Nat.le_refl _,fun _ _ _=>rfl,fun y hy=>.inl (hy.imp (qZ y) (fun x=>x)),fun _ _ _ hs=>hs,fun _ hx=>hx,fun _ _ hE=>⟨hE,rfl⟩,.refl _,rfl⟩
    have hlef:cS c (c.next w' ρf hf) :=
     ⟨fun i p hp=>by
      have hi:i<h.n:=hR.dom i (by rw[hp];simp)
      show ρf i=some p
      rw[rlt i hi];exact dI.rho i p hp,dI.size,dI.frame,fun y hy=>dI.own y (hy.imp (qZ y) (fun x=>x)),dI.shape,dI.X,dI.pend,dI.quiet,dI.tok⟩
    have hoff:off+iO=m:=by
     rw[eR g1]at fL
     cases fL
     exact Cj g2 g3 Eb
    refine⟨ρf,⟨xI (Hq hR.len),Nat.le_succ_of_le hR.lim,fun i hi=>?_,fun i o hi=>?_,fun i j oi oj y x1 x2 hi wS qW Pe qL zF=>?_,fun _=>Iff.rfl,fun y hy=>hRj.notX y (hy.imp (qZ y) (fun x=>x)),hRj.old,fun y hy=>⟨(hRj.pend y hy).1,fun ho=>(hRj.pend y hy).2 (qZ y ho)⟩,hR.glob.mono hlef⟩,hlef,?_⟩
    ·rw[hnf]
     refine Nat.lt_succ_of_le (Nat.le_of_not_lt fun bD=>hi ?_)
     have h1:¬i<h.n:=by omega
     have h2:i≠h.n:=by omega
     show ρf i=none
     simp only[ρf,if_neg h1,if_neg h2]
    ·rcases getf i o hi with⟨e,e2⟩|⟨hl,wS,hs⟩
     ·subst e;subst e2
      have fX:cur.size=base+off*sz+(m-off)*sz:=by
       have:off*sz+(m-off)*sz=m*sz:=by rw[←Nat.add_mul];congr 1;omega
       omega
      refine⟨b,base+off*sz,cur,m-off,rn,g1,g2,fX,by rw[Ec];omega,(fun k hk=>by cases hk),uM,fun q hq=>?_⟩
      rw[Ec]at hq
      have uK:off+q<xs.length:=by omega
      have hx:((xs.drop off).take len)[q]'(by rw[Ec];exact hq)=xs[off+q]:=by simp
      obtain⟨a1,a2⟩:=g6 (off+q) uK
      rw[hx]
      refine⟨a1,fun j Uz=>?_⟩
      obtain⟨u,b1,b2,b3⟩:=a2 j Uz
      have hmem:xs[off+q]∈(xs.drop off).take len:=by rw[←hx];exact List.getElem_mem _
      have BL:=List.all_eq_true.1 hbel _ hmem
      refine⟨u,by rw[Nat.add_mul]at b1;rw[←b1];congr 1;omega,b2,?_⟩
      have zU:Dm.gG 200 h.n (aP sz xs[off+q])[j]=true∨Dm.gG 199 h.n (aP sz xs[off+q])[j]=true:=by
       have key:∀(d:DV) (TY:j<(aP sz d).length),Dm.gG 200 h.n d=true→Dm.gG 200 h.n (aP sz d)[j]=true∨Dm.gG 199 h.n (aP sz d)[j]=true:=by
        intro d TY hd
        cases d
        case agg cs =>
         have fI:cs.all (Dm.gG 199 h.n)=true:=hd
         exact .inr (List.all_eq_true.1 fI _ (List.getElem_mem TY))
        case unk=>simp only[aP,List.getElem_replicate];exact .inl rfl
        case tup=>simp[aP]at TY
        all_goals
         simp only[aP,List.length_singleton,Nat.lt_one_iff]at TY
         subst TY
         exact .inl hd
       exact key _ Uz BL
      rcases zU with hc|hc
      ·exact(b3.belowN 200 hc).mono S4
      ·exact(b3.belowN 199 hc).mono S4
     ·have hob:=hRj.obj i o wS
      cases o with
      | dead=>trivial
      | arr ety2 sz2 ys cap2 =>
       have eG:i≠id:=fun e=>by
        subst e
        rw[iM hR.len hg]at hs
        cases hs
       rw[dJ fS eG]at hs
       obtain⟨b2,base2,cur2,m2,q1,q2,q3,q4,q5,q6,q7,q8⟩:=hob
       obtain⟨b3,base3,cur3,m3,r1,r2,r3,r4,r5,r6,r7,r8⟩:=hR.obj i _ hs
       refine⟨b2,base2,cur2,m2,by show ρf i=_;rw[rlt i hl];exact q1,q2,q3,q4,q5,q6,q7,fun q hq=>⟨(q8 q hq).1,fun j Uz=>?_⟩⟩
       obtain⟨u,a1,a2,a3⟩:=(q8 q hq).2 j Uz
       obtain⟨u0,_,_,a4⟩:=(r8 q hq).2 j Uz
       exact⟨u,a1,a2,(a4.cut_old hR.dom a3).mono S4⟩
      | mp es =>
       have eG:i≠id:=fun e=>by
        subst e
        rw[iM hR.len hg]at hs
        cases hs
       rw[dJ fS eG]at hs
       obtain⟨es2,WA,b2,en2,cl2,q1,q2,q3,q4⟩:=hob
       obtain⟨es3,hp3,b3,en3,cl3,r1,r2,r3,r4⟩:=hR.obj i _ hs
       refine⟨es2,WA,b2,en2,cl2,by show ρf i=_;rw[rlt i hl];exact q1,q2,q3,fun q a1 a2=>?_⟩
       obtain⟨s1,s2⟩:=q4 q a1 a2
       obtain⟨q',u1,uK⟩:=List.getElem_of_mem ((WA.symm.trans hp3).mem_iff.1 (List.getElem_mem a1))
       obtain⟨t1,t2⟩:=r4 q' u1 (by omega)
       rw[uK]at t1 t2
       exact⟨(t1.cut_old hR.dom s1).mono S4,(t2.cut_old hR.dom s2).mono S4⟩
    ·rcases getf i oi hi with⟨e1,_⟩|⟨l1,j1,_⟩<;>rcases getf j oj wS with⟨e2,_⟩|⟨l2,j2,_⟩
     ·omega
     ·subst e1
      have hri':ρf h.n=some (y,x1):=qL
      rw[rn]at hri';cases hri'
      have hrj':ρj j=some (b,x2):=by rw[←rlt j l2];exact zF
      have:=hRj.inj idj j _ oj b base x2 hgj j2 rfl Pe hρ hrj'
      omega
     ·subst e2
      have hrj':ρf h.n=some (y,x2):=zF
      rw[rn]at hrj';cases hrj'
      have hri':ρj i=some (b,x1):=by rw[←rlt i l1];exact qL
      have:=hRj.inj idj i _ oi b base x1 hgj j1 rfl qW hρ hri'
      omega
     ·have hri':ρj i=some (y,x1):=by rw[←rlt i l1];exact qL
      have hrj':ρj j=some (y,x2):=by rw[←rlt j l2];exact zF
      exact hRj.inj i j oi oj y x1 x2 j1 j2 qW Pe hri' hrj'
    ·rw[Ec,fD]
     exact .sl rn fL (by rw[Nat.zero_mul,Nat.add_zero];exact Eb) Ed (by rw[Nat.zero_mul,Nat.add_zero];exact Kz)
   ·cases Au
  ·cases Au
 ·cases Au
end
end Go.Dm
namespace Go.Dm
def Ctx.lend(c:Ctx):Ctx:=⟨c.w,fun _=>none,fun _=>False,fun b=>c.O b∨c.X b,fun _=>False,c.τ⟩
theorem Rel.lend{h:aA}{c:Ctx}(hR:Rel h c):Rel {objs:=[],n:=0,lim:=0} c.lend:=by
 have hg:∀id,({objs:=[],n:=0,lim:=0}:aA).get id=none:=fun id=>by simp[aA.get]
 exact⟨rfl,Nat.le_refl _,fun id h=>absurd rfl h,fun id o h=>(by rw[hg]at h;cases h),fun i j oi oj b x y hi=>(by rw[hg]at hi;cases hi),fun b=>⟨fun h=>h.elim,fun h=>by
  rcases h with⟨id,o,x,vC,_⟩|h
  ·rw[hg]at vC;cases vC
  ·exact h.elim⟩,fun b h=>h.elim,fun b h=>h.elim (fun h1=>hR.O_lt h1) (fun h1=>hR.old b h1),fun b h=>h.elim,fun b v hv=>⟨(hR.glob b v hv).1,fun h=>h,(hR.glob b v hv).2.2⟩⟩
theorem VR.lendStill{c0:Ctx}{d:DV}{v:Value}(h:VR c0 d v):∀{c:Ctx},c0=c.still→VR c.lend d v:=by
 induction h with
 | unk v=>intro c _;exact .unk v
 | bool b=>intro c _;exact .bool b
 | int k n=>intro c _;exact .int k n
 | atl h=>intro c _;exact .atl h
 | tok h=>intro c e;exact .tok (by rw[e]at h;exact h)
 | str s=>intro c _;exact .str s
 | nilp=>intro c _;exact .nilp
 | ptr h=>intro c e;rw[e]at h;cases h
 | iptr vals hb hO hX hc hv ih =>
  intro c e
  subst e
  exact .iptr vals hb (fun h=>h) (fun hl hx=>hx.elim hO (hX hl)) hc (fun j hj=>ih j hj rfl)
 | nsl a=>intro c _;exact .nsl a
 | sl h=>intro c e;rw[e]at h;cases h
 | isl0 a cap=>intro c _;exact .isl0 a cap
 | isl vals cJ kO hb hO hX fX hc hv ih =>
  intro c e
  subst e
  exact .isl vals cJ kO hb (fun h=>h) (fun hl hx=>hx.elim hO (hX hl)) fX hc (fun i hi j hj=>ih i hi j hj rfl)
 | nmap=>intro c _;exact .nmap
 | map h=>intro c e;rw[e]at h;cases h
 | func hl _ ih=>intro c e;exact .func hl fun i h1 h2=>ih i h1 h2 e
 | nilf=>intro c _;exact .nilf
 | iface _ ih=>intro c e;exact .iface (ih e)
 | nili=>intro c _;exact .nili
 | agg hl h1 _ ih=>intro c e;exact .agg hl h1 fun i a1 a2=>ih i a1 a2 e
 | tup hl _ ih=>intro c e;exact .tup hl fun i a1 a2=>ih i a1 a2 e
theorem VR.mkIsl{c : Ctx}{tag : Bool}{sz : Nat}{xs : List DV}{v : Value}(h : VR c (.isl tag sz xs) v) : VR c (Dm.mkIsl tag sz xs) v := by
  cases xs with
  | nil => rcases h.isl_inv with⟨_, a, cap, rfl⟩ | ⟨b, o, cap, vals, rfl, _⟩
           · exact .isl0 a cap
           · exact .isl0 _ _
  | cons x xs => exact h
theorem nZ{tag:Bool}{h:aA}{sz:Nat}:∀{n:Nat} {e e':DV},resolve tag h n e=some e' →
  (aP sz e').length=(aP sz e).length∧∀j (h1:j<(aP sz e').length) (h2:j<(aP sz e).length),(∃ m,m≤n∧resolve tag h m (aP sz e)[j]=some (aP sz e')[j]):=by
 intro n e e' hr
 cases n with
 | zero=>simp[resolve]at hr
 | succ n =>
  cases e with
  | agg cs =>
   simp only[resolve]at hr
   split at hr
   ·rename_i c hc
    cases hr
    exact⟨dL _ _ _ hc,fun j h1 h2=>⟨n,Nat.le_succ _,fY _ _ _ hc j h2 h1⟩⟩
   ·cases hr
  | tup cs =>
   simp only[resolve]at hr
   split at hr
   ·cases hr
    exact⟨rfl,fun j h1 _=>absurd h1 (by simp[aP])⟩
   ·cases hr
  | unk =>
   simp only[resolve]at hr
   cases hr
   refine⟨rfl,fun j h1 h2=>⟨n+1,Nat.le_refl _,?_⟩⟩
   simp[aP,resolve]
  | ptr id s idx off =>
   have TV:=hr
   simp only[resolve]at hr
   (repeat' split at hr)<;>first|(cases hr;done)|skip
   cases hr
   refine⟨rfl,fun j h1 h2=>⟨n+1,Nat.le_refl _,?_⟩⟩
   have hj:j=0:=by simpa[aP]using h1
   subst hj
   simpa[aP]using TV
  | sl id s off len =>
   have TV:=hr
   simp only[resolve]at hr
   (repeat' split at hr)<;>first|(cases hr;done)|skip
   have e1:=Option.some.inj hr
   have key:∀q,aP sz (Dm.mkIsl tag s q)=[Dm.mkIsl tag s q]:=by intro q;cases q<;>rfl
   rw[←e1,key]
   refine⟨rfl,fun j h1 h2=>⟨n+1,Nat.le_refl _,?_⟩⟩
   have hj:j=0:=by simpa using h1
   subst hj
   simp only[List.getElem_cons_zero]
   rw[e1]
   simpa[aP]using TV
  | map id=>simp[resolve]at hr
  | func f cap =>
   have TV:=hr
   simp only[resolve]at hr
   (repeat' split at hr)<;>first|(cases hr;done)|skip
   cases hr
   refine⟨rfl,fun j h1 h2=>⟨n+1,Nat.le_refl _,?_⟩⟩
   have hj:j=0:=by simpa[aP]using h1
   subst hj
   simpa[aP]using TV
  | iface t v =>
   have TV:=hr
   simp only[resolve]at hr
   (repeat' split at hr)<;>first|(cases hr;done)|skip
   cases hr
   refine⟨rfl,fun j h1 h2=>⟨n+1,Nat.le_refl _,?_⟩⟩
   have hj:j=0:=by simpa[aP]using h1
   subst hj
   simpa[aP]using TV
  | isl l s xs =>
   have TV:=hr
   simp only[resolve]at hr
   cases hr
   have key:∀q,aP sz (Dm.mkIsl l s q)=[Dm.mkIsl l s q]:=by intro q;cases q<;>rfl
   rw[key]
   refine⟨rfl,fun j h1 h2=>⟨n+1,Nat.le_refl _,?_⟩⟩
   have hj:j=0:=by simpa using h1
   subst hj
   simpa[aP]using TV
  | _ =>
   simp only[resolve]at hr
   cases hr
   refine⟨rfl,fun j h1 h2=>⟨n+1,Nat.le_refl _,?_⟩⟩
   have hj:j=0:=by simpa[aP]using h1
   subst hj
   simp[aP,resolve]
theorem O4{h:aA}{c:Ctx}(hR:Rel h c):∀n {d d':DV} {v:Value},VR c d v→resolve true h n d=some d'→VR c.lend d' v:=by
 intro n
 induction n using Nat.strongRecOn with
 | _ n ih =>
 cases n with
 | zero=>intro d d' v _ hr;simp[resolve]at hr
 | succ n =>
  have many:∀{ds es:List DV} {vs:List Value},ds.mapM (resolve true h n)=some es→(∀i (h1:i<ds.length) (h2:i<vs.length),VR c ds[i] vs[i])→ds.length=vs.length →
    es.length=vs.length∧∀i (h1:i<es.length) (h2:i<vs.length),VR c.lend es[i] vs[i]:=by
   intro ds es vs hm hv hl
   have S5:=dL _ _ _ hm
   exact⟨by omega,fun i h1 h2=>ih n (Nat.lt_succ_self n) (hv i (by omega) h2) (fY _ _ _ hm i (by omega) h1)⟩
  intro d d' v hv hr
  cases d with
  | unk=>simp only[resolve]at hr;cases hr;exact .unk v
  | bool b=>simp only[resolve]at hr;cases hr;cases hv;exact .bool b
  | int k m=>simp only[resolve]at hr;cases hr;cases hv;exact .int k m
  | atl m=>simp only[resolve]at hr;cases hr;cases hv;exact .atl (by assumption)
  | tok m=>simp only[resolve]at hr;cases hr;cases hv;exact .tok (by assumption)
  | str s=>simp only[resolve]at hr;cases hr;cases hv;exact .str s
  | nilp=>simp only[resolve]at hr;cases hr;cases hv;exact .nilp
  | nmap=>simp only[resolve]at hr;cases hr;cases hv;exact .nmap
  | nilf=>simp only[resolve]at hr;cases hr;cases hv;exact .nilf
  | nili=>simp only[resolve]at hr;cases hr;cases hv;exact .nili
  | map id=>simp[resolve]at hr
  | nsl=>simp only[resolve]at hr;cases hr;obtain⟨a,rfl⟩:=hv.nsl_inv;exact .isl0 a 0
  | ptr id sz idx off =>
   simp only[resolve]at hr
   split at hr
   ·rename_i ety eQ xs cap hg
    split at hr
    ·rename_i fX
     subst fX
     split at hr
     ·rename_i e he
      split at hr
      ·rename_i cs Hy
       cases hr
       obtain⟨b,base,rfl,hρ⟩:=hv.ptr_inv
       obtain⟨cur,m,g1,g2,g3,g4,g5,g6⟩:=hR.arr hg hρ
       obtain⟨hi,hxe⟩:=List.getElem?_eq_some_iff.1 he
       obtain⟨a1,a2⟩:=g6 idx hi
       rw[hxe]at a1 a2
       have hl:=dL _ _ _ Hy
       refine .iptr (fun j=>(cur[base+idx*sz+j]?).getD undef) (Array.getElem?_eq_some_iff.1 g1).1 (fun h=>h) (fun h=>by cases h) (fun j hj=>?_) (fun j hj=>?_)
       ·obtain⟨u,b1,b2,b3⟩:=a2 j (by omega)
        exact⟨by rw[kR (show c.lend.w.heap[b]?=_ from g1),b1];simp,by rw[b1];exact b2⟩
       ·obtain⟨u,b1,b2,b3⟩:=a2 j (by omega)
        rw[b1]
        exact ih n (Nat.lt_succ_self n) b3 (fY _ _ _ Hy j (by omega) hj)
      ·cases hr
     ·cases hr
    ·cases hr
   ·cases hr
  | sl id sz off len =>
   simp only[resolve]at hr
   split at hr
   ·rename_i ety eQ xs cap hg
    split at hr
    ·rename_i dT
     obtain⟨fX,cJ⟩:=dT
     subst fX
     split at hr
     ·rename_i ys Nt
      cases hr
      apply VR.mkIsl
      obtain⟨b,base,iO,kB,nn,oY,rfl,hρ,fL,Eb,Ed,Kz⟩:=hv.sl_inv
      obtain⟨cur,m,g1,g2,g3,g4,g5,g6⟩:=hR.arr hg hρ
      have hl:=dL _ _ _ Nt
      have Ec:((xs.drop off).take len).length=len:=by simp;omega
      cases len with
      | zero =>
       have:ys=[]:=List.length_eq_zero_iff.1 (by omega)
       subst this
       exact .isl0 _ _
      | succ len =>
       have hco':kB=base+off*sz:=Kz.resolve_right (by omega)
       subst hco'
       have elem:∀i (hi:i<ys.length),∃ hx:off+i<xs.length,resolve true h n xs[off+i]=some ys[i]:=by
        intro i hi
        have h1:i<((xs.drop off).take (len+1)).length:=by omega
        have:=fY _ _ _ Nt i h1 hi
        have hx:off+i<xs.length:=by omega
        exact⟨hx,by simpa using this⟩
       refine .isl (fun i j=>(cur[base+off*sz+i*sz+j]?).getD undef) (by omega) Ed (Array.getElem?_eq_some_iff.1 g1).1 (fun h=>h) (fun h=>by cases h) (fun i hi=>?_) (fun i j hi hj=>?_) (fun i hi j hj=>?_)
       ·obtain⟨hx,he⟩:=elem i hi
        rw[(nZ (sz:=sz) he).1];exact(g6 _ hx).1
       ·obtain⟨hx,he⟩:=elem i hi
        obtain⟨a1,a2⟩:=g6 _ hx
        obtain⟨u,b1,b2,b3⟩:=a2 j (by omega)
        have e0:base+off*sz+i*sz+j=base+(off+i)*sz+j:=by rw[Nat.add_mul];omega
        exact⟨by rw[kR (show c.lend.w.heap[b]?=_ from g1),e0,b1];simp,by rw[e0,b1];exact b2⟩
       ·obtain⟨hx,he⟩:=elem i hi
        obtain⟨a1,a2⟩:=g6 _ hx
        obtain⟨k1,k2⟩:=nZ (sz:=sz) he
        have wS:j<(aP sz xs[off+i]).length:=by omega
        obtain⟨u,b1,b2,b3⟩:=a2 j wS
        have e0:base+off*sz+i*sz+j=base+(off+i)*sz+j:=by rw[Nat.add_mul];omega
        rw[e0,b1]
        obtain⟨q,hq,yW⟩:=k2 j hj wS
        exact ih q (by omega) b3 yW
     ·cases hr
    ·cases hr
   ·cases hr
  | iptr lent cs off =>
   simp only[resolve]at hr
   cases hr
   obtain⟨b,o,vals,rfl,hb,hO,hX,hc,yV⟩:=hv.iptr_inv
   exact .iptr vals hb (fun h=>h) (fun hl hx=>hx.elim hO (hX hl)) hc (fun j hj=>(yV j hj).lendStill rfl)
  | isl lent sz xs =>
   simp only[resolve]at hr
   cases hr
   apply VR.mkIsl
   rcases hv.isl_inv with⟨rfl,a,cap,rfl⟩|⟨b,o,cap,vals,rfl,kO,hb,hO,hX,fX,hc,yV⟩
   ·exact .isl0 a cap
   ·exact .isl vals rfl kO hb (fun h=>h) (fun hl hx=>hx.elim hO (hX hl)) fX hc (fun i hi j hj=>(yV i hi j hj).lendStill rfl)
  | func f cap =>
   simp only[resolve]at hr
   split at hr
   ·rename_i es Ba
    cases hr
    obtain⟨vs,rfl,hl,yV⟩:=hv.func_inv
    obtain⟨k1,k2⟩:=many Ba yV hl
    exact .func k1 k2
   ·cases hr
  | iface t x =>
   simp only[resolve]at hr
   split at hr
   ·rename_i y hy
    cases hr
    cases hv with
    | iface hv=>exact .iface (ih n (Nat.lt_succ_self n) hv hy)
   ·cases hr
  | agg cs =>
   simp only[resolve]at hr
   split at hr
   ·rename_i es Ba
    cases hr
    obtain⟨vs,rfl,hl,h1,yV⟩:=hv.agg_inv
    obtain⟨k1,k2⟩:=many Ba yV hl
    exact .agg k1 h1 k2
   ·cases hr
  | tup cs =>
   simp only[resolve]at hr
   split at hr
   ·rename_i es Ba
    cases hr
    obtain⟨vs,rfl,hl,yV⟩:=hv.tup_inv
    obtain⟨k1,k2⟩:=many Ba yV hl
    exact .tup k1 k2
   ·cases hr
theorem zN{sz m:Nat}{e:DV}(h:bJ m e=true):∀j (hj:j<(aP sz e).length),∃ q,bJ q (aP sz e)[j]=true:=by
 intro j hj
 cases m with
 | zero=>simp[bJ]at h
 | succ m =>
  cases e
  case agg cs =>
   simp only[bJ,List.all_eq_true]at h
   exact⟨m,h _ (List.getElem_mem hj)⟩
  case unk=>exact⟨1,by simp[aP,bJ]⟩
  case tup=>simp[aP]at hj
  all_goals
   simp only[aP,List.length_singleton,Nat.lt_one_iff]at hj
   subst hj
   exact⟨m+1,h⟩
theorem VR.back{c0:Ctx}{d:DV}{v:Value}(h:VR c0 d v):∀{c2 c3:Ctx} {n:Nat},c0=c2.still→bJ n d=true→c3.w=c2.w→c3.τ=c2.τ→(∀b,¬c2.X b→¬c3.O b∧¬c3.X b)→VR c3.still d v:=by
 induction h with
 | unk v=>intros;exact .unk v
 | bool b=>intros;exact .bool b
 | int k n=>intros;exact .int k n
 | atl h=>intros;exact .atl h
 | tok h=>intro c2 c3 n e _ _ ht _;exact .tok (by rw[e]at h;show c3.τ _=_;rw[ht];exact h)
 | str s=>intros;exact .str s
 | nilp=>intros;exact .nilp
 | ptr h=>intro c2 c3 n e;rw[e]at h;cases h
 | iptr vals hb hO hX hc hv ih =>
  intro c2 c3 n e hu hw ht hx
  subst e
  cases n with
  | zero=>simp[bJ]at hu
  | succ n =>
   simp only[bJ,Bool.and_eq_true,Bool.not_eq_true',List.all_eq_true]at hu
   have Bw:=hx _ (hX hu.1)
   exact .iptr vals (by show _<c3.w.heap.size;rw[hw];exact hb) Bw.1 (fun _=>Bw.2) (fun j hj=>by show c3.w.cell? _=_∧_;rw[hw];exact hc j hj) (fun j hj=>ih j hj rfl (hu.2 _ (List.getElem_mem hj)) hw ht hx)
 | nsl a=>intros;exact .nsl a
 | sl h=>intro c2 c3 n e;rw[e]at h;cases h
 | isl0 a cap=>intros;exact .isl0 a cap
 | isl vals cJ kO hb hO hX fX hc hv ih =>
  intro c2 c3 n e hu hw ht hx
  subst e
  cases n with
  | zero=>simp[bJ]at hu
  | succ n =>
   simp only[bJ,Bool.and_eq_true,Bool.not_eq_true',List.all_eq_true]at hu
   have Bw:=hx _ (hX hu.1)
   refine .isl vals cJ kO (by show _<c3.w.heap.size;rw[hw];exact hb) Bw.1 (fun _=>Bw.2) fX (fun i j hi hj=>by show c3.w.cell? _=_∧_;rw[hw];exact hc i j hi hj) (fun i hi j hj=>?_)
   have hm:=hu.2 _ (List.getElem_mem hi)
   obtain⟨q,hq⟩:=zN hm j hj
   exact ih i hi j hj rfl hq hw ht hx
 | nmap=>intros;exact .nmap
 | map h=>intro c2 c3 n e;rw[e]at h;cases h
 | func hl _ ih =>
  intro c2 c3 n e hu hw ht hx
  cases n with
  | zero=>simp[bJ]at hu
  | succ n =>
   simp only[bJ,List.all_eq_true]at hu
   exact .func hl fun i h1 h2=>ih i h1 h2 e (hu _ (List.getElem_mem h1)) hw ht hx
 | nilf=>intros;exact .nilf
 | iface _ ih =>
  intro c2 c3 n e hu hw ht hx
  cases n with
  | zero=>simp[bJ]at hu
  | succ n=>simp only[bJ]at hu;exact .iface (ih e hu hw ht hx)
 | nili=>intros;exact .nili
 | agg hl h1 _ ih =>
  intro c2 c3 n e hu hw ht hx
  cases n with
  | zero=>simp[bJ]at hu
  | succ n =>
   simp only[bJ,List.all_eq_true]at hu
   exact .agg hl h1 fun i h1 h2=>ih i h1 h2 e (hu _ (List.getElem_mem h1)) hw ht hx
 | tup hl _ ih =>
  intro c2 c3 n e hu hw ht hx
  cases n with
  | zero=>simp[bJ]at hu
  | succ n =>
   simp only[bJ,List.all_eq_true]at hu
   exact .tup hl fun i h1 h2=>ih i h1 h2 e (hu _ (List.getElem_mem h1)) hw ht hx
theorem Xn{h2:aA}{c2:Ctx}(hR:Rel h2 c2){c3:Ctx}(hw:c3.w=c2.w)(ht:c3.τ=c2.τ)(hx:∀b,¬c2.X b→¬c3.O b∧¬c3.X b):∀n {d d':DV} {v:Value},VR c2 d v→resolve false h2 n d=some d'→∀m,bJ m d'=true→VR c3.still d' v:=by
 intro n
 induction n using Nat.strongRecOn with
 | _ n ih =>
 cases n with
 | zero=>intro d d' v _ hr;simp[resolve]at hr
 | succ n =>
  have many:∀{ds es:List DV} {vs:List Value} {m:Nat},ds.mapM (resolve false h2 n)=some es→(∀x∈es,bJ m x=true)→(∀i (h1:i<ds.length) (h2:i<vs.length),VR c2 ds[i] vs[i])→ds.length=vs.length →
    es.length=vs.length∧∀i (h1:i<es.length) (h2:i<vs.length),VR c3.still es[i] vs[i]:=by
   intro ds es vs m hm hu hv hl
   have S5:=dL _ _ _ hm
   exact⟨by omega,fun i h1 h2=>ih n (Nat.lt_succ_self n) (hv i (by omega) h2) (fY _ _ _ hm i (by omega) h1) m (hu _ (List.getElem_mem h1))⟩
  intro d d' v hv hr m hu
  have own:∀{id b base:Nat} {ety sz:Nat} {xs:List DV} {cap:Option Nat},h2.get id=some (.arr ety sz xs cap)→c2.ρ id=some (b,base)→¬c3.O b∧¬c3.X b:=fun hg hρ =>
   hx _ (hR.notX _ ((hR.own _).2 (.inl ⟨_,_,_,hg,rfl,hρ⟩)))
  cases d with
  | unk=>simp only[resolve]at hr;cases hr;exact .unk v
  | bool b=>simp only[resolve]at hr;cases hr;cases hv;exact .bool b
  | int k m=>simp only[resolve]at hr;cases hr;cases hv;exact .int k m
  | atl m=>simp only[resolve]at hr;cases hr;cases hv;exact .atl (by assumption)
  | tok m =>
   simp only[resolve]at hr;cases hr;cases hv;rename_i h
   exact .tok (by show c3.τ _=_;rw[ht];exact h)
  | str s=>simp only[resolve]at hr;cases hr;cases hv;exact .str s
  | nilp=>simp only[resolve]at hr;cases hr;cases hv;exact .nilp
  | nmap=>simp only[resolve]at hr;cases hr;cases hv;exact .nmap
  | nilf=>simp only[resolve]at hr;cases hr;cases hv;exact .nilf
  | nili=>simp only[resolve]at hr;cases hr;cases hv;exact .nili
  | map id=>simp[resolve]at hr
  | nsl=>simp only[resolve]at hr;cases hr;obtain⟨a,rfl⟩:=hv.nsl_inv;exact .isl0 a 0
  | ptr id sz idx off =>
   simp only[resolve]at hr
   split at hr
   ·rename_i ety eQ xs cap hg
    split at hr
    ·rename_i fX
     subst fX
     split at hr
     ·rename_i e he
      split at hr
      ·rename_i cs Hy
       cases hr
       obtain⟨b,base,rfl,hρ⟩:=hv.ptr_inv
       obtain⟨cur,mm,g1,g2,g3,g4,g5,g6⟩:=hR.arr hg hρ
       obtain⟨hi,hxe⟩:=List.getElem?_eq_some_iff.1 he
       obtain⟨a1,a2⟩:=g6 idx hi
       rw[hxe]at a1 a2
       have hl:=dL _ _ _ Hy
       have Bw:=own hg hρ
       cases m with
       | zero=>simp[bJ]at hu
       | succ m =>
       simp only[bJ,Bool.not_false,Bool.true_and,List.all_eq_true]at hu
       refine .iptr (fun j=>(cur[base+idx*sz+j]?).getD undef) (by show b<c3.w.heap.size;rw[hw];exact(Array.getElem?_eq_some_iff.1 g1).1) Bw.1 (fun _=>Bw.2) (fun j hj=>?_) (fun j hj=>?_)
       ·obtain⟨u,b1,b2,b3⟩:=a2 j (by omega)
        exact⟨by show c3.w.cell? _=_;rw[hw,kR g1,b1];simp,by rw[b1];exact b2⟩
       ·obtain⟨u,b1,b2,b3⟩:=a2 j (by omega)
        rw[b1]
        exact ih n (Nat.lt_succ_self n) b3 (fY _ _ _ Hy j (by omega) hj) m (hu _ (List.getElem_mem hj))
      ·cases hr
     ·cases hr
    ·cases hr
   ·cases hr
  | sl id sz off len =>
   simp only[resolve]at hr
   split at hr
   ·rename_i ety eQ xs cap hg
    split at hr
    ·rename_i dT
     obtain⟨fX,cJ⟩:=dT
     subst fX
     split at hr
     ·rename_i ys Nt
      cases hr
      obtain⟨b,base,iO,kB,nn,oY,rfl,hρ,fL,Eb,Ed,Kz⟩:=hv.sl_inv
      obtain⟨cur,mm,g1,g2,g3,g4,g5,g6⟩:=hR.arr hg hρ
      have hl:=dL _ _ _ Nt
      have Ec:((xs.drop off).take len).length=len:=by simp;omega
      have Bw:=own hg hρ
      cases ys with
      | nil =>
       have hz:len=0:=by simp at hl;omega
       subst hz
       exact .isl0 _ _
      | cons y0 ys0 =>
       generalize hysd:y0::ys0=ys at *
       have BH:Dm.mkIsl false sz ys=.isl false sz ys:=by rw[←hysd];rfl
       rw[BH]at hu ⊢
       have hco':kB=base+off*sz:=Kz.resolve_right (by rw[←hysd]at hl;simp at hl;omega)
       subst hco'
       have elem:∀i (hi:i<ys.length),∃ hx:off+i<xs.length,resolve false h2 n xs[off+i]=some ys[i]:=by
        intro i hi
        have h1:i<((xs.drop off).take len).length:=by omega
        have:=fY _ _ _ Nt i h1 hi
        have hx:off+i<xs.length:=by omega
        exact⟨hx,by simpa using this⟩
       cases m with
       | zero=>simp[bJ]at hu
       | succ m =>
       simp only[bJ,Bool.not_false,Bool.true_and,List.all_eq_true]at hu
       have hlc':len≤iO:=Ed
       refine .isl (fun i j=>(cur[base+off*sz+i*sz+j]?).getD undef) (by omega) Ed (by show b<c3.w.heap.size;rw[hw];exact(Array.getElem?_eq_some_iff.1 g1).1) Bw.1 (fun _=>Bw.2) (fun i hi=>?_) (fun i j hi hj=>?_) (fun i hi j hj=>?_)
       ·obtain⟨hx,he⟩:=elem i hi
        rw[(nZ (sz:=sz) he).1];exact(g6 _ hx).1
       ·obtain⟨hx,he⟩:=elem i hi
        obtain⟨a1,a2⟩:=g6 _ hx
        obtain⟨u,b1,b2,b3⟩:=a2 j (by omega)
        have e0:base+off*sz+i*sz+j=base+(off+i)*sz+j:=by rw[Nat.add_mul];omega
        exact⟨by show c3.w.cell? _=_;rw[hw,kR g1,e0,b1];simp,by rw[e0,b1];exact b2⟩
       ·obtain⟨hx,he⟩:=elem i hi
        obtain⟨a1,a2⟩:=g6 _ hx
        obtain⟨k1,k2⟩:=nZ (sz:=sz) he
        have wS:j<(aP sz xs[off+i]).length:=by omega
        obtain⟨u,b1,b2,b3⟩:=a2 j wS
        have e0:base+off*sz+i*sz+j=base+(off+i)*sz+j:=by rw[Nat.add_mul];omega
        rw[e0,b1]
        obtain⟨q,hq,yW⟩:=k2 j hj wS
        obtain⟨p,hp⟩:=zN (hu _ (List.getElem_mem hi)) j hj
        exact ih q (by omega) b3 yW p hp
     ·cases hr
    ·cases hr
   ·cases hr
  | iptr lent cs off =>
   simp only[resolve]at hr
   cases hr
   obtain⟨b,o,vals,rfl,hb,hO,hX,hc,yV⟩:=hv.iptr_inv
   exact(VR.iptr (c:=c2.still) vals hb hO hX hc yV).back (c2:=c2) rfl hu hw ht hx
  | isl lent sz xs =>
   simp only[resolve]at hr
   cases hr
   rcases hv.isl_inv with⟨rfl,a,cap,rfl⟩|⟨b,o,cap,vals,rfl,kO,hb,hO,hX,fX,hc,yV⟩
   ·exact .isl0 a cap
   ·exact(VR.mkIsl (VR.isl (c:=c2.still) vals rfl kO hb hO hX fX hc yV)).back (c2:=c2) rfl hu hw ht hx
  | func f cap =>
   simp only[resolve]at hr
   split at hr
   ·rename_i es Ba
    cases hr
    cases m with
    | zero=>simp[bJ]at hu
    | succ m =>
    simp only[bJ,List.all_eq_true]at hu
    obtain⟨vs,rfl,hl,yV⟩:=hv.func_inv
    obtain⟨k1,k2⟩:=many Ba hu yV hl
    exact .func k1 k2
   ·cases hr
  | iface t x =>
   simp only[resolve]at hr
   split at hr
   ·rename_i y hy
    cases hr
    cases m with
    | zero=>simp[bJ]at hu
    | succ m =>
    simp only[bJ]at hu
    cases hv with
    | iface hv=>exact .iface (ih n (Nat.lt_succ_self n) hv hy m hu)
   ·cases hr
  | agg cs =>
   simp only[resolve]at hr
   split at hr
   ·rename_i es Ba
    cases hr
    cases m with
    | zero=>simp[bJ]at hu
    | succ m =>
    simp only[bJ,List.all_eq_true]at hu
    obtain⟨vs,rfl,hl,h1,yV⟩:=hv.agg_inv
    obtain⟨k1,k2⟩:=many Ba hu yV hl
    exact .agg k1 h1 k2
   ·cases hr
  | tup cs =>
   simp only[resolve]at hr
   split at hr
   ·rename_i es Ba
    cases hr
    cases m with
    | zero=>simp[bJ]at hu
    | succ m =>
    simp only[bJ,List.all_eq_true]at hu
    obtain⟨vs,rfl,hl,yV⟩:=hv.tup_inv
    obtain⟨k1,k2⟩:=many Ba hu yV hl
    exact .tup k1 k2
   ·cases hr
theorem Gc{h:aA}{c:Ctx}(hR:Rel h c){n:Nat}{args ds:List DV}{vals:List Value}(hm:args.mapM (resolve true h n)=some ds)(hv:VRs c args vals):VRs c.lend ds vals:=by
 have hl:=dL _ _ _ hm
 exact⟨by rw[hl];exact hv.1,fun i h1 h2=>O4 hR n (hv.2 i (by omega) h2) (fY _ _ _ hm i (by omega) h1)⟩
theorem Xs{h:aA}{c:Ctx}(hR:Rel h c){h2:aA}{w2:World}{ρ2:Nat→Option (Nat×Nat)}(hR2:Rel h2 (c.lend.next w2 ρ2 h2))(dI:cS c.lend (c.lend.next w2 ρ2 h2)){d d':DV}{v:Value}{n m:Nat}
  (hv:VR (c.lend.next w2 ρ2 h2) d v) (hr:resolve false h2 n d=some d') (hu:bJ m d'=true):pS h c h w2 d' v:=by
 have hO:∀b,(nU h c.ρ b∨c.E b)↔c.O b:=fun b=>(hR.own b).symm
 have mD:∀b,b<c.w.heap.size→w2.heap[b]?=c.w.heap[b]?:=fun b hb=>dI.frame b hb (fun h=>h)
 have Ku:cS c (c.next w2 c.ρ h) :=
  ⟨fun _ _ hp=>hp,dI.size,fun b hb _=>mD b hb,fun b hb=>.inl ((hO b).1 hb),dI.shape,fun _ hx=>hx,fun b hb hE=>⟨hE,mD b hb⟩,dI.quiet,rfl⟩
 refine⟨c.ρ,⟨hR.len,hR.lim,hR.dom,fun id o hg=>(hR.obj id o hg).mono Ku (fun ha b x hr=>mD b (hR.block_lt hg ha hr)),hR.inj,fun _=>Iff.rfl,fun b hb=>hR.notX b ((hO b).1 hb),fun b hb=>Nat.lt_of_lt_of_le (hR.old b hb) dI.size,
  fun b hb=>⟨Nat.lt_of_lt_of_le (hR.pend b hb).1 dI.size,(hR.pend b hb).2⟩,hR.glob.mono Ku⟩,Ku,?_⟩
 refine VR.of_still (Xn hR2 (c3:=c.next w2 c.ρ h) rfl rfl (fun b hb=>?_) n hv hr m hu)
 exact⟨fun ho=>hb (.inl ((hO b).1 ho)),fun hx=>hb (.inr hx)⟩
end Go.Dm
namespace Go.Dm
theorem PE(c:Ctx):c.cut 0=c.still:=by
 simp only[Ctx.cut,Ctx.still]
 congr 1
theorem W2{sz N:Nat}{d:DV}{j:Nat}(TY:j<(aP sz d).length)(hd:Dm.gG 200 N d=true):∃ n,Dm.gG n N (aP sz d)[j]=true:=by
 cases d
 case agg cs =>
  have fI:cs.all (Dm.gG 199 N)=true:=hd
  exact⟨199,List.all_eq_true.1 fI _ (List.getElem_mem TY)⟩
 case unk=>exact⟨200,by simp only[aP,List.getElem_replicate];rfl⟩
 case tup=>simp[aP]at TY
 all_goals
  refine⟨200,?_⟩
  have hj0:j=0:=by simp[aP]at TY;omega
  subst hj0
  exact hd
def qU(h:aA)(c:Ctx)(h':aA):Prop:=Rel h' (c.next c.w c.ρ h')∧cS c (c.next c.w c.ρ h')
theorem qU.refl{h:aA}{c:Ctx}(hR:Rel h c):qU h c h:=by
 unfold qU
 rw[hR.same]
 exact⟨hR,.refl _⟩
theorem Di{h:aA}{c:Ctx}(hR:Rel h c){d d':DV}{v:Value}{h':aA}(hv:VR c d v)(hf:iW h d=some (d',h')):qU h c h'∧VR (c.next c.w c.ρ h') d' v:=by
 have triv:∀{d:DV},VR c d v→some (d,h)=some (d',h')→qU h c h'∧VR (c.next c.w c.ρ h') d' v:=by
  intro d hv he
  cases he
  exact⟨.refl hR,by rw[hR.same];exact hv⟩
 cases d with
 | sl id sz off len =>
  simp only[iW]at hf
  split at hf
  ·rename_i ety eQ xs cap hg
   split at hf
   ·rename_i dT
    obtain⟨fX,aM,cJ,hbel⟩:=dT
    subst fX
    cases hf
    obtain⟨k1,k2⟩:=hR.kill hg
    refine⟨⟨k1,k2⟩,?_⟩
    obtain⟨b,base,iO,kB,nn,oY,rfl,hρ,fL,Eb,Ed,Kz⟩:=hv.sl_inv
    obtain⟨cur,mm,g1,g2,g3,g4,g5,g6⟩:=hR.arr hg hρ
    have hO:c.O b:=(hR.own b).2 (.inl ⟨id,_,base,hg,rfl,hρ⟩)
    have Ec:((xs.drop off).take len).length=len:=by simp;omega
    cases Nt:(xs.drop off).take len with
    | nil =>
     have hz:len=0:=by rw[Nt]at Ec;simp at Ec;omega
     subst hz
     exact .isl0 _ _
    | cons y0 ys0 =>
     have tB:0<len:=by rw[Nt]at Ec;simp at Ec;omega
     have hco':kB=base+off*sz:=Kz.resolve_right (by omega)
     subst hco'
     show VR _ (.isl false sz (y0::ys0)) _
     rw[←Nt]
     have hnO:¬(nU (h.set id .dead) c.ρ b∨c.E b):=by
      rintro(⟨i,oi,x,vC,qW,qL⟩|hE)
      ·by_cases e:i=id
       ·subst e
        rw[iM hR.len hg]at vC
        cases vC;simp[kG]at qW
       ·rw[dJ (iD hg) e]at vC
        exact e (hR.inj i id oi _ b x base vC hg qW rfl qL hρ)
      ·exact(hR.pend b hE).2 ⟨id,_,base,hg,rfl,hρ⟩
     have helem:∀i (hi:i<((xs.drop off).take len).length),∃ hx:off+i<xs.length,((xs.drop off).take len)[i]=xs[off+i]:=by
      intro i hi
      have hx:off+i<xs.length:=by omega
      exact⟨hx,by simp⟩
     refine .isl (fun i j=>(cur[base+(off+i)*sz+j]?).getD undef) Ec.symm Ed (Array.getElem?_eq_some_iff.1 g1).1 hnO (fun _=>hR.notX b hO) (fun i hi=>?_) (fun i j hi hj=>?_) (fun i hi j hj=>?_)
     ·obtain⟨hx,e⟩:=helem i hi
      rw[e];exact(g6 (off+i) hx).1
     ·obtain⟨hx,e⟩:=helem i hi
      obtain⟨a1,a2⟩:=g6 (off+i) hx
      obtain⟨u,b1,b2,b3⟩:=a2 j (by omega)
      have:base+off*sz+i*sz+j=base+(off+i)*sz+j:=by rw[Nat.add_mul];omega
      refine⟨?_,by rw[b1];exact b2⟩
      show c.w.cell? ⟨b,base+off*sz+i*sz+j,none⟩=_
      rw[kR g1,this,b1];rfl
     ·obtain⟨hx,e⟩:=helem i hi
      obtain⟨a1,a2⟩:=g6 (off+i) hx
      have wS:j<(aP sz xs[off+i]).length:=by rw[←e];exact hj
      obtain⟨u,b1,b2,b3⟩:=a2 j wS
      obtain⟨n,hn⟩:=W2 wS (by rw[←e];exact List.all_eq_true.1 hbel _ (List.getElem_mem hi))
      have hs:=VR.belowN b3 n hn
      rw[PE]at hs
      have h2:=hs.mono k2.toStill
      rw[b1]
      simp only[e]
      exact h2
   ·cases hf
  ·cases hf
 | _=>exact triv hv hf
theorem qU.trans{h h1 h2:aA}{c:Ctx}(a:qU h c h1)(b:qU h1 (c.next c.w c.ρ h1) h2):qU h c h2:=⟨b.1,a.2.trans b.2⟩
theorem Kk{f:aA→DV→Option (DV×aA)}(hf:∀{h:aA} {c:Ctx} {d d':DV} {v:Value} {h':aA},Rel h c→VR c d v→f h d=some (d',h')→qU h c h'∧VR (c.next c.w c.ρ h') d' v) :
  ∀{ds ds':List DV} {vs:List Value} {h h':aA} {c:Ctx},Rel h c→VRs c ds vs→vQ f h ds=some (ds',h')→qU h c h'∧VRs (c.next c.w c.ρ h') ds' vs:=by
 intro ds
 induction ds with
 | nil =>
  intro ds' vs h h' c hR hv he
  simp only[vQ]at he
  cases he
  exact⟨.refl hR,by rw[hR.same];exact hv⟩
 | cons d r ih =>
  intro ds' vs h h' c hR hv he
  simp only[vQ]at he
  split at he
  ·rename_i d1 h1 e1
   split at he
   ·rename_i r' h2 e2
    cases he
    cases vs with
    | nil=>have:=hv.1;simp at this
    | cons v vs =>
     obtain⟨k1,k2⟩:=hf hR (hv.2 0 (by simp) (by simp)) e1
     have hvr:VRs (c.next c.w c.ρ h1) r vs:=⟨by have:=hv.1;simp at this;exact this,fun i a b=>(hv.2 (i+1) (by simp;omega) (by simp;omega)).mono k1.2⟩
     obtain⟨k3,k4⟩:=ih k1.1 hvr e2
     refine⟨k1.trans k3,by simp[k4.1],fun i a b=>?_⟩
     cases i with
     | zero=>exact k2.mono k3.2
     | succ i=>exact k4.2 i (by simp at a;omega) (by simp at b;omega)
   ·cases he
  ·cases he
theorem Nx{h:aA}{c:Ctx}{d d':DV}{v:Value}{h':aA}(hR:Rel h c)(hv:VR c d v)(hf:jH h d=some (d',h')):qU h c h'∧VR (c.next c.w c.ρ h') d' v:=by
 cases d with
 | agg cs =>
  simp only[jH]at hf
  split at hf
  ·rename_i cs' h1 e1
   cases hf
   obtain⟨vs,rfl,hl,h1c,OB⟩:=hv.agg_inv
   obtain⟨k1,k2⟩:=Kk (fun a b c=>Di a b c) hR ⟨hl,OB⟩ e1
   exact⟨k1,.agg k2.1 h1c k2.2⟩
  ·cases hf
 | _=>rw[Le (by intro cs e;cases e)]at hf;exact Di hR hv hf
end Go.Dm
namespace Go.Dm
def OT:Ex→Exit
 | .normal=>.normal
 | .exit id=>.exit id
 | .ret=>.ret
structure X3(P:Program)(D:dA):Prop where
 mixed:P.follows .mixedOrders=true
 comp:∀f df,D.fn f=some df→∃ fn,P.funcs[f]?=some fn∧aE P fn df.mode=some df
 hooks:∀f hk,D.hook f=some hk→∀args h d h' c vals,hk h args=some (d,h')→Rel h c→VRs c args vals→Mt P f vals.toArray h c h' d
 keep:yZ D
section
variable {P:Program} {D:dA}
def Fo(P:Program)(D:dA)(n:Nat):Prop :=
 ∀code dc h c env a e cL h' Q,jK P code=some dc→eO D n dc env h=.ok e cL h'→Rel h c→eI c env a→(∀a' w',St c h' cL a' w'→Q (OT e) a' w')→code.wp P Q a c.w
def IM(P:Program)(D:dA)(n:Nat):Prop :=
 ∀code dc h c env a e cL h' Q,jK P code=some dc→eO D n (.loop dc) env h=.ok e cL h'→Rel h c→eI c env a→(∀a' w',St c h' cL a' w'→Q (OT e) a' w')→Code.rounds P code Q n a c.w
theorem Pf{c:Ctx}{args:List DV}{vals:List Value}(hv:VRs c args vals)(n:Nat) :
  eI c (args++List.replicate (n-args.length) cH) {tmps:=vals.toArray++Array.replicate (n-vals.toArray.size) Go.undef,defers:=[]}:=by
 have hl:=hv.1
 refine⟨by simp[hl],rfl,fun i hi=>?_⟩
 simp only[List.length_append,List.length_replicate]at hi
 by_cases h1:i<args.length
 ·have h2:i<vals.length:=by omega
  rw[List.getElem_append_left h1]
  have:=hv.2 i h1 h2
  simpa[Array.getElem?_append,h2]using this
 ·rw[List.getElem_append_right (by omega)]
  simp only[List.getElem_replicate]
  have h2:¬i<vals.length:=by omega
  have h3:i-vals.length<n-vals.length:=by omega
  have:(vals.toArray++Array.replicate (n-vals.toArray.size) Go.undef).getD i Go.undef=Go.undef:=by
   simp[Array.getElem?_append,h2,h3]
  rw[this]
  exact .undef
theorem sC{n : Nat}(hC : Fo P D n){fn : Func}{body : Code}{df : aQ}(hb : fn.body = some body)(Vb : jK P body = some df.body)(TU : fn.results.toList.mapM (Dt P) = some df.results)(hnt : df.ntmps = fn.ntmps)
    {f : Nat} (hf : P.funcs[f]? = some fn) {args : List DV} {vals : List Value} {h : aA} {c : Ctx} (hR : Rel h c) (hv : VRs c args vals) {d : DV} {h' : aA}
    (he : (match eO D n df.body (args ++ List.replicate (df.ntmps - args.length) cH) h with
          | .ok (.exit _) _ _ => none
          | .ok _ env h' => match aI h' env df.results with
            | some v => some (v, h')
            | none => none
          | .fail => none) = some (d, h')) : Calls P f vals.toArray c.w (yK h c h' d) := by
  have fin : ∀ e cL h1, e = Ex.normal ∨ e = Ex.ret → eO D n df.body (args ++ List.replicate (df.ntmps - args.length) cH) h = .ok e cL h1 → aI h1 cL df.results = some d → h1 = h' → Calls P f vals.toArray c.w (yK h c h' d) := by
    intro e cL h1 WH nL hres e1
    subst e1
    refine calls_of_wp hf hb (hC body df.body h c _ _ e cL h1 _ Vb nL hR (by have := Pf hv df.ntmps; rw[hnt]at this ⊢; exact this) fun a' w' dK => ?_)
    obtain⟨ρ', k1, k2, k3⟩ := dK
    obtain⟨v, r1, r2⟩ := Nj (P := P) (fn := fn) TU k1 k3 hres
    have : a'.defers = [] ∧ ∃ v, (results fn a'.tmps).run P w' = .ok v w' ∧ yK h c h1 d (.returned v) w' := ⟨k3.defers, v, r1, v, rfl, ρ', k1, k2, r2⟩
    rcases WH with rfl | rfl
    · exact this
    · exact this
  split at he
  · cases he
  · rename_i e cL h1 eG nL
    split at he
    · rename_i v hres
      cases he
      refine fin e cL _ ?_ nL hres rfl
      cases e with
      | normal => exact .inl rfl
      | exit id => exact absurd rfl (eG id)
      | ret => exact .inr rfl
    · cases he
  · cases he
theorem Zk(hk : yZ D){n : Nat}{df : aQ}{args : List DV}{h h' : aA}{d : DV}(hl : h.lim ≤ h.n)
    (he : (match eO D n df.body (args ++ List.replicate (df.ntmps - args.length) cH) h with
          | .ok (.exit _) _ _ => none
          | .ok _ env h' => match aI h' env df.results with
            | some v => some (v, h')
            | none => none
          | .fail => none) = some (d, h')) : fU h h' := by
  split at he
  · cases he
  · rename_i h2
    split at he
    · cases he; exact Lr hk n _ _ _ _ _ _ hl h2
    · cases he
  · cases he
theorem oP {f : FuncId} {fn : Func} {body : Code} (hf : P.funcs[f]? = some fn) (hb : fn.body = some body) (hn : fn.name ≠ "runtime.NumGoroutine") (vals : Array Value) (w : World) : (callFunc f vals).run P w = .ok (.enter f vals) w := by
 simp[callFunc,hf,hb,hn]
theorem Gl(G:X3 P D){n:Nat}(hC:Fo P D n):pT P (enter (eO D n) D):=by
 intro f args h d h' c vals he hR hv
 unfold enter at he
 split at he
 ·rename_i hk qM;exact G.hooks f hk qM args h d h' c vals he hR hv
 ·split at he
  ·cases he
  ·rename_i df hdf
   obtain⟨fn,hf,QL⟩:=G.comp f df hdf
   unfold aE at QL
   split at QL
   ·rename_i body hb
    split at QL
    ·rename_i b rs Vb TU
     split at QL
     ·rename_i Db
      refine .inr ⟨f,vals.toArray,oP hf hb Db _ _,?_⟩
      have hdfe:df={ntmps:=fn.ntmps,results:=rs,body:=b,mode:=df.mode}:=(Option.some.inj QL).symm
      have e1:df.body=b:=by rw[hdfe]
      have e2:df.results=rs:=by rw[hdfe]
      have e3:df.ntmps=fn.ntmps:=by rw[hdfe]
      simp only at he
      split at he
      ·exact sC hC hb (by rw[e1];exact Vb) (by rw[e2];exact TU) e3 hf hR hv he
      ·split at he
       ·rename_i v1 h1 S8
        cases he
        have:=sC hC hb (by rw[e1];exact Vb) (by rw[e2];exact TU) e3 hf (hR.setLim (Nat.le_refl _)) hv S8
        refine this.mono fun e w' hp=>?_
        obtain⟨v,e0,ρ',k1,k2,k3⟩:=hp
        have Kw:=Zk G.keep (Nat.le_refl _) S8
        exact⟨v,e0,ρ',k1.setLim (Nat.le_trans hR.lim Kw.n),k2,k3⟩
       ·cases he
      ·split at he
       ·rename_i ds Gg
        split at he
        ·rename_i v1 h1 S8
         split at he
         ·rename_i d1 rE
          split at he
          ·rename_i VX
           cases he
           have:=sC hC hb (by rw[e1];exact Vb) (by rw[e2];exact TU) e3 hf hR.lend (Gc hR Gg hv) S8
           refine this.mono fun e w' hp=>?_
           obtain⟨v,e0,ρ',k1,k2,k3⟩:=hp
           exact⟨v,e0,Xs hR k1 k2 k3 rE VX⟩
          ·cases he
         ·cases he
        ·cases he
       ·cases he
      ·split at he
       ·rename_i id sz off len rest
        split at he
        ·rename_i ety eQ xs hgid
         split at he
         ·rename_i dT
          obtain⟨hcond1,hcond2⟩:=dT
          subst hcond1
          split at he
          ·rename_i l hl
           split at he
           ·rename_i lD
            cases he
            have hv0:∃ v0 vr,vals=v0::vr:=by
             cases vals with
             | nil=>have:=hv.1;simp at this
             | cons v0 vr=>exact⟨v0,vr,rfl⟩
            obtain⟨v0,vr,rfl⟩:=hv0
            have hvh:VR c (.sl id sz off len) v0:=hv.2 0 (by simp) (by simp)
            obtain⟨e,cap,ρ1,hcase,k1,k2,k3⟩:=LB hR hgid hvh ((rest.map wU).foldl (·+·) 0)
            have hscn:nG h ety sz (match eO D n df.body ((.sl h.n sz off len::rest)++List.replicate (df.ntmps-(DV.sl h.n sz off len::rest).length) cH) {(h.set id .dead).push (.arr ety sz (xs++List.replicate e .unk) cap)with lim:=h.n} with
              | .ok (.exit _) _ _=>none
              | .ok _ env h'=>match aI h' env df.results with
               | some v=>some (v,h')
               | none=>none
              | .fail=>none)=some l:=by
             rcases hcase with⟨rfl,rfl⟩|⟨bD,rfl⟩
             ·exact hl
             ·have:=List.all_eq_true.1 lD e (List.mem_range.2 bD)
              split at this
              ·rename_i l' Kv
               rw[Wx this];exact Kv
              ·cases this
            have S8:∃ r hj,(match eO D n df.body ((.sl h.n sz off len::rest)++List.replicate (df.ntmps-(DV.sl h.n sz off len::rest).length) cH) {(h.set id .dead).push (.arr ety sz (xs++List.replicate e .unk) cap)with lim:=h.n} with
              | .ok (.exit _) _ _=>none
              | .ok _ env h'=>match aI h' env df.results with
               | some v=>some (v,h')
               | none=>none
              | .fail=>none)=some (r,hj):=by
             cases hx:(match eO D n df.body ((.sl h.n sz off len::rest)++List.replicate (df.ntmps-(DV.sl h.n sz off len::rest).length) cH) {(h.set id .dead).push (.arr ety sz (xs++List.replicate e .unk) cap)with lim:=h.n} with
              | .ok (.exit _) _ _=>none
              | .ok _ env h'=>match aI h' env df.results with
               | some v=>some (v,h')
               | none=>none
              | .fail=>none)with
             | none=>rw[hx]at hscn;cases hscn
             | some p=>exact⟨p.1,p.2,rfl⟩
            obtain⟨r,hj,S8⟩:=S8
            rw[S8]at hscn
            have aM:h.n≤((h.set id .dead).push (.arr ety sz (xs++List.replicate e .unk) cap)).n:=Nat.le_succ _
            have OB:VRs (c.next c.w ρ1 ((h.set id .dead).push (.arr ety sz (xs++List.replicate e .unk) cap))) (.sl h.n sz off len::rest) (v0::vr):=by
             refine⟨hv.1,fun i h1 h2=>?_⟩
             cases i with
             | zero=>exact k3
             | succ i=>exact(hv.2 (i+1) h1 h2).mono k2
            have nQ:=sC hC hb (by rw[e1];exact Vb) (by rw[e2];exact TU) e3 hf (k1.setLim aM) OB S8
            have hkp:=Zk G.keep aM S8
            refine nQ.mono fun e w' hp=>?_
            obtain⟨v,e0,ρj,q1,q2,q3⟩:=hp
            refine⟨v,e0,EB hR hgid q1 (k2.trans q2) (fun i hi=>?_) hscn q3⟩
            have:=hkp.get i hi
            rw[this]
            exact gT hi
           ·cases he
          ·cases he
         ·cases he
        ·exact sC hC hb (by rw[e1];exact Vb) (by rw[e2];exact TU) e3 hf hR hv he
       ·exact sC hC hb (by rw[e1];exact Vb) (by rw[e2];exact TU) e3 hf hR hv he
      ·split at he
       ·rename_i as h1 ea
        obtain⟨kF,kV⟩:=Kk (fun a b c=>Nx a b c) hR hv ea
        split at he
        ·rename_i ds Gg
         split at he
         ·rename_i v1 h2 S8
          split at he
          ·rename_i d1 rE
           split at he
           ·rename_i VX
            cases he
            have:=sC hC hb (by rw[e1];exact Vb) (by rw[e2];exact TU) e3 hf kF.1.lend (Gc kF.1 Gg kV) S8
            refine this.mono fun e w' hp=>?_
            obtain⟨v,e0,ρ',k1,k2,k3⟩:=hp
            obtain⟨ρ2,p1,p2,p3⟩:=Xs kF.1 k1 k2 k3 rE VX
            exact⟨v,e0,ρ2,p1,kF.2.trans p2,p3⟩
           ·cases he
          ·cases he
         ·cases he
        ·cases he
       ·cases he
     ·cases QL
    ·cases QL
   ·cases QL
theorem Mh(G:X3 P D):∀n,Fo P D n∧IM P D n:=by
 intro n
 induction n with
 | zero =>
  refine⟨fun code dc h c env a e cL h' Q _ he=>?_,fun code dc h c env a e cL h' Q _ he=>?_⟩
  ·cases he
  ·cases he
 | succ n ih =>
  obtain⟨iC,iL⟩:=ih
  have nQ:=Gl G iC
  have Kw:=xV (run:=eO D n) G.keep (Lr G.keep n)
  refine⟨?_,?_⟩
  ·intro code dc h c env a e cL h' Q zH he hR hE hQ
   unfold jK at zH
   split at zH
   ·cases zH
    simp only[eO]at he
    cases he
    exact wp_skip (hQ _ _ ⟨c.ρ,by rw[hR.same];exact⟨hR,.refl c,hE⟩⟩)
   ·rename_i x y
    split at zH
    ·rename_i _ _ dx dy hx hy
     cases zH
     simp only[eO]at he
     refine wp_seq ?_
     split at he
     ·rename_i env1 h1 h2
      refine iC x dx h c env a .normal env1 h1 _ hx h2 hR hE fun a' w' dK=>?_
      obtain⟨ρ',k1,k2,k3⟩:=dK
      show y.wp P Q a' w'
      exact iC y dy h1 (c.next w' ρ' h1) env1 a' e cL h' Q hy he k1 k3 fun a2 w2 Kr=>hQ _ _ (Kr.trans k2)
     ·rename_i eG
      refine iC x dx h c env a e cL h' _ hx he hR hE fun a' w' dK=>?_
      have:=hQ a' w' dK
      cases e with
      | normal=>exact absurd he (eG cL h')
      | exit id=>exact this
      | ret=>exact this
    ·cases zH
   ·rename_i cd x y
    split at zH
    ·rename_i _ _ _ cd' dx dy h1 h2 h3
     cases zH
     simp only[eO]at he
     have hv:=cI h1 hE
     split at he
     ·rename_i OI
      rw[OI]at hv
      exact wp_cond_true hv.bool_inv (iC x dx h c env a e cL h' Q h2 he hR hE hQ)
     ·rename_i OI
      rw[OI]at hv
      exact wp_cond_false hv.bool_inv (iC y dy h c env a e cL h' Q h3 he hR hE hQ)
     ·cases he
    ·cases zH
   ·rename_i id b
    split at zH
    ·rename_i _ db hb
     cases zH
     simp only[eO]at he
     refine wp_block ?_
     split at he
     ·rename_i id' env1 h1 h2
      split at he
      ·rename_i fS
       cases he
       exact iC b db h c env a (.exit id') _ _ _ hb h2 hR hE fun a' w' dK=>by
        show Exit.inBlock id Q (.exit id') a' w'
        simp only[Exit.inBlock,fS,if_true]
        exact hQ a' w' dK
      ·rename_i fS
       cases he
       exact iC b db h c env a (.exit id') _ _ _ hb h2 hR hE fun a' w' dK=>by
        show Exit.inBlock id Q (.exit id') a' w'
        simp only[Exit.inBlock,fS,if_false]
        exact hQ a' w' dK
     ·rename_i eG
      refine iC b db h c env a e cL h' _ hb he hR hE fun a' w' dK=>?_
      have:=hQ a' w' dK
      cases e with
      | normal=>exact this
      | exit id'=>exact absurd he (eG id' cL h')
      | ret=>exact this
    ·cases zH
   ·rename_i b
    split at zH
    ·rename_i _ db hb
     cases zH
     refine wp_loop_rounds (n+1) ?_
     rw[rounds_succ]
     simp only[eO]at he
     split at he
     ·rename_i env1 h1 h2
      refine iC b db h c env a .normal env1 h1 _ hb h2 hR hE fun a' w' dK=>?_
      obtain⟨ρ',k1,k2,k3⟩:=dK
      show Code.rounds P b Q n a' w'
      exact iL b db h1 (c.next w' ρ' h1) env1 a' e cL h' Q hb he k1 k3 fun a2 w2 Kr=>hQ _ _ (Kr.trans k2)
     ·rename_i eG
      refine iC b db h c env a e cL h' _ hb he hR hE fun a' w' dK=>?_
      have:=hQ a' w' dK
      cases e with
      | normal=>exact absurd he (eG cL h')
      | exit id=>exact this
      | ret=>exact this
    ·cases zH
   ·cases zH
    simp only[eO]at he
    cases he
    exact wp_exit (hQ _ _ ⟨c.ρ,by rw[hR.same];exact⟨hR,.refl c,hE⟩⟩)
   ·cases zH
    simp only[eO]at he
    cases he
    exact wp_ret (hQ _ _ ⟨c.ρ,by rw[hR.same];exact⟨hR,.refl c,hE⟩⟩)
   ·rename_i id ops draw
    cases draw with
    | false =>
     simp only[sE,Bool.false_eq_true,if_false]at zH
     split at zH
     ·rename_i ds Gg
      cases zH
      simp only[eO]at he
      split at he
      ·rename_i env1 h1 nL
       cases he
       exact wp_region_list (by
        have:=FI nQ (ops:=ops.toList) (Q:=Q) ops.toList ds h c env a _ _ Gg nL hR hE hQ
        simpa using this)
      ·cases he
     ·cases zH
    | true =>
     have hdc:∃ ds,dc=.draw ds:=by
      obtain⟨cV,bs,e,_⟩:=yA zH
      exact⟨_,e⟩
     obtain⟨ds,rfl⟩:=hdc
     simp only[eO]at he
     split at he
     ·rename_i env1 h1 nL
      cases he
      exact V0 G.mixed zH Kw nQ nL hR hE hQ
     ·cases he
   ·cases zH
  ·intro code dc h c env a e cL h' Q zH he hR hE hQ
   rw[rounds_succ]
   simp only[eO]at he
   split at he
   ·rename_i env1 h1 h2
    refine iC code dc h c env a .normal env1 h1 _ zH h2 hR hE fun a' w' dK=>?_
    obtain⟨ρ',k1,k2,k3⟩:=dK
    show Code.rounds P code Q n a' w'
    exact iL code dc h1 (c.next w' ρ' h1) env1 a' e cL h' Q zH he k1 k3 fun a2 w2 Kr=>hQ _ _ (Kr.trans k2)
   ·rename_i eG
    refine iC code dc h c env a e cL h' _ zH he hR hE fun a' w' dK=>?_
    have:=hQ a' w' dK
    cases e with
    | normal=>exact absurd he (eG cL h')
    | exit id=>exact this
    | ret=>exact this
theorem V8(G:X3 P D)(n:Nat):pT P (C2 D n):=Gl G (Mh G n).1
end
end Go.Dm
namespace Go.Dm
open Go.RowKit
def pQ:aA:={objs:=[],n:=0,lim:=0}
def V1(w:World)(τ:Nat→Value:=fun _=>undef):Ctx:=⟨w,fun _=>none,fun _=>False,fun _=>False,fun _=>False,τ⟩
theorem Ff(id:Nat):pQ.get id=none:=by simp[aA.get,pQ]
def X2(w:World):Prop:=∀b v,BM=some (b,v)→b<w.heap.size∧w.cell? ⟨b,0,none⟩=some v
theorem rel0(w:World)(hg:X2 w)(τ:Nat→Value:=fun _=>undef):Rel pQ (V1 w τ) :=
 ⟨rfl,Nat.le_refl _,fun id h=>absurd rfl h,fun id o h=>(by rw[Ff]at h;cases h),fun i j oi oj b x y hi=>(by rw[Ff]at hi;cases hi),fun b=>⟨fun h=>h.elim,fun h=>by
  rcases h with⟨id,o,x,hg,_⟩|h
  ·rw[Ff]at hg;cases hg
  ·exact h.elim⟩,fun b h=>h.elim,fun b h=>h.elim,fun b h=>h.elim,fun b v hv=>⟨(hg b v hv).1,fun h=>h,(hg b v hv).2⟩⟩
theorem Zj{w:World}{τ:Nat→Value}{c:Ctx}(h:cS (V1 w τ) c):Grown w c.w:=by
 refine⟨⟨h.quiet.os,h.quiet.out,fun i hi=>?_⟩,h.quiet.froz,h.size⟩
 have:=(World.keptBut_refl w (fun _=>False)).2.2 i hi
 rw[h.frame i hi (fun h=>h)]
 exact this
def Mq(P:Program)(tab:List (Nat×aQ)):Prop:=∀x,x∈tab→∃ fn,P.funcs[x.1]?=some fn∧aE P fn x.2.mode=some x.2
theorem Mq.nil{P:Program}:Mq P []:=fun x hx=>by cases hx
theorem Mq.cons{P:Program}{f:Nat}{df:aQ}{fn:Func}{tab:List (Nat×aQ)}(h1:P.funcs[f]?=some fn)(h2:aE P fn df.mode=some df)(h:Mq P tab):Mq P ((f,df)::tab):=fun x hx=>by
 rcases List.mem_cons.1 hx with rfl|hx
 ·exact⟨fn,h1,h2⟩
 ·exact h x hx
def AV:List (Nat×aQ)→Nat→Option aQ
 | [],_=>none
 | (k,d)::r,f=>if Nat.beq k f then some d else AV r f
theorem GB{tab:List (Nat×aQ)}{f:Nat}{d:aQ}(h:AV tab f=some d):(f,d)∈tab:=by
 induction tab with
 | nil=>cases h
 | cons x r ih =>
  obtain⟨k,d'⟩:=x
  simp only[AV]at h
  split at h
  ·rename_i he
   cases h
   rw[Nat.eq_of_beq_eq_true he]
   exact List.mem_cons_self ..
  ·exact List.mem_cons_of_mem _ (ih h)
end Go.Dm
namespace Go.Dm
def Bu(P:Program)(f:Nat)(hk:wQ):Prop :=
 (∀args h d h' c vals,hk h args=some (d,h')→Rel h c→VRs c args vals→Mt P f vals.toArray h c h' d)∧∀h args v h',h.lim≤h.n→hk h args=some (v,h')→fU h h'
def eD:wQ:=fun h args =>
 match args with
 | [.sl i1 s1 _ _,.sl i2 s2 _ _] =>
  match h.get i1,h.get i2 with
  | some (.arr _ z1 _ _),some (.arr _ z2 xs _)=>if i1≠i2∧s1=z1∧s2=z2∧xs.length≠0 then some (.bool false,h)else none
  | _,_=>none
 | _=>none
theorem sX {P : Program} {f : Nat} {fn : Func} {tS tR e : TypeId} (hf : P.funcs[f]? = some fn) (Db : (fn.name == "runtime.NumGoroutine") = false) (hb : fn.body.isNone = true) (hn : Extern.findNext fn = none)
  (he:Extern.find fn=some (Extern.SlicesOverlaps.overlaps #[tS,tS] #[tR])) (ht:P.underlying tS=some (.slice e)) (hi:(P.info? e).isSome=true):Bu P f eD:=by
 obtain⟨i,hi⟩:=Option.isSome_iff_exists.1 hi
 refine⟨fun args h d h' c vals hs hR hv=>?_,fun h args v h' _ hs=>?_⟩
 ·unfold eD at hs
  split at hs
  ·rename_i i1 s1 o1 l1 i2 s2 o2 l2
   split at hs
   ·rename_i e1 z1 x1 c1 e2 z2 x2 c2 g1 g2
    split at hs
    ·rename_i dT
     obtain⟨eG,hs1,hs2,hx⟩:=dT
     cases hs
     have hl:=hv.1
     obtain⟨v1,v2,rfl⟩:∃ v1 v2,vals=[v1,v2]:=by
      cases vals with
      | nil=>simp at hl
      | cons a r=>cases r with
       | nil=>simp at hl
       | cons b r=>cases r with
        | nil=>exact⟨a,b,rfl⟩
        | cons c r=>simp at hl
     have w1:VR c (.sl i1 s1 o1 l1) v1:=hv.2 0 (by simp) (by simp)
     have w2:VR c (.sl i2 s2 o2 l2) v2:=hv.2 1 (by simp) (by simp)
     obtain⟨b1,base1,cap1,co1,n1,ty1,e1',r1,_⟩:=w1.sl_inv
     obtain⟨b2,base2,cap2,co2,n2,ty2,e2',r2,_⟩:=w2.sl_inv
     obtain⟨cur1,m1,p1,p2,p3,p4,p5,p6⟩:=hR.arr g1 r1
     obtain⟨cur2,m2,q1,q2,q3,q4,q5,q6⟩:=hR.arr g2 r2
     have hbne:b1≠b2:=fun eb=>eG (hR.inj i1 i2 _ _ b1 base1 base2 g1 g2 rfl rfl r1 (eb ▸ r2))
     have tC:∀a:Addr,a.block=b1→c.w.frozen? a=false:=fun a ha=>qI (ob:=.cells cur1 e1 (0,0)) (by rw[ha];exact p1) rfl
     refine .inl ⟨.bool false,c.w,?_,pS.pure hR (.bool false)⟩
     rw[run_callFunc_extern hf Db hb hn he]
     have nL:=Lib.run_overlaps_apart (P:=P) c.w tS tR e ht i.size (fun w=>by simp[sizeOf,typeInfo,hi]) ⟨b1,co1,none⟩ ⟨b2,co2,none⟩ l1 cap1 l2 cap2 hbne e1 e2 cur1.size cur2.size (eR p1) (eR q1)
      (by
       have:0<m2*z2:=Nat.mul_pos (by omega) q2
       omega) (tC _ rfl) (tC _ rfl)
     rw[e1',e2',nL]
     rfl
    ·cases hs
   ·cases hs
  ·cases hs
 ·unfold eD at hs
  split at hs
  ·split at hs
   ·split at hs
    ·cases hs;exact .refl _
    ·cases hs
   ·cases hs
  ·cases hs
def wI(P:Program)(hooks:List (Nat×wQ)):Prop:=∀x,x∈hooks→Bu P x.1 x.2
theorem wI.nil{P:Program}:wI P []:=fun x hx=>by cases hx
theorem wI.cons{P:Program}{f:Nat}{hk:wQ}{hooks:List (Nat×wQ)}(h1:Bu P f hk)(h:wI P hooks):wI P ((f,hk)::hooks):=fun x hx=>by
 rcases List.mem_cons.1 hx with rfl|hx
 ·exact h1
 ·exact h x hx
def AW:List (Nat×wQ)→Nat→Option wQ
 | [],_=>none
 | (k,d)::r,f=>if Nat.beq k f then some d else AW r f
theorem Ox{hooks:List (Nat×wQ)}{f:Nat}{d:wQ}(h:AW hooks f=some d):(f,d)∈hooks:=by
 induction hooks with
 | nil=>cases h
 | cons x r ih =>
  obtain⟨k,d'⟩:=x
  simp only[AW]at h
  split at h
  ·rename_i he
   cases h
   rw[Nat.eq_of_beq_eq_true he]
   exact List.mem_cons_self ..
  ·exact List.mem_cons_of_mem _ (ih h)
def BE(tab:List (Nat×aQ))(hooks:List (Nat×wQ)):dA:={fn:=AV tab,hook:=AW hooks}
theorem Ts{P:Program}{tab:List (Nat×aQ)}{hooks:List (Nat×wQ)}(hm:P.follows .mixedOrders=true)(ht:Mq P tab)(hh:wI P hooks):X3 P (BE tab hooks) where
 mixed:=hm
 comp:=fun f df h=>ht (f,df) (GB h)
 hooks:=fun f hk h=>(hh (f,hk) (Ox h)).1
 keep:=fun f hk h=>(hh (f,hk) (Ox h)).2
end Go.Dm
namespace Go.Dm
def nR:wQ:=fun h args =>
 match args with
 | [.str a,.str b]=>some (.int .i64 (Go.Lib.compareBytes a b),h)
 | _=>none
theorem V6 {P : Program} {f : Nat} {fn : Func} (hf : P.funcs[f]? = some fn) (Db : (fn.name == "runtime.NumGoroutine") = false) (hb : fn.body.isNone = true) (hn : Extern.findNext fn = none)
  (he:Extern.find fn=some Extern.BytealgCompare.compare):Bu P f nR:=by
 refine⟨fun args h d h' c vals hs hR hv=>?_,fun h args v h' _ hs=>?_⟩
 ·unfold nR at hs
  split at hs
  ·rename_i a b
   cases hs
   have hl:=hv.1
   obtain⟨v1,v2,rfl⟩:∃ v1 v2,vals=[v1,v2]:=by
    cases vals with
    | nil=>simp at hl
    | cons a r=>cases r with
     | nil=>simp at hl
     | cons b r=>cases r with
      | nil=>exact⟨a,b,rfl⟩
      | cons c r=>simp at hl
   have w1:VR c (.str a) v1:=hv.2 0 (by simp) (by simp)
   have w2:VR c (.str b) v2:=hv.2 1 (by simp) (by simp)
   have e1:=w1.str_inv
   have e2:=w2.str_inv
   subst e1
   subst e2
   refine .inl ⟨.int .i64 (Go.Lib.compareBytes a b),c.w,?_,pS.pure hR (.int .i64 _)⟩
   rw[run_callFunc_extern hf Db hb hn he]
   have nL:=Lib.run_compareString (P:=P) ⟨a.toArray⟩ ⟨b.toArray⟩ c.w
   simp only at nL
   rw[nL]
   rfl
  ·cases hs
 ·unfold nR at hs
  split at hs
  ·cases hs;exact .refl _
  ·cases hs
end Go.Dm
namespace Go.Dm
def dN(ety sz bytes:Nat):wQ:=fun h args =>
 match args with
 | [v]=>match elems h sz v with
  | some ys =>
   if ys.isEmpty then some (.nsl,h.push .dead)
   else if ys.length*bytes≤140737488355328∧ys.length≤9223372036854775807 then some (.sl (h.n+1) sz 0 ys.length,(h.push (.arr ety sz [] (some 0))).push (.arr ety sz ys none))
   else none
  | none=>none
 | _=>none
def AeF:dA:={fn:=fun _=>none,hook:=fun _=>none}
theorem Q0{P:Program}(hm:P.follows .mixedOrders=true):X3 P AeF where
 mixed:=hm
 comp:=fun f df h=>by cases h
 hooks:=fun f hk h=>by cases h
 keep:=fun f hk h=>by cases h
theorem U2{h:aA}{o:DO}{sz:Nat}{v:DV}{ys:List DV}(he:elems h sz v=some ys):elems (h.push o) sz v=some ys:=by
 unfold elems at he ⊢
 split at he
 ·exact he
 ·exact he
 ·split at he
  ·rename_i hg
   rw[gT (iD hg),hg]
   exact he
  ·cases he
 ·cases he
theorem Rel.pushDead{h:aA}{c:Ctx}(hR:Rel h c):∃ ρ',Rel (h.push .dead) (c.next c.w ρ' (h.push .dead))∧cS c (c.next c.w ρ' (h.push .dead)):=by
 obtain⟨k1,k2⟩:=hR.push .dead c.w c.w.heap.size 0 (Nat.le_refl _) (Nat.le_refl _) (fun _ _=>rfl) (.refl _) (fun _=>trivial)
 exact⟨_,k1,k2⟩
theorem FC{h:aA}{o:DO}:(h.push o).set h.n .dead=h.push .dead:=by
 simp[aA.push,aA.set]
theorem Sh{P:Program}{t e:TypeId}(hu:P.underlying t=some (.slice e))(ad:Option Addr)(n cap:Nat)(k:Nat)(w:World) :
  (Op.equalIn (k+1) t (.slice ad n cap) (.slice none 0 0)).run P w=.ok ad.isNone w:=by
 cases ad<;>simp[Op.equalIn,run_underlying hu]
theorem Xe{P:Program}{t e:TypeId}(hu:P.underlying t=some (.slice e))(ad:Option Addr)(n cap:Nat)(w:World) :
  (Op.equal t (.slice ad n cap) (.slice none 0 0)).run P w=.ok ad.isNone w:=Sh hu ad n cap 9999 w
structure rO(P:Program)(fn:Func)(ety sz bytes:Nat)(z:DV) where
 (r0 r1 r2 r3:Nat) (os0 os2 os3:Array Oper) (o2 o3:Oper) (t u:TypeId) (e:TypeId)
 body:fn.body=some (.seq (.region r0 os0 false) (.seq (.seq (.region r1 #[o2,o3] false) (.cond (.tmp 4) (.seq (.region r2 os2 false) .ret) .skip)) (.seq (.region r3 os3 false) .ret)))
 hA:jK P (.region r0 os0 false)=some (.region [⟨some 2,.move (.c .nsl),none,.write,0,false⟩])
 h2:sF P [o2,o3] .write 0 o2=some ⟨some 3,.move (.t 0),none,.write,0,false⟩
 h3:o3.op=.binOp .eql t (.tmp 3) (.const (.slice none 0 0)) u
 h3d:o3.dst=some 4
 h3g:o3.guard.isNone=true
 hu:P.underlying t=some (.slice e)
 hC:jK P (.seq (.region r2 os2 false) .ret)=some (.seq (.region [⟨some 2,.move (.c .nsl),none,.write,0,false⟩]) .ret)
 hD:jK P (.seq (.region r3 os3 false) .ret)=some (.seq (.region [⟨some 5,.buildSlice ety sz z 0 [],none,.write,0,false⟩,⟨some 6,.move (.t 0),none,.write,0,false⟩,⟨some 7,.append ety sz bytes (.t 5) (.t 6),none,.write,0,false⟩,⟨some 2,.move (.t 7),none,.write,0,false⟩]) .ret)
 nt:fn.ntmps=8
 rs:fn.results=#[.tmp 2]
theorem yB {P : Program} {f : Nat} {fn : Func} {ety sz bytes : Nat} {z : DV} (hm : P.follows .mixedOrders = true) (hf : P.funcs[f]? = some fn) (Db : (fn.name == "runtime.NumGoroutine") = false) (T : rO P fn ety sz bytes z) :
  Bu P f (dN ety sz bytes):=by
 refine⟨fun args h d h' c vals hs hR hv=>?_,fun h args v h' hl hs=>?_⟩
 ·unfold dN at hs
  split at hs
  ·rename_i x
   split at hs
   ·rename_i ys Nt
    obtain⟨v,rfl⟩:∃ v,vals=[v]:=by
     have:=hv.1
     cases vals with
     | nil=>simp at this
     | cons a r=>cases r with
      | nil=>exact⟨a,rfl⟩
      | cons b r=>simp at this
    have fD:VR c x v:=hv.2 0 (by simp) (by simp)
    obtain⟨ad,cap,news,e1,e2,e3,e4,e5⟩:=qF hR Nt fD
    have Hy:=(Mh (Q0 hm) 3).1
    have hname' : fn.name ≠ "runtime.NumGoroutine" := by simpa using Db
    refine .inr ⟨f,#[v],oP hf T.body hname' _ _,?_⟩
    refine calls_of_wp hf T.body ?_
    have hE0:eI c [x,cH,cH,cH,cH,cH,cH,cH] {tmps:=#[v]++Array.replicate (fn.ntmps-1) Go.undef,defers:=[]}:=by
     have:=Pf hv 8
     rw[T.nt]
     exact this
    have hend:∀(cL:Env) (h1:aA) (a':Act) (w':World),St c h1 cL a' w'→∀d1,cL[2]?=some d1→(∀ρ' u,Rel h1 (c.next w' ρ' h1)→cS c (c.next w' ρ' h1)→VR (c.next w' ρ' h1) d1 u→pS h c h' w' d u) →
      (a'.defers=[]∧∃ u,(results fn a'.tmps).run P w'=.ok u w'∧yK h c h' d (.returned u) w'):=by
     intro cL h1 a' w' dK d1 rE Cx
     obtain⟨ρ',k1,k2,k3⟩:=dK
     obtain⟨bD,xP⟩:=List.getElem?_eq_some_iff.1 rE
     have hvr:=k3.val 2 bD
     rw[xP]at hvr
     refine⟨k3.defers,a'.tmps.getD 2 Go.undef,?_,_,rfl,Cx ρ' _ k1 k2 hvr⟩
     rw[Jv,T.rs]
     simp[xD]
    refine wp_seq ?_
    refine Hy _ _ h c _ _ .normal ([x,cH,.nsl,cH,cH,cH,cH,cH]) h _ T.hA rfl hR hE0 fun a1 w1 hst1=>?_
    obtain⟨ρ1,k1,k2,k3⟩:=hst1
    show Code.wp P _ _ a1 w1
    refine wp_seq ?_
    refine wp_seq ?_
    refine wp_region_list ?_
    refine wpList_step fun K hK=>?_
    obtain⟨c1,c2,c3,_,_⟩:=wC T.h2
    have ks1:Rel h (c.next w1 ρ1 h):=k1
    rw[if_pos (by
     have:=qX (ops:=[T.o2,T.o3]) (c:=c.next w1 ρ1 h) (b:=true) c2 k3 rfl
     exact this)]
    refine uB (P:=P) (call:=fun _ _ _=>none) (fun f args h d h' c vals hc=>by cases hc) c1 ks1 k3 (r:=x) (h':=h) (by rfl) K _ fun u2 w2 WA=>?_
    obtain⟨ρ2,q1,q2,q3⟩:=WA
    rw[Ot]at q1 q2 q3
    refine hK _ _ ?_
    have c3':T.o2.dst=some 3:=c3.symm
    have hE2:eI (c.next w2 ρ2 h) [x,cH,.nsl,x,cH,cH,cH,cH] (a1.put T.o2.dst u2):=by
     rw[c3']
     exact(k3.mono q2).put q3 (some 3)
    refine wpList_step fun K2 hK2=>?_
    rw[if_pos (by
     have:=T.h3g
     have:T.o3.guard=none:=by simpa using this
     simp[Region.wanted,this])]
    have hx3:(a1.put T.o2.dst u2).eval (.tmp 3)=u2:=by
     have fX:3<a1.tmps.size:=by rw[k3.size];simp
     rw[c3']
     simp[Act.eval,Act.put,fX]
    obtain⟨ad2,cap2,news2,f1,f2,f3,f4,f5⟩:=qF q1 Nt q3
    have WH:(execOp (a1.put T.o2.dst u2).eval T.o3).run P w2=.ok (.value (.bool ad2.isNone)) w2:=by
     have hc4:(a1.put T.o2.dst u2).eval (.const (.slice none 0 0))=.slice none 0 0:=rfl
     have hg:(eqGuard .eql T.t (.tmp 3) (.const (.slice none 0 0)) (.slice ad2 ys.length cap2) (.slice none 0 0)).run P w2=.ok () w2:=by
      unfold eqGuard;simp
     have hb:(binOp .eql T.t (.slice ad2 ys.length cap2) (.slice none 0 0)).run P w2=.ok (.bool ad2.isNone) w2:=by
      simp[binOp,Xe T.hu]
     simp[execOp,T.h3,hx3.trans f1,hc4,hg,hb]
    have ho3:VM P T.o3 (a1.put T.o2.dst u2) h (c.next w2 ρ2 h) h (.bool ad2.isNone):=by
     intro K Q hK
     unfold Oper.wp
     rw[show(c.next w2 ρ2 h).w=w2 from rfl,WH]
     exact hK _ w2 (pS.pure q1 (.bool _))
    refine ho3 K2 _ fun u3 w3 hp3=>?_
    obtain⟨ρ3,p1,p2,p3⟩:=hp3
    rw[Ot]at p1 p2 p3
    refine hK2 _ _ ?_
    have hE3:eI (c.next w3 ρ3 h) [x,cH,.nsl,x,.bool ad2.isNone,cH,cH,cH] ((a1.put T.o2.dst u2).put T.o3.dst u3):=by
     rw[T.h3d]
     exact(hE2.mono p2).put p3 (some 4)
    have Ku:cS c (c.next w3 ρ3 h):=(k2.trans q2).trans p2
    have ht4:((a1.put T.o2.dst u2).put T.o3.dst u3).eval (.tmp 4)=.bool ad2.isNone:=by
     have:=hE3.val 4 (by simp)
     have:=this.bool_inv
     simpa[Act.eval]using this
    refine wpList_nil ?_
    show Code.wp P _ _ _ w3
    cases had:ad2 with
    | none =>
     rw[had]at ht4
     refine wp_cond_true ht4 ?_
     refine Hy _ _ h (c.next w3 ρ3 h) _ _ .ret ([x,cH,.nsl,x,.bool ad2.isNone,cH,cH,cH]) h _ T.hC (by rfl) p1 hE3 fun a4 w4 hst4=>?_
     have hst4':St c h [x,cH,.nsl,x,.bool ad2.isNone,cH,cH,cH] a4 w4:=hst4.trans Ku
     have hy:ys=[]:=f4 had
     rw[if_pos (by rw[hy];rfl)]at hs
     cases hs
     refine hend _ h a4 w4 hst4' .nsl rfl fun ρ' u g1 g2 g3=>?_
     obtain⟨ρ'',m1,m2⟩:=g1.pushDead
     exact⟨ρ'',m1,g2.trans m2,g3.mono m2⟩
    | some adr =>
     rw[had]at ht4
     refine wp_cond_false ht4 ?_
     refine wp_skip ?_
     show Code.wp P _ _ _ w3
     have lC:=U2 (o:=.arr ety sz [] (some 0)) Nt
     by_cases hy:ys.isEmpty=true
     ·rw[if_pos hy]at hs
      cases hs
      have hyn:ys=[]:=by simpa using hy
      refine Hy _ _ h (c.next w3 ρ3 h) _ _ .ret ([x,cH,.sl h.n sz 0 0,x,.bool ad2.isNone,.sl h.n sz 0 0,x,.sl h.n sz 0 0]) (h.push (.arr ety sz [] (some 0))) _ T.hD
       (by simp[eO,iY,jV,cG,aK,Opd.eval,Dm.put,eB,lC,aY,hyn]) p1 hE3 fun a4 w4 hst4=>?_
      have hst4':=hst4.trans Ku
      refine hend _ _ a4 w4 hst4' (.sl h.n sz 0 0) rfl fun ρ' u g1 g2 g3=>?_
      obtain⟨b,base,iO,kB,nn,oY,rfl,hρ,fL,Eb,Ed,Kz⟩:=g3.sl_inv
      have hgn:(h.push (.arr ety sz [] (some 0))).get h.n=some (.arr ety sz [] (some 0)):=cR
      obtain⟨cur,m,g4,g5,g6,g7,g8,g9⟩:=g1.arr hgn hρ
      rw[eR g4]at fL
      cases fL
      have BI:m=0:=by have:=(g8 0 rfl).1;omega
      have kO:iO=0:=by
       have:iO*sz=0:=by rw[BI]at g6;omega
       rcases Nat.mul_eq_zero.1 this with e|e
       ·exact e
       ·omega
      subst kO
      obtain⟨m1,m2⟩:=g1.kill hgn
      rw[FC]at m1 m2
      exact⟨ρ',m1,g2.trans m2,.nsl _⟩
     ·rw[if_neg hy]at hs
      split at hs
      ·rename_i hb
       cases hs
       have hyp:¬ys.length=0:=fun e=>hy (by simpa using List.eq_nil_of_length_eq_zero e)
       have hyf:ys.isEmpty=false:=by simpa using hy
       have hgn:(h.push (.arr ety sz [] (some 0))).get h.n=some (.arr ety sz [] (some 0)):=cR
       refine Hy _ _ h (c.next w3 ρ3 h) _ _ .ret ([x,cH,.sl (h.n+1) sz 0 ys.length,x,.bool ad2.isNone,.sl h.n sz 0 0,x,.sl (h.n+1) sz 0 ys.length]) ((h.push (.arr ety sz [] (some 0))).push (.arr ety sz ys none)) _ T.hD
        (by
         have GO:aY (h.push (.arr ety sz [] (some 0))) ety sz bytes (.sl h.n sz 0 0) ys=some (.sl (h.n+1) sz 0 ys.length,(h.push (.arr ety sz [] (some 0))).push (.arr ety sz ys none)):=by
          simp only[aY,hyf,Bool.false_eq_true,if_false,hgn]
          rw[if_pos (by simpa using hb),if_neg (show ¬0+(0+ys.length)≤([]:List DV).length from fun dI=>hyp (by have:([]:List DV).length=0:=rfl;omega))]
          simp[Fb]
         simp[eO,iY,jV,cG,aK,Opd.eval,Dm.put,eB,lC,GO]) p1 hE3 fun a4 w4 hst4=>?_
       have hst4':=hst4.trans Ku
       refine hend _ _ a4 w4 hst4' (.sl (h.n+1) sz 0 ys.length) rfl fun ρ' u g1 g2 g3=>?_
       exact⟨ρ',g1,g2,g3⟩
      ·cases hs
   ·cases hs
  ·cases hs
 ·unfold dN at hs
  split at hs
  ·split at hs
   ·split at hs
    ·cases hs;exact .push hl _
    ·split at hs
     ·cases hs;exact(fU.push hl _).trans (.push (Nat.le_succ_of_le hl) _)
     ·cases hs
   ·cases hs
  ·cases hs
end Go.Dm
namespace Go.Dm
open Go.RowKit
def Sd:DV→Option DV
 | .ptr id sz idx off=>some (.ptr id sz idx (off+2))
 | .iptr l cs off=>some (.iptr l cs (off+2))
 | _=>none
def Ia(tE tF:TypeId)(h:aA):Nat→DV→Option (Option DV)
 | 0,_=>none
 | n+1,d=>match d with
  | .iface t x =>
   if t=tE then(match x with|.int .i64 k=>some (some (.int .i64 k))|_=>none)
   else if t=tF then
    match Sd x with
    | some y=>match lR h none y with
     | some .nili=>some none
     | some d'=>Ia tE tF h n d'
     | none=>none
    | none=>none
   else none
  | _=>none
def asHook(tE tF tPE tPF:TypeId):wQ:=fun h args =>
 match args with
 | [.nili,_]=>some (.bool false,h)
 | [.iface t x,.iface t' (.ptr id sz idx off)] =>
  if t'=tPE then
   match Ia tE tF h 50 (.iface t x)with
   | some (some k)=>match kJ h 1 (.ptr id sz idx off) k with|some h'=>some (.bool true,h')|none=>none
   | some none=>if(kJ h 1 (.ptr id sz idx off) (.int .i64 0)).isSome then some (.bool false,h)else none
   | none=>none
  else if t'=tPF then
   if t=tF then
    match Sd x with
    | some _=>match kJ h 1 (.ptr id sz idx off) x with|some h'=>some (.bool true,h')|none=>none
    | none=>none
   else if t=tE then(match x with|.int .i64 _=>some (.bool false,h)|_=>none)
   else none
  else none
 | _=>none
inductive sJ(tE tF:TypeId)(w:World):Value→Option Int→Nat→Prop
 | hit (n:Int):sJ tE tF w (.iface tE (.int .i64 n)) (some n) 0
 | step (b o:Nat) (v:Value) (r:Option Int) (n:Nat):w.cell? ⟨b,o+2,none⟩=some v→sJ tE tF w v r n→sJ tE tF w (.iface tF (.pointer (some ⟨b,o,none⟩))) r (n+1)
 | stop (b o:Nat):w.cell? ⟨b,o+2,none⟩=some .nilIface→sJ tE tF w (.iface tF (.pointer (some ⟨b,o,none⟩))) none 0
structure QE(P:Program)(f:Nat)(fn:Func)(tE tF tPE tPF:TypeId):Prop where
 hf:P.funcs[f]?=some fn
 hb:fn.body.isSome=true
 hn : (fn.name == "runtime.NumGoroutine") = false
 nil:∀(t:Value) (w:World),Calls P f #[.nilIface,t] w fun e w'=>e=.returned (.bool false)∧w'=w
 num:∀(v:Value) (r:Option Int) (n:Nat) (p:Addr) (old:Value) (w:World),X2 w→sJ tE tF w v r n→w.cell? p=some old→w.frozen? p=false →
  Calls P f #[v,.iface tPE (.pointer (some p))] w fun e w'=>e=.returned (.bool r.isSome)∧∃ w1,(Below w.heap.size w w1∧∀a,w1.frozen? a=w.frozen? a)∧w'=match r with|some n=>w1.setCell p (.int .i64 n)|none=>w1
 hit:∀(q p:Addr) (old:Value) (w:World),X2 w→w.cell? p=some old→w.frozen? p=false →
  Calls P f #[.iface tF (.pointer (some q)),.iface tPF (.pointer (some p))] w fun e w'=>e=.returned (.bool true)∧∃ w1,(Below w.heap.size w w1∧∀a,w1.frozen? a=w.frozen? a)∧w'=w1.setCell p (.pointer (some q))
 miss:∀(n:Int) (p:Addr) (w:World),X2 w →
  Calls P f #[.iface tE (.int .i64 n),.iface tPF (.pointer (some p))] w fun e w'=>e=.returned (.bool false)∧Below w.heap.size w w'∧∀a,w'.frozen? a=w.frozen? a
theorem Rel.laid{h:aA}{c:Ctx}(hR:Rel h c):X2 c.w:=fun b v hv=>⟨(hR.glob b v hv).1,(hR.glob b v hv).2.2⟩
theorem Rel.grow{h:aA}{c:Ctx}(hR:Rel h c){w1:World}(hb:Below c.w.heap.size c.w w1)(hf:∀a,w1.frozen? a=c.w.frozen? a):Rel h (c.next w1 c.ρ h)∧cS c (c.next w1 c.ρ h):=by
 have hO:∀b,(nU h c.ρ b∨c.E b)↔c.O b:=fun b=>(hR.own b).symm
 have mD:∀b,b<c.w.heap.size→w1.heap[b]?=c.w.heap[b]?:=hb.block
 have Ku:cS c (c.next w1 c.ρ h) :=
  ⟨fun _ _ hp=>hp,hb.size,fun b BL _=>mD b BL,fun b BL=>.inl ((hO b).1 BL),fun b e n hs=>by
   have:=Jm hs
   simp only[World.shape?,Ctx.next]at hs ⊢
   rw[mD b this];exact hs,fun _ hx=>hx,fun b BL hE=>⟨hE,mD b BL⟩,⟨hb.os,hb.output,hf⟩,rfl⟩
 exact⟨⟨hR.len,hR.lim,hR.dom,fun id o hg=>(hR.obj id o hg).mono Ku (fun ha b x hr=>mD b (hR.block_lt hg ha hr)),hR.inj,fun _=>Iff.rfl,fun b BL=>hR.notX b ((hO b).1 BL),fun b BL=>Nat.lt_of_lt_of_le (hR.old b BL) hb.size,
  fun b BL=>⟨Nat.lt_of_lt_of_le (hR.pend b BL).1 hb.size,(hR.pend b BL).2⟩,hR.glob.mono Ku⟩,Ku⟩
theorem Ck{c:Ctx}{x y:DV}{v:Value}(hs:Sd x=some y)(hv:VR c x v):∃ b o,v=.pointer (some ⟨b,o,none⟩)∧VR c y (.pointer (some ⟨b,o+2,none⟩)):=by
 unfold Sd at hs
 split at hs
 ·cases hs
  obtain⟨b,base,rfl,hρ⟩:=hv.ptr_inv
  exact⟨b,_,rfl,.ptr hρ⟩
 ·cases hs
  obtain⟨b,o,vals,rfl,hb,hO,hX,hc,yV⟩:=hv.iptr_inv
  exact⟨b,_,rfl,.iptr vals hb hO hX hc yV⟩
 ·cases hs
theorem Oy{h:aA}{c:Ctx}(hR:Rel h c){y d:DV}{b o:Nat}(hy:VR c y (.pointer (some ⟨b,o,none⟩)))(hl:lR h none y=some d):∃ u,c.w.cell? ⟨b,o,none⟩=some u∧VR c d u:=by
 obtain⟨b',o',off,cs,e,hp,hc⟩:=Ar hR hy hl
 cases e
 simp only[dM]at hp
 obtain⟨hj,rfl⟩:=List.getElem?_eq_some_iff.1 hp
 obtain⟨u,h1,_,h3⟩:=hc off hj
 exact⟨u,h1,h3⟩
theorem zX{tE tF:TypeId}{h:aA}{c:Ctx}(hR:Rel h c):∀(n:Nat) {d:DV} {v:Value} {r:Option DV},VR c d v→Ia tE tF h n d=some r →
  ∃ (q:Option Int) (k:Nat),sJ tE tF c.w v q k∧r=q.map (.int .i64 ·):=by
 intro n
 induction n with
 | zero=>intro d v r _ hf;cases hf
 | succ n ih =>
  intro d v r hv hf
  simp only[Ia]at hf
  split at hf
  ·rename_i t x
   cases hv with
   | iface hv =>
    split at hf
    ·rename_i ht
     subst ht
     split at hf
     ·cases hf
      rw[hv.int_inv]
      exact⟨some _,0,.hit _,rfl⟩
     ·cases hf
    ·split at hf
     ·rename_i ht
      subst ht
      split at hf
      ·rename_i y hy
       obtain⟨b,o,rfl,IN⟩:=Ck hy hv
       split at hf
       ·rename_i hl
        cases hf
        obtain⟨u,h1,h2⟩:=Oy hR IN hl
        cases h2
        exact⟨none,0,.stop b o h1,rfl⟩
       ·rename_i d' hl
        obtain⟨u,h1,h2⟩:=Oy hR IN hl
        obtain⟨q,k,k1,k2⟩:=ih h2 hf
        exact⟨q,k+1,.step b o u q k h1 k1,k2⟩
       ·cases hf
      ·cases hf
     ·cases hf
  ·cases hf
theorem DY{h h':aA}{id sz idx off n:Nat}{x:DV}(hs:kJ h n (.ptr id sz idx off) x=some h'):∃ ety xs cap e,h.get id=some (.arr ety sz xs cap)∧h.lim≤id∧bE n x=true∧off+n≤sz∧xs[idx]?=some e∧(aP sz e).length=sz∧h'=h.set id (.arr ety sz (xs.set idx (turn sz off n e x)) cap):=by
 unfold kJ at hs
 simp only at hs
 split at hs
 ·rename_i ety eQ xs cap hg
  split at hs
  ·rename_i hc
   obtain⟨h1,h2,h3,h4⟩:=hc
   subst h1
   split at hs
   ·rename_i e he
    split at hs
    ·rename_i hl
     cases hs
     exact⟨ety,xs,cap,e,hg,h2,h3,h4,he,hl,rfl⟩
    ·cases hs
   ·cases hs
  ·cases hs
 ·cases hs
theorem RS{cur:Array Value}{p:Nat}{u:Value}(hp:p<cur.size):spl cur p [u]=cur.setIfInBounds p u:=by
 have dI:p+[u].length≤cur.size:=by simp only[List.length_singleton];omega
 apply Array.ext_getElem?
 intro q
 rw[sT dI,Array.getElem?_setIfInBounds]
 by_cases hq:q<p
 ·rw[if_pos hq,if_neg (by omega)]
 ·rw[if_neg hq]
  by_cases he:q=p
  ·subst he
   rw[if_pos (by simp),if_pos rfl,if_pos hp]
   simp
  ·rw[if_neg (by simp;omega),if_neg (by omega)]
theorem pU{h h':aA}{c:Ctx}(hR:Rel h c){id sz idx off:Nat}{x:DV}{p:Addr}{u:Value}(vx:VR c (.ptr id sz idx off) (.pointer (some p)))(hs:kJ h 1 (.ptr id sz idx off) x=some h')
  (vy:VR c x u) (uM:u.cells=#[u]):(∃ old,c.w.cell? p=some old)∧c.w.frozen? p=false∧∃ ρ',Rel h' (c.next (c.w.setCell p u) ρ' h')∧cS c (c.next (c.w.setCell p u) ρ' h'):=by
 obtain⟨ety,xs,cap,e,hg,aM,hstor,hoff,he,lC,rfl⟩:=DY hs
 obtain⟨b,base,fD,hρ⟩:=vx.ptr_inv
 cases fD
 obtain⟨cur,m,g1,g2,g3,g4,g5,g6⟩:=hR.arr hg hρ
 obtain⟨s1,s2,s4,s3⟩:=mR hstor vy
 obtain⟨hidx,Pc⟩:=List.getElem?_eq_some_iff.1 he
 have Bx:idx*sz+sz≤m*sz:=by
  have:(idx+1)*sz≤m*sz:=Nat.mul_le_mul_right _ (by omega)
  rw[Nat.add_mul]at this;omega
 have hu:u.cells.toList=[u]:=by rw[uM]
 rw[hu]at s2 s4 s3
 have hp:base+idx*sz+off+[u].length≤cur.size:=by rw[s2];omega
 have vB:base+idx*sz+off<cur.size:=by simp at hp;omega
 have hturn:aP sz (turn sz off 1 e x)=(aP sz e).take off++aP 1 x++(aP sz e).drop (off+1):=by
  unfold turn
  split
  ·rename_i hc
   obtain⟨e1,e2⟩:=hc
   subst e1
   rw[e2]
   simp[lC]
  ·rfl
 obtain⟨k1,k2⟩:=hR.write hg hρ g1 g2 g3 (xs.set idx (turn sz off 1 e x)) (by simp) g4 g5 (base+idx*sz+off) [u] hp s4 (lU.2 fun k d hk=>by
  rw[List.getElem?_set]at hk
  have g6':=lU.1 g6
  by_cases TX:idx=k
  ·subst TX
   rw[if_pos rfl,if_pos hidx]at hk
   cases hk
   obtain⟨w1,w2⟩:=g6' idx e he
   rw[hturn]
   refine⟨by simp only[List.length_append,List.length_take,List.length_drop,lC,s1];omega,?_⟩
   have l1:((aP sz e).take off).length=off:=by rw[List.length_take,lC];omega
   refine eJ.append (eJ.append ?_ ?_) ?_
   ·exact(w2.take off).other hp (.inl (by rw[l1];exact Nat.le_refl _))
   ·rw[l1]
    exact eJ.same hp (by rw[s1,s2];exact Nat.le_refl _) s3
   ·rw[List.length_append,l1,s1]
    have:=(w2.drop (off+1)).other hp (.inr (by rw[s2];omega))
    simpa[Nat.add_assoc]using this
  ·rw[if_neg TX]at hk
   obtain⟨w1,w2⟩:=g6' k d hk
   refine⟨w1,w2.other hp ?_⟩
   rw[w1,s2]
   rcases Nat.lt_or_gt_of_ne TX with bD|hgt
   ·have:idx*sz+(sz-1)<k*sz:=nN bD (by omega)
    right;omega
   ·have:k*sz+(sz-1)<idx*sz:=nN hgt (by omega)
    left;omega)
 refine⟨⟨cur[base+idx*sz+off],?_⟩,qI (ob:=.cells cur ety (0,0)) (by exact g1) rfl,c.ρ,?_⟩
 ·simp[World.cell?,g1,vB]
 ·rw[setCell_eq_setRow c.w b _ cur ety (0,0) u g1,←RS vB]
  exact⟨k1,k2⟩
theorem Wv{h h':aA}{c:Ctx}(hR:Rel h c){w1:World}(hb:Below c.w.heap.size c.w w1)(hf:∀a,w1.frozen? a=c.w.frozen? a){id sz idx off:Nat}{x:DV}{p:Addr}{u:Value}(hp:VR c (.ptr id sz idx off) (.pointer (some p)))
  (hs:kJ h 1 (.ptr id sz idx off) x=some h') (hx:VR c x u) (uM:u.cells=#[u]) {d:DV} {v:Value} (hv:VR c d v):pS h c h' (w1.setCell p u) d v:=by
 obtain⟨k1,k2⟩:=hR.grow hb hf
 obtain⟨_,_,ρ',m1,m2⟩:=pU k1 (hp.mono k2) hs (hx.mono k2) uM
 exact⟨ρ',m1,k2.trans m2,(hv.mono k2).mono m2⟩
theorem Vi{c:Ctx}{d1 d2:DV}{vals:List Value}(hv:VRs c [d1,d2] vals):∃ v1 v2,vals=[v1,v2]∧VR c d1 v1∧VR c d2 v2:=by
 have hl:=hv.1
 cases vals with
 | nil=>simp at hl
 | cons a r=>cases r with
  | nil=>simp at hl
  | cons b r=>cases r with
   | nil=>exact⟨a,b,rfl,hv.2 0 (by simp) (by simp),hv.2 1 (by simp) (by simp)⟩
   | cons c r=>simp at hl
theorem AhE{P:Program}{f:Nat}{fn:Func}{tE tF tPE tPF:TypeId}(T:QE P f fn tE tF tPE tPF):Bu P f (asHook tE tF tPE tPF):=by
 have Db : fn.name ≠ "runtime.NumGoroutine" := by simpa using T.hn
 obtain⟨body,hbody⟩:=Option.isSome_iff_exists.1 T.hb
 refine⟨fun args h d h' c vals hs hR hv=>?_,fun h args v h' hl hs=>?_⟩
 ·have uO:=fun a=>oP T.hf hbody Db (w:=c.w) a
  refine .inr ⟨f,vals.toArray,uO _,?_⟩
  unfold asHook at hs
  split at hs
  ·-- nil
   cases hs
   obtain⟨v1,v2,rfl,h1,h2⟩:=Vi hv
   cases h1
   refine(T.nil v2 c.w).mono fun e w' hp=>?_
   obtain⟨rfl,rfl⟩:=hp
   exact⟨_,rfl,pS.pure hR (.bool false)⟩
  ·rename_i t x t' id sz idx off
   obtain⟨v1,v2,rfl,h1,h2⟩:=Vi hv
   cases h1 with
   | iface h1 =>
   rename_i v1
   cases h2 with
   | iface h2 =>
   obtain⟨b,base,rfl,hρ⟩:=h2.ptr_inv
   split at hs
   ·rename_i ht
    subst ht
    split at hs
    ·rename_i k hk
     split at hs
     ·rename_i rK dK
      cases hs
      obtain⟨q,n,QK,hq⟩:=zX hR 50 (.iface h1) hk
      cases q with
      | none=>cases hq
      | some q =>
       cases hq
       obtain⟨⟨old,ho⟩,tC,_⟩:=pU hR h2 dK (VR.int .i64 q) rfl
       refine(T.num _ _ n _ old c.w hR.laid QK ho tC).mono fun e w' hp=>?_
       obtain⟨rfl,w1,⟨hb,hf⟩,rfl⟩:=hp
       exact⟨_,rfl,Wv hR hb hf h2 dK (.int .i64 q) rfl (.bool true)⟩
     ·cases hs
    ·rename_i hk
     split at hs
     ·rename_i hsome
      cases hs
      obtain⟨rK,dK⟩:=Option.isSome_iff_exists.1 hsome
      obtain⟨q,n,QK,hq⟩:=zX hR 50 (.iface h1) hk
      cases q with
      | some q=>cases hq
      | none =>
       obtain⟨⟨old,ho⟩,tC,_⟩:=pU hR h2 dK (VR.int .i64 0) rfl
       refine(T.num _ _ n _ old c.w hR.laid QK ho tC).mono fun e w' hp=>?_
       obtain⟨rfl,w1,⟨hb,hf⟩,rfl⟩:=hp
       obtain⟨k1,k2⟩:=hR.grow hb hf
       exact⟨_,rfl,_,k1,k2,.bool false⟩
     ·cases hs
    ·cases hs
   ·split at hs
    ·rename_i ht
     subst ht
     split at hs
     ·rename_i htF
      subst htF
      split at hs
      ·rename_i y hy
       split at hs
       ·rename_i rK dK
        cases hs
        obtain⟨bq,oq,rfl,_⟩:=Ck hy h1
        obtain⟨⟨old,ho⟩,tC,_⟩:=pU hR h2 dK h1 rfl
        refine(T.hit _ _ old c.w hR.laid ho tC).mono fun e w' hp=>?_
        obtain⟨rfl,w1,⟨hb,hf⟩,rfl⟩:=hp
        exact⟨_,rfl,Wv hR hb hf h2 dK h1 rfl (.bool true)⟩
       ·cases hs
      ·cases hs
     ·split at hs
      ·rename_i htE
       subst htE
       split at hs
       ·cases hs
        rw[h1.int_inv]
        refine(T.miss _ _ c.w hR.laid).mono fun e w' hp=>?_
        obtain⟨rfl,hb,hf⟩:=hp
        obtain⟨k1,k2⟩:=hR.grow hb hf
        exact⟨_,rfl,_,k1,k2,.bool false⟩
       ·cases hs
      ·cases hs
    ·cases hs
  ·cases hs
 ·unfold asHook at hs
  split at hs
  ·cases hs;exact .refl _
  ·split at hs
   ·split at hs
    ·split at hs
     ·rename_i dK
      cases hs;exact vI dK
     ·cases hs
    ·split at hs
     ·cases hs;exact .refl _
     ·cases hs
    ·cases hs
   ·split at hs
    ·split at hs
     ·split at hs
      ·split at hs
       ·rename_i dK
        cases hs;exact vI dK
       ·cases hs
      ·cases hs
     ·split at hs
      ·split at hs
       ·cases hs;exact .refl _
       ·cases hs
      ·cases hs
    ·cases hs
  ·cases hs
end Go.Dm
