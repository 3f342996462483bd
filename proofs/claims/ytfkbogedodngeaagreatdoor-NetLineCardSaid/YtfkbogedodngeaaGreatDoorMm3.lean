/- A part of the proof. -/
import Derived.Test.YtfkbogedodngeaaGreatDoorMm2
import Derived.Maps.RangeRun
set_option linter.all false
namespace Go.Dm
section
variable {P:Program} {call:gY} {ops:List Oper} {bQ:List (Nat×aH)} {bs:List Nat} {E:Nat→Env} {HS:Nat→List aA} {LS:Nat→cA} {V:Nat→DV} {B:Nat→Bool} {c ĉ ĉ1:Ctx} {env:Env} {h:aA}
 {listed:Array Bool} {a:Act} {k m0:Nat}
theorem kJ.turn(F:Fit P ops bQ bs)(T:eK call (bQ.map (·.2)) env [h] .start E HS LS V B)(hc:dC call)(hl:h.lim≤h.n)(I:qI ops bQ HS V env listed a ĉ m0)(M:kJ bQ E HS B c listed k ĉ)
  {x:Nat×aH} {o:Oper} (U:Up ops bQ listed k x o) {w':World} {v:Value} {d:DV} (hp:jS (aR (HS k)) (ĉ.cut (aR (HS k)).n) (aR (HS (k+1))) w' d v) :
  ∃ ĉ1:Ctx,ĉ1.w=w'∧(∀M,bI (ĉ.cut M) (ĉ1.cut M))∧kJ bQ E HS B c (listed.setIfInBounds x.1 true) (k+1) ĉ1∧VR (ĉ1.cut (aR (HS (k+1))).n) d v:=by
 have aY:x.1<listed.size:=by rw[I.size];exact jR F U.hx
 have hk:k<bQ.length:=(List.getElem?_eq_some_iff.1 U.hx).1
 have oN:k+1≤(bQ.map (·.2)).length:=by simp;omega
 have hnk:=(T.keeps hc hl (by omega:k≤k+1) oN).n
 obtain⟨ρ',k1,k2,k3⟩:=hp
 let ĉ1:Ctx:=⟨w',fun id=>if id<(aR (HS (k+1))).n then ρ' id else ĉ.ρ id,fun b=>iI (aR (HS (k+1))) ρ' b∨ĉ.E b,ĉ.X,ĉ.E,ĉ.τ⟩
 have Kg:ĉ1.cut (aR (HS (k+1))).n=(ĉ.cut (aR (HS k)).n).next w' ρ' (aR (HS (k+1))):=by
  have:(fun id=>if id<(aR (HS (k+1))).n then ĉ1.ρ id else none)=ρ':=by
   funext id
   split
   ·rename_i eF;simp only[ĉ1,if_pos eF]
   ·rename_i eF
    cases hr:ρ' id with
    | none=>rfl
    | some p=>exact absurd (k1.dom id (by show ρ' id≠none;rw[hr];simp)) eF
  simp only[Ctx.cut,Ctx.next]at this ⊢
  rw[this]
 have far:∀id b z,(aR (HS k)).n≤id→ĉ.ρ id=some (b,z)→(aR (HS (k+1))).n≤id∧ĉ1.ρ id=ĉ.ρ id∧ĉ.E b∧¬c.E b ∧
   ∃ (p:Nat) (y:Nat×aH),k+1≤p∧bQ[p]?=some y∧Li listed y.1∧y.2.kind≠.read∧B p=true∧id=(aR (HS p)).n:=by
  intro id b z eF hr
  obtain⟨h1,h2,p,y,h3,h4,h5,h6,h7,h8⟩:=M.dom id b z eF hr
  have cK:p≠k:=fun e=>by
   subst e
   have:y=x:=Option.some.inj (h4.symm.trans U.hx)
   subst this
   exact U.not h5
  have LL:p<(bQ.map (·.2)).length:=by simp;exact(List.getElem?_eq_some_iff.1 h4).1
  have h9:=(T.keeps hc hl (by omega:k+1≤p) (by omega)).n
  have sU:(aR (HS (k+1))).n≤id:=by omega
  exact⟨sU,by simp only[ĉ1,if_neg (Nat.not_lt.2 sU)],h1,h2,p,y,by omega,h4,h5,h6,h7,h8⟩
 have hleM:∀M,bI (ĉ.cut M) (ĉ1.cut M):=fun N =>
  ⟨fun id p hp=>by
   obtain⟨h1,h2⟩:=qA hp
   rw[gG h1]
   by_cases eF:id<(aR (HS k)).n
   ·have:=k2.rho id p (by rw[gG eF];exact h2)
    have h3:id<(aR (HS (k+1))).n:=by omega
    simp only[ĉ1,if_pos h3];exact this
   ·obtain⟨b,z⟩:=p
    rw[(far id b z (by omega) h2).2.1];exact h2,k2.size,k2.frame,k2.own,k2.shape,k2.X,k2.pend,k2.quiet,k2.tok⟩
 refine⟨ĉ1,rfl,hleM,⟨hk,fun p y hp hy Fc=>?_,by rw[Kg];exact k1,?_,M.X,fun b hE=>?_,M.cE,fun id b z eF hr=>?_,fun p y hp hy Fc hL=>?_,fun id id' b h1 h2 h3 h4=>?_⟩,by rw[Kg];exact k3⟩
 ·rw[iH aY]
  by_cases e:p=k
  ·subst e
   have:y=x:=Option.some.inj (hy.symm.trans U.hx)
   subst this
   exact .inr rfl
  ·exact .inl (M.front p y (by omega) hy Fc)
 ·exact M.le.trans ((hleM _).trans (oE hnk))
 ·exact(M.E b hE).imp (fun x=>x) fun⟨id,h1,h2⟩=>⟨id,(far id b 0 h1 h2).1,by rw[(far id b 0 h1 h2).2.1];exact h2⟩
 ·have Jg:ĉ.ρ id=some (b,z):=by simp only[ĉ1,if_neg (Nat.not_lt.2 eF)]at hr;exact hr
  obtain⟨_,_,g1,g2,p,y,g3,g4,g5,g6⟩:=far id b z (by omega) Jg
  exact⟨g1,g2,p,y,g3,g4,(iH aY).2 (.inl g5),g6⟩
 ·rcases(iH aY).1 hL with h1|h1
  ·obtain⟨g1,g2⟩:=M.pend p y (by omega) hy Fc h1
   refine⟨g1,fun hB=>?_⟩
   obtain⟨e',s',xs',b,f1,f2,f3⟩:=g2 hB
   have LL:p<(bQ.map (·.2)).length:=by simp;exact(List.getElem?_eq_some_iff.1 hy).1
   have hn:=(T.keeps hc hl (by omega:k≤p) (by omega)).n
   obtain⟨_,g4,g5,_⟩:=far _ b 0 hn f2
   have qH:=(M.rel.pend b g5).1
   exact⟨e',s',xs',b,f1,by rw[g4];exact f2,f3.mono (hleM _) (k2.pend b qH g5).2⟩
  ·have:=Bc F hy U.hx h1
   omega
 ·have h3':ĉ.ρ id=some (b,0):=by simp only[ĉ1,if_neg (Nat.not_lt.2 h1)]at h3;exact h3
  have h4':ĉ.ρ id'=some (b,0):=by simp only[ĉ1,if_neg (Nat.not_lt.2 h2)]at h4;exact h4
  exact M.inj id id' b (by omega) (by omega) h3' h4'
theorem Rel.adopt{h:aA}{c:Ctx}(hR:Rel h (c.cut h.n)){b ety sz:Nat}{xs:List DV}(hr:c.ρ h.n=some (b,0))(hE:c.E b)(hf:Jb (c.cut h.n) b ety sz xs) :
  Rel (h.push (.arr ety sz xs (some xs.length))) (Ctx.cut {c with E:=fun y=>c.E y∧y≠b} (h.n+1)):=by
 obtain⟨cur,f1,f2,f3,f4,f5⟩:=hf
 have cD:bI (c.cut h.n) (Ctx.cut {c with E:=fun y=>c.E y∧y≠b} (h.n+1)) :=
  ⟨fun id p hp=>by
   obtain⟨h1,h2⟩:=qA hp
   rw[gG (by omega)];exact h2,Nat.le_refl _,fun _ _ _=>rfl,fun _ h=>.inl h,fun _ _ _ h=>h,fun _ h=>h,fun _ _ h=>⟨h.1,rfl⟩,.refl _,rfl⟩
 have rho:∀id,id<h.n→(Ctx.cut {c with E:=fun y=>c.E y∧y≠b} (h.n+1)).ρ id=(c.cut h.n).ρ id:=fun id eF=>by rw[gG (by omega),gG eF]
 have rhon:(Ctx.cut {c with E:=fun y=>c.E y∧y≠b} (h.n+1)).ρ h.n=some (b,0):=by rw[gG (by omega)];exact hr
 have hnot:=(hR.pend b hE).2
 have iX:∀y,iI (h.push (.arr ety sz xs (some xs.length))) (Ctx.cut {c with E:=fun y=>c.E y∧y≠b} (h.n+1)).ρ y↔iI h (c.cut h.n).ρ y∨y=b:=by
  intro y
  constructor
  ·rintro⟨id,o,x,hg,ha,Jg⟩
   rw[cH]at hg
   split at hg
   ·rename_i e;subst e
    rw[rhon]at Jg;cases Jg;exact .inr rfl
   ·have:=cY hg
    rw[rho id this]at Jg
    exact .inl ⟨id,o,x,hg,ha,Jg⟩
  ·rintro(⟨id,o,x,hg,ha,Jg⟩|e)
   ·have:=cY hg
    exact⟨id,o,x,by rw[aG this];exact hg,ha,by rw[rho id this];exact Jg⟩
   ·subst e
    exact⟨h.n,_,0,cT,rfl,rhon⟩
 refine⟨sJ hR.len,Nat.le_succ_of_le hR.lim,fun id eF=>?_,fun id o hg=>?_,fun i j oi oj y x1 x2 hi hj pU Mk nX xN=>?_,fun y=>?_,hR.notX,hR.old,fun y hy=>⟨(hR.pend y hy.1).1,fun ho=>?_⟩,hR.glob.mono cD⟩
 ·cases Jg:(Ctx.cut {c with E:=fun y=>c.E y∧y≠b} (h.n+1)).ρ id with
  | none=>exact absurd Jg eF
  | some p=>exact(qA Jg).1
 ·rw[cH]at hg
  split at hg
  ·rename_i e;subst e
   cases hg
   exact⟨b,0,cur,xs.length,rhon,f5,f1,by omega,Nat.le_refl _,(fun k hk=>by cases hk;exact⟨rfl,rfl⟩),f3,fun i hi=>⟨(f4 i hi).1,fun j hj=>by
    obtain⟨v,a1,a2,a3⟩:=(f4 i hi).2 j hj
    exact⟨v,a1,a2,a3.mono cD⟩⟩⟩
  ·exact(hR.obj id o hg).mono cD (fun _ _ _ _=>rfl)
 ·rw[cH]at hi hj
  split at hi<;>split at hj
  ·omega
  ·rename_i e1 e2
   subst e1
   rw[rhon]at nX;cases nX
   have:=cY hj
   rw[rho j this]at xN
   exact absurd ⟨j,oj,x2,hj,Mk,xN⟩ hnot
  ·rename_i e1 e2
   subst e2
   rw[rhon]at xN;cases xN
   have:=cY hi
   rw[rho i this]at nX
   exact absurd ⟨i,oi,x1,hi,pU,nX⟩ hnot
  ·have l1:=cY hi
   have l2:=cY hj
   rw[rho i l1]at nX
   rw[rho j l2]at xN
   exact hR.inj i j oi oj y x1 x2 hi hj pU Mk nX xN
 ·have:=hR.own y
  show c.O y↔_∨(c.E y∧y≠b)
  rw[iX y]
  have h2:c.O y↔iI h (c.cut h.n).ρ y∨c.E y:=this
  rw[h2]
  by_cases e:y=b
  ·subst e;simp[hE]
  ·simp[e]
 ·rcases(iX y).1 ho with h1|h1
  ·exact(hR.pend y hy.1).2 h1
  ·exact hy.2 h1
theorem zJ(F:Fit P ops bQ bs){p:Nat}{y:Nat×aH}(hy:bQ[p]?=some y)(ha:y.2.op.cls=.alloc):y.2.kind=.create:=by
 have:=F.kind p y hy
 unfold nO at this
 rw[ha]at this
 cases hk:y.2.kind<;>rw[hk]at this<;>first|rfl|cases this
theorem kJ.adopt(F:Fit P ops bQ bs)(T:eK call (bQ.map (·.2)) env [h] .start E HS LS V B)(M:kJ bQ E HS B c listed k ĉ){x:Nat×aH}(hx:bQ[k]?=some x)(hk:x.2.kind≠.read)(hL:Li listed x.1)(hb:B k=true) :
  ∃ ĉ1:Ctx,ĉ1.w=ĉ.w∧(∀M,bI (ĉ.cut M) (ĉ1.cut M))∧kJ bQ E HS B c listed (k+1) ĉ1:=by
 have aY:k<bQ.length:=(List.getElem?_eq_some_iff.1 hx).1
 obtain⟨ha,h2⟩:=M.pend k x (Nat.le_refl _) hx hk hL
 obtain⟨ety,sz,xs,b,ho,hr,hf⟩:=h2 hb
 obtain⟨hE,hcE,_⟩:=M.dom _ b 0 (Nat.le_refl _) hr
 obtain⟨ety2,sz2,xs2,LO,_,hh⟩:=T.alloc (oV hx) ha (zJ F hx ha) hb
 rw[ho]at LO
 cases LO
 have hn:(aR (HS (k+1))).n=(aR (HS k)).n+1:=by rw[hh];rfl
 have hleM:∀N,bI (ĉ.cut N) (Ctx.cut {ĉ with E:=fun y=>ĉ.E y∧y≠b} N):=fun N =>
  ⟨fun _ _ hp=>hp,Nat.le_refl _,fun _ _ _=>rfl,fun _ h=>.inl h,fun _ _ _ h=>h,fun _ h=>h,fun _ _ h=>⟨h.1,rfl⟩,.refl _,rfl⟩
 refine⟨{ĉ with E:=fun y=>ĉ.E y∧y≠b},rfl,hleM,⟨aY,fun p y hp hy Fc=>?_,?_,M.le.trans ((hleM _).trans (oE (by omega))),M.X,fun y hy=>?_,fun y hy=>⟨M.cE y hy,fun e=>hcE (e ▸ hy)⟩,fun id y x0 eF Jg=>?_,fun p y hp hy Fc hL=>⟨(M.pend p y (by omega) hy Fc hL).1,fun hB=>by
  obtain⟨e',s',xs',b',q1,q2,q3⟩:=(M.pend p y (by omega) hy Fc hL).2 hB
  exact⟨e',s',xs',b',q1,q2,q3.mono (hleM _) rfl⟩⟩,fun id id' y h1 h2=>M.inj id id' y (by omega) (by omega)⟩⟩
 ·by_cases e:p=k
  ·subst e
   have:y=x:=Option.some.inj (hy.symm.trans hx)
   subst this
   exact hL
  ·exact M.front p y (by omega) hy Fc
 ·rw[hn,hh]
  exact M.rel.adopt hr hE hf
 ·refine(M.E y hy.1).imp (fun x=>x) fun⟨id,h1,h2⟩=>⟨id,?_,h2⟩
  have:id≠(aR (HS k)).n:=fun e=>by
   subst e
   rw[hr]at h2
   cases h2
   exact hy.2 rfl
  omega
 ·obtain⟨g1,g2,p,yy,g3,g4,g5,g6,g7,g8⟩:=M.dom id y x0 (by omega) Jg
  have hpk:p≠k:=fun e=>by subst e;omega
  refine⟨⟨g1,fun e=>?_⟩,g2,p,yy,by omega,g4,g5,g6,g7,g8⟩
  subst e
  obtain⟨_,_,_,b',_,f2,_⟩:=(M.pend p yy g3 g4 g6 g5).2 g7
  rw[←g8]at f2
  rw[f2]at Jg
  cases Jg
  have:=M.inj id (aR (HS k)).n y (by omega) (Nat.le_refl _) f2 hr
  omega
def Max(bQ:List (Nat×aH))(listed:Array Bool)(k:Nat):Prop:=k=bQ.length∨∃ x:Nat×aH,bQ[k]?=some x∧x.2.kind≠.read∧¬Li listed x.1
theorem eK.same(T:eK call (bQ.map (·.2)) env [h] .start E HS LS V B){x:Nat×aH}(hx:bQ[k]?=some x)(hk:x.2.kind=.read∨B k=false):aR (HS (k+1))=aR (HS k):=by
 obtain⟨⟨hw,g,gs,hg,hf,ht⟩,_⟩:=T.step k x.2 (oV hx)
 cases hb:B k with
 | false =>
  obtain⟨_,e,_⟩:=hf hb
  rw[e]
  split
  ·rfl
  ·rw[hg];rfl
 | true =>
  rcases hk with hk|hk
  ·rcases ht hb with⟨_,e,_⟩|⟨oN,_⟩|⟨oN,_⟩|⟨oN,_⟩
   ·rw[e]
   ·rw[hk]at oN;cases oN
   ·rw[hk]at oN;cases oN
   ·rw[hk]at oN;cases oN
  ·rw[hb]at hk;cases hk
theorem kJ.advance(F:Fit P ops bQ bs)(T:eK call (bQ.map (·.2)) env [h] .start E HS LS V B)(hc:dC call)(hl:h.lim≤h.n):∀(j k:Nat) (ĉ:Ctx),bQ.length-k=j→kJ bQ E HS B c listed k ĉ →
  ∃ k1 ĉ1,k≤k1∧(aR (HS k)).n≤(aR (HS k1)).n∧ĉ1.w=ĉ.w∧(∀M,bI (ĉ.cut M) (ĉ1.cut M))∧kJ bQ E HS B c listed k1 ĉ1∧Max bQ listed k1:=by
 intro j
 induction j with
 | zero =>
  intro k ĉ hj M
  exact⟨k,ĉ,Nat.le_refl _,Nat.le_refl _,rfl,fun _=>.refl _,M,.inl (by have:=M.k_le;omega)⟩
 | succ j ih =>
  intro k ĉ hj M
  have aY:k<bQ.length:=by omega
  have hx:bQ[k]?=some bQ[k]:=List.getElem?_eq_getElem aY
  have hn:=(T.keeps hc hl (by omega:k≤k+1) (by simp;omega)).n
  have go:∀ĉ1:Ctx,ĉ1.w=ĉ.w→(∀M,bI (ĉ.cut M) (ĉ1.cut M))→kJ bQ E HS B c listed (k+1) ĉ1 →
    ∃ k1 ĉ1,k≤k1∧(aR (HS k)).n≤(aR (HS k1)).n∧ĉ1.w=ĉ.w∧(∀M,bI (ĉ.cut M) (ĉ1.cut M))∧kJ bQ E HS B c listed k1 ĉ1∧Max bQ listed k1:=by
   intro ĉ1 h1 h2 h3
   obtain⟨k2,ĉ2,g0,g1,g2,g3,g4,g5⟩:=ih (k+1) ĉ1 (by omega) h3
   exact⟨k2,ĉ2,by omega,by omega,g2.trans h1,fun N=>(h2 N).trans (g3 N),g4,g5⟩
  by_cases hk:bQ[k].2.kind=.read
  ·exact go ĉ rfl (fun _=>.refl _) (M.skip aY (T.same hx (.inl hk)) (fun x uL oN=>by
    have:x=bQ[k]:=Option.some.inj (uL.symm.trans hx)
    subst this
    exact absurd hk oN))
  ·by_cases hL:Li listed bQ[k].1
   ·cases hb:B k with
    | false =>
     exact go ĉ rfl (fun _=>.refl _) (M.skip aY (T.same hx (.inr hb)) (fun x uL oN=>by
      have:x=bQ[k]:=Option.some.inj (uL.symm.trans hx)
      subst this
      exact⟨hL,hb⟩))
    | true =>
     obtain⟨ĉ1,h1,h2,h3⟩:=M.adopt F T hx hk hL hb
     exact go ĉ1 h1 h2 h3
   ·exact⟨k,ĉ,Nat.le_refl _,Nat.le_refl _,rfl,fun _=>.refl _,M,.inr ⟨_,hx,hk,hL⟩⟩
end
end Go.Dm
/-
Part 25 of "Dm": a region with an open order does what the machine says, whatever order is picked.
-/
namespace Go.Dm
theorem CX{p p':Nat→Bool}{i:Nat}(h1:p i=true)(h2:p' i=false):∀(l:List Nat),(∀x,x∈l→p' x=true→p x=true)→i∈l→l.countP p'<l.countP p:=by
 intro l
 induction l with
 | nil=>intro _ hi;cases hi
 | cons x l ih =>
  intro h hi
  have hmono:l.countP p'≤l.countP p:=List.countP_mono_left fun y hy=>h y (List.mem_cons_of_mem _ hy)
  simp only[List.countP_cons]
  rcases List.mem_cons.1 hi with e|vN
  ·subst e
   simp only[h1,h2,if_true,Bool.false_eq_true,if_false]
   omega
  ·have:=ih (fun y hy=>h y (List.mem_cons_of_mem _ hy)) vN
   cases LL:p' x with
   | false=>simp only[Bool.false_eq_true,if_false];omega
   | true=>simp only[h x (List.mem_cons_self ..) LL,if_true];omega
theorem Wk{d:DOp}(hd:d.cls=.env∨d.cls=.read):jZ d=false:=by
 unfold DOp.cls at hd
 split at hd
 all_goals first|rfl|(rcases hd with h|h<;>(cases h;done))|skip
 ·split at hd
  ·rcases hd with h|h<;>cases h
  ·rename_i h;simpa using h
theorem Lr{bQ:List (Nat×aH)}{p:Nat}:Ch bQ p=hG (bQ.map (·.2)) p:=by
 unfold Ch hG
 rw[←List.map_take,List.filter_map,List.length_map]
 rfl
section
variable {P:Program} {call:gY} {ops:List Oper} {bQ:List (Nat×aH)} {bs:List Nat} {E:Nat→Env} {HS:Nat→List aA} {LS:Nat→cA} {V:Nat→DV} {B:Nat→Bool} {c ĉ ĉ1:Ctx} {env:Env} {h:aA}
 {listed:Array Bool} {a:Act} {k m0:Nat}
theorem mH{d:aH}{env aU:Env}(h:jY d.reads env aU):jY d.op.tmps env aU:=fun t ht=>h t (by simp[aH.reads,ht])
theorem Vj{d:aH}:∀t w,d.guard=some (t,w)→t∈d.reads:=fun t w e=>by simp[aH.reads,e]
theorem S6(F:Fit P ops bQ bs){p:Nat}{y:Nat×aH}(hy:bQ[p]?=some y)(hk:y.2.kind≠.read):y.2.op.cls=.alloc∨y.2.op.cls=.heap:=by
 have Fd:=F.kind p y hy
 unfold nO at Fd
 cases hc:y.2.op.cls<;>rw[hc]at Fd<;>first|exact .inl rfl|exact .inr rfl|skip
 all_goals (cases uN:y.2.kind<;>rw[uN]at Fd<;>first|exact absurd uN hk|cases Fd)
theorem Mj(F:Fit P ops bQ bs)(I:qI ops bQ HS V env listed a ĉ m0)(M:kJ bQ E HS B c listed k ĉ)(Aw:Max bQ listed k){q:Nat}{x:Nat×aH}{o:Oper}(U:Up ops bQ listed q x o)
  (Hn:x.2.op.cls=.heap) (hk:x.2.kind≠.read):q=k:=by
 have hq:q<bQ.length:=(List.getElem?_eq_some_iff.1 U.hx).1
 rcases Aw with e|⟨y,hy,RH,hyL⟩
 ·exact absurd (M.front q x (by omega) U.hx hk) U.not
 ·rcases Nat.lt_trichotomy q k with h1|h1|h1
  ·exact absurd (M.front q x h1 U.hx hk) U.not
  ·exact h1
  ·cases hb:mF bs x.1 y.1 with
   | true=>exact absurd (yM F I U (jR F hy) hb) hyL
   | false =>
    have hf:=Hv F h1 hy U.hx hb
    have Fd:=F.kind k y hy
    unfold nO at Fd
    simp only[Vo,Hn,Bool.and_eq_true]at hf
    have hf:=hf.2
    cases hc:y.2.op.cls<;>rw[hc]at hf Fd<;>simp only at hf Fd
    ·cases uN:y.2.kind<;>rw[uN]at Fd<;>simp only at Fd<;>first|exact absurd uN RH|cases Fd
    ·cases uN:y.2.kind<;>rw[uN]at Fd<;>simp only at Fd<;>first|exact absurd uN RH|cases Fd
    ·cases hf
    ·cases hf
theorem NZ(F:Fit P ops bQ bs)(T:eK call (bQ.map (·.2)) env [h] .start E HS LS V B)(hc:dC call)(hl:h.lim≤h.n)(I:qI ops bQ HS V env listed a ĉ (aR (HS k)).n)(M:kJ bQ E HS B c listed k ĉ)(Aw:Max bQ listed k)
  {q:Nat} {x:Nat×aH} {o:Oper} (U:Up ops bQ listed q x o) (RL:fS P o=some x.2.op) (hk:x.2.kind=.read) (hb:B q=true) :
  aR (HS (q+1))=aR (HS q)∧∃ nx v,(execOp a.eval o).run P ĉ.w=.ok nx ĉ.w∧(nx=.value v∨(nx=.skip∧v=Go.undef))∧VR (ĉ.cut (max (aR (HS q)).n (aR (HS k)).n)) (V q) v:=by
 have hq:q<bQ.length:=(List.getElem?_eq_some_iff.1 U.hx).1
 have oN:k≤(bQ.map (·.2)).length:=by simpa using M.k_le
 refine⟨T.same U.hx (.inl hk),?_⟩
 obtain⟨⟨hw,g,gs,hg,hf,ht⟩,_⟩:=T.step q x.2 (oV U.hx)
 have Fd:=F.kind q x U.hx
 have Hn:x.2.op.cls=.env∨x.2.op.cls=.read:=by
  unfold nO at Fd
  rw[hk]at Fd
  cases hc:x.2.op.cls<;>rw[hc]at Fd<;>first|exact .inl rfl|exact .inr rfl|cases Fd
 have htc:=Wk Hn
 rcases ht hb with⟨_,_,⟨h0,h1,PB,cS⟩,hfree,hlog⟩|⟨Jh,_⟩|⟨Jh,_⟩|⟨Jh,_⟩
 rotate_left
 ·rw[hk]at Jh;cases Jh
 ·rw[hk]at Jh;cases Jh
 ·rw[hk]at Jh;cases Jh
 obtain⟨h2,p1,p2,p3⟩:=M.rel.pad (max (aR (HS q)).n (aR (HS k)).n-(aR (HS k)).n)
 have hmx:(aR (HS k)).n+(max (aR (HS q)).n (aR (HS k)).n-(aR (HS k)).n)=max (aR (HS q)).n (aR (HS k)).n:=by omega
 rw[hmx]at p1
 have hEm:=Ur F T hc hl I U
 have Hh:aC h2 (qR (E q) x.2.reads) x.2.op=some (V q,h2):=by
  rw[zR (mH kN)]at cS
  by_cases henv:x.2.op.cls=.env
  ·exact Fz henv cS
  ·have hrd:=Hn.resolve_left henv
   refine Jp ?_ htc cS
   obtain⟨m,a1,a2,a3⟩:=T.snap q (by simp;omega) _ _ PB
   have RM:m≤k:=by
    rcases Aw with e|⟨y,hy,RH,hyL⟩
    ·omega
    ·refine Nat.le_of_not_lt fun aY=>hyL ?_
     have vM:=(F.pair k q y x (by omega) hy U.hx).2.2
     simp only[vB,Bool.and_eq_true]at vM
     have h4:=vM.1.1.2
     have hr1:=tC (oV hy)
     rw[if_neg RH]at hr1
     have hr2:hG (bQ.map (·.2)) (k+1)≤hG (bQ.map (·.2)) m:=mJ (by omega)
     have hlt2:Ch bQ k<x.2.snap:=by rw[Lr];omega
     have cK:(y.2.kind != .read)=true:=by simpa using RH
     simp only[hrd,cK,beq_self_eq_true,Bool.and_self,Bool.not_true,Bool.false_or,if_pos hlt2]at h4
     exact yM F I U (jR F hy) h4
   have PN:=T.grows hc hl a3 k RM oN (fun p d g1 g2 hd PP=>by
    obtain⟨y,hy,e⟩:=qU hd
    subst e
    have hyL:=M.front p y g2 hy PP
    have cK:(y.2.kind != .read)=true:=by simpa using PP
    rcases Nat.lt_trichotomy p q with hh|hh|hh
    ·have vM:=(F.pair p q y x hh hy U.hx).2.2
     simp only[vB,Bool.and_eq_true]at vM
     have h4:=vM.1.1.2
     have hr2:hG (bQ.map (·.2)) m≤hG (bQ.map (·.2)) p:=mJ g1
     have hlt2:¬Ch bQ p<x.2.snap:=by rw[Lr];omega
     simp only[hrd,cK,beq_self_eq_true,Bool.and_self,Bool.not_true,Bool.false_or,if_neg hlt2,Bool.or_eq_true,Bool.and_eq_true,beq_iff_eq,decide_eq_true_eq]at h4
     rcases h4 with h4|h4
     ·exact .inl h4
     ·exact .inr ⟨h4.1.2,h4.2⟩
    ·subst hh
     have:y=x:=Option.some.inj (hy.symm.trans U.hx)
     subst this
     exact absurd hk PP
    ·by_cases BZ:y.2.op.cls=.alloc
     ·exact .inl BZ
     ·have hhp:y.2.op.cls=.heap:=(S6 F hy PP).resolve_left BZ
      have vM:=(F.pair q p x y hh U.hx hy).2.2
      simp only[vB,Bool.and_eq_true]at vM
      have h4:=vM.1.2
      cases hbb:mF bs y.1 x.1 with
      | true=>exact absurd (qK F I y.1 hyL x.1 (jR F U.hx) hbb) U.not
      | false =>
       simp only[hrd,hhp,hbb,beq_self_eq_true,Bool.and_self,Bool.not_true,Bool.false_or,Bool.or_false,Bool.and_eq_true,beq_iff_eq,decide_eq_true_eq]at h4
       exact .inr ⟨h4.1,by omega⟩)
    (fun p d hd ha=>by
     obtain⟨y,hy,e⟩:=qU hd
     subst e
     exact zJ F hy ha)
   intro r hmk0 Py
   obtain⟨ob,nQ⟩:=Py
   have hmk':mark (E q) x.2.op=some r:=by rw[D6 (mH kN)];exact hmk0
   have htgt':=Us hmk'
   have eF:=cY nQ
   rw[a2]at nQ eF ⊢
   have hid2:r.1<(aR (HS k)).n:=Nat.lt_of_lt_of_le eF (T.keeps hc hl RM oN).n
   refine jG.trans (PN r eF (fun p d g1 g2 hd PP WM=>?_)) (.of_get (p3 r.1 hid2))
   rcases Nat.lt_trichotomy p q with hh|hh|hh
   ·refine .inr fun hL=>?_
    have h6:=(T.logs (m:=p+1) q (by omega) (by simp;omega)).2 ((HS p).length-1,r.1) hL
    rw[htgt']at hfree
    have h7:=List.all_eq_true.1 hfree _ h6
    have h8:=(T.shape p (by simp;omega)).2
    have hr2:hG (bQ.map (·.2)) m≤hG (bQ.map (·.2)) p:=mJ g1
    have hid0:Nat.beq r.1 r.1=true:=Nat.beq_refl r.1
    simp only[hid0,Bool.not_true,Bool.or_false]at h7
    have h9:(HS p).length-1+1≤x.2.snap:=Nat.le_of_ble_eq_true h7
    omega
   ·subst hh
    obtain⟨y,hy,e⟩:=qU hd
    subst e
    have:y=x:=Option.some.inj (hy.symm.trans U.hx)
    subst this
    rw[hk]at PP;cases PP
   ·cases hcm:x.2.calm with
    | false =>
     rw[hcm,hmk']at hlog
     exact .inl ((T.logs (m:=q+1) p (by omega) (by have:=(List.getElem?_eq_some_iff.1 hd).1;omega)).1 r (by rw[hlog];exact List.mem_cons_self ..))
    | true =>
     obtain⟨y,hy,e⟩:=qU hd
     subst e
     have hdk':y.2.kind≠.read:=by rw[PP];exact fun e=>by cases e
     have hyL:=M.front p y g2 hy hdk'
     have hhp:y.2.op.cls=.heap:=(S6 F hy hdk').resolve_left WM
     have vM:=(F.pair q p x y hh U.hx hy).2.2
     simp only[vB,Bool.and_eq_true]at vM
     have h4:=vM.2
     simp only[hcm,hhp,beq_self_eq_true,Bool.and_self,Bool.not_true,Bool.false_or]at h4
     exact absurd (qK F I y.1 hyL x.1 (jR F U.hx) h4) U.not
 obtain⟨_,nx,v,r1,r2,r3⟩:=Zs RL htc p1 hEm Hh
 exact⟨nx,v,r1,r2,r3⟩
theorem CV(F:Fit P ops bQ bs)(T:eK call (bQ.map (·.2)) env [h] .start E HS LS V B)(hc:dC call)(fG:iM P call)(hl:h.lim≤h.n)(I:qI ops bQ HS V env listed a ĉ (aR (HS k)).n)(M:kJ bQ E HS B c listed k ĉ)
  (Aw:Max bQ listed k) {q:Nat} {x:Nat×aH} {o:Oper} (U:Up ops bQ listed q x o) {K:Act→World→Prop} {Q:Exit→Act→World→Prop}
  (hK:∀a' ĉ1 k1,qI ops bQ HS V env (listed.setIfInBounds x.1 true) a' ĉ1 (aR (HS k1)).n→kJ bQ E HS B c (listed.setIfInBounds x.1 true) k1 ĉ1→Max bQ (listed.setIfInBounds x.1 true) k1→K a' ĉ1.w) :
  wpOp P ops.toArray Q x.1 K a ĉ.w:=by
 have fin:∀a' ĉ1 k1 m1,m1≤(aR (HS k1)).n→qI ops bQ HS V env (listed.setIfInBounds x.1 true) a' ĉ1 m1→kJ bQ E HS B c (listed.setIfInBounds x.1 true) k1 ĉ1→K a' ĉ1.w:=by
  intro a' ĉ1 k1 m1 hm I1 M1
  obtain⟨k2,ĉ2,_,g1,g2,g3,g4,g5⟩:=M1.advance F T hc hl _ k1 ĉ1 rfl
  rw[←g2]
  exact hK a' ĉ2 k2 (I1.mono g3 (by omega)) g4 g5
 have hq:q<bQ.length:=(List.getElem?_eq_some_iff.1 U.hx).1
 have hnq:=(T.keeps hc hl (by omega:q≤q+1) (by simp;omega)).n
 obtain⟨o',kk,ss,d',Pz,hcomp,G7,Vi,WP⟩:=F.comp q x U.hx
 have F9:o'=o:=Option.some.inj (Pz.symm.trans U.ho)
 subst F9
 obtain⟨RL,hguard,hdst,_,_⟩:=iF hcomp
 rw[G7]at RL
 rw[Vi]at hguard
 rw[WP]at hdst
 obtain⟨⟨hw,g,gs,hg,hf,ht⟩,_⟩:=T.step q x.2 (oV U.hx)
 have RT:aR (HS q)=g:=by rw[hg];rfl
 have hEm:=Ur F T hc hl I U
 have hwant:=fT hguard hEm (b:=B q) (by rw[Rm Vj];exact hw)
 have Fd:=F.kind q x U.hx
 unfold wpOp
 have hoa:ops.toArray[x.1]?=some o':=by simpa using U.ho
 simp only[hoa,hwant]
 rw[←hdst]
 have ge:x.2.kind≠.read→k≤q:=fun hk=>Nat.le_of_not_lt fun aY=>U.not (M.front q x aY U.hx hk)
 have Hn:x.2.kind≠.read→x.2.op.cls=.alloc∨x.2.op.cls=.heap:=by
  intro hk
  unfold nO at Fd
  cases hc:x.2.op.cls<;>rw[hc]at Fd<;>first|exact .inl rfl|exact .inr rfl|skip
  all_goals (cases uN:x.2.kind<;>rw[uN]at Fd<;>first|exact absurd uN hk|cases Fd)
 cases hb:B q with
 | false =>
  rw[if_neg (by simp)]
  have hV:=(hf hb).1
  by_cases hk:x.2.kind=.read
  ·exact fin _ ĉ k _ (Nat.le_refl _) (I.mark F (fun _=>.refl _) (Nat.le_refl _) U (by rw[hV];exact .undef)) (M.same F I U hk)
  ·rcases Hn hk with ha|hh
   ·exact fin _ ĉ k _ (Nat.le_refl _) (I.mark F (fun _=>.refl _) (Nat.le_refl _) U (by rw[hV];exact .undef)) (M.idle F I U ha hb)
   ·have hqk:=Mj F I M Aw U hh hk
    subst hqk
    have mB:=T.same U.hx (.inr hb)
    obtain⟨ĉ1,e1,e2,e3,e4⟩:=M.turn F T hc hl I U (w':=ĉ.w) (v:=Go.undef) (d:=bH) (by rw[mB];exact jS.pure M.rel .undef)
    rw[←e1]
    exact fin _ ĉ1 (q+1) (aR (HS (q+1))).n (Nat.le_refl _) (I.mark F e2 hnq U (by rw[hV];exact .undef)) e3
 | true =>
  rw[if_pos rfl]
  refine .inl ?_
  by_cases hk:x.2.kind=.read
  ·obtain⟨mB,nx,v,r1,r2,r3⟩:=NZ F T hc hl I M Aw U RL hk hb
   unfold Oper.wp
   rw[r1]
   have key:K (a.put x.2.dst v) ĉ.w:=fin _ ĉ k _ (Nat.le_refl _) (I.mark F (fun _=>.refl _) (Nat.le_refl _) U (by rw[mB];exact r3)) (M.same F I U hk)
   rw[hdst]at key
   rcases r2 with rfl|⟨rfl,rfl⟩
   ·exact key
   ·exact key
  ·rcases Hn hk with ha|hh
   ·obtain⟨ety,sz,xs,hm1,e1,e2⟩:=T.alloc (oV U.hx) ha (zJ F U.hx ha) hb
    have hnk2:max (aR (HS q)).n (aR (HS k)).n=(aR (HS q)).n:=by
     have:=(T.keeps hc hl (ge hk) (by simp;omega)).n
     omega
    rw[hnk2]at hEm
    have LO:El (qR (E q) x.2.reads) x.2.op=some (ety,sz,xs):=by rw[←D7 (mH kN)];exact hm1
    obtain⟨w',cur,val,r1,r2,r3,r4,r5,r6,r7,r8,r9,r10⟩:=IM RL ha hEm LO
    obtain⟨ĉ1,f1,f2,f3,f4⟩:=M.early F T hc hl I U (ge hk) ha hm1 hb r2 r3 r4 r5 r6 r7 r8 r9
    unfold Oper.wp
    have r1':(execOp a.eval o').run P ĉ.w=.ok (.value val) w':=r1
    rw[r1']
    have key:K (a.put x.2.dst val) ĉ1.w:=by
     refine fin _ ĉ1 k _ (Nat.le_refl _) (I.mark F f2 (Nat.le_refl _) U ?_) f3
     rw[e1,e2]
     refine r10 _ _ (by rw[gG (by rw[Cj];omega)];exact f4) ?_
     show World.shape? ĉ1.w ĉ.w.heap.size=_
     have r5':w'.heap[ĉ.w.heap.size]?=some (.cells cur ety (0,0)):=r5
     rw[f1]
     simp only[World.shape?,r5',r7]
    rw[f1,hdst]at key
    exact key
   ·have hqk:=Mj F I M Aw U hh hk
    subst hqk
    have hEk:bY (ĉ.cut (aR (HS q)).n) (qR (E q) x.2.reads) a:=by rw[Nat.max_self]at hEm;exact hEm
    have go:∀v w',jS (aR (HS q)) (ĉ.cut (aR (HS q)).n) (aR (HS (q+1))) w' (V q) v→K (a.put o'.dst v) w':=by
     intro v w' hp
     obtain⟨ĉ1,e1,e2,e3,e4⟩:=M.turn F T hc hl I U hp
     rw[←e1,←hdst]
     exact fin _ ĉ1 (q+1) (aR (HS (q+1))).n (Nat.le_refl _) (I.mark F e2 hnq U (by rw[Nat.max_self];exact e4)) e3
    rcases ht hb with⟨Jh,_⟩|⟨_,_,h1,s1,s2⟩|⟨_,_,h0,h1,s0,s1,s2⟩|⟨_,ids,h1,s1,_,_,s2,_⟩
    rotate_right
    ·rw[vC (mH kN),←RT]at s1
     have hh1:aR (HS (q+1))=h1:=by rw[s2];rfl
     exact sC fG RL M.rel hEk s1 K Q (fun v w' hp=>go v w' (by rw[hh1];exact hp))
    ·exact absurd Jh hk
    ·rw[vC (mH kN),←RT]at s1
     have hh1:aR (HS (q+1))=h1:=by rw[s2];rfl
     exact sC fG RL M.rel hEk s1 K Q (fun v w' hp=>go v w' (by rw[hh1];exact hp))
    ·have hh1:aR (HS (q+1))=h1:=by rw[s2];rfl
     unfold lL at s1
     split at s1
     ·rename_i v2 h2 s3
      cases s1
      rw[vC (mH kN),←RT]at s3
      obtain⟨m,a1,a2,_⟩:=T.snap q (by simp;omega) _ _ s0
      have uN:=T.keeps1 hc hl q (by simp;omega)
      have bJ:max h0.n (aR (HS q)).lim≤(aR (HS q)).n:=Nat.max_le.2 ⟨by rw[a2];exact(uN.2 m a1).n,uN.1⟩
      have Jh:=(iV hc (h:={aR (HS q)with lim:=max h0.n (aR (HS q)).lim}) bJ s3).n
      refine sC fG RL (M.rel.setLim bJ) hEk s3 K Q (fun v w' hp=>go v w' ?_)
      obtain⟨ρ',p1,p2,p3⟩:=hp
      rw[hh1,←RT]
      exact⟨ρ',p1.setLim (Nat.le_trans uN.1 Jh),p2,p3⟩
     ·cases s1
end
end Go.Dm
/-
Part 26 of "Dm": runs do what the machine says.
-/
namespace Go.Dm
theorem PW{listed:Array Bool}{i:Nat}(h:listed.getD i true=false):listed.getD i false=false:=by
 rcases Nat.lt_or_ge i listed.size with h'|h'
 ·simp[h']at h ⊢;exact h
 ·simp[h']at h
theorem z7{listed:Array Bool}{i:Nat}(hi:i<listed.size)(h:listed.getD i false=false):listed.getD i true=false:=by
 simp[hi]at h ⊢;exact h
theorem WT(m j:Nat):(Array.replicate m false).getD j false=false:=by
 rcases Nat.lt_or_ge j m with h|h
 ·simp[h]
 ·simp[h]
section
variable {P:Program} {call:gY} {ops:List Oper} {bQ:List (Nat×aH)} {bs:List Nat} {E:Nat→Env} {HS:Nat→List aA} {LS:Nat→cA} {V:Nat→DV} {B:Nat→Bool} {c ĉ ĉ1:Ctx} {env:Env} {h:aA}
 {listed:Array Bool} {a:Act} {k m0:Nat}
theorem Tn{j:Nat}(hj:j∈Region.ready .any ops.toArray listed)(F:Fit P ops bQ bs):∃ q x o,Up ops bQ listed q x o∧x.1=j:=by
 obtain⟨h1,o,ho,iD⟩:=mem_ready.1 hj
 have Pz:ops[j]?=some o:=by simpa using ho
 have aY:j<ops.length:=(List.getElem?_eq_some_iff.1 Pz).1
 obtain⟨q,x,hx,he⟩:=F.all j aY
 subst he
 refine⟨q,x,o,⟨hx,Pz,?_,fun e he hb=>iD e (Array.mem_toList_iff.1 he) hb⟩,rfl⟩
 unfold Li
 rw[PW h1]
 simp
theorem Gx(F:Fit P ops bQ bs)(jW:listed.size=ops.length)(hr:Region.ready .any ops.toArray listed=[]):∀(q:Nat) (x:Nat×aH),bQ[q]?=some x→Li listed x.1:=by
 intro q
 induction q using Nat.strongRecOn with
 | _ q ih =>
  intro x hx
  refine Classical.byContradiction fun hn=>?_
  obtain⟨o,_,_,_,ho,_⟩:=F.comp q x hx
  have Av:x.1∈Region.ready .any ops.toArray listed:=by
   rw[mem_ready]
   refine⟨z7 (by rw[jW];exact jR F hx) (by unfold Li at hn;simpa using hn),o,by simpa using ho,fun e he hb=>?_⟩
   have RW:=Array.mem_toList_iff.2 he
   obtain⟨h1,h2⟩:=F.edge x.1 o e ho RW hb
   obtain⟨p,y,hy,Ke⟩:=F.all e.on (Nat.lt_trans h2 (jR F hx))
   rcases Nat.lt_trichotomy p q with hh|hh|hh
   ·have:=ih p hh y hy
    rw[Ke]at this
    exact this
   ·subst hh
    have:y=x:=Option.some.inj (hy.symm.trans hx)
    subst this
    omega
   ·have:=(F.pair q p x y hh hx hy).2.1
    rw[Ke]at this
    rw[h1]at this
    cases this
  rw[hr]at Av
  cases Av
theorem Mp(F:Fit P ops bQ bs)(T:eK call (bQ.map (·.2)) env [h] .start E HS LS V B)(hc:dC call)(hl:h.lim≤h.n)(I:qI ops bQ HS V env listed a ĉ (aR (HS k)).n)(M:kJ bQ E HS B c listed k ĉ)(Aw:Max bQ listed k)
  (iD:∀(q:Nat) (x:Nat×aH),bQ[q]?=some x→Li listed x.1):St c (aR (HS bQ.length)) (E bQ.length) a ĉ.w:=by
 have hk:k=bQ.length:=Aw.resolve_right fun⟨x,hx,_,hn⟩=>hn (iD k x hx)
 subst hk
 have hE:ĉ.E=c.E:=by
  funext b
  refine propext ⟨fun hb=>(M.E b hb).resolve_right fun⟨id,h1,h2⟩=>?_,M.cE b⟩
  obtain⟨_,_,p,y,h3,h4,_⟩:=M.dom id b 0 h1 h2
  have:=(List.getElem?_eq_some_iff.1 h4).1
  omega
 have Kg:ĉ.cut (aR (HS bQ.length)).n=c.next ĉ.w (ĉ.cut (aR (HS bQ.length)).n).ρ (aR (HS bQ.length)):=by
  have hO:ĉ.O=fun b=>iI (aR (HS bQ.length)) (ĉ.cut (aR (HS bQ.length)).n).ρ b∨c.E b:=by
   funext b
   have:=M.rel.own b
   rw[←hE]
   exact propext this
  have hτ:ĉ.τ=c.τ:=M.le.tok
  simp only[Ctx.next,Ctx.cut]at hO ⊢
  rw[hO,hE,M.X,hτ]
 refine⟨(ĉ.cut (aR (HS bQ.length)).n).ρ,by rw[←Kg];exact M.rel,by rw[←Kg];exact M.le,?_⟩
 rw[←Kg]
 have cC:bQ.length≤(bQ.map (·.2)).length:=by simp
 refine⟨by rw[T.len _ cC];exact I.asize,I.defers,fun t ht=>?_⟩
 have ht':t<env.length:=by rw[T.len _ cC]at ht;exact ht
 by_cases hw:∃ (p:Nat) (y:Nat×aH),bQ[p]?=some y∧y.2.dst=some t
 ·obtain⟨p,y,hy,hd⟩:=hw
  have hp:=(List.getElem?_eq_some_iff.1 hy).1
  have e:=T.new (oV hy) hd ht' bQ.length hp cC (fun p' d' a1 a2 tN=>by
   obtain⟨y',e1,e2⟩:=qU tN
   subst e2
   exact Fh F a1 hy e1 hd)
  have e2:(E bQ.length)[t]=V p:=by rw[List.getElem?_eq_getElem ht]at e;exact Option.some.inj e
  rw[e2]
  have hn:=(T.keeps hc hl (by omega:p+1≤bQ.length) cC).n
  exact(I.vals p y t hy (iD p y hy) hd ht').mono (oE (by omega))
 ·have e:=T.old (t:=t) bQ.length cC (fun p d hp hd e=>by
   obtain⟨y,e1,e2⟩:=qU hd
   subst e2
   exact hw ⟨p,y,e1,e⟩)
  have hn:=(T.keeps hc hl (Nat.zero_le bQ.length) cC).n
  have:=(I.olds t fun p y hy _ hd=>hw ⟨p,y,hy,hd⟩).mono (oE (M:=(aR (HS bQ.length)).n) (by omega))
  rw[←e,List.getElem?_eq_getElem ht]at this
  exact this
def unl(ops:List Oper)(listed:Array Bool):Nat:=(List.range ops.length).countP fun i=>!(listed.getD i false)
theorem JY(F:Fit P ops bQ bs)(T:eK call (bQ.map (·.2)) env [h] .start E HS LS V B)(hc:dC call)(fG:iM P call)(hl:h.lim≤h.n){Q:Exit→Act→World→Prop}
  (hQ:∀a' w',St c (aR (HS bQ.length)) (E bQ.length) a' w'→Q .normal a' w'):∀(fuel:Nat) (listed:Array Bool) (a:Act) (ĉ:Ctx) (k:Nat),unl ops listed≤fuel →
  qI ops bQ HS V env listed a ĉ (aR (HS k)).n→kJ bQ E HS B c listed k ĉ→Max bQ listed k→wpAny P .any ops.toArray Q fuel listed a ĉ.w:=by
 intro fuel
 induction fuel with
 | zero =>
  intro listed a ĉ k hu I M Aw
  have hz:unl ops listed=0:=by omega
  unfold unl at hz
  rw[List.countP_eq_zero]at hz
  have hr:Region.ready .any ops.toArray listed=[]:=by
   rw[List.eq_nil_iff_forall_not_mem]
   intro j hj
   obtain⟨q,x,o,U,e⟩:=Tn hj F
   refine U.not ?_
   have:=hz x.1 (List.mem_range.2 (jR F U.hx))
   unfold Li
   simpa using this
  exact⟨hr,hQ _ _ (Mp F T hc hl I M Aw (Gx F I.size hr))⟩
 | succ fuel ih =>
  intro listed a ĉ k hu I M Aw
  refine⟨fun hr=>hQ _ _ (Mp F T hc hl I M Aw (Gx F I.size hr)),fun j hj=>?_⟩
  obtain⟨q,x,o,U,e⟩:=Tn hj F
  subst e
  refine CV F T hc fG hl I M Aw U fun a' ĉ1 k1 I1 M1 hmax1=>ih _ a' ĉ1 k1 ?_ I1 M1 hmax1
  have aY:x.1<listed.size:=by rw[I.size];exact jR F U.hx
  have:unl ops (listed.setIfInBounds x.1 true)<unl ops listed:=by
   refine CX (i:=x.1) ?_ ?_ _ (fun y _ hy=>?_) (List.mem_range.2 (jR F U.hx))
   ·have:=U.not;unfold Li at this;simpa using this
   ·have:=(iH (listed:=listed) (i:=x.1) aY).2 (.inr rfl)
    unfold Li at this
    rw[this];rfl
   ·have h2:¬Li (listed.setIfInBounds x.1 true) y:=by unfold Li;simpa using hy
    have h3:¬Li listed y:=fun h3=>h2 ((iH aY).2 (.inl h3))
    unfold Li at h3
    simpa using h3
  omega
theorem K8(hm:P.follows .mixedOrders=true){id:Nat}{ops:Array Oper}{ds:List aH}(hcomp:fD P ops.toList true=some (.draw ds))(hc:dC call)(fG:iM P call){aU:Env}{h':aA}
  (gB:dL call ds env [h] .start=some (aU,h')) (hR:Rel h c) (hE:bY c env a) {Q:Exit→Act→World→Prop} (hQ:∀a' w',St c h' aU a' w'→Q .normal a' w'):(Code.region id ops true).wp P Q a c.w:=by
 obtain⟨bQ,bs,e,F⟩:=eI hcomp
 have e:ds=bQ.map (·.2):=by cases e;rfl
 subst e
 obtain⟨E,HS,LS,V,B,T,t1,gs,t2⟩:=Mz _ _ _ _ _ _ gB
 refine wp_region_any hm ?_
 have cC:(bQ.map (·.2)).length=bQ.length:=by simp
 rw[cC]at t1 t2
 have hQ':∀a' w',St c (aR (HS bQ.length)) (E bQ.length) a' w'→Q .normal a' w':=fun a' w' cS=>hQ a' w' (by rw[t2]at cS;rw[←t1];exact cS)
 let ĉ:Ctx:={c with w:={c.w with drawn:=c.w.drawn+1}}
 have hH0:aR (HS 0)=h:=by rw[T.H0];rfl
 have hself:c.next c.w c.ρ h=c:=hR.same
 have hĉ:ĉ=c.next {c.w with drawn:=c.w.drawn+1} c.ρ h:=by
  have:c.O=fun b=>iI h c.ρ b∨c.E b:=by funext b;exact propext (hR.own b)
  simp only[ĉ,Ctx.next]
  rw[this]
 obtain⟨r1,r2⟩:=hR.heapEq {c.w with drawn:=c.w.drawn+1} rfl
 rw[←hĉ]at r1 r2
 have Ff:=KD r1
 have dX:(Array.replicate ops.size false).size=ops.toList.length:=by simp
 have Qa:∀i,¬Li (Array.replicate ops.size false) i:=fun i=>by unfold Li;rw[WT];simp
 have I0:qI ops.toList bQ HS V env (Array.replicate ops.size false) a ĉ (aR (HS 0)).n :=
  ⟨dX,fun j o _ hj=>absurd hj (Qa j),hE.size,hE.defers,fun p x t _ hL=>absurd hL (Qa _),fun t _=>by
   rw[Nat.max_self,hH0,Ff]
   exact(hE.get t).mono r2⟩
 have hdom:∀id,(aR (HS 0)).n≤id→ĉ.ρ id=none:=fun id eF=>by
  cases hr:ĉ.ρ id with
  | none=>rfl
  | some p =>
   have:=r1.dom id (by rw[hr];simp)
   rw[hH0]at eF
   omega
 have M0:kJ bQ E HS B c (Array.replicate ops.size false) 0 ĉ :=
  ⟨Nat.zero_le _,fun p x hp=>absurd hp (Nat.not_lt_zero _),by rw[hH0,Ff];exact r1,by rw[hH0,Ff];exact r2,rfl,fun b hb=>.inl hb,fun b hb=>hb,fun id b x eF hr=>(by rw[hdom id eF]at hr;cases hr),
   fun p x _ _ _ hL=>absurd hL (Qa _),fun id id' b h1 _ h3=>(by rw[hdom id h1]at h3;cases h3)⟩
 obtain⟨k1,ĉ1,_,g1,g2,g3,g4,g5⟩:=M0.advance F T hc (by exact hR.lim) _ 0 ĉ rfl
 have:=JY F T hc fG hR.lim hQ' ops.size (Array.replicate ops.size false) a ĉ1 k1 (by
  unfold unl
  refine Nat.le_trans List.countP_le_length ?_
  simp) (I0.mono g3 g1) g4 g5
 rw[g2]at this
 have e:ops.toList.toArray=ops:=by simp
 rw[e]at this
 exact this
end
end Go.Dm
/-
Part 29 of "Dm" (ahead of part 27): a call on a row of unknown capacity, run under each capacity that makes a difference.
-/
namespace Go.Dm
theorem VR.belowN{c:Ctx}{d:DV}{v:Value}(h:VR c d v){N:Nat}:∀n,Dm.dR n N d=true→VR (c.cut N) d v:=by
 induction h with
 | unk v=>intro n _;exact .unk v
 | bool b=>intro n _;exact .bool b
 | int k m=>intro n _;exact .int k m
 | atl h=>intro n _;exact .atl h
 | tok h=>intro n _;exact .tok h
 | str s=>intro n _;exact .str s
 | nilp=>intro n _;exact .nilp
 | ptr h =>
  intro n hb
  cases n with
  | zero=>simp[Dm.dR]at hb
  | succ n =>
   simp only[Dm.dR,decide_eq_true_eq]at hb
   exact .ptr (by rw[gG hb];exact h)
 | iptr vals hb hO hX hc hv _=>intro n _;exact .iptr vals hb hO hX hc hv
 | nsl a=>intro n _;exact .nsl a
 | sl h hs hn hl ho =>
  intro n hb
  cases n with
  | zero=>simp[Dm.dR]at hb
  | succ n =>
   simp only[Dm.dR,decide_eq_true_eq]at hb
   exact .sl (by rw[gG hb];exact h) hs hn hl ho
 | isl0 a cap=>intro n _;exact .isl0 a cap
 | isl vals cC gZ hb hO hX dX hc hv _=>intro n _;exact .isl vals cC gZ hb hO hX dX hc hv
 | nmap=>intro n _;exact .nmap
 | map h =>
  intro n hb
  cases n with
  | zero=>simp[Dm.dR]at hb
  | succ n =>
   simp only[Dm.dR,decide_eq_true_eq]at hb
   exact .map (by rw[gG hb];exact h)
 | func hl _ ih =>
  intro n hb
  cases n with
  | zero=>simp[Dm.dR]at hb
  | succ n =>
   simp only[Dm.dR,List.all_eq_true]at hb
   exact .func hl fun i h1 h2=>ih i h1 h2 n (hb _ (List.getElem_mem h1))
 | nilf=>intro n _;exact .nilf
 | iface _ ih =>
  intro n hb
  cases n with
  | zero=>simp[Dm.dR]at hb
  | succ n =>
   simp only[Dm.dR]at hb
   exact .iface (ih n hb)
 | nili=>intro n _;exact .nili
 | agg hl h1 _ ih =>
  intro n hb
  cases n with
  | zero=>simp[Dm.dR]at hb
  | succ n =>
   simp only[Dm.dR,List.all_eq_true]at hb
   exact .agg hl h1 fun i h1 h2=>ih i h1 h2 n (hb _ (List.getElem_mem h1))
 | tup hl _ ih =>
  intro n hb
  cases n with
  | zero=>simp[Dm.dR]at hb
  | succ n =>
   simp only[Dm.dR,List.all_eq_true]at hb
   exact .tup hl fun i h1 h2=>ih i h1 h2 n (hb _ (List.getElem_mem h1))
theorem VR.cut_old{c0:Ctx}{d:DV}{v0:Value}(h:VR c0 d v0){N:Nat}(hd:∀id,c0.ρ id≠none→id<N):∀{c:Ctx} {v:Value},VR c d v→VR (c.cut N) d v:=by
 induction h with
 | unk v=>intro c v _;exact .unk v
 | bool b=>intro c v h;cases h;exact .bool b
 | int k m=>intro c v h;cases h;exact .int k m
 | atl h0=>intro c v h;cases h;exact .atl (by assumption)
 | tok h0=>intro c v h;cases h;exact .tok (by assumption)
 | str s=>intro c v h;cases h;exact .str s
 | nilp=>intro c v h;cases h;exact .nilp
 | ptr h0 =>
  intro c v h
  cases h with
  | ptr h1=>exact .ptr (by rw[gG (hd _ (by rw[h0];simp))];exact h1)
 | iptr vals hb hO hX hc hv _ =>
  intro c v h
  cases h with
  | iptr vals hb hO hX hc hv=>exact .iptr vals hb hO hX hc hv
 | nsl a=>intro c v h;cases h;exact .nsl _
 | sl h0 _ _ _ _ =>
  intro c v h
  cases h with
  | sl h1 hs hn hl ho=>exact .sl (by rw[gG (hd _ (by rw[h0];simp))];exact h1) hs hn hl ho
 | isl0 a cap =>
  intro c v h
  cases h with
  | isl0 a cap=>exact .isl0 a cap
  | isl vals cC gZ hb hO hX dX hc hv=>exact .isl vals cC gZ hb hO hX dX hc hv
 | isl _ _ _ _ _ _ _ _ _ _ =>
  intro c v h
  cases h with
  | isl0 a cap=>exact .isl0 a cap
  | isl vals cC gZ hb hO hX dX hc hv=>exact .isl vals cC gZ hb hO hX dX hc hv
 | nmap=>intro c v h;cases h;exact .nmap
 | map h0 =>
  intro c v h
  cases h with
  | map h1=>exact .map (by rw[gG (hd _ (by rw[h0];simp))];exact h1)
 | func RP _ ih =>
  intro c v h
  cases h with
  | func hl hv=>exact .func hl fun i h1 h2=>ih i h1 (by omega) hd (hv i h1 h2)
 | nilf=>intro c v h;cases h;exact .nilf
 | iface _ ih =>
  intro c v h
  cases h with
  | iface h1=>exact .iface (ih hd h1)
 | nili=>intro c v h;cases h;exact .nili
 | agg RP _ _ ih =>
  intro c v h
  cases h with
  | agg hl h1 hv=>exact .agg hl h1 fun i h1 h2=>ih i h1 (by omega) hd (hv i h1 h2)
 | tup RP _ ih =>
  intro c v h
  cases h with
  | tup hl hv=>exact .tup hl fun i h1 h2=>ih i h1 (by omega) hd (hv i h1 h2)
section
variable {h:aA} {c:Ctx}
theorem FX(hR:Rel h c){id ety sz off len:Nat}{xs:List DV}(hg:h.get id=some (.arr ety sz xs none)){v:Value}(hv:VR c (.sl id sz off len) v)(k:Nat) :
  ∃ e cap ρ1,((e=k∧cap=none)∨(e<k∧cap=some (xs.length+e))) ∧
   Rel ((h.set id .dead).push (.arr ety sz (xs++List.replicate e .unk) cap)) (c.next c.w ρ1 ((h.set id .dead).push (.arr ety sz (xs++List.replicate e .unk) cap))) ∧
   bI c (c.next c.w ρ1 ((h.set id .dead).push (.arr ety sz (xs++List.replicate e .unk) cap))) ∧
   VR (c.next c.w ρ1 ((h.set id .dead).push (.arr ety sz (xs++List.replicate e .unk) cap))) (.sl h.n sz off len) v:=by
 obtain⟨b,base,fA,gK,nn,lP,dD,hρ,dV,yU,Ay,Eo⟩:=hv.sl_inv
 obtain⟨cur,m,g1,g2,g3,g4,g5,g6⟩:=hR.arr hg hρ
 have yT:=hR.oneRow hg hρ g1
 have main:∀e cap,xs.length+e≤m→(∀q,cap=some q→q=m∧(xs++List.replicate e DV.unk).length=m) →
   ∃ ρ1,Rel ((h.set id .dead).push (.arr ety sz (xs++List.replicate e .unk) cap)) (c.next c.w ρ1 ((h.set id .dead).push (.arr ety sz (xs++List.replicate e .unk) cap))) ∧
   bI c (c.next c.w ρ1 ((h.set id .dead).push (.arr ety sz (xs++List.replicate e .unk) cap))) ∧
   VR (c.next c.w ρ1 ((h.set id .dead).push (.arr ety sz (xs++List.replicate e .unk) cap))) (.sl h.n sz off len) v:=by
  intro e cap hem gZ
  obtain⟨k1,k2⟩:=hR.moved (.arr ety sz (xs++List.replicate e .unk) cap) hg rfl rfl (base':=base) hρ c.w rfl (fun _ _=>rfl) (fun _ _ hs=>hs) (.refl _) (fun cD=>by
   refine⟨b,base,cur,m,by simp[Ctx.next],g1,g2,g3,by simpa using hem,gZ,yT,fun i hi=>?_⟩
   by_cases hx:i<xs.length
   ·rw[List.getElem_append_left hx]
    obtain⟨a1,a2⟩:=g6 i hx
    refine⟨a1,fun j hj=>?_⟩
    obtain⟨u,b1,b2,b3⟩:=a2 j hj
    exact⟨u,b1,b2,b3.mono cD⟩
   ·rw[List.getElem_append_right (Nat.le_of_not_lt hx)]
    simp only[List.getElem_replicate,aF,List.length_replicate,true_and]
    intro j hj
    simp only[List.length_append,List.length_replicate]at hi
    have hb:base+i*sz+j<cur.size:=by
     have:(i+1)*sz≤m*sz:=Nat.mul_le_mul_right _ (by omega)
     rw[Nat.add_mul]at this
     omega
    exact⟨cur[base+i*sz+j],Array.getElem?_eq_getElem hb,yT _ _ (Array.getElem?_eq_getElem hb),.unk _⟩)
  refine⟨_,k1,k2,?_⟩
  rw[dD]
  exact .sl (by simp[Ctx.next]) dV yU Ay Eo
 by_cases hk:xs.length+k≤m
 ·obtain⟨ρ1,k1,k2,k3⟩:=main k none hk (fun q hq=>by cases hq)
  exact⟨k,none,ρ1,.inl ⟨rfl,rfl⟩,k1,k2,k3⟩
 ·obtain⟨ρ1,k1,k2,k3⟩:=main (m-xs.length) (some (xs.length+(m-xs.length))) (by omega) (fun q hq=>by cases hq;simp;omega)
  exact⟨m-xs.length,_,ρ1,.inr ⟨by omega,rfl⟩,k1,k2,k3⟩
theorem Y5(hR:Rel h c){id ety sz:Nat}{ob:DO}(hg:h.get id=some ob){hj:aA}{w':World}{ρj:Nat→Option (Nat×Nat)}(hRj:Rel hj (c.next w' ρj hj))(cD:bI c (c.next w' ρj hj))
  (Hl:∀i,i<h.n→hj.get i=(h.set id .dead).get i) {l:List DV} {r:DV} (sK:pM h ety sz (some (r,hj))=some l) {v:Value} (hv:VR (c.next w' ρj hj) r v) :
  jS h c ((h.set id .dead).push (.arr ety sz l none)) w' (.sl h.n sz 0 l.length) v:=by
 unfold pM at sK
 split at sK
 ·rename_i idj dK off len h0 RV
  cases RV
  split at sK
  ·rename_i lP jQ xs cap hgj
   split at sK
   ·rename_i bS
    obtain⟨e1,e2,e3,hidj,cC,hbel⟩:=bS
    subst e1;subst e2;subst e3
    cases sK
    have eF:=cY hg
    obtain⟨b,base,fA,gK,nn,ety'',dD,hρ,dV,yU,Ay,Eo⟩:=hv.sl_inv
    obtain⟨cur,m,g1,g2,g3,g4,g5,g6⟩:=hRj.arr hgj hρ
    have yT:=hRj.oneRow hgj hρ g1
    have Rh:((xs.drop off).take len).length=len:=by simp;omega
    have hnf:((h.set id .dead).push (.arr ety sz ((xs.drop off).take len) none)).n=h.n+1:=rfl
    let hf:aA:=(h.set id .dead).push (.arr ety sz ((xs.drop off).take len) none)
    let ρf:Nat→Option (Nat×Nat):=fun i=>if i<h.n then ρj i else if i=h.n then some (b,base+off*sz)else none
    have rlt:∀i,i<h.n→ρf i=ρj i:=fun i hi=>by simp only[ρf,if_pos hi]
    have rn:ρf h.n=some (b,base+off*sz):=by simp[ρf]
    have getf:∀i o,hf.get i=some o→(i=h.n∧o=.arr ety sz ((xs.drop off).take len) none)∨(i<h.n∧hj.get i=some o∧(h.set id .dead).get i=some o):=by
     intro i o hi
     simp only[hf,cH]at hi
     have e0:(h.set id .dead).n=h.n:=rfl
     rw[e0]at hi
     split at hi
     ·rename_i e;cases hi;exact .inl ⟨e,rfl⟩
     ·have hl:=cY hi
      have G2:i<h.n:=hl
      exact .inr ⟨G2,by rw[Hl i G2];exact hi,hi⟩
    have iX:∀y,iI hf ρf y→iI hj ρj y:=by
     rintro y ⟨i,o,x,hi,ha,hr⟩
     rcases getf i o hi with⟨e,_⟩|⟨hl,uO,_⟩
     ·subst e
      rw[rn]at hr;cases hr
      exact⟨idj,_,base,hgj,rfl,hρ⟩
     ·rw[rlt i hl]at hr
      exact⟨i,o,x,uO,ha,hr⟩
    have G1:bI ((c.next w' ρj hj).cut h.n) (c.next w' ρf hf) :=
     ⟨fun i p hp=>by
      obtain⟨h1,h2⟩:=qA hp
      show ρf i=some p
      rw[rlt i h1];exact h2,Nat.le_refl _,fun _ _ _=>rfl,fun y hy=>.inl (hy.imp (iX y) (fun x=>x)),fun _ _ _ hs=>hs,fun _ hx=>hx,fun _ _ hE=>⟨hE,rfl⟩,.refl _,rfl⟩
    have hlef:bI c (c.next w' ρf hf) :=
     ⟨fun i p hp=>by
      have hi:i<h.n:=hR.dom i (by rw[hp];simp)
      show ρf i=some p
      rw[rlt i hi];exact cD.rho i p hp,cD.size,cD.frame,fun y hy=>cD.own y (hy.imp (iX y) (fun x=>x)),cD.shape,cD.X,cD.pend,cD.quiet,cD.tok⟩
    have hoff:off+fA=m:=by
     rw[dN g1]at dV
     cases dV
     exact zX g2 g3 yU
    refine⟨ρf,⟨sJ (Ao hR.len),Nat.le_succ_of_le hR.lim,fun i hi=>?_,fun i o hi=>?_,fun i j oi oj y x1 x2 hi uO pU Mk nX xN=>?_,fun _=>Iff.rfl,fun y hy=>hRj.notX y (hy.imp (iX y) (fun x=>x)),hRj.old,fun y hy=>⟨(hRj.pend y hy).1,fun ho=>(hRj.pend y hy).2 (iX y ho)⟩,hR.glob.mono hlef⟩,hlef,?_⟩
    ·rw[hnf]
     refine Nat.lt_succ_of_le (Nat.le_of_not_lt fun aY=>hi ?_)
     have h1:¬i<h.n:=by omega
     have h2:i≠h.n:=by omega
     show ρf i=none
     simp only[ρf,if_neg h1,if_neg h2]
    ·rcases getf i o hi with⟨e,e2⟩|⟨hl,uO,hs⟩
     ·subst e;subst e2
      have dX:cur.size=base+off*sz+(m-off)*sz:=by
       have:off*sz+(m-off)*sz=m*sz:=by rw[←Nat.add_mul];congr 1;omega
       omega
      refine⟨b,base+off*sz,cur,m-off,rn,g1,g2,dX,by rw[Rh];omega,(fun k hk=>by cases hk),yT,fun q hq=>?_⟩
      rw[Rh]at hq
      have Bs:off+q<xs.length:=by omega
      have hx:((xs.drop off).take len)[q]'(by rw[Rh];exact hq)=xs[off+q]:=by simp
      obtain⟨a1,a2⟩:=g6 (off+q) Bs
      rw[hx]
      refine⟨a1,fun j Ve=>?_⟩
      obtain⟨u,b1,b2,b3⟩:=a2 j Ve
      have Av:xs[off+q]∈(xs.drop off).take len:=by rw[←hx];exact List.getElem_mem _
      have Ho:=List.all_eq_true.1 hbel _ Av
      refine⟨u,by rw[Nat.add_mul]at b1;rw[←b1];congr 1;omega,b2,?_⟩
      have hcell:Dm.dR 200 h.n (aF sz xs[off+q])[j]=true∨Dm.dR 199 h.n (aF sz xs[off+q])[j]=true:=by
       have key:∀(d:DV) (PJ:j<(aF sz d).length),Dm.dR 200 h.n d=true→Dm.dR 200 h.n (aF sz d)[j]=true∨Dm.dR 199 h.n (aF sz d)[j]=true:=by
        intro d PJ hd
        cases d
        case agg cs =>
         have tN:cs.all (Dm.dR 199 h.n)=true:=hd
         exact .inr (List.all_eq_true.1 tN _ (List.getElem_mem PJ))
        case unk=>simp only[aF,List.getElem_replicate];exact .inl rfl
        case tup=>simp[aF]at PJ
        all_goals
         simp only[aF,List.length_singleton,Nat.lt_one_iff]at PJ
         subst PJ
         exact .inl hd
       exact key _ Ve Ho
      rcases hcell with hc|hc
      ·exact(b3.belowN 200 hc).mono G1
      ·exact(b3.belowN 199 hc).mono G1
     ·have hob:=hRj.obj i o uO
      cases o with
      | dead=>trivial
      | arr ety2 sz2 ys cap2 =>
       have cK:i≠id:=fun e=>by
        subst e
        rw[bV hR.len hg]at hs
        cases hs
       rw[aN eF cK]at hs
       obtain⟨b2,base2,cur2,m2,q1,q2,q3,q4,q5,q6,q7,q8⟩:=hob
       obtain⟨b3,base3,cur3,m3,r1,r2,r3,r4,r5,r6,r7,r8⟩:=hR.obj i _ hs
       refine⟨b2,base2,cur2,m2,by show ρf i=_;rw[rlt i hl];exact q1,q2,q3,q4,q5,q6,q7,fun q hq=>⟨(q8 q hq).1,fun j Ve=>?_⟩⟩
       obtain⟨u,a1,a2,a3⟩:=(q8 q hq).2 j Ve
       obtain⟨u0,_,_,a4⟩:=(r8 q hq).2 j Ve
       exact⟨u,a1,a2,(a4.cut_old hR.dom a3).mono G1⟩
      | mp es =>
       have cK:i≠id:=fun e=>by
        subst e
        rw[bV hR.len hg]at hs
        cases hs
       rw[aN eF cK]at hs
       obtain⟨es2,EA,b2,en2,cl2,q1,q2,q3,q4,q5⟩:=hob
       obtain⟨es3,hp3,b3,en3,cl3,r1,r2,r3,r4,_⟩:=hR.obj i _ hs
       refine⟨es2,EA,b2,en2,cl2,by show ρf i=_;rw[rlt i hl];exact q1,q2,q3,fun q a1 a2=>?_,q5⟩
       obtain⟨s1,s2⟩:=q4 q a1 a2
       obtain⟨q',u1,Bs⟩:=List.getElem_of_mem ((EA.symm.trans hp3).mem_iff.1 (List.getElem_mem a1))
       obtain⟨t1,t2⟩:=r4 q' u1 (by omega)
       rw[Bs]at t1 t2
       exact⟨(t1.cut_old hR.dom s1).mono G1,(t2.cut_old hR.dom s2).mono G1⟩
    ·rcases getf i oi hi with⟨e1,_⟩|⟨l1,j1,_⟩<;>rcases getf j oj uO with⟨e2,_⟩|⟨l2,j2,_⟩
     ·omega
     ·subst e1
      have hri':ρf h.n=some (y,x1):=nX
      rw[rn]at hri';cases hri'
      have hrj':ρj j=some (b,x2):=by rw[←rlt j l2];exact xN
      have:=hRj.inj idj j _ oj b base x2 hgj j2 rfl Mk hρ hrj'
      omega
     ·subst e2
      have hrj':ρf h.n=some (y,x2):=xN
      rw[rn]at hrj';cases hrj'
      have hri':ρj i=some (b,x1):=by rw[←rlt i l1];exact nX
      have:=hRj.inj idj i _ oi b base x1 hgj j1 rfl pU hρ hri'
      omega
     ·have hri':ρj i=some (y,x1):=by rw[←rlt i l1];exact nX
      have hrj':ρj j=some (y,x2):=by rw[←rlt j l2];exact xN
      exact hRj.inj i j oi oj y x1 x2 j1 j2 pU Mk hri' hrj'
    ·rw[Rh,dD]
     exact .sl rn dV (by rw[Nat.zero_mul,Nat.add_zero];exact yU) Ay (by rw[Nat.zero_mul,Nat.add_zero];exact Eo)
   ·cases sK
  ·cases sK
 ·cases sK
end
end Go.Dm
/-
Part 31 of "Dm" (ahead of part 27): pure calls: what is handed in is read off; the callee starts with a heap of its own; what it answers is read off.
-/
namespace Go.Dm
def Ctx.lend(c:Ctx):Ctx:=⟨c.w,fun _=>none,fun _=>False,fun b=>c.O b∨c.X b,fun _=>False,c.τ⟩
theorem Rel.lend{h:aA}{c:Ctx}(hR:Rel h c):Rel {objs:=[],n:=0,lim:=0} c.lend:=by
 have hg:∀id,({objs:=[],n:=0,lim:=0}:aA).get id=none:=fun id=>by simp[aA.get]
 exact⟨rfl,Nat.le_refl _,fun id h=>absurd rfl h,fun id o h=>(by rw[hg]at h;cases h),fun i j oi oj b x y hi=>(by rw[hg]at hi;cases hi),fun b=>⟨fun h=>h.elim,fun h=>by
  rcases h with⟨id,o,x,rR,_⟩|h
  ·rw[hg]at rR;cases rR
  ·exact h.elim⟩,fun b h=>h.elim,fun b h=>h.elim (fun h1=>hR.O_lt h1) (fun h1=>hR.old b h1),fun b h=>h.elim,fun b v hv=>⟨(hR.glob b v hv).1,fun h=>h,(hR.glob b v hv).2.2⟩⟩
theorem VR.lendStill{c0:Ctx}{d:DV}{v:Value}(h:VR c0 d v):∀{c:Ctx},c0=c.still→VR c.lend d v:=by
 induction h with
 | unk v=>intro c _;exact .unk v
 | bool b=>intro c _;exact .bool b
 | int k n=>intro c _;exact .int k n
 | atl h=>intro c _;exact .atl h
 | tok h=>intro c e;exact .tok (by rw[e]at h;exact h)
 | str s=>intro c _;exact .str s
 | nilp=>intro c _;exact .nilp
 | ptr h=>intro c e;rw[e]at h;cases h
 | iptr vals hb hO hX hc hv ih =>
  intro c e
  subst e
  exact .iptr vals hb (fun h=>h) (fun hl hx=>hx.elim hO (hX hl)) hc (fun j hj=>ih j hj rfl)
 | nsl a=>intro c _;exact .nsl a
 | sl h=>intro c e;rw[e]at h;cases h
 | isl0 a cap=>intro c _;exact .isl0 a cap
 | isl vals cC gZ hb hO hX dX hc hv ih =>
  intro c e
  subst e
  exact .isl vals cC gZ hb (fun h=>h) (fun hl hx=>hx.elim hO (hX hl)) dX hc (fun i hi j hj=>ih i hi j hj rfl)
 | nmap=>intro c _;exact .nmap
 | map h=>intro c e;rw[e]at h;cases h
 | func hl _ ih=>intro c e;exact .func hl fun i h1 h2=>ih i h1 h2 e
 | nilf=>intro c _;exact .nilf
 | iface _ ih=>intro c e;exact .iface (ih e)
 | nili=>intro c _;exact .nili
 | agg hl h1 _ ih=>intro c e;exact .agg hl h1 fun i a1 a2=>ih i a1 a2 e
 | tup hl _ ih=>intro c e;exact .tup hl fun i a1 a2=>ih i a1 a2 e
theorem VR.mkIsl{c : Ctx}{tag : Bool}{sz : Nat}{xs : List DV}{v : Value}(h : VR c (.isl tag sz xs) v) : VR c (Dm.mkIsl tag sz xs) v := by
  cases xs with
  | nil => rcases h.isl_inv with⟨_, a, cap, rfl⟩ | ⟨b, o, cap, vals, rfl, _⟩
           · exact .isl0 a cap
           · exact .isl0 _ _
  | cons x xs => exact h
theorem lD{tag:Bool}{h:aA}{sz:Nat}:∀{n:Nat} {e e':DV},resolve tag h n e=some e' →
  (aF sz e').length=(aF sz e).length∧∀j (h1:j<(aF sz e').length) (h2:j<(aF sz e).length),(∃ m,m≤n∧resolve tag h m (aF sz e)[j]=some (aF sz e')[j]):=by
 intro n e e' hr
 cases n with
 | zero=>simp[resolve]at hr
 | succ n =>
  cases e with
  | agg cs =>
   simp only[resolve]at hr
   split at hr
   ·rename_i c hc
    cases hr
    exact⟨bZ _ _ _ hc,fun j h1 h2=>⟨n,Nat.le_succ _,eG _ _ _ hc j h2 h1⟩⟩
   ·cases hr
  | tup cs =>
   simp only[resolve]at hr
   split at hr
   ·cases hr
    exact⟨rfl,fun j h1 _=>absurd h1 (by simp[aF])⟩
   ·cases hr
  | unk =>
   simp only[resolve]at hr
   cases hr
   refine⟨rfl,fun j h1 h2=>⟨n+1,Nat.le_refl _,?_⟩⟩
   simp[aF,resolve]
  | ptr id s idx off =>
   have BT:=hr
   simp only[resolve]at hr
   (repeat' split at hr)<;>first|(cases hr;done)|skip
   cases hr
   refine⟨rfl,fun j h1 h2=>⟨n+1,Nat.le_refl _,?_⟩⟩
   have hj:j=0:=by simpa[aF]using h1
   subst hj
   simpa[aF]using BT
  | sl id s off len =>
   have BT:=hr
   simp only[resolve]at hr
   (repeat' split at hr)<;>first|(cases hr;done)|skip
   have e1:=Option.some.inj hr
   have key:∀q,aF sz (Dm.mkIsl tag s q)=[Dm.mkIsl tag s q]:=by intro q;cases q<;>rfl
   rw[←e1,key]
   refine⟨rfl,fun j h1 h2=>⟨n+1,Nat.le_refl _,?_⟩⟩
   have hj:j=0:=by simpa using h1
   subst hj
   simp only[List.getElem_cons_zero]
   rw[e1]
   simpa[aF]using BT
  | map id=>simp[resolve]at hr
  | func f cap =>
   have BT:=hr
   simp only[resolve]at hr
   (repeat' split at hr)<;>first|(cases hr;done)|skip
   cases hr
   refine⟨rfl,fun j h1 h2=>⟨n+1,Nat.le_refl _,?_⟩⟩
   have hj:j=0:=by simpa[aF]using h1
   subst hj
   simpa[aF]using BT
  | iface t v =>
   have BT:=hr
   simp only[resolve]at hr
   (repeat' split at hr)<;>first|(cases hr;done)|skip
   cases hr
   refine⟨rfl,fun j h1 h2=>⟨n+1,Nat.le_refl _,?_⟩⟩
   have hj:j=0:=by simpa[aF]using h1
   subst hj
   simpa[aF]using BT
  | isl l s xs =>
   have BT:=hr
   simp only[resolve]at hr
   cases hr
   have key:∀q,aF sz (Dm.mkIsl l s q)=[Dm.mkIsl l s q]:=by intro q;cases q<;>rfl
   rw[key]
   refine⟨rfl,fun j h1 h2=>⟨n+1,Nat.le_refl _,?_⟩⟩
   have hj:j=0:=by simpa using h1
   subst hj
   simpa[aF]using BT
  | _ =>
   simp only[resolve]at hr
   cases hr
   refine⟨rfl,fun j h1 h2=>⟨n+1,Nat.le_refl _,?_⟩⟩
   have hj:j=0:=by simpa[aF]using h1
   subst hj
   simp[aF,resolve]
theorem Zp{h:aA}{c:Ctx}(hR:Rel h c):∀n {d d':DV} {v:Value},VR c d v→resolve true h n d=some d'→VR c.lend d' v:=by
 intro n
 induction n using Nat.strongRecOn with
 | _ n ih =>
 cases n with
 | zero=>intro d d' v _ hr;simp[resolve]at hr
 | succ n =>
  have many:∀{ds es:List DV} {vs:List Value},ds.mapM (resolve true h n)=some es→(∀i (h1:i<ds.length) (h2:i<vs.length),VR c ds[i] vs[i])→ds.length=vs.length →
    es.length=vs.length∧∀i (h1:i<es.length) (h2:i<vs.length),VR c.lend es[i] vs[i]:=by
   intro ds es vs hm hv hl
   have Fb:=bZ _ _ _ hm
   exact⟨by omega,fun i h1 h2=>ih n (Nat.lt_succ_self n) (hv i (by omega) h2) (eG _ _ _ hm i (by omega) h1)⟩
  intro d d' v hv hr
  cases d with
  | unk=>simp only[resolve]at hr;cases hr;exact .unk v
  | bool b=>simp only[resolve]at hr;cases hr;cases hv;exact .bool b
  | int k m=>simp only[resolve]at hr;cases hr;cases hv;exact .int k m
  | atl m=>simp only[resolve]at hr;cases hr;cases hv;exact .atl (by assumption)
  | tok m=>simp only[resolve]at hr;cases hr;cases hv;exact .tok (by assumption)
  | str s=>simp only[resolve]at hr;cases hr;cases hv;exact .str s
  | nilp=>simp only[resolve]at hr;cases hr;cases hv;exact .nilp
  | nmap=>simp only[resolve]at hr;cases hr;cases hv;exact .nmap
  | nilf=>simp only[resolve]at hr;cases hr;cases hv;exact .nilf
  | nili=>simp only[resolve]at hr;cases hr;cases hv;exact .nili
  | map id=>simp[resolve]at hr
  | nsl=>simp only[resolve]at hr;cases hr;obtain⟨a,rfl⟩:=hv.nsl_inv;exact .isl0 a 0
  | ptr id sz idx off =>
   simp only[resolve]at hr
   split at hr
   ·rename_i ety dK xs cap hg
    split at hr
    ·rename_i dX
     subst dX
     split at hr
     ·rename_i e he
      split at hr
      ·rename_i cs Ff
       cases hr
       obtain⟨b,base,rfl,hρ⟩:=hv.ptr_inv
       obtain⟨cur,m,g1,g2,g3,g4,g5,g6⟩:=hR.arr hg hρ
       obtain⟨hi,hxe⟩:=List.getElem?_eq_some_iff.1 he
       obtain⟨a1,a2⟩:=g6 idx hi
       rw[hxe]at a1 a2
       have hl:=bZ _ _ _ Ff
       refine .iptr (fun j=>(cur[base+idx*sz+j]?).getD undef) (Array.getElem?_eq_some_iff.1 g1).1 (fun h=>h) (fun h=>by cases h) (fun j hj=>?_) (fun j hj=>?_)
       ·obtain⟨u,b1,b2,b3⟩:=a2 j (by omega)
        exact⟨by rw[iG (show c.lend.w.heap[b]?=_ from g1),b1];simp,by rw[b1];exact b2⟩
       ·obtain⟨u,b1,b2,b3⟩:=a2 j (by omega)
        rw[b1]
        exact ih n (Nat.lt_succ_self n) b3 (eG _ _ _ Ff j (by omega) hj)
      ·cases hr
     ·cases hr
    ·cases hr
   ·cases hr
  | sl id sz off len =>
   simp only[resolve]at hr
   split at hr
   ·rename_i ety dK xs cap hg
    split at hr
    ·rename_i bS
     obtain⟨dX,cC⟩:=bS
     subst dX
     split at hr
     ·rename_i ys xA
      cases hr
      apply VR.mkIsl
      obtain⟨b,base,fA,gK,nn,lP,rfl,hρ,dV,yU,Ay,Eo⟩:=hv.sl_inv
      obtain⟨cur,m,g1,g2,g3,g4,g5,g6⟩:=hR.arr hg hρ
      have hl:=bZ _ _ _ xA
      have Rh:((xs.drop off).take len).length=len:=by simp;omega
      cases len with
      | zero =>
       have:ys=[]:=List.length_eq_zero_iff.1 (by omega)
       subst this
       exact .isl0 _ _
      | succ len =>
       have hco':gK=base+off*sz:=Eo.resolve_right (by omega)
       subst hco'
       have elem:∀i (hi:i<ys.length),∃ hx:off+i<xs.length,resolve true h n xs[off+i]=some ys[i]:=by
        intro i hi
        have h1:i<((xs.drop off).take (len+1)).length:=by omega
        have:=eG _ _ _ xA i h1 hi
        have hx:off+i<xs.length:=by omega
        exact⟨hx,by simpa using this⟩
       refine .isl (fun i j=>(cur[base+off*sz+i*sz+j]?).getD undef) (by omega) Ay (Array.getElem?_eq_some_iff.1 g1).1 (fun h=>h) (fun h=>by cases h) (fun i hi=>?_) (fun i j hi hj=>?_) (fun i hi j hj=>?_)
       ·obtain⟨hx,he⟩:=elem i hi
        rw[(lD (sz:=sz) he).1];exact(g6 _ hx).1
       ·obtain⟨hx,he⟩:=elem i hi
        obtain⟨a1,a2⟩:=g6 _ hx
        obtain⟨u,b1,b2,b3⟩:=a2 j (by omega)
        have e0:base+off*sz+i*sz+j=base+(off+i)*sz+j:=by rw[Nat.add_mul];omega
        exact⟨by rw[iG (show c.lend.w.heap[b]?=_ from g1),e0,b1];simp,by rw[e0,b1];exact b2⟩
       ·obtain⟨hx,he⟩:=elem i hi
        obtain⟨a1,a2⟩:=g6 _ hx
        obtain⟨k1,k2⟩:=lD (sz:=sz) he
        have uO:j<(aF sz xs[off+i]).length:=by omega
        obtain⟨u,b1,b2,b3⟩:=a2 j uO
        have e0:base+off*sz+i*sz+j=base+(off+i)*sz+j:=by rw[Nat.add_mul];omega
        rw[e0,b1]
        obtain⟨q,hq,PE⟩:=k2 j hj uO
        exact ih q (by omega) b3 PE
     ·cases hr
    ·cases hr
   ·cases hr
  | iptr lent cs off =>
   simp only[resolve]at hr
   cases hr
   obtain⟨b,o,vals,rfl,hb,hO,hX,hc,xB⟩:=hv.iptr_inv
   exact .iptr vals hb (fun h=>h) (fun hl hx=>hx.elim hO (hX hl)) hc (fun j hj=>(xB j hj).lendStill rfl)
  | isl lent sz xs =>
   simp only[resolve]at hr
   cases hr
   apply VR.mkIsl
   rcases hv.isl_inv with⟨rfl,a,cap,rfl⟩|⟨b,o,cap,vals,rfl,gZ,hb,hO,hX,dX,hc,xB⟩
   ·exact .isl0 a cap
   ·exact .isl vals rfl gZ hb (fun h=>h) (fun hl hx=>hx.elim hO (hX hl)) dX hc (fun i hi j hj=>(xB i hi j hj).lendStill rfl)
  | func f cap =>
   simp only[resolve]at hr
   split at hr
   ·rename_i es Rj
    cases hr
    obtain⟨vs,rfl,hl,xB⟩:=hv.func_inv
    obtain⟨k1,k2⟩:=many Rj xB hl
    exact .func k1 k2
   ·cases hr
  | iface t x =>
   simp only[resolve]at hr
   split at hr
   ·rename_i y hy
    cases hr
    cases hv with
    | iface hv=>exact .iface (ih n (Nat.lt_succ_self n) hv hy)
   ·cases hr
  | agg cs =>
   simp only[resolve]at hr
   split at hr
   ·rename_i es Rj
    cases hr
    obtain⟨vs,rfl,hl,h1,xB⟩:=hv.agg_inv
    obtain⟨k1,k2⟩:=many Rj xB hl
    exact .agg k1 h1 k2
   ·cases hr
  | tup cs =>
   simp only[resolve]at hr
   split at hr
   ·rename_i es Rj
    cases hr
    obtain⟨vs,rfl,hl,xB⟩:=hv.tup_inv
    obtain⟨k1,k2⟩:=many Rj xB hl
    exact .tup k1 k2
   ·cases hr
theorem xQ{sz m:Nat}{e:DV}(h:aZ m e=true):∀j (hj:j<(aF sz e).length),∃ q,aZ q (aF sz e)[j]=true:=by
 intro j hj
 cases m with
 | zero=>simp[aZ]at h
 | succ m =>
  cases e
  case agg cs =>
   simp only[aZ,List.all_eq_true]at h
   exact⟨m,h _ (List.getElem_mem hj)⟩
  case unk=>exact⟨1,by simp[aF,aZ]⟩
  case tup=>simp[aF]at hj
  all_goals
   simp only[aF,List.length_singleton,Nat.lt_one_iff]at hj
   subst hj
   exact⟨m+1,h⟩
theorem VR.back{c0:Ctx}{d:DV}{v:Value}(h:VR c0 d v):∀{c2 c3:Ctx} {n:Nat},c0=c2.still→aZ n d=true→c3.w=c2.w→c3.τ=c2.τ→(∀b,¬c2.X b→¬c3.O b∧¬c3.X b)→VR c3.still d v:=by
 induction h with
 | unk v=>intros;exact .unk v
 | bool b=>intros;exact .bool b
 | int k n=>intros;exact .int k n
 | atl h=>intros;exact .atl h
 | tok h=>intro c2 c3 n e _ _ ht _;exact .tok (by rw[e]at h;show c3.τ _=_;rw[ht];exact h)
 | str s=>intros;exact .str s
 | nilp=>intros;exact .nilp
 | ptr h=>intro c2 c3 n e;rw[e]at h;cases h
 | iptr vals hb hO hX hc hv ih =>
  intro c2 c3 n e hu hw ht hx
  subst e
  cases n with
  | zero=>simp[aZ]at hu
  | succ n =>
   simp only[aZ,Bool.and_eq_true,Bool.not_eq_true',List.all_eq_true]at hu
   have Pv:=hx _ (hX hu.1)
   exact .iptr vals (by show _<c3.w.heap.size;rw[hw];exact hb) Pv.1 (fun _=>Pv.2) (fun j hj=>by show c3.w.cell? _=_∧_;rw[hw];exact hc j hj) (fun j hj=>ih j hj rfl (hu.2 _ (List.getElem_mem hj)) hw ht hx)
 | nsl a=>intros;exact .nsl a
 | sl h=>intro c2 c3 n e;rw[e]at h;cases h
 | isl0 a cap=>intros;exact .isl0 a cap
 | isl vals cC gZ hb hO hX dX hc hv ih =>
  intro c2 c3 n e hu hw ht hx
  subst e
  cases n with
  | zero=>simp[aZ]at hu
  | succ n =>
   simp only[aZ,Bool.and_eq_true,Bool.not_eq_true',List.all_eq_true]at hu
   have Pv:=hx _ (hX hu.1)
   refine .isl vals cC gZ (by show _<c3.w.heap.size;rw[hw];exact hb) Pv.1 (fun _=>Pv.2) dX (fun i j hi hj=>by show c3.w.cell? _=_∧_;rw[hw];exact hc i j hi hj) (fun i hi j hj=>?_)
   have hm:=hu.2 _ (List.getElem_mem hi)
   obtain⟨q,hq⟩:=xQ hm j hj
   exact ih i hi j hj rfl hq hw ht hx
 | nmap=>intros;exact .nmap
 | map h=>intro c2 c3 n e;rw[e]at h;cases h
 | func hl _ ih =>
  intro c2 c3 n e hu hw ht hx
  cases n with
  | zero=>simp[aZ]at hu
  | succ n =>
   simp only[aZ,List.all_eq_true]at hu
   exact .func hl fun i h1 h2=>ih i h1 h2 e (hu _ (List.getElem_mem h1)) hw ht hx
 | nilf=>intros;exact .nilf
 | iface _ ih =>
  intro c2 c3 n e hu hw ht hx
  cases n with
  | zero=>simp[aZ]at hu
  | succ n=>simp only[aZ]at hu;exact .iface (ih e hu hw ht hx)
 | nili=>intros;exact .nili
 | agg hl h1 _ ih =>
  intro c2 c3 n e hu hw ht hx
  cases n with
  | zero=>simp[aZ]at hu
  | succ n =>
   simp only[aZ,List.all_eq_true]at hu
   exact .agg hl h1 fun i h1 h2=>ih i h1 h2 e (hu _ (List.getElem_mem h1)) hw ht hx
 | tup hl _ ih =>
  intro c2 c3 n e hu hw ht hx
  cases n with
  | zero=>simp[aZ]at hu
  | succ n =>
   simp only[aZ,List.all_eq_true]at hu
   exact .tup hl fun i h1 h2=>ih i h1 h2 e (hu _ (List.getElem_mem h1)) hw ht hx
theorem Tk{h2:aA}{c2:Ctx}(hR:Rel h2 c2){c3:Ctx}(hw:c3.w=c2.w)(ht:c3.τ=c2.τ)(hx:∀b,¬c2.X b→¬c3.O b∧¬c3.X b):∀n {d d':DV} {v:Value},VR c2 d v→resolve false h2 n d=some d'→∀m,aZ m d'=true→VR c3.still d' v:=by
 intro n
 induction n using Nat.strongRecOn with
 | _ n ih =>
 cases n with
 | zero=>intro d d' v _ hr;simp[resolve]at hr
 | succ n =>
  have many:∀{ds es:List DV} {vs:List Value} {m:Nat},ds.mapM (resolve false h2 n)=some es→(∀x∈es,aZ m x=true)→(∀i (h1:i<ds.length) (h2:i<vs.length),VR c2 ds[i] vs[i])→ds.length=vs.length →
    es.length=vs.length∧∀i (h1:i<es.length) (h2:i<vs.length),VR c3.still es[i] vs[i]:=by
   intro ds es vs m hm hu hv hl
   have Fb:=bZ _ _ _ hm
   exact⟨by omega,fun i h1 h2=>ih n (Nat.lt_succ_self n) (hv i (by omega) h2) (eG _ _ _ hm i (by omega) h1) m (hu _ (List.getElem_mem h1))⟩
  intro d d' v hv hr m hu
  have own:∀{id b base:Nat} {ety sz:Nat} {xs:List DV} {cap:Option Nat},h2.get id=some (.arr ety sz xs cap)→c2.ρ id=some (b,base)→¬c3.O b∧¬c3.X b:=fun hg hρ =>
   hx _ (hR.notX _ ((hR.own _).2 (.inl ⟨_,_,_,hg,rfl,hρ⟩)))
  cases d with
  | unk=>simp only[resolve]at hr;cases hr;exact .unk v
  | bool b=>simp only[resolve]at hr;cases hr;cases hv;exact .bool b
  | int k m=>simp only[resolve]at hr;cases hr;cases hv;exact .int k m
  | atl m=>simp only[resolve]at hr;cases hr;cases hv;exact .atl (by assumption)
  | tok m =>
   simp only[resolve]at hr;cases hr;cases hv;rename_i h
   exact .tok (by show c3.τ _=_;rw[ht];exact h)
  | str s=>simp only[resolve]at hr;cases hr;cases hv;exact .str s
  | nilp=>simp only[resolve]at hr;cases hr;cases hv;exact .nilp
  | nmap=>simp only[resolve]at hr;cases hr;cases hv;exact .nmap
  | nilf=>simp only[resolve]at hr;cases hr;cases hv;exact .nilf
  | nili=>simp only[resolve]at hr;cases hr;cases hv;exact .nili
  | map id=>simp[resolve]at hr
  | nsl=>simp only[resolve]at hr;cases hr;obtain⟨a,rfl⟩:=hv.nsl_inv;exact .isl0 a 0
  | ptr id sz idx off =>
   simp only[resolve]at hr
   split at hr
   ·rename_i ety dK xs cap hg
    split at hr
    ·rename_i dX
     subst dX
     split at hr
     ·rename_i e he
      split at hr
      ·rename_i cs Ff
       cases hr
       obtain⟨b,base,rfl,hρ⟩:=hv.ptr_inv
       obtain⟨cur,mm,g1,g2,g3,g4,g5,g6⟩:=hR.arr hg hρ
       obtain⟨hi,hxe⟩:=List.getElem?_eq_some_iff.1 he
       obtain⟨a1,a2⟩:=g6 idx hi
       rw[hxe]at a1 a2
       have hl:=bZ _ _ _ Ff
       have Pv:=own hg hρ
       cases m with
       | zero=>simp[aZ]at hu
       | succ m =>
       simp only[aZ,Bool.not_false,Bool.true_and,List.all_eq_true]at hu
       refine .iptr (fun j=>(cur[base+idx*sz+j]?).getD undef) (by show b<c3.w.heap.size;rw[hw];exact(Array.getElem?_eq_some_iff.1 g1).1) Pv.1 (fun _=>Pv.2) (fun j hj=>?_) (fun j hj=>?_)
       ·obtain⟨u,b1,b2,b3⟩:=a2 j (by omega)
        exact⟨by show c3.w.cell? _=_;rw[hw,iG g1,b1];simp,by rw[b1];exact b2⟩
       ·obtain⟨u,b1,b2,b3⟩:=a2 j (by omega)
        rw[b1]
        exact ih n (Nat.lt_succ_self n) b3 (eG _ _ _ Ff j (by omega) hj) m (hu _ (List.getElem_mem hj))
      ·cases hr
     ·cases hr
    ·cases hr
   ·cases hr
  | sl id sz off len =>
   simp only[resolve]at hr
   split at hr
   ·rename_i ety dK xs cap hg
    split at hr
    ·rename_i bS
     obtain⟨dX,cC⟩:=bS
     subst dX
     split at hr
     ·rename_i ys xA
      cases hr
      obtain⟨b,base,fA,gK,nn,lP,rfl,hρ,dV,yU,Ay,Eo⟩:=hv.sl_inv
      obtain⟨cur,mm,g1,g2,g3,g4,g5,g6⟩:=hR.arr hg hρ
      have hl:=bZ _ _ _ xA
      have Rh:((xs.drop off).take len).length=len:=by simp;omega
      have Pv:=own hg hρ
      cases ys with
      | nil =>
       have hz:len=0:=by simp at hl;omega
       subst hz
       exact .isl0 _ _
      | cons y0 ys0 =>
       generalize hysd:y0::ys0=ys at *
       have RM:Dm.mkIsl false sz ys=.isl false sz ys:=by rw[←hysd];rfl
       rw[RM]at hu ⊢
       have hco':gK=base+off*sz:=Eo.resolve_right (by rw[←hysd]at hl;simp at hl;omega)
       subst hco'
       have elem:∀i (hi:i<ys.length),∃ hx:off+i<xs.length,resolve false h2 n xs[off+i]=some ys[i]:=by
        intro i hi
        have h1:i<((xs.drop off).take len).length:=by omega
        have:=eG _ _ _ xA i h1 hi
        have hx:off+i<xs.length:=by omega
        exact⟨hx,by simpa using this⟩
       cases m with
       | zero=>simp[aZ]at hu
       | succ m =>
       simp only[aZ,Bool.not_false,Bool.true_and,List.all_eq_true]at hu
       have hlc':len≤fA:=Ay
       refine .isl (fun i j=>(cur[base+off*sz+i*sz+j]?).getD undef) (by omega) Ay (by show b<c3.w.heap.size;rw[hw];exact(Array.getElem?_eq_some_iff.1 g1).1) Pv.1 (fun _=>Pv.2) (fun i hi=>?_) (fun i j hi hj=>?_) (fun i hi j hj=>?_)
       ·obtain⟨hx,he⟩:=elem i hi
        rw[(lD (sz:=sz) he).1];exact(g6 _ hx).1
       ·obtain⟨hx,he⟩:=elem i hi
        obtain⟨a1,a2⟩:=g6 _ hx
        obtain⟨u,b1,b2,b3⟩:=a2 j (by omega)
        have e0:base+off*sz+i*sz+j=base+(off+i)*sz+j:=by rw[Nat.add_mul];omega
        exact⟨by show c3.w.cell? _=_;rw[hw,iG g1,e0,b1];simp,by rw[e0,b1];exact b2⟩
       ·obtain⟨hx,he⟩:=elem i hi
        obtain⟨a1,a2⟩:=g6 _ hx
        obtain⟨k1,k2⟩:=lD (sz:=sz) he
        have uO:j<(aF sz xs[off+i]).length:=by omega
        obtain⟨u,b1,b2,b3⟩:=a2 j uO
        have e0:base+off*sz+i*sz+j=base+(off+i)*sz+j:=by rw[Nat.add_mul];omega
        rw[e0,b1]
        obtain⟨q,hq,PE⟩:=k2 j hj uO
        obtain⟨p,hp⟩:=xQ (hu _ (List.getElem_mem hi)) j hj
        exact ih q (by omega) b3 PE p hp
     ·cases hr
    ·cases hr
   ·cases hr
  | iptr lent cs off =>
   simp only[resolve]at hr
   cases hr
   obtain⟨b,o,vals,rfl,hb,hO,hX,hc,xB⟩:=hv.iptr_inv
   exact(VR.iptr (c:=c2.still) vals hb hO hX hc xB).back (c2:=c2) rfl hu hw ht hx
  | isl lent sz xs =>
   simp only[resolve]at hr
   cases hr
   rcases hv.isl_inv with⟨rfl,a,cap,rfl⟩|⟨b,o,cap,vals,rfl,gZ,hb,hO,hX,dX,hc,xB⟩
   ·exact .isl0 a cap
   ·exact(VR.mkIsl (VR.isl (c:=c2.still) vals rfl gZ hb hO hX dX hc xB)).back (c2:=c2) rfl hu hw ht hx
  | func f cap =>
   simp only[resolve]at hr
   split at hr
   ·rename_i es Rj
    cases hr
    cases m with
    | zero=>simp[aZ]at hu
    | succ m =>
    simp only[aZ,List.all_eq_true]at hu
    obtain⟨vs,rfl,hl,xB⟩:=hv.func_inv
    obtain⟨k1,k2⟩:=many Rj hu xB hl
    exact .func k1 k2
   ·cases hr
  | iface t x =>
   simp only[resolve]at hr
   split at hr
   ·rename_i y hy
    cases hr
    cases m with
    | zero=>simp[aZ]at hu
    | succ m =>
    simp only[aZ]at hu
    cases hv with
    | iface hv=>exact .iface (ih n (Nat.lt_succ_self n) hv hy m hu)
   ·cases hr
  | agg cs =>
   simp only[resolve]at hr
   split at hr
   ·rename_i es Rj
    cases hr
    cases m with
    | zero=>simp[aZ]at hu
    | succ m =>
    simp only[aZ,List.all_eq_true]at hu
    obtain⟨vs,rfl,hl,h1,xB⟩:=hv.agg_inv
    obtain⟨k1,k2⟩:=many Rj hu xB hl
    exact .agg k1 h1 k2
   ·cases hr
  | tup cs =>
   simp only[resolve]at hr
   split at hr
   ·rename_i es Rj
    cases hr
    cases m with
    | zero=>simp[aZ]at hu
    | succ m =>
    simp only[aZ,List.all_eq_true]at hu
    obtain⟨vs,rfl,hl,xB⟩:=hv.tup_inv
    obtain⟨k1,k2⟩:=many Rj hu xB hl
    exact .tup k1 k2
   ·cases hr
theorem Du{h:aA}{c:Ctx}(hR:Rel h c){n:Nat}{args ds:List DV}{vals:List Value}(hm:args.mapM (resolve true h n)=some ds)(hv:VRs c args vals):VRs c.lend ds vals:=by
 have hl:=bZ _ _ _ hm
 exact⟨by rw[hl];exact hv.1,fun i h1 h2=>Zp hR n (hv.2 i (by omega) h2) (eG _ _ _ hm i (by omega) h1)⟩
theorem Tq{h:aA}{c:Ctx}(hR:Rel h c){h2:aA}{w2:World}{ρ2:Nat→Option (Nat×Nat)}(hR2:Rel h2 (c.lend.next w2 ρ2 h2))(cD:bI c.lend (c.lend.next w2 ρ2 h2)){d d':DV}{v:Value}{n m:Nat}
  (hv:VR (c.lend.next w2 ρ2 h2) d v) (hr:resolve false h2 n d=some d') (hu:aZ m d'=true):jS h c h w2 d' v:=by
 have hO:∀b,(iI h c.ρ b∨c.E b)↔c.O b:=fun b=>(hR.own b).symm
 have mB:∀b,b<c.w.heap.size→w2.heap[b]?=c.w.heap[b]?:=fun b hb=>cD.frame b hb (fun h=>h)
 have pR:bI c (c.next w2 c.ρ h) :=
  ⟨fun _ _ hp=>hp,cD.size,fun b hb _=>mB b hb,fun b hb=>.inl ((hO b).1 hb),cD.shape,fun _ hx=>hx,fun b hb hE=>⟨hE,mB b hb⟩,cD.quiet,rfl⟩
 refine⟨c.ρ,⟨hR.len,hR.lim,hR.dom,fun id o hg=>(hR.obj id o hg).mono pR (fun ha b x hr=>mB b (hR.block_lt hg ha hr)),hR.inj,fun _=>Iff.rfl,fun b hb=>hR.notX b ((hO b).1 hb),fun b hb=>Nat.lt_of_lt_of_le (hR.old b hb) cD.size,
  fun b hb=>⟨Nat.lt_of_lt_of_le (hR.pend b hb).1 cD.size,(hR.pend b hb).2⟩,hR.glob.mono pR⟩,pR,?_⟩
 refine VR.of_still (Tk hR2 (c3:=c.next w2 c.ρ h) rfl rfl (fun b hb=>?_) n hv hr m hu)
 exact⟨fun ho=>hb (.inl ((hO b).1 ho)),fun hx=>hb (.inr hx)⟩
end Go.Dm
/-
Part 35 of "Dm": rows that are written no more, read off for good.
-/
namespace Go.Dm
theorem KC(c:Ctx):c.cut 0=c.still:=by
 simp only[Ctx.cut,Ctx.still]
 congr 1
theorem Iw{sz N:Nat}{d:DV}{j:Nat}(PJ:j<(aF sz d).length)(hd:Dm.dR 200 N d=true):∃ n,Dm.dR n N (aF sz d)[j]=true:=by
 cases d
 case agg cs =>
  have tN:cs.all (Dm.dR 199 N)=true:=hd
  exact⟨199,List.all_eq_true.1 tN _ (List.getElem_mem PJ)⟩
 case unk=>exact⟨200,by simp only[aF,List.getElem_replicate];rfl⟩
 case tup=>simp[aF]at PJ
 all_goals
  refine⟨200,?_⟩
  have hj0:j=0:=by simp[aF]at PJ;omega
  subst hj0
  exact hd
def oJ(h:aA)(c:Ctx)(h':aA):Prop:=Rel h' (c.next c.w c.ρ h')∧bI c (c.next c.w c.ρ h')
theorem oJ.refl{h:aA}{c:Ctx}(hR:Rel h c):oJ h c h:=by
 unfold oJ
 rw[hR.same]
 exact⟨hR,.refl _⟩
theorem tP{h:aA}{c:Ctx}(hR:Rel h c){d d':DV}{v:Value}{h':aA}(hv:VR c d v)(hf:gS h d=some (d',h')):oJ h c h'∧VR (c.next c.w c.ρ h') d' v:=by
 have triv:∀{d:DV},VR c d v→some (d,h)=some (d',h')→oJ h c h'∧VR (c.next c.w c.ρ h') d' v:=by
  intro d hv he
  cases he
  exact⟨.refl hR,by rw[hR.same];exact hv⟩
 cases d with
 | sl id sz off len =>
  simp only[gS]at hf
  split at hf
  ·rename_i ety dK xs cap hg
   split at hf
   ·rename_i bS
    obtain⟨dX,bJ,cC,hbel⟩:=bS
    subst dX
    cases hf
    obtain⟨k1,k2⟩:=hR.kill hg
    refine⟨⟨k1,k2⟩,?_⟩
    obtain⟨b,base,fA,gK,nn,lP,rfl,hρ,dV,yU,Ay,Eo⟩:=hv.sl_inv
    obtain⟨cur,mm,g1,g2,g3,g4,g5,g6⟩:=hR.arr hg hρ
    have hO:c.O b:=(hR.own b).2 (.inl ⟨id,_,base,hg,rfl,hρ⟩)
    have Rh:((xs.drop off).take len).length=len:=by simp;omega
    cases xA:(xs.drop off).take len with
    | nil =>
     have hz:len=0:=by rw[xA]at Rh;simp at Rh;omega
     subst hz
     exact .isl0 _ _
    | cons y0 ys0 =>
     have RP:0<len:=by rw[xA]at Rh;simp at Rh;omega
     have hco':gK=base+off*sz:=Eo.resolve_right (by omega)
     subst hco'
     show VR _ (.isl false sz (y0::ys0)) _
     rw[←xA]
     have hnO:¬(iI (h.set id .dead) c.ρ b∨c.E b):=by
      rintro(⟨i,oi,x,rR,pU,nX⟩|hE)
      ·by_cases e:i=id
       ·subst e
        rw[bV hR.len hg]at rR
        cases rR;simp[fQ]at pU
       ·rw[aN (cY hg) e]at rR
        exact e (hR.inj i id oi _ b x base rR hg pU rfl nX hρ)
      ·exact(hR.pend b hE).2 ⟨id,_,base,hg,rfl,hρ⟩
     have helem:∀i (hi:i<((xs.drop off).take len).length),∃ hx:off+i<xs.length,((xs.drop off).take len)[i]=xs[off+i]:=by
      intro i hi
      have hx:off+i<xs.length:=by omega
      exact⟨hx,by simp⟩
     refine .isl (fun i j=>(cur[base+(off+i)*sz+j]?).getD undef) Rh.symm Ay (Array.getElem?_eq_some_iff.1 g1).1 hnO (fun _=>hR.notX b hO) (fun i hi=>?_) (fun i j hi hj=>?_) (fun i hi j hj=>?_)
     ·obtain⟨hx,e⟩:=helem i hi
      rw[e];exact(g6 (off+i) hx).1
     ·obtain⟨hx,e⟩:=helem i hi
      obtain⟨a1,a2⟩:=g6 (off+i) hx
      obtain⟨u,b1,b2,b3⟩:=a2 j (by omega)
      have:base+off*sz+i*sz+j=base+(off+i)*sz+j:=by rw[Nat.add_mul];omega
      refine⟨?_,by rw[b1];exact b2⟩
      show c.w.cell? ⟨b,base+off*sz+i*sz+j,none⟩=_
      rw[iG g1,this,b1];rfl
     ·obtain⟨hx,e⟩:=helem i hi
      obtain⟨a1,a2⟩:=g6 (off+i) hx
      have uO:j<(aF sz xs[off+i]).length:=by rw[←e];exact hj
      obtain⟨u,b1,b2,b3⟩:=a2 j uO
      obtain⟨n,hn⟩:=Iw uO (by rw[←e];exact List.all_eq_true.1 hbel _ (List.getElem_mem hi))
      have hs:=VR.belowN b3 n hn
      rw[KC]at hs
      have h2:=hs.mono k2.toStill
      rw[b1]
      simp only[e]
      exact h2
   ·cases hf
  ·cases hf
 | _=>exact triv hv hf
theorem oJ.trans{h h1 h2:aA}{c:Ctx}(a:oJ h c h1)(b:oJ h1 (c.next c.w c.ρ h1) h2):oJ h c h2:=⟨b.1,a.2.trans b.2⟩
theorem Hd{f:aA→DV→Option (DV×aA)}(hf:∀{h:aA} {c:Ctx} {d d':DV} {v:Value} {h':aA},Rel h c→VR c d v→f h d=some (d',h')→oJ h c h'∧VR (c.next c.w c.ρ h') d' v) :
  ∀{ds ds':List DV} {vs:List Value} {h h':aA} {c:Ctx},Rel h c→VRs c ds vs→oC f h ds=some (ds',h')→oJ h c h'∧VRs (c.next c.w c.ρ h') ds' vs:=by
 intro ds
 induction ds with
 | nil =>
  intro ds' vs h h' c hR hv he
  simp only[oC]at he
  cases he
  exact⟨.refl hR,by rw[hR.same];exact hv⟩
 | cons d r ih =>
  intro ds' vs h h' c hR hv he
  simp only[oC]at he
  split at he
  ·rename_i d1 h1 e1
   split at he
   ·rename_i r' h2 e2
    cases he
    cases vs with
    | nil=>have:=hv.1;simp at this
    | cons v vs =>
     obtain⟨k1,k2⟩:=hf hR (hv.2 0 (by simp) (by simp)) e1
     have hvr:VRs (c.next c.w c.ρ h1) r vs:=⟨by have:=hv.1;simp at this;exact this,fun i a b=>(hv.2 (i+1) (by simp;omega) (by simp;omega)).mono k1.2⟩
     obtain⟨k3,k4⟩:=ih k1.1 hvr e2
     refine⟨k1.trans k3,by simp[k4.1],fun i a b=>?_⟩
     cases i with
     | zero=>exact k2.mono k3.2
     | succ i=>exact k4.2 i (by simp at a;omega) (by simp at b;omega)
   ·cases he
  ·cases he
theorem Kj{h:aA}{c:Ctx}{d d':DV}{v:Value}{h':aA}(hR:Rel h c)(hv:VR c d v)(hf:fB h d=some (d',h')):oJ h c h'∧VR (c.next c.w c.ρ h') d' v:=by
 cases d with
 | agg cs =>
  simp only[fB]at hf
  split at hf
  ·rename_i cs' h1 e1
   cases hf
   obtain⟨vs,rfl,hl,h1c,JH⟩:=hv.agg_inv
   obtain⟨k1,k2⟩:=Hd (fun a b c=>tP a b c) hR ⟨hl,JH⟩ e1
   exact⟨k1,.agg k2.1 h1c k2.2⟩
  ·cases hf
 | _=>rw[Hr (by intro cs e;cases e)]at hf;exact tP hR hv hf
end Go.Dm
/-
Part 38 of "Dm" (ahead of part 27): a loop over a map, whatever order its entries come in.
-/
namespace Go.Dm
open Go.ChangeMaps (setBlock)
theorem VR.setE{c:Ctx}{d:DV}{v:Value}(h:VR c d v)(E:Nat→Prop):VR {c with E:=E} d v:=by
 induction h with
 | unk v=>exact .unk v
 | bool b=>exact .bool b
 | int k n=>exact .int k n
 | atl h=>exact .atl h
 | tok h=>exact .tok h
 | str s=>exact .str s
 | nilp=>exact .nilp
 | ptr h=>exact .ptr h
 | iptr vals hb hO hX hc hv ih=>exact .iptr vals hb hO hX hc ih
 | nsl a=>exact .nsl a
 | sl h hs hn hl ho=>exact .sl h hs hn hl ho
 | isl0 a cap=>exact .isl0 a cap
 | isl vals cC gZ hb hO hX dX hc hv ih=>exact .isl vals cC gZ hb hO hX dX hc ih
 | nmap=>exact .nmap
 | map h=>exact .map h
 | func hl hv ih=>exact .func hl ih
 | nilf=>exact .nilf
 | iface h ih=>exact .iface ih
 | nili=>exact .nili
 | agg hl h1 hv ih=>exact .agg hl h1 ih
 | tup hl hv ih=>exact .tup hl ih
theorem Kx.setE{c:Ctx}{id:Nat}{o:DO}(h:Kx c id o)(E:Nat→Prop):Kx {c with E:=E} id o:=by
 cases o with
 | dead=>trivial
 | arr ety sz xs cap =>
  obtain⟨b,base,cur,m,h1,h2,h3,h4,h5,h6,h8,h7⟩:=h
  refine⟨b,base,cur,m,h1,h2,h3,h4,h5,h6,h8,fun i hi=>⟨(h7 i hi).1,fun j hj=>?_⟩⟩
  obtain⟨v,a1,a2,a3⟩:=(h7 i hi).2 j hj
  exact⟨v,a1,a2,a3.setE E⟩
 | mp es =>
  obtain⟨es',hp,b,entries,clock,h1,h2,h3,h4,h5⟩:=h
  exact⟨es',hp,b,entries,clock,h1,h2,h3,fun i a1 a2=>⟨(h4 i a1 a2).1.setE E,(h4 i a1 a2).2.setE E⟩,h5⟩
theorem bI.setE{c c':Ctx}(h:bI c c'){E:Nat→Prop}(hE:∀b,E b→c'.E b):bI {c with E:=E} {c' with E:=E} :=
 ⟨h.rho,h.size,h.frame,h.own,h.shape,h.X,fun b hb he=>⟨he,(h.pend b hb (hE b he)).2⟩,h.quiet,h.tok⟩
theorem Rel.shut{h:aA}{c:Ctx}(hR:Rel h c){m mb:Nat}{es:List (DV×DV)}(hg:h.get m=some (.mp es))(hρ:c.ρ m=some (mb,0)):Rel (h.set m .dead) {c with E:=fun b=>c.E b∨b=mb}:=by
 have hm:=cY hg
 have back:∀{i:Nat} {o:DO},(h.set m .dead).get i=some o→fQ o=true→i≠m∧h.get i=some o:=by
  intro i o hi ha
  have cK:i≠m:=fun e=>by subst e;rw[bV hR.len hg]at hi;cases hi;cases ha
  rw[aN hm cK]at hi
  exact⟨cK,hi⟩
 have iX:∀b,iI (h.set m .dead) c.ρ b→iI h c.ρ b:=fun b ⟨i,o,x,hi,ha,hr⟩=>⟨i,o,x,(back hi ha).2,ha,hr⟩
 refine⟨Ao hR.len,hR.lim,hR.dom,fun i o hi=>?_,fun i j oi oj b x y hi hj ai aj=>hR.inj i j oi oj b x y (back hi ai).2 (back hj aj).2 ai aj,fun b=>⟨fun hO=>?_,fun hO=>?_⟩,hR.notX,hR.old,fun b hb=>?_,hR.glob⟩
 ·by_cases e:i=m
  ·subst e;rw[bV hR.len hg]at hi;cases hi;trivial
  ·rw[aN hm e]at hi;exact(hR.obj i o hi).setE _
 ·rcases(hR.own b).1 hO with⟨i,o,x,hi,ha,hr⟩|hE
  ·by_cases e:i=m
   ·subst e;rw[hρ]at hr;cases hr;exact .inr (.inr rfl)
   ·exact .inl ⟨i,o,x,by rw[aN hm e];exact hi,ha,hr⟩
  ·exact .inr (.inl hE)
 ·rcases hO with hO|hE|e
  ·exact(hR.own b).2 (.inl (iX b hO))
  ·exact(hR.own b).2 (.inr hE)
  ·subst e;exact(hR.own b).2 (.inl ⟨m,_,0,hg,rfl,hρ⟩)
 ·rcases hb with hE|e
  ·exact⟨(hR.pend b hE).1,fun ho=>(hR.pend b hE).2 (iX b ho)⟩
  ·subst e
   refine⟨hR.block_lt hg rfl hρ,fun⟨i,o,x,hi,ha,hr⟩=>?_⟩
   obtain⟨cK,vN⟩:=back hi ha
   exact cK (hR.inj i m o _ b x 0 vN hg ha rfl hr hρ)
theorem Rel.nameE{h : aA}{c : Ctx}(hR : Rel h c)(b : Nat) : Rel (h.push .dead) { c with ρ := fun i => if i = h.n then some (b, 0)else c.ρ i } ∧ bI c { c with ρ := fun i => if i = h.n then some (b, 0)else c.ρ i } := by
  have aY : ∀ {i p}, c.ρ i = some p → i < h.n := fun {i p} hp => hR.dom i (by rw[hp]; simp)
  have cD : bI c { c with ρ := fun i => if i = h.n then some (b, 0)else c.ρ i } :=
    ⟨fun i p hp => by have := aY hp; show(if i = h.n then _ else _) = _; rw[if_neg (by omega)]; exact hp, Nat.le_refl _, fun _ _ _ => rfl, fun _ h => .inl h, fun _ _ _ h => h, fun _ h => h, fun _ _ h => ⟨h, rfl⟩, .refl _, rfl⟩
  have back : ∀ {i : Nat} {o : DO}, (h.push .dead).get i = some o → fQ o = true → h.get i = some o := by
    intro i o hi ha
    rw[cH]at hi
    split at hi
    · cases hi; cases ha
    · exact hi
  have hρ : ∀ {i : Nat} {o : DO}, h.get i = some o → (if i = h.n then some (b, 0)else c.ρ i) = c.ρ i := fun {i o} hi => if_neg (by have := cY hi; omega)
  have iX : ∀ y, iI (h.push .dead) (fun i => if i = h.n then some (b, 0)else c.ρ i) y ↔ iI h c.ρ y := fun y =>
    ⟨fun⟨i, o, x, hi, ha, hr⟩ => ⟨i, o, x, back hi ha, ha, (hρ (back hi ha)).symm.trans hr⟩,
     fun⟨i, o, x, hi, ha, hr⟩ => ⟨i, o, x, by rw[aG (cY hi)]; exact hi, ha, (hρ hi).trans hr⟩⟩
  refine⟨⟨sJ hR.len, Nat.le_succ_of_le hR.lim, fun i hi => ?_, fun i o hi => ?_, fun i j oi oj y x1 x2 hi hj ai aj r1 r2 => ?_, fun y => ?_, hR.notX, hR.old, fun y hy => ⟨(hR.pend y hy).1, fun ho => (hR.pend y hy).2 ((iX y).1 ho)⟩, hR.glob⟩, cD⟩
  · show i < h.n + 1
    by_cases e : i = h.n
    · omega
    · have vN : c.ρ i ≠ none := by simpa[e]using hi
      have := hR.dom i vN
      omega
  · rw[cH]at hi
    split at hi
    · cases hi; trivial
    · exact(hR.obj i o hi).mono cD (fun _ _ _ _ => rfl)
  · have vN := back hi ai
    have uO := back hj aj
    exact hR.inj i j oi oj y x1 x2 vN uO ai aj ((hρ vN).symm.trans r1) ((hρ uO).symm.trans r2)
  · show c.O y ↔ iI _ _ y ∨ c.E y
    rw[iX y]; exact hR.own y
theorem Rel.touchE{h:aA}{C:Ctx}(hR:Rel h C){bi:Nat}(hE:C.E bi){w2:World}(dX:w2.heap.size=C.w.heap.size)(yV:∀k,k≠bi→w2.heap[k]?=C.w.heap[k]?)(RK:∀b e n,C.w.shape? b=some (e,n)→w2.shape? b=some (e,n))(hq:lV C.w w2) :
  Rel h {C with w:=w2}∧(∀d v,VR C d v→VR {C with w:=w2} d v)∧∀E:Nat→Prop,¬E bi→bI {C with E:=E} {C with w:=w2,E:=E}:=by
 have hO:C.O bi:=(hR.own bi).2 (.inr hE)
 have cD:∀E:Nat→Prop,¬E bi→bI {C with E:=E} {C with w:=w2,E:=E}:=fun E hn =>
  ⟨fun _ _ h=>h,by show _≤w2.heap.size;rw[dX];exact Nat.le_refl _,fun b _ hb=>yV b (fun e=>hb (by rw[e];exact hO)),fun _ h=>.inl h,RK,fun _ h=>h,fun b _ he=>⟨he,yV b (fun e=>hn (by rw[←e];exact he))⟩,hq,rfl⟩
 have hVR:∀d v,VR C d v→VR {C with w:=w2} d v:=fun d v hv=>((hv.setE (fun b=>C.E b∧b≠bi)).mono (cD _ (fun h=>h.2 rfl))).setE C.E
 refine⟨⟨hR.len,hR.lim,hR.dom,fun i o hi=>?_,hR.inj,hR.own,hR.notX,fun b hb=>by show b<w2.heap.size;rw[dX];exact hR.old b hb,fun b hb=>⟨by show b<w2.heap.size;rw[dX];exact(hR.pend b hb).1,(hR.pend b hb).2⟩,?_⟩,hVR,cD⟩
 ·exact(((hR.obj i o hi).setE (fun b=>C.E b∧b≠bi)).mono (cD _ (fun h=>h.2 rfl)) (fun ha b x hr=>yV b (fun e=>(hR.pend bi hE).2 (by rw[←e];exact⟨i,o,x,hi,ha,hr⟩)))).setE C.E
 ·intro b v hv
  obtain⟨h1,h2,h3⟩:=hR.glob b v hv
  refine⟨by show b<w2.heap.size;rw[dX];exact h1,h2,?_⟩
  rw[←h3]
  exact World.cell?_of_block (yV b (fun e=>h2 (by rw[e];exact hO)))
structure oT(c1:Ctx)(mb bi clk n0:Nat)(h:aA)(C:Ctx)(seen:Array Nat):Prop where
 rel:Rel h C
 le:bI c1 {C with E:=c1.E}
 E:C.E=fun b=>c1.E b∨b=bi
 X:C.X=c1.X
 it:C.w.heap[bi]?=some (.mapIter (some mb) clk seen clk)
 nm:C.ρ n0=some (bi,0)
section
variable {c1:Ctx} {mb bi clk n0:Nat} {h:aA} {C:Ctx} {seen:Array Nat}
theorem oT.Ebi(I:oT c1 mb bi clk n0 h C seen):C.E bi:=by rw[I.E];exact .inr rfl
theorem oT.lt(I:oT c1 mb bi clk n0 h C seen):bi<C.w.heap.size:=(Array.getElem?_eq_some_iff.1 I.it).1
theorem oT.run(I:oT c1 mb bi clk n0 h C seen){h':aA}{aU:Env}{a':Act}{w':World}(hs:St C h' aU a' w'):∃ C',C'.w=w'∧oT c1 mb bi clk n0 h' C' seen∧bY C' aU a':=by
 obtain⟨ρ',k1,k2,k3⟩:=hs
 refine⟨C.next w' ρ' h',rfl,⟨k1,I.le.trans (k2.setE fun b hb=>by show C.E b;rw[I.E];exact .inl hb),I.E,I.X,?_,k2.rho _ _ I.nm⟩,k3⟩
 rw[(k2.pend bi I.lt I.Ebi).2];exact I.it
theorem oT.step(I:oT c1 mb bi clk n0 h C seen)(hbi:∀b,c1.E b→b≠bi){x:Nat}{w1:World}(hw:w1=C.w∨w1=C.w.drew){env:Env}{a:Act}(hE:bY C env a) :
  ∃ C',C'.w=setBlock w1 bi (.mapIter (some mb) clk (seen.push x) clk)∧oT c1 mb bi clk n0 h C' (seen.push x)∧bY C' env a∧∀d v,VR C d v→VR C' d v:=by
 have hh:w1.heap=C.w.heap:=by rcases hw with rfl|rfl<;>rfl
 have aY:=I.lt
 have yV:∀k,k≠bi→(setBlock w1 bi (.mapIter (some mb) clk (seen.push x) clk)).heap[k]?=C.w.heap[k]?:=fun k hk=>by
  simp[setBlock,hh,Array.getElem?_setIfInBounds_ne (Ne.symm hk)]
 have Qb:(setBlock w1 bi (.mapIter (some mb) clk (seen.push x) clk)).heap[bi]?=some (.mapIter (some mb) clk (seen.push x) clk):=by simp[setBlock,hh,aY]
 have hq:lV C.w (setBlock w1 bi (.mapIter (some mb) clk (seen.push x) clk)) :=
  .at I.it Qb yV trivial trivial (by rcases hw with rfl|rfl<;>rfl) (by rcases hw with rfl|rfl<;>rfl) (by rcases hw with rfl|rfl<;>rfl) (by rcases hw with rfl|rfl;exact Nat.le_refl _;exact Nat.le_succ _)
 obtain⟨k1,k2,k3⟩:=I.rel.touchE I.Ebi (w2:=setBlock w1 bi (.mapIter (some mb) clk (seen.push x) clk)) (by simp[setBlock,hh]) yV (fun b e n hs=>by
  by_cases hb:b=bi
  ·subst hb;simp[World.shape?,I.it]at hs
  ·simp only[World.shape?]at hs ⊢;rw[yV b hb];exact hs) hq
 refine⟨{C with w:=setBlock w1 bi (.mapIter (some mb) clk (seen.push x) clk)},rfl,⟨k1,I.le.trans (k3 c1.E fun hb=>hbi bi hb rfl),I.E,I.X,Qb,I.nm⟩,⟨hE.size,hE.defers,fun i hi=>k2 _ _ (hE.val i hi)⟩,k2⟩
end
end Go.Dm
/-
Part 39 of "Dm" (ahead of part 27): the rounds of a loop over a map.
-/
namespace Go.Dm
open Go.ChangeMaps (setBlock)
def Cy:Ex→Exit
 | .normal=>.normal
 | .exit id=>.exit id
 | .ret=>.ret
section
variable {P:Program} {o:Oper}
theorem Wi{x':Opd}(hc:fS P o=some (.next x')):∃ x,o.op=.next x false∧opd x=some x':=by
 unfold fS at hc
 split at hc
 case h_28 x s ho =>
  split at hc
  ·cases hc
  ·rename_i hs
   simp only[Option.map_eq_some_iff]at hc
   obtain⟨y,hy,e⟩:=hc
   cases e
   exact⟨x,by rw[ho];simp at hs;rw[hs],hy⟩
 all_goals ((repeat' split at hc)<;>first|(cases hc;done)|(simp at hc;done))
theorem Qu{x':Opd}(hc:fS P o=some (.entry x')):∃ x,o.op=.entry x∧opd x=some x':=by
 unfold fS at hc
 split at hc
 case h_29 x ho =>
  simp only[Option.map_eq_some_iff]at hc
  obtain⟨y,hy,e⟩:=hc
  cases e
  exact⟨x,ho,hy⟩
 all_goals ((repeat' split at hc)<;>first|(cases hc;done)|(simp at hc;done))
theorem Qt{x':Opd}(hc:fS P o=some (.range x')):∃ t x k e,o.op=.range t x∧P.underlying t=some (.map k e)∧opd x=some x':=by
 unfold fS at hc
 split at hc
 case h_27 t x ho =>
  split at hc
  ·rename_i k e y hu hy;cases hc;exact⟨t,x,k,e,ho,hu,hy⟩
  ·cases hc
 all_goals ((repeat' split at hc)<;>first|(cases hc;done)|(simp at hc;done))
end
theorem Gj{call:gY}{run:aI→Env→aA→Res}{it nx ok en X Y p:Nat}{ops:List aH}{b:aI}{l:List (DV×DV)}{env:Env}{h:aA}{e:Ex}{aU:Env}{h':aA}(he:rounds call run it nx ok en X Y p ops b l env h=.ok e aU h') :
  env[it]?=some (.ptr p 0 0 0)∧nx<env.length∧ok<env.length:=by
 cases l with
 | nil =>
  simp only[rounds]at he
  split at he
  ·rename_i hq
   split at he
   ·rename_i hc;rw[hq,hc.1];exact⟨rfl,hc.2⟩
   ·cases he
  ·cases he
 | cons x r =>
  obtain⟨k,v⟩:=x
  simp only[rounds]at he
  split at he
  ·rename_i hq
   split at he
   ·rename_i hc;rw[hq,hc.1];exact⟨rfl,hc.2⟩
   ·cases he
  ·cases he
def Aft(r:Res)(X Y:Nat)(e2:Ex)(env2:Env)(h2:aA)(e:Ex)(aU:Env)(h':aA):Prop :=
 match e2 with
 | .normal=>r=.ok e aU h'
 | .exit i=>if i=Y then r=.ok e aU h' else if i=X then e=.normal∧aU=env2∧h'=h2 else e=.exit i∧aU=env2∧h'=h2
 | .ret=>e=.ret∧aU=env2∧h'=h2
theorem Ds{call:gY}{run:aI→Env→aA→Res}{it nx ok en X Y p:Nat}{ops:List aH}{b:aI}{k v:DV}{l:List (DV×DV)}{env:Env}{h:aA}{e:Ex}{aU:Env}{h':aA}(he:rounds call run it nx ok en X Y p ops b ((k,v)::l) env h=.ok e aU h') :
  ∃ env1 h1 e2 env2 h2,eM call ops (((env.set nx (.tup [.bool true,k,v])).set ok (.bool true)).set en (.tup [k,v])) h=some (env1,h1)∧run b env1 h1=.ok e2 env2 h2 ∧
   Aft (rounds call run it nx ok en X Y p ops b l env2 h2) X Y e2 env2 h2 e aU h':=by
 simp only[rounds]at he
 split at he
 ·split at he
  ·split at he
   ·rename_i env1 h1 h2
    refine⟨env1,h1,?_⟩
    split at he
    ·rename_i h3;exact⟨_,_,_,h2,h3,he⟩
    ·rename_i i env2 PU h3
     refine⟨_,_,_,h2,h3,?_⟩
     unfold Aft
     simp only
     split at he
     ·rename_i hi;rw[if_pos hi];exact he
     ·rename_i hi
      rw[if_neg hi]
      split at he
      ·rename_i hx;rw[if_pos hx];cases he;exact⟨rfl,rfl,rfl⟩
      ·rename_i hx;rw[if_neg hx];cases he;exact⟨rfl,rfl,rfl⟩
    ·rename_i h3 h4
     refine⟨e,aU,h',h2,he,?_⟩
     cases e with
     | normal=>exact absurd he (h3 _ _)
     | exit i=>exact absurd he (h4 _ _ _)
     | ret=>exact⟨rfl,rfl,rfl⟩
   ·cases he
  ·cases he
 ·cases he
theorem nA{P:Program}{Q:Exit→Act→World→Prop}{a:Act}{w:World}{id:Nat}{ops:Array Oper}(h:wpList P ops.toList.toArray Q ops.toList a w):(Code.region id ops false).wp P Q a w :=
 wp_region_list (by rwa[Array.toArray_toList]at h)
section
variable {P:Program} {call:gY} {run:aI→Env→aA→Res}
theorem Bg{env:Env}{t:Nat}{d:DV}(h:env[t]?=some d):Opd.eval env (.t t)=d:=by simp[Opd.eval,h]
theorem Oq(fG:iM P call){db:aI}{v:Code}
  (hv:∀h c env a e aU h' (Q:Exit→Act→World→Prop),run db env h=.ok e aU h'→Rel h c→bY c env a→(∀a' w',St c h' aU a' w'→Q (Cy e) a' w')→v.wp P Q a c.w)
  {i2 i3:Nat} {ops2 ops3:Array Oper} {o1 o2 o3:Oper} {l3:List Oper} {it nx ok en X Y:Nat} {okO:Operand} {ops:List aH} {d1 d2 d3:aH} (e2:ops2.toList=[o1,o2]) (e3:ops3.toList=o3::l3)
  (k1:cZ P ops2.toList .write 0 o1=some d1) (G7:d1.dst=some nx∧d1.op=.next (.t it)∧d1.guard=none)
  (k2:cZ P ops2.toList .write 0 o2=some d2) (Vi:d2.dst=some ok∧d2.op=.extract (.t nx) 0∧d2.guard=none)
  (k3:cZ P ops3.toList .write 0 o3=some d3) (WP:d3.dst=some en∧d3.op=.entry (.t it)∧d3.guard=none)
  (k4:l3.mapM (cZ P ops3.toList .write 0)=some ops) (kok:opd okO=some (.t ok)) (cK:it≠nx∧it≠ok)
  {c1:Ctx} {mb bi clk n0:Nat} (hbi:∀b,c1.E b→b≠bi) (hmb:c1.E mb) {ents:Array MapEntry} (Az:c1.w.heap[mb]?=some (.map ents clk)) (oO:Bq ents clk) {es':List (DV×DV)} (jJ:rC c1 es' ents.toList)
  {Q:Exit→Act→World→Prop} {Fin:Ex→Env→aA→Prop} (hFin:∀e env1 h1 C a seen,Fin e env1 h1→oT c1 mb bi clk n0 h1 C seen→bY C env1 a→Q (Cy e) a C.w) :
  ∀(n:Nat) (rem:List Nat),rem.length=n→rem.Nodup→(∀j∈rem,j<ents.size)→∀(hk:aA) (C:Ctx) (env:Env) (a:Act) (seen:Array Nat),oT c1 mb bi clk n0 hk C seen→bY C env a →
   (∀j (hj:j<ents.size),seen.contains ents[j].born=true↔j ∉ rem) →
   (∀l:List (DV×DV),l.Perm (rem.map fun j=>es'.getD j (.unk,.unk))→∃ e env1 h1,rounds call run it nx ok en X Y n0 ops db l env hk=.ok e env1 h1∧Fin e env1 h1) →
   Code.rounds P (.seq (.region i2 ops2 false) (.seq (.cond okO .skip (.exit X)) (.block Y (.seq (.region i3 ops3 false) v)))) (Exit.inBlock X Q) (n+1) a C.w:=by
 obtain⟨p1,p2,p3,_,_⟩:=iF k1
 obtain⟨q1,q2,q3,_,_⟩:=iF k2
 obtain⟨r1,r2,r3,_,_⟩:=iF k3
 rw[G7.2.1]at p1
 rw[G7.2.2]at p2
 rw[G7.1]at p3
 rw[WP.2.1]at r1
 rw[WP.2.2]at r2
 rw[WP.1]at r3
 obtain⟨x1,WK,Jf⟩:=Wi p1
 obtain⟨x3,ho3,hx3⟩:=Qu r1
 rw[e2]at p2 k2 q2
 rw[e3]at r2 k4
 have hmap:∀{hk C seen},oT c1 mb bi clk n0 hk C seen→C.w.heap[mb]?=some (.map ents clk):=fun {hk C seen} I=>by
  rw[(I.le.pend mb (Array.getElem?_eq_some_iff.1 Az).1 hmb).2];exact Az
 have hptr:∀{hk C seen env a} {x:Operand},oT c1 mb bi clk n0 hk C seen→bY C env a→opd x=some (.t it)→env[it]?=some (.ptr n0 0 0 0)→a.eval x=.pointer (some ⟨bi,0,none⟩):=by
  intro hk C seen env a x I hE hx hit
  have dD:=bD hx hE
  rw[Bg hit]at dD
  obtain⟨b,base,h1,h2⟩:=dD.ptr_inv
  rw[I.nm]at h2
  cases h2
  exact h1
 have LN:(ents.toList.map (·.born)).Nodup:=oO.inc.imp (fun h=>Nat.ne_of_lt h)
 have cC:es'.length=ents.size:=by simpa using jJ.1
 have hext:∀{env1:Env} {h:aA} {t:Bool} {r:List DV},env1[nx]?=some (.tup (.bool t::r))→eM call [d2] env1 h=some (env1.set ok (.bool t),h):=by
  intro env1 h t r he
  have hw:fU env1 d2.guard=some true:=by rw[Vi.2.2];rfl
  simp only[eM,hw]
  have hs:bC call d2.op env1 h=some (.bool t,h):=by
   rw[Vi.2.1]
   show aC h env1 (.extract (.t nx) 0)=_
   simp only[aC,Bg he,List.getElem?_cons_zero]
  rw[hs,Vi.1]
  rfl
 have LO:([o2]:List Oper).mapM (cZ P [o1,o2] .write 0)=some [d2]:=by simp[k2]
 intro n
 induction n with
 | zero =>
  intro rem hrl _ _ hk C env a seen I hE hseen hgood
  have hrem:rem=[]:=List.length_eq_zero_iff.1 hrl
  subst hrem
  obtain⟨e,env1,h1,hr,hf⟩:=hgood [] (.refl _)
  obtain⟨c1',c2',c3'⟩:=Gj hr
  simp only[rounds,c1',c2',c3',and_self,if_true]at hr
  cases hr
  rw[rounds_succ]
  refine wp_seq (nA ?_)
  rw[e2]
  refine wpList_step fun K hK=>?_
  rw[if_pos (fT p2 hE rfl)]
  have hpx:=hptr I hE Jf c1'
  have hnext:=run_next_at (P:=P) C.w o1.type bi mb clk clk seen ents clk I.it (hmap I) oO.lt (Nat.le_refl _)
  rcases hnext with⟨_,gB⟩|⟨e,he,_⟩
  ·have LV:(execOp a.eval o1).run P C.w=.ok (.value (.tuple #[.bool false])) C.w:=by simp[execOp,WK,hpx,gB]
   unfold Oper.wp
   rw[LV]
   refine hK _ _ ?_
   have htup:VR C (.tup [.bool false]) (.tuple #[.bool false]):=.tup (ds:=[.bool false]) (vs:=[.bool false]) rfl (fun i h1 h2=>by
    match i,h1,h2 with
    | 0,_,_=>exact .bool false)
   have hE1:bY C (env.set nx (.tup [.bool false])) (a.put o1.dst (.tuple #[.bool false])):=by rw[←p3];exact hE.put htup (some nx)
   have hg:(env.set nx (.tup [.bool false]))[nx]?=some (.tup [.bool false]):=by simp[c2']
   refine wV fG [o2] [d2] hk C (env.set nx (.tup [.bool false])) _ _ hk LO (hext hg) I.rel hE1 fun a' w' cS=>?_
   obtain⟨C',rfl,I',hE'⟩:=I.run cS
   refine wp_seq (wp_cond_false ?_ (wp_exit ?_))
   ·have hvo:=bD kok hE'
    rw[Bg (d:=.bool false) (by simp[c3'])]at hvo
    exact hvo.bool_inv
   ·show Exit.inBlock X Q (.exit X) a' C'.w
    simp only[Exit.inBlock,if_true]
    exact hFin .normal _ hk C' a' seen hf I' hE'
  ·exfalso
   unfold leftOf at he
   simp only[Array.toList_filter,List.mem_filter]at he
   obtain⟨hm,BV⟩:=he
   obtain⟨j,hj,rfl⟩:=List.getElem_of_mem hm
   have:=(hseen j (by simpa using hj)).2 (by simp)
   simp at BV
   simp at this
   exact BV this
 | succ n ih =>
  intro rem hrl hrn hrb hk C env a seen I hE hseen hgood
  obtain⟨_,_,_,BT,_⟩:=hgood _ (.refl _)
  obtain⟨c1',c2',c3'⟩:=Gj BT
  rw[rounds_succ]
  refine wp_seq (nA ?_)
  rw[e2]
  refine wpList_step fun K hK=>?_
  rw[if_pos (fT p2 hE rfl)]
  have hpx:=hptr I hE Jf c1'
  have hnext:=run_next_at (P:=P) C.w o1.type bi mb clk clk seen ents clk I.it (hmap I) oO.lt (Nat.le_refl _)
  rcases hnext with⟨h0,_⟩|⟨e,he,w1,Xh,gB⟩
  ·exfalso
   obtain⟨j,hj⟩:∃ j,j∈rem:=by
    cases rem with
    | nil=>simp at hrl
    | cons j _=>exact⟨j,List.mem_cons_self ..⟩
   have hjs:=hrb j hj
   have BV:seen.contains ents[j].born=false:=by
    cases hc:seen.contains ents[j].born with
    | false=>rfl
    | true=>exact absurd hj ((hseen j hjs).1 hc)
   have:ents[j]∈(leftOf ents seen).toList:=by
    unfold leftOf
    simp only[Array.toList_filter,List.mem_filter]
    exact⟨by simp,by simpa using BV⟩
   have WS:(leftOf ents seen).toList=[]:=List.length_eq_zero_iff.1 (by simpa using h0)
   rw[WS]at this
   cases this
  ·have hej:∃ (j:Nat) (hj:j<ents.size),ents[j]=e∧j∈rem:=by
    unfold leftOf at he
    simp only[Array.toList_filter,List.mem_filter]at he
    obtain⟨hm,BV⟩:=he
    obtain⟨j,hj,rfl⟩:=List.getElem_of_mem hm
    refine⟨j,by simpa using hj,by simp,?_⟩
    by_cases hjr:j∈rem
    ·exact hjr
    ·have:=(hseen j (by simpa using hj)).2 hjr
     simp at BV
     simp at this
     exact absurd this BV
   obtain⟨j,hj,rfl,hjr⟩:=hej
   have hje:j<es'.length:=by omega
   obtain⟨vk0,vv0⟩:=jJ.2 j es'[j] ents[j] (List.getElem?_eq_getElem hje) (by simp)
   have nQ:es'.getD j (.unk,.unk)=es'[j]:=by simp[hje]
   generalize PP:es'[j]=dd at vk0 vv0 nQ
   obtain⟨dk,dv⟩:=dd
   have jX:∀l:List (DV×DV),l.Perm ((rem.erase j).map fun j=>es'.getD j (.unk,.unk))→((dk,dv)::l).Perm (rem.map fun j=>es'.getD j (.unk,.unk)):=by
    intro l hl
    refine List.Perm.trans ?_ ((List.perm_cons_erase hjr).map _).symm
    simp only[List.map_cons,nQ]
    exact List.Perm.cons _ hl
   have hgood':=fun l hl=>hgood ((dk,dv)::l) (jX l hl)
   obtain⟨_,_,_,hrA,_⟩:=hgood' _ (.refl _)
   obtain⟨env1,h1,ex,env2,h2,DZ,hrb2,_⟩:=Ds hrA
   have hcont:∀l:List (DV×DV),l.Perm ((rem.erase j).map fun j=>es'.getD j (.unk,.unk))→∃ e aU h',Fin e aU h'∧Aft (rounds call run it nx ok en X Y n0 ops db l env2 h2) X Y ex env2 h2 e aU h':=by
    intro l hl
    obtain⟨e,aU,h',hA,hf⟩:=hgood' l hl
    obtain⟨env1',JL,ex',env2',PU,hro',hrb',hm⟩:=Ds hA
    rw[DZ]at hro'
    cases hro'
    rw[hrb2]at hrb'
    cases hrb'
    exact⟨e,aU,h',hf,hm⟩
   have LV:(execOp a.eval o1).run P C.w=.ok (.value (.tuple #[.bool true,ents[j].key,ents[j].val])) (setBlock w1 bi (.mapIter (some mb) clk (seen.push ents[j].born) clk)):=by simp[execOp,WK,hpx,gB]
   unfold Oper.wp
   rw[LV]
   refine hK _ _ ?_
   obtain⟨C2,hw2,I2,hE2,hV⟩:=I.step hbi Xh hE (x:=ents[j].born)
   rw[←hw2]
   have up:∀{d w},VR c1 d w→VR C2 d w:=fun {d w} hd=>hV _ _ ((hd.mono I.le).setE C.E)
   have vk:=up vk0
   have vv:=up vv0
   have htup:VR C2 (.tup [.bool true,dk,dv]) (.tuple #[.bool true,ents[j].key,ents[j].val]):=.tup (ds:=[.bool true,dk,dv]) (vs:=[.bool true,ents[j].key,ents[j].val]) rfl (fun i h1 h2=>by
    match i,h1,h2 with
    | 0,_,_=>exact .bool true
    | 1,_,_=>exact vk
    | 2,_,_=>exact vv)
   have hE1:bY C2 (env.set nx (.tup [.bool true,dk,dv])) (a.put o1.dst (.tuple #[.bool true,ents[j].key,ents[j].val])):=by rw[←p3];exact hE2.put htup (some nx)
   have hg:(env.set nx (.tup [.bool true,dk,dv]))[nx]?=some (.tup [.bool true,dk,dv]):=by simp[c2']
   refine wV fG [o2] [d2] hk C2 (env.set nx (.tup [.bool true,dk,dv])) _ _ hk LO (hext hg) I2.rel hE1 fun a' w' cS=>?_
   obtain⟨C3,rfl,I3,hE3⟩:=I2.run cS
   have hvk3:VR C3 (.tup [dk,dv]) (.tuple #[ents[j].key,ents[j].val]):=by
    have up3:∀{d w},VR c1 d w→VR C3 d w:=fun {d w} hd=>(hd.mono I3.le).setE C3.E
    exact .tup (ds:=[dk,dv]) (vs:=[ents[j].key,ents[j].val]) rfl (fun i h1 h2=>by
     match i,h1,h2 with
     | 0,_,_=>exact up3 vk0
     | 1,_,_=>exact up3 vv0)
   refine wp_seq (wp_cond_true ?_ (wp_skip ?_))
   ·have hvo:=bD kok hE3
    rw[Bg (d:=.bool true) (by simp[c3'])]at hvo
    exact hvo.bool_inv
   ·refine wp_block (wp_seq (nA ?_))
    rw[e3]
    refine wpList_step fun K3 hK3=>?_
    rw[if_pos (fT r2 hE3 rfl)]
    have hpx3:a'.eval x3=.pointer (some ⟨bi,0,none⟩):=hptr I3 hE3 hx3 (by rw[List.getElem?_set_ne (Ne.symm cK.2),List.getElem?_set_ne (Ne.symm cK.1)];exact c1')
    have hent3:=run_entry_at (P:=P) C3.w bi mb clk seen ents clk ents[j] I3.it (hmap I3) (by simp) LN
    have hex3:(execOp a'.eval o3).run P C3.w=.ok (.value (.tuple #[ents[j].key,ents[j].val])) C3.w:=by simp[execOp,ho3,hpx3,hent3]
    unfold Oper.wp
    rw[hex3]
    refine hK3 _ _ ?_
    have hE4:bY C3 (((env.set nx (.tup [.bool true,dk,dv])).set ok (.bool true)).set en (.tup [dk,dv])) (a'.put o3.dst (.tuple #[ents[j].key,ents[j].val])):=by rw[←r3];exact hE3.put hvk3 (some en)
    refine wV fG l3 ops hk C3 _ _ env1 h1 k4 DZ I3.rel hE4 fun a4 w4 F6=>?_
    obtain⟨C4,rfl,I4,hE4'⟩:=I3.run F6
    refine hv h1 C4 env1 a4 ex env2 h2 _ hrb2 I4.rel hE4' fun a5 w5 hst5=>?_
    obtain⟨C5,rfl,I5,hE5⟩:=I4.run hst5
    have next:(∀l:List (DV×DV),l.Perm ((rem.erase j).map fun j=>es'.getD j (.unk,.unk))→∃ e env1 h1,rounds call run it nx ok en X Y n0 ops db l env2 h2=.ok e env1 h1∧Fin e env1 h1)→Code.rounds P (.seq (.region i2 ops2 false) (.seq (.cond okO .skip (.exit X)) (.block Y (.seq (.region i3 ops3 false) v)))) (Exit.inBlock X Q) (n+1) a5 C5.w:=by
     intro hg5
     refine ih (rem.erase j) (by rw[List.length_erase_of_mem hjr];omega) (hrn.erase _) (fun i hi=>hrb i (List.mem_of_mem_erase hi)) h2 C5 env2 a5 _ I5 hE5 (fun i hi=>?_) hg5
     rw[List.Nodup.mem_erase_iff hrn]
     have hs:=hseen i hi
     simp only[Array.contains_eq_mem,Array.mem_push,decide_eq_true_eq]at hs ⊢
     have hinj:ents[i].born=ents[j].born↔i=j:=by
      constructor
      ·intro h
       have hpi:(ents.toList.map (·.born))[i]'(by simpa using hi)=(ents.toList.map (·.born))[j]'(by simpa using hj):=by simpa using h
       exact(List.getElem_inj LN).1 hpi
      ·rintro rfl;rfl
     rw[hs,hinj]
     constructor
     ·rintro(h|h)
      ·exact fun h'=>h h'.2
      ·exact fun h'=>h'.1 h
     ·intro h
      by_cases LQ:i=j
      ·exact .inr LQ
      ·exact .inl fun hr=>h ⟨LQ,hr⟩
    obtain⟨e9,env9,h9,hf9,hm9⟩:=hcont _ (.refl _)
    cases ex with
    | normal =>
     show Code.rounds P _ (Exit.inBlock X Q) (n+1) a5 C5.w
     exact next fun l hl=>by
      obtain⟨e,aU,h',hf,hm⟩:=hcont l hl
      exact⟨e,aU,h',hm,hf⟩
    | exit i =>
     show Exit.inBlock Y (Exit.then (Code.rounds P _ (Exit.inBlock X Q) (n+1)) (Exit.inBlock X Q)) (.exit i) a5 C5.w
     simp only[Exit.inBlock]
     by_cases hY:i=Y
     ·rw[if_pos hY]
      show Code.rounds P _ (Exit.inBlock X Q) (n+1) a5 C5.w
      exact next fun l hl=>by
       obtain⟨e,aU,h',hf,hm⟩:=hcont l hl
       simp only[Aft,if_pos hY]at hm
       exact⟨e,aU,h',hm,hf⟩
     ·rw[if_neg hY]
      show Exit.inBlock X Q (.exit i) a5 C5.w
      simp only[Exit.inBlock]
      simp only[Aft,if_neg hY]at hm9
      by_cases hX:i=X
      ·rw[if_pos hX]at hm9 ⊢
       obtain⟨rfl,rfl,rfl⟩:=hm9
       exact hFin .normal _ _ C5 a5 _ hf9 I5 hE5
      ·rw[if_neg hX]at hm9 ⊢
       obtain⟨rfl,rfl,rfl⟩:=hm9
       exact hFin (.exit i) _ _ C5 a5 _ hf9 I5 hE5
    | ret =>
     obtain⟨rfl,rfl,rfl⟩:=hm9
     exact hFin .ret _ _ C5 a5 _ hf9 I5 hE5
end
end Go.Dm
/-
Part 40 of "Dm" (ahead of part 27): behind a loop over a map; the whole of it.
-/
namespace Go.Dm
open Go.ChangeMaps (setBlock)
theorem Ix{α:Type}{f:α→α→Bool}:∀{l r:List α},Et f l r=true→l.length=r.length∧∀(i:Nat) (x y:α),l[i]?=some x→r[i]?=some y→f x y=true:=by
 intro l
 induction l with
 | nil=>intro r h;cases r<;>simp only[Et,Bool.false_eq_true]at h;exact⟨rfl,fun i x y hx=>by simp at hx⟩
 | cons a l ih =>
  intro r h
  cases r with
  | nil=>simp[Et]at h
  | cons b r =>
   simp only[Et,Bool.and_eq_true]at h
   obtain⟨h1,h2⟩:=ih h.2
   refine⟨by simp[h1],fun i x y hx hy=>?_⟩
   cases i with
   | zero=>simp at hx hy;subst hx;subst hy;exact h.1
   | succ i=>exact h2 i x y (by simpa using hx) (by simpa using hy)
theorem Xw{x:DV×DV}:∀{l l':List (DV×DV)},N8 x l=some l'→l.Perm (x::l'):=by
 intro l
 induction l with
 | nil=>intro l' h;cases h
 | cons y r ih =>
  intro l' h
  simp only[N8]at h
  split at h
  ·rename_i hb;cases h;rw[T3 hb]
  ·simp only[Option.map_eq_some_iff]at h
   obtain⟨r',h1,rfl⟩:=h
   exact(List.Perm.cons y (ih h1)).trans (.swap _ _ _)
theorem B6:∀{a b:List (DV×DV)},Tx a b=true→a.Perm b:=by
 intro a
 induction a with
 | nil=>intro b h;simp only[Tx,List.isEmpty_iff]at h;subst h;exact .refl _
 | cons x r ih =>
  intro b h
  simp only[Tx]at h
  split at h
  ·rename_i l' hl;exact(List.Perm.cons x (ih h)).trans (Xw hl).symm
  ·cases h
theorem Vw{a b:DO}(h:JS a b=true):a=b∨∃ x y,a=.mp x∧b=.mp y∧x.Perm y:=by
 unfold JS at h
 split at h
 ·exact .inr ⟨_,_,rfl,rfl,B6 h⟩
 ·exact .inl (Gi h)
theorem F0{α:Type}{x:α}:∀{l r:List α} (a:List α),l=a++r→(a++x::r)∈Co x l:=by
 intro l
 induction l with
 | nil =>
  intro r a h
  have:=List.nil_eq_append_iff.1 h
  rw[this.1,this.2]
  simp[Co]
 | cons y l ih =>
  intro r a h
  cases a with
  | nil=>simp at h;subst h;simp[Co]
  | cons z a =>
   simp at h
   obtain⟨rfl,rfl⟩:=h
   simp only[Co,List.cons_append,List.mem_cons,List.mem_map]
   exact .inr ⟨_,ih a rfl,rfl⟩
theorem AT{α:Type}:∀{l p:List α},p.Perm l→p∈Lt l:=by
 intro l
 induction l with
 | nil=>intro p h;rw[List.Perm.eq_nil h];simp[Lt]
 | cons x l ih =>
  intro p h
  obtain⟨a,b,rfl⟩:=List.append_of_mem (h.mem_iff.2 (List.mem_cons_self ..))
  have h2:(a++b).Perm l:=List.Perm.cons_inv ((List.perm_middle).symm.trans h)
  simp only[Lt,List.mem_flatMap]
  exact⟨a++b,ih h2,F0 a rfl⟩
section
variable {P:Program}
theorem bY.kill{c:Ctx}{a:Act}:∀(kl:List Nat) {env:Env},bY c env a→bY c (Uu kl env) a:=by
 intro kl
 induction kl with
 | nil=>intro env h;exact h
 | cons t kl ih =>
  intro env h
  refine ih (env:=env.set t .unk) ⟨by simp[h.size],h.defers,fun i hi=>?_⟩
  rw[List.getElem_set]
  split
  ·exact .unk _
  ·exact h.val i (by simpa using hi)
theorem zH{kl:List Nat}{m:Nat}{es:List (DV×DV)}{env env1 env2:Env}{h h1 h2:aA}{e e2:Ex}(hc:tZ kl m es env h (.ok e env1 h1)=.ok e2 env2 h2) :
  e2=e∧env2=Uu kl env1∧h2=({objs:=h1.objs.drop (h1.n-h.n),n:=h.n,lim:=h.lim}:aA).set m (.mp es)∧h.n≤h1.n ∧
   Et (fun a b=>DV.beq a b || dR 200 h.n b) env env2=true∧Et (fun a b=>Ln a b || M3 h.n b) h.objs (h1.objs.drop (h1.n-h.n))=true:=by
 unfold tZ at hc
 split at hc
 ·rename_i RV
  cases RV
  split at hc
  ·rename_i bS
   simp only[Bool.and_eq_true,Nat.ble_eq]at bS
   cases hc
   exact⟨rfl,rfl,rfl,bS.1,bS.2.1,bS.2.2⟩
  ·cases hc
 ·rename_i RV;cases RV
theorem Wl{h : aA}{c : Ctx}(hR : Rel h c){m mb : Nat}{es es' : List (DV × DV)}(hg : h.get m = some (.mp es))(hρ : c.ρ m = some (mb, 0))(jX : es.Perm es'){ents : Array MapEntry}{clk : Nat}(Az : c.w.heap[mb]? = some (.map ents clk))(oO : Bq ents clk)
    (jJ : rC c es' ents.toList) {env0 : Env} {a0 : Act} (hE0 : bY c env0 a0) {bi clk' : Nat} {h1 : aA} {C : Ctx} {seen : Array Nat} (I : oT { c with E := fun b => c.E b ∨ b = mb } mb bi clk' h.n h1 C seen) {env1 : Env} {a1 : Act} (hE : bY C env1 a1)
    {kl : List Nat} {e e2 : Ex} {env2 envr : Env} {h2 hr : aA} (hc : tZ kl m es env0 h (.ok e env1 h1) = .ok e2 env2 h2) (henv : envr = env2) (hn : hr.n = h.n) (hl : hr.lim = h.lim) (hz : Et JS hr.objs h2.objs = true) : St c hr envr a1 C.w := by
  obtain⟨rfl, hk, rfl, hle1, hzE, hzO⟩ := zH hc
  subst henv
  have hm := cY hg
  obtain⟨lz, gz⟩ := Ix hz
  obtain⟨lo, go⟩ := Ix hzO
  have hlen2 : (({ objs := h1.objs.drop (h1.n - h.n), n := h.n, lim := h.lim } : aA).set m (.mp es)).objs.length = h.n := by
    simp only[aA.set, List.length_set]
    rw[← lo]; exact hR.len
  have hlenr : hr.objs.length = h.n := by rw[lz]; exact hlen2
  have hCm : C.ρ m = some (mb, 0) := I.le.rho m _ hρ
  have hCE : C.E mb := by rw[I.E]; exact .inl (.inr rfl)
  have Ar : ∀ b, c.E b → C.E b := fun b hb => by rw[I.E]; exact .inl (.inl hb)
  have hCO : ∀ b, C.E b → C.O b := fun b hb => (I.rel.own b).2 (.inr hb)
  have hX : C.X = c.X := I.X
  have other : ∀ i o, i ≠ m → hr.get i = some o → ∃ o1, h1.get i = some o1 ∧ (o = o1 ∨ ∃ x y, o = .mp x ∧ o1 = .mp y ∧ x.Perm y) ∧ (h.get i = some o1 ∨ M3 h.n o1 = true) := by
    intro i o cK hi
    have aY : i < h.n := by rw[← hn]; exact cY hi
    have G5 := hi
    unfold aA.get at hi
    rw[hn, if_pos aY]at hi
    have yA : h.n - 1 - i < hr.objs.length := (List.getElem?_eq_some_iff.1 hi).1
    have h2i : (({ objs := h1.objs.drop (h1.n - h.n), n := h.n, lim := h.lim } : aA).set m (.mp es)).objs[h.n - 1 - i]? = h1.get i := by
      have e0 := aN (h := { objs := h1.objs.drop (h1.n - h.n), n := h.n, lim := h.lim }) (o' := .mp es) (show m < h.n from hm) cK
      rw[Ba hle1 aY]at e0
      rw[← e0]
      exact(if_pos (show i < h.n from aY)).symm
    obtain⟨o1, WK⟩ : ∃ o1, h1.get i = some o1 := by
      rw[← h2i]
      exact⟨_, List.getElem?_eq_getElem (by rw[hlen2]; omega)⟩
    rw[WK]at h2i
    refine⟨o1, WK, Vw (gz _ _ _ hi h2i), ?_⟩
    have hd : (h1.objs.drop (h1.n - h.n))[h.n - 1 - i]? = some o1 := by
      have := Ba (lim := h.lim) hle1 aY
      unfold aA.get at this
      simp only[aY, if_true]at this
      rw[this]
      unfold aA.get at WK
      exact WK
    have hx : h.n - 1 - i < h.objs.length := by rw[hR.len]; omega
    have := go _ _ _ (List.getElem?_eq_getElem hx) hd
    simp only[Bool.or_eq_true]at this
    rcases this with hs | hs
    · left
      unfold aA.get
      rw[if_pos aY, List.getElem?_eq_getElem hx, Gi hs]
    · exact .inr hs
  have atm : ∃ x, hr.get m = some (.mp x) ∧ x.Perm es := by
    have yA : h.n - 1 - m < hr.objs.length := by rw[hlenr]; omega
    have h2m : (({ objs := h1.objs.drop (h1.n - h.n), n := h.n, lim := h.lim } : aA).set m (.mp es)).objs[h.n - 1 - m]? = some (.mp es) := by
      simp only[aA.set, List.getElem?_set, if_true]
      rw[if_pos]
      rw[← lo, hR.len]; omega
    have nQ : hr.get m = some hr.objs[h.n - 1 - m] := by
      unfold aA.get
      rw[hn, if_pos hm, List.getElem?_eq_getElem yA]
    rcases Vw (gz _ _ _ (List.getElem?_eq_getElem yA) h2m)with e | ⟨x, y, e1, e2, hp⟩
    · exact⟨es, by rw[nQ, e], .refl _⟩
    · cases e2; exact⟨x, by rw[nQ, e1], hp⟩
  let ρ' : Nat → Option (Nat × Nat) := fun i => if i < h.n then C.ρ i else none
  have rlt : ∀ {i : Nat}, i < h.n → ρ' i = C.ρ i := fun {i} hi => if_pos hi
  have alive1 : ∀ {i : Nat} {o o1 : DO}, (o = o1 ∨ ∃ x y, o = .mp x ∧ o1 = .mp y ∧ x.Perm y) → fQ o = true → fQ o1 = true := by
    intro i o o1 ho ha
    rcases ho with rfl | ⟨x, y, rfl, rfl, _⟩
    · exact ha
    · rfl
  have iX : ∀ b, iI hr ρ' b → b = mb ∨ iI h1 C.ρ b := by
    rintro b ⟨i, o, x, hi, ha, Jg⟩
    have aY : i < h.n := by rw[← hn]; exact cY hi
    rw[rlt aY]at Jg
    by_cases cK : i = m
    · subst cK; rw[hCm]at Jg; cases Jg; exact .inl rfl
    · obtain⟨o1, g1, g2, _⟩ := other i o cK hi
      exact .inr ⟨i, o1, x, g1, alive1 (i := i) g2 ha, Jg⟩
  have hFO : ∀ b, (iI hr ρ' b ∨ c.E b) → C.O b := by
    rintro b (hb | hb)
    · rcases iX b hb with rfl | hb
      · exact hCO _ hCE
      · exact(I.rel.own b).2 (.inl hb)
    · exact hCO b (Ar b hb)
  have Kg : bI (C.cut h.n) (c.next C.w ρ' hr) :=
    ⟨fun i p hp => by obtain⟨q1, q2⟩ := qA hp; show ρ' i = _; rw[rlt q1]; exact q2, Nat.le_refl _, fun _ _ _ => rfl, fun b hb => .inl (hFO b hb), fun _ _ _ hs => hs, fun b hb => by show C.X b; rw[hX]; exact hb, fun b _ hb => ⟨Ar b hb, rfl⟩, .refl _, I.le.tok.symm⟩
  have cD : bI c (c.next C.w ρ' hr) :=
    ⟨fun i p hp => by show ρ' i = _; rw[rlt (hR.dom i (by rw[hp]; simp))]; exact I.le.rho i p hp, I.le.size, I.le.frame, fun b hb => I.le.own b (hFO b hb), I.le.shape, fun _ hb => hb, fun b aY hb => ⟨hb, (I.le.pend b aY (.inl hb)).2⟩, I.le.quiet, rfl⟩
  have up : ∀ {d v}, VR (C.cut h.n) d v → VR (c.next C.w ρ' hr) d v := fun {d v} hd => hd.mono Kg
  have hmapC : C.w.heap[mb]? = some (.map ents clk) := by
    rw[(I.le.pend mb (Array.getElem?_eq_some_iff.1 Az).1 (.inr rfl)).2]; exact Az
  have toC : ∀ {d v}, VR c d v → VR (c.next C.w ρ' hr) d v := fun {d v} hd => hd.mono cD
  refine⟨ρ', ⟨by rw[hlenr, hn], by rw[hl, hn]; exact hR.lim, fun i hi => ?_, fun i o hi => ?_, fun i j oi oj y x1 x2 hi hj ai aj r1 r2 => ?_, fun _ => Iff.rfl, fun b hb hx => ?_, fun b hb => ?_, fun b hb => ⟨?_, fun ho => ?_⟩, hR.glob.mono cD⟩, cD, ?_⟩
  · rw[hn]
    by_cases aY : i < h.n
    · exact aY
    · exact absurd (if_neg aY) hi
  · have aY : i < h.n := by rw[← hn]; exact cY hi
    by_cases cK : i = m
    · subst cK
      obtain⟨x, g1, g2⟩ := atm
      rw[g1]at hi; cases hi
      refine⟨es', g2.trans jX, mb, ents, clk, by show ρ' i = _; rw[rlt aY]; exact hCm, hmapC, by simpa using jJ.1, fun q a1 a2 => ?_, oO⟩
      have := jJ.2 q _ _ (List.getElem?_eq_getElem a1) (by rw[Array.getElem?_toList]; exact Array.getElem?_eq_getElem a2)
      exact⟨toC this.1, toC this.2⟩
    · obtain⟨o1, g1, g2, g3⟩ := other i o cK hi
      have hob := I.rel.obj i o1 g1
      cases o1 with
      | dead => rcases g2 with rfl | ⟨x, y, _, e, _⟩
                · trivial
                · cases e
      | arr ety sz xs cap =>
        have : o = .arr ety sz xs cap := by rcases g2 with rfl | ⟨x, y, _, e, _⟩; rfl; cases e
        subst this
        obtain⟨b, base, cur, q, q1, q2, q3, q4, q5, q6, q7, q8⟩ := hob
        refine⟨b, base, cur, q, by show ρ' i = _; rw[rlt aY]; exact q1, q2, q3, q4, q5, q6, q7, fun k hk => ⟨(q8 k hk).1, fun j hj => ?_⟩⟩
        obtain⟨u, a1, a2, a3⟩ := (q8 k hk).2 j hj
        refine⟨u, a1, a2, up ?_⟩
        rcases g3 with g3 | g3
        · obtain⟨b3, base3, cur3, m3, r1, r2, r3, r4, r5, r6, r7, r8⟩ := hR.obj i _ g3
          obtain⟨u0, _, _, a4⟩ := (r8 k hk).2 j hj
          exact a4.cut_old hR.dom a3
        · have hb : xs.all (dR 200 h.n) = true := g3
          obtain⟨n', PG⟩ := Iw hj (List.all_eq_true.1 hb _ (List.getElem_mem hk))
          exact a3.belowN n' PG
      | mp es1 =>
        have : ∃ x, o = .mp x ∧ x.Perm es1 := by
          rcases g2 with rfl | ⟨x, y, rfl, e, hp⟩
          · exact⟨_, rfl, .refl _⟩
          · cases e; exact⟨_, rfl, hp⟩
        obtain⟨x, rfl, hp⟩ := this
        obtain⟨es2, EA, b2, en2, cl2, q1, q2, q3, q4, q5⟩ := hob
        refine⟨es2, hp.trans EA, b2, en2, cl2, by show ρ' i = _; rw[rlt aY]; exact q1, q2, q3, fun q a1 a2 => ?_, q5⟩
        obtain⟨s1, s2⟩ := q4 q a1 a2
        rcases g3 with g3 | g3
        · obtain⟨es3, hp3, b3, en3, cl3, r1, r2, r3, r4, _⟩ := hR.obj i _ g3
          obtain⟨q', u1, Bs⟩ := List.getElem_of_mem ((EA.symm.trans hp3).mem_iff.1 (List.getElem_mem a1))
          obtain⟨t1, t2⟩ := r4 q' u1 (by omega)
          rw[Bs]at t1 t2
          exact⟨up (t1.cut_old hR.dom s1), up (t2.cut_old hR.dom s2)⟩
        · have hb : es1.all (fun p => dR 200 h.n p.1 && dR 200 h.n p.2) = true := g3
          have := List.all_eq_true.1 hb _ (EA.mem_iff.2 (List.getElem_mem a1))
          simp only[Bool.and_eq_true]at this
          exact⟨up (s1.belowN 200 this.1), up (s2.belowN 200 this.2)⟩
  · have l1 : i < h.n := by rw[← hn]; exact cY hi
    have l2 : j < h.n := by rw[← hn]; exact cY hj
    have r1' : C.ρ i = some (y, x1) := by rw[← rlt l1]; exact r1
    have r2' : C.ρ j = some (y, x2) := by rw[← rlt l2]; exact r2
    by_cases e1 : i = m <;> by_cases e2 : j = m
    · omega
    · subst e1
      rw[hCm]at r1'; cases r1'
      obtain⟨o1, g1, g2, _⟩ := other j oj e2 hj
      exact absurd ⟨j, o1, x2, g1, alive1 (i := j) g2 aj, r2'⟩ (I.rel.pend mb hCE).2
    · subst e2
      rw[hCm]at r2'; cases r2'
      obtain⟨o1, g1, g2, _⟩ := other i oi e1 hi
      exact absurd ⟨i, o1, x1, g1, alive1 (i := i) g2 ai, r1'⟩ (I.rel.pend mb hCE).2
    · obtain⟨p1, g1, g2, _⟩ := other i oi e1 hi
      obtain⟨p2, g3, g4, _⟩ := other j oj e2 hj
      exact I.rel.inj i j p1 p2 y x1 x2 g1 g3 (alive1 (i := i) g2 ai) (alive1 (i := j) g4 aj) r1' r2'
  · exact I.rel.notX b (hFO b hb) (by rw[hX]; exact hx)
  · exact I.rel.old b (by rw[hX]; exact hb)
  · exact(I.rel.pend b (Ar b hb)).1
  · rcases iX b ho with rfl | ho
    · exact(hR.pend b hb).2 ⟨m, _, 0, hg, rfl, hρ⟩
    · exact(I.rel.pend b (Ar b hb)).2 ho
  · have hkE : bY C (Uu kl env1) a1 := hE.kill kl
    rw[hk]at hzE ⊢
    obtain⟨lE, gE⟩ := Ix hzE
    refine⟨hkE.size, hkE.defers, fun i hi => up ?_⟩
    have hv := hkE.val i hi
    have G5 : i < env0.length := by omega
    have := gE i _ _ (List.getElem?_eq_getElem G5) (List.getElem?_eq_getElem hi)
    simp only[Bool.or_eq_true]at this
    rcases this with hb | hb
    · have e0 := DV.beq_eq _ _ hb
      have hv0 := hE0.val i G5
      rw[e0]at hv0
      exact hv0.cut_old hR.dom hv
    · exact hv.belowN 200 hb
end
end Go.Dm
