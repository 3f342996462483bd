/- A part of the proof. -/
import Derived.Test.YtfkbogedodngeaaGreatMm2
import Derived.Maps.RangeRun
set_option linter.all false
namespace Go.Dm
section
variable {P:Program} {call:iD} {ops:List Oper} {cA:List (Nat×aJ)} {bs:List Nat} {E:Nat→Env} {HS:Nat→List aA} {LS:Nat→cK} {V:Nat→DV} {B:Nat→Bool} {c ĉ ĉ1:Ctx} {env:Env} {h:aA}
 {listed:Array Bool} {a:Act} {k m0:Nat}
theorem lG.turn(F:Fit P ops cA bs)(T:fC call (cA.map (·.2)) env [h] .start E HS LS V B)(hc:dL call)(hl:h.lim≤h.n)(I:qG ops cA HS V env listed a ĉ m0)(M:lG cA E HS B c listed k ĉ)
  {x:Nat×aJ} {o:Oper} (U:Up ops cA listed k x o) {w':World} {v:Value} {d:DV} (hp:lF (aR (HS k)) (ĉ.cut (aR (HS k)).n) (aR (HS (k+1))) w' d v) :
  ∃ ĉ1:Ctx,ĉ1.w=w'∧(∀M,bR (ĉ.cut M) (ĉ1.cut M))∧lG cA E HS B c (listed.setIfInBounds x.1 true) (k+1) ĉ1∧VR (ĉ1.cut (aR (HS (k+1))).n) d v:=by
 have aY:x.1<listed.size:=by rw[I.size];exact kI F U.hx
 have hk:k<cA.length:=(List.getElem?_eq_some_iff.1 U.hx).1
 have qD:k+1≤(cA.map (·.2)).length:=by simp;omega
 have hnk:=(T.keeps hc hl (by omega:k≤k+1) qD).n
 obtain⟨ρ',k1,k2,k3⟩:=hp
 let ĉ1:Ctx:=⟨w',fun id=>if id<(aR (HS (k+1))).n then ρ' id else ĉ.ρ id,fun b=>iS (aR (HS (k+1))) ρ' b∨ĉ.E b,ĉ.X,ĉ.E,ĉ.τ⟩
 have Jp:ĉ1.cut (aR (HS (k+1))).n=(ĉ.cut (aR (HS k)).n).next w' ρ' (aR (HS (k+1))):=by
  have:(fun id=>if id<(aR (HS (k+1))).n then ĉ1.ρ id else none)=ρ':=by
   funext id
   split
   ·rename_i eK;simp only[ĉ1,if_pos eK]
   ·rename_i eK
    cases hr:ρ' id with
    | none=>rfl
    | some p=>exact absurd (k1.dom id (by show ρ' id≠none;rw[hr];simp)) eK
  simp only[Ctx.cut,Ctx.next]at this ⊢
  rw[this]
 have far:∀id b z,(aR (HS k)).n≤id→ĉ.ρ id=some (b,z)→(aR (HS (k+1))).n≤id∧ĉ1.ρ id=ĉ.ρ id∧ĉ.E b∧¬c.E b ∧
   ∃ (p:Nat) (y:Nat×aJ),k+1≤p∧cA[p]?=some y∧Li listed y.1∧y.2.kind≠.read∧B p=true∧id=(aR (HS p)).n:=by
  intro id b z eK hr
  obtain⟨h1,h2,p,y,h3,h4,h5,h6,h7,h8⟩:=M.dom id b z eK hr
  have cY:p≠k:=fun e=>by
   subst e
   have:y=x:=Option.some.inj (h4.symm.trans U.hx)
   subst this
   exact U.not h5
  have EO:p<(cA.map (·.2)).length:=by simp;exact(List.getElem?_eq_some_iff.1 h4).1
  have h9:=(T.keeps hc hl (by omega:k+1≤p) (by omega)).n
  have lJ:(aR (HS (k+1))).n≤id:=by omega
  exact⟨lJ,by simp only[ĉ1,if_neg (Nat.not_lt.2 lJ)],h1,h2,p,y,by omega,h4,h5,h6,h7,h8⟩
 have hleM:∀M,bR (ĉ.cut M) (ĉ1.cut M):=fun N =>
  ⟨fun id p hp=>by
   obtain⟨h1,h2⟩:=pW hp
   rw[gR h1]
   by_cases eK:id<(aR (HS k)).n
   ·have:=k2.rho id p (by rw[gR eK];exact h2)
    have h3:id<(aR (HS (k+1))).n:=by omega
    simp only[ĉ1,if_pos h3];exact this
   ·obtain⟨b,z⟩:=p
    rw[(far id b z (by omega) h2).2.1];exact h2,k2.size,k2.frame,k2.own,k2.shape,k2.X,k2.pend,k2.quiet,k2.tok⟩
 refine⟨ĉ1,rfl,hleM,⟨hk,fun p y hp hy Dv=>?_,by rw[Jp];exact k1,?_,M.X,fun b hE=>?_,M.cE,fun id b z eK hr=>?_,fun p y hp hy Dv hL=>?_,fun id id' b h1 h2 h3 h4=>?_⟩,by rw[Jp];exact k3⟩
 ·rw[iP aY]
  by_cases e:p=k
  ·subst e
   have:y=x:=Option.some.inj (hy.symm.trans U.hx)
   subst this
   exact .inr rfl
  ·exact .inl (M.front p y (by omega) hy Dv)
 ·exact M.le.trans ((hleM _).trans (oG hnk))
 ·exact(M.E b hE).imp (fun x=>x) fun⟨id,h1,h2⟩=>⟨id,(far id b 0 h1 h2).1,by rw[(far id b 0 h1 h2).2.1];exact h2⟩
 ·have zR:ĉ.ρ id=some (b,z):=by simp only[ĉ1,if_neg (Nat.not_lt.2 eK)]at hr;exact hr
  obtain⟨_,_,g1,g2,p,y,g3,g4,g5,g6⟩:=far id b z (by omega) zR
  exact⟨g1,g2,p,y,g3,g4,(iP aY).2 (.inl g5),g6⟩
 ·rcases(iP aY).1 hL with h1|h1
  ·obtain⟨g1,g2⟩:=M.pend p y (by omega) hy Dv h1
   refine⟨g1,fun hB=>?_⟩
   obtain⟨e',s',xs',b,f1,f2,f3⟩:=g2 hB
   have EO:p<(cA.map (·.2)).length:=by simp;exact(List.getElem?_eq_some_iff.1 hy).1
   have hn:=(T.keeps hc hl (by omega:k≤p) (by omega)).n
   obtain⟨_,g4,g5,_⟩:=far _ b 0 hn f2
   have tM:=(M.rel.pend b g5).1
   exact⟨e',s',xs',b,f1,by rw[g4];exact f2,f3.mono (hleM _) (k2.pend b tM g5).2⟩
  ·have:=Ab F hy U.hx h1
   omega
 ·have h3':ĉ.ρ id=some (b,0):=by simp only[ĉ1,if_neg (Nat.not_lt.2 h1)]at h3;exact h3
  have h4':ĉ.ρ id'=some (b,0):=by simp only[ĉ1,if_neg (Nat.not_lt.2 h2)]at h4;exact h4
  exact M.inj id id' b (by omega) (by omega) h3' h4'
theorem Rel.adopt{h:aA}{c:Ctx}(hR:Rel h (c.cut h.n)){b ety sz:Nat}{xs:List DV}(hr:c.ρ h.n=some (b,0))(hE:c.E b)(hf:Ii (c.cut h.n) b ety sz xs) :
  Rel (h.push (.arr ety sz xs (some xs.length))) (Ctx.cut {c with E:=fun y=>c.E y∧y≠b} (h.n+1)):=by
 obtain⟨cur,f1,f2,f3,f4,f5⟩:=hf
 have cM:bR (c.cut h.n) (Ctx.cut {c with E:=fun y=>c.E y∧y≠b} (h.n+1)) :=
  ⟨fun id p hp=>by
   obtain⟨h1,h2⟩:=pW hp
   rw[gR (by omega)];exact h2,Nat.le_refl _,fun _ _ _=>rfl,fun _ h=>.inl h,fun _ _ _ h=>h,fun _ h=>h,fun _ _ h=>⟨h.1,rfl⟩,.refl _,rfl⟩
 have rho:∀id,id<h.n→(Ctx.cut {c with E:=fun y=>c.E y∧y≠b} (h.n+1)).ρ id=(c.cut h.n).ρ id:=fun id eK=>by rw[gR (by omega),gR eK]
 have rhon:(Ctx.cut {c with E:=fun y=>c.E y∧y≠b} (h.n+1)).ρ h.n=some (b,0):=by rw[gR (by omega)];exact hr
 have hnot:=(hR.pend b hE).2
 have fZ:∀y,iS (h.push (.arr ety sz xs (some xs.length))) (Ctx.cut {c with E:=fun y=>c.E y∧y≠b} (h.n+1)).ρ y↔iS h (c.cut h.n).ρ y∨y=b:=by
  intro y
  constructor
  ·rintro⟨id,o,x,hg,ha,zR⟩
   rw[cD]at hg
   split at hg
   ·rename_i e;subst e
    rw[rhon]at zR;cases zR;exact .inr rfl
   ·have:=dH hg
    rw[rho id this]at zR
    exact .inl ⟨id,o,x,hg,ha,zR⟩
  ·rintro(⟨id,o,x,hg,ha,zR⟩|e)
   ·have:=dH hg
    exact⟨id,o,x,by rw[bP this];exact hg,ha,by rw[rho id this];exact zR⟩
   ·subst e
    exact⟨h.n,_,0,bQ,rfl,rhon⟩
 refine⟨sE hR.len,Nat.le_succ_of_le hR.lim,fun id eK=>?_,fun id o hg=>?_,fun i j oi oj y x1 x2 hi hj pT Le nX wW=>?_,fun y=>?_,hR.notX,hR.old,fun y hy=>⟨(hR.pend y hy.1).1,fun ho=>?_⟩,hR.glob.mono cM⟩
 ·cases zR:(Ctx.cut {c with E:=fun y=>c.E y∧y≠b} (h.n+1)).ρ id with
  | none=>exact absurd zR eK
  | some p=>exact(pW zR).1
 ·rw[cD]at hg
  split at hg
  ·rename_i e;subst e
   cases hg
   exact⟨b,0,cur,xs.length,rhon,f5,f1,by omega,Nat.le_refl _,(fun k hk=>by cases hk;exact⟨rfl,rfl⟩),f3,fun i hi=>⟨(f4 i hi).1,fun j hj=>by
    obtain⟨v,a1,a2,a3⟩:=(f4 i hi).2 j hj
    exact⟨v,a1,a2,a3.mono cM⟩⟩⟩
  ·exact(hR.obj id o hg).mono cM (fun _ _ _ _=>rfl)
 ·rw[cD]at hi hj
  split at hi<;>split at hj
  ·omega
  ·rename_i e1 e2
   subst e1
   rw[rhon]at nX;cases nX
   have:=dH hj
   rw[rho j this]at wW
   exact absurd ⟨j,oj,x2,hj,Le,wW⟩ hnot
  ·rename_i e1 e2
   subst e2
   rw[rhon]at wW;cases wW
   have:=dH hi
   rw[rho i this]at nX
   exact absurd ⟨i,oi,x1,hi,pT,nX⟩ hnot
  ·have l1:=dH hi
   have l2:=dH hj
   rw[rho i l1]at nX
   rw[rho j l2]at wW
   exact hR.inj i j oi oj y x1 x2 hi hj pT Le nX wW
 ·have:=hR.own y
  show c.O y↔_∨(c.E y∧y≠b)
  rw[fZ y]
  have h2:c.O y↔iS h (c.cut h.n).ρ y∨c.E y:=this
  rw[h2]
  by_cases e:y=b
  ·subst e;simp[hE]
  ·simp[e]
 ·rcases(fZ y).1 ho with h1|h1
  ·exact(hR.pend y hy.1).2 h1
  ·exact hy.2 h1
theorem yL(F:Fit P ops cA bs){p:Nat}{y:Nat×aJ}(hy:cA[p]?=some y)(ha:y.2.op.cls=.alloc):y.2.kind=.create:=by
 have:=F.kind p y hy
 unfold nR at this
 rw[ha]at this
 cases hk:y.2.kind<;>rw[hk]at this<;>first|rfl|cases this
theorem lG.adopt(F:Fit P ops cA bs)(T:fC call (cA.map (·.2)) env [h] .start E HS LS V B)(M:lG cA E HS B c listed k ĉ){x:Nat×aJ}(hx:cA[k]?=some x)(hk:x.2.kind≠.read)(hL:Li listed x.1)(hb:B k=true) :
  ∃ ĉ1:Ctx,ĉ1.w=ĉ.w∧(∀M,bR (ĉ.cut M) (ĉ1.cut M))∧lG cA E HS B c listed (k+1) ĉ1:=by
 have aY:k<cA.length:=(List.getElem?_eq_some_iff.1 hx).1
 obtain⟨ha,h2⟩:=M.pend k x (Nat.le_refl _) hx hk hL
 obtain⟨ety,sz,xs,b,ho,hr,hf⟩:=h2 hb
 obtain⟨hE,hcE,_⟩:=M.dom _ b 0 (Nat.le_refl _) hr
 obtain⟨ety2,sz2,xs2,GN,_,hh⟩:=T.alloc (pB hx) ha (yL F hx ha) hb
 rw[ho]at GN
 cases GN
 have hn:(aR (HS (k+1))).n=(aR (HS k)).n+1:=by rw[hh];rfl
 have hleM:∀N,bR (ĉ.cut N) (Ctx.cut {ĉ with E:=fun y=>ĉ.E y∧y≠b} N):=fun N =>
  ⟨fun _ _ hp=>hp,Nat.le_refl _,fun _ _ _=>rfl,fun _ h=>.inl h,fun _ _ _ h=>h,fun _ h=>h,fun _ _ h=>⟨h.1,rfl⟩,.refl _,rfl⟩
 refine⟨{ĉ with E:=fun y=>ĉ.E y∧y≠b},rfl,hleM,⟨aY,fun p y hp hy Dv=>?_,?_,M.le.trans ((hleM _).trans (oG (by omega))),M.X,fun y hy=>?_,fun y hy=>⟨M.cE y hy,fun e=>hcE (e ▸ hy)⟩,fun id y x0 eK zR=>?_,fun p y hp hy Dv hL=>⟨(M.pend p y (by omega) hy Dv hL).1,fun hB=>by
  obtain⟨e',s',xs',b',q1,q2,q3⟩:=(M.pend p y (by omega) hy Dv hL).2 hB
  exact⟨e',s',xs',b',q1,q2,q3.mono (hleM _) rfl⟩⟩,fun id id' y h1 h2=>M.inj id id' y (by omega) (by omega)⟩⟩
 ·by_cases e:p=k
  ·subst e
   have:y=x:=Option.some.inj (hy.symm.trans hx)
   subst this
   exact hL
  ·exact M.front p y (by omega) hy Dv
 ·rw[hn,hh]
  exact M.rel.adopt hr hE hf
 ·refine(M.E y hy.1).imp (fun x=>x) fun⟨id,h1,h2⟩=>⟨id,?_,h2⟩
  have:id≠(aR (HS k)).n:=fun e=>by
   subst e
   rw[hr]at h2
   cases h2
   exact hy.2 rfl
  omega
 ·obtain⟨g1,g2,p,yy,g3,g4,g5,g6,g7,g8⟩:=M.dom id y x0 (by omega) zR
  have hpk:p≠k:=fun e=>by subst e;omega
  refine⟨⟨g1,fun e=>?_⟩,g2,p,yy,by omega,g4,g5,g6,g7,g8⟩
  subst e
  obtain⟨_,_,_,b',_,f2,_⟩:=(M.pend p yy g3 g4 g6 g5).2 g7
  rw[←g8]at f2
  rw[f2]at zR
  cases zR
  have:=M.inj id (aR (HS k)).n y (by omega) (Nat.le_refl _) f2 hr
  omega
def Max(cA:List (Nat×aJ))(listed:Array Bool)(k:Nat):Prop:=k=cA.length∨∃ x:Nat×aJ,cA[k]?=some x∧x.2.kind≠.read∧¬Li listed x.1
theorem fC.same(T:fC call (cA.map (·.2)) env [h] .start E HS LS V B){x:Nat×aJ}(hx:cA[k]?=some x)(hk:x.2.kind=.read∨B k=false):aR (HS (k+1))=aR (HS k):=by
 obtain⟨⟨hw,g,gs,hg,hf,ht⟩,_⟩:=T.step k x.2 (pB hx)
 cases hb:B k with
 | false =>
  obtain⟨_,e,_⟩:=hf hb
  rw[e]
  split
  ·rfl
  ·rw[hg];rfl
 | true =>
  rcases hk with hk|hk
  ·rcases ht hb with⟨_,e,_⟩|⟨qD,_⟩|⟨qD,_⟩|⟨qD,_⟩
   ·rw[e]
   ·rw[hk]at qD;cases qD
   ·rw[hk]at qD;cases qD
   ·rw[hk]at qD;cases qD
  ·rw[hb]at hk;cases hk
theorem lG.advance(F:Fit P ops cA bs)(T:fC call (cA.map (·.2)) env [h] .start E HS LS V B)(hc:dL call)(hl:h.lim≤h.n):∀(j k:Nat) (ĉ:Ctx),cA.length-k=j→lG cA E HS B c listed k ĉ →
  ∃ k1 ĉ1,k≤k1∧(aR (HS k)).n≤(aR (HS k1)).n∧ĉ1.w=ĉ.w∧(∀M,bR (ĉ.cut M) (ĉ1.cut M))∧lG cA E HS B c listed k1 ĉ1∧Max cA listed k1:=by
 intro j
 induction j with
 | zero =>
  intro k ĉ hj M
  exact⟨k,ĉ,Nat.le_refl _,Nat.le_refl _,rfl,fun _=>.refl _,M,.inl (by have:=M.k_le;omega)⟩
 | succ j ih =>
  intro k ĉ hj M
  have aY:k<cA.length:=by omega
  have hx:cA[k]?=some cA[k]:=List.getElem?_eq_getElem aY
  have hn:=(T.keeps hc hl (by omega:k≤k+1) (by simp;omega)).n
  have go:∀ĉ1:Ctx,ĉ1.w=ĉ.w→(∀M,bR (ĉ.cut M) (ĉ1.cut M))→lG cA E HS B c listed (k+1) ĉ1 →
    ∃ k1 ĉ1,k≤k1∧(aR (HS k)).n≤(aR (HS k1)).n∧ĉ1.w=ĉ.w∧(∀M,bR (ĉ.cut M) (ĉ1.cut M))∧lG cA E HS B c listed k1 ĉ1∧Max cA listed k1:=by
   intro ĉ1 h1 h2 h3
   obtain⟨k2,ĉ2,g0,g1,g2,g3,g4,g5⟩:=ih (k+1) ĉ1 (by omega) h3
   exact⟨k2,ĉ2,by omega,by omega,g2.trans h1,fun N=>(h2 N).trans (g3 N),g4,g5⟩
  by_cases hk:cA[k].2.kind=.read
  ·exact go ĉ rfl (fun _=>.refl _) (M.skip aY (T.same hx (.inl hk)) (fun x Im qD=>by
    have:x=cA[k]:=Option.some.inj (Im.symm.trans hx)
    subst this
    exact absurd hk qD))
  ·by_cases hL:Li listed cA[k].1
   ·cases hb:B k with
    | false =>
     exact go ĉ rfl (fun _=>.refl _) (M.skip aY (T.same hx (.inr hb)) (fun x Im qD=>by
      have:x=cA[k]:=Option.some.inj (Im.symm.trans hx)
      subst this
      exact⟨hL,hb⟩))
    | true =>
     obtain⟨ĉ1,h1,h2,h3⟩:=M.adopt F T hx hk hL hb
     exact go ĉ1 h1 h2 h3
   ·exact⟨k,ĉ,Nat.le_refl _,Nat.le_refl _,rfl,fun _=>.refl _,M,.inr ⟨_,hx,hk,hL⟩⟩
end
end Go.Dm
/-
Part 25 of "Dm": a region with an open order does what the machine says, whatever order is picked.
-/
namespace Go.Dm
theorem W5{p p':Nat→Bool}{i:Nat}(h1:p i=true)(h2:p' i=false):∀(l:List Nat),(∀x,x∈l→p' x=true→p x=true)→i∈l→l.countP p'<l.countP p:=by
 intro l
 induction l with
 | nil=>intro _ hi;cases hi
 | cons x l ih =>
  intro h hi
  have hmono:l.countP p'≤l.countP p:=List.countP_mono_left fun y hy=>h y (List.mem_cons_of_mem _ hy)
  simp only[List.countP_cons]
  rcases List.mem_cons.1 hi with e|oP
  ·subst e
   simp only[h1,h2,if_true,Bool.false_eq_true,if_false]
   omega
  ·have:=ih (fun y hy=>h y (List.mem_cons_of_mem _ hy)) oP
   cases EO:p' x with
   | false=>simp only[Bool.false_eq_true,if_false];omega
   | true=>simp only[h x (List.mem_cons_self ..) EO,if_true];omega
theorem Uq{d:DOp}(hd:d.cls=.env∨d.cls=.read):kS d=false:=by
 unfold DOp.cls at hd
 split at hd
 all_goals first|rfl|(rcases hd with h|h<;>(cases h;done))|skip
 ·split at hd
  ·rcases hd with h|h<;>cases h
  ·rename_i h;simpa using h
theorem Kq{cA:List (Nat×aJ)}{p:Nat}:Be cA p=iE (cA.map (·.2)) p:=by
 unfold Be iE
 rw[←List.map_take,List.filter_map,List.length_map]
 rfl
section
variable {P:Program} {call:iD} {ops:List Oper} {cA:List (Nat×aJ)} {bs:List Nat} {E:Nat→Env} {HS:Nat→List aA} {LS:Nat→cK} {V:Nat→DV} {B:Nat→Bool} {c ĉ ĉ1:Ctx} {env:Env} {h:aA}
 {listed:Array Bool} {a:Act} {k m0:Nat}
theorem mM{d:aJ}{env aT:Env}(h:kR d.reads env aT):kR d.op.tmps env aT:=fun t ht=>h t (by simp[aJ.reads,ht])
theorem Tk{d:aJ}:∀t w,d.guard=some (t,w)→t∈d.reads:=fun t w e=>by simp[aJ.reads,e]
theorem G9(F:Fit P ops cA bs){p:Nat}{y:Nat×aJ}(hy:cA[p]?=some y)(hk:y.2.kind≠.read):y.2.op.cls=.alloc∨y.2.op.cls=.heap:=by
 have Dw:=F.kind p y hy
 unfold nR at Dw
 cases hc:y.2.op.cls<;>rw[hc]at Dw<;>first|exact .inl rfl|exact .inr rfl|skip
 all_goals (cases sR:y.2.kind<;>rw[sR]at Dw<;>first|exact absurd sR hk|cases Dw)
theorem Ld(F:Fit P ops cA bs)(I:qG ops cA HS V env listed a ĉ m0)(M:lG cA E HS B c listed k ĉ)(zV:Max cA listed k){q:Nat}{x:Nat×aJ}{o:Oper}(U:Up ops cA listed q x o)
  (Gx:x.2.op.cls=.heap) (hk:x.2.kind≠.read):q=k:=by
 have hq:q<cA.length:=(List.getElem?_eq_some_iff.1 U.hx).1
 rcases zV with e|⟨y,hy,hyk,hyL⟩
 ·exact absurd (M.front q x (by omega) U.hx hk) U.not
 ·rcases Nat.lt_trichotomy q k with h1|h1|h1
  ·exact absurd (M.front q x h1 U.hx hk) U.not
  ·exact h1
  ·cases hb:mJ bs x.1 y.1 with
   | true=>exact absurd (xQ F I U (kI F hy) hb) hyL
   | false =>
    have hf:=Hd F h1 hy U.hx hb
    have Dw:=F.kind k y hy
    unfold nR at Dw
    simp only[Tp,Gx,Bool.and_eq_true]at hf
    have hf:=hf.2
    cases hc:y.2.op.cls<;>rw[hc]at hf Dw<;>simp only at hf Dw
    ·cases sR:y.2.kind<;>rw[sR]at Dw<;>simp only at Dw<;>first|exact absurd sR hyk|cases Dw
    ·cases sR:y.2.kind<;>rw[sR]at Dw<;>simp only at Dw<;>first|exact absurd sR hyk|cases Dw
    ·cases hf
    ·cases hf
theorem JA(F:Fit P ops cA bs)(T:fC call (cA.map (·.2)) env [h] .start E HS LS V B)(hc:dL call)(hl:h.lim≤h.n)(I:qG ops cA HS V env listed a ĉ (aR (HS k)).n)(M:lG cA E HS B c listed k ĉ)(zV:Max cA listed k)
  {q:Nat} {x:Nat×aJ} {o:Oper} (U:Up ops cA listed q x o) (F8:gJ P o=some x.2.op) (hk:x.2.kind=.read) (hb:B q=true) :
  aR (HS (q+1))=aR (HS q)∧∃ nx v,(execOp a.eval o).run P ĉ.w=.ok nx ĉ.w∧(nx=.value v∨(nx=.skip∧v=Go.undef))∧VR (ĉ.cut (max (aR (HS q)).n (aR (HS k)).n)) (V q) v:=by
 have hq:q<cA.length:=(List.getElem?_eq_some_iff.1 U.hx).1
 have qD:k≤(cA.map (·.2)).length:=by simpa using M.k_le
 refine⟨T.same U.hx (.inl hk),?_⟩
 obtain⟨⟨hw,g,gs,hg,hf,ht⟩,_⟩:=T.step q x.2 (pB U.hx)
 have Dw:=F.kind q x U.hx
 have Gx:x.2.op.cls=.env∨x.2.op.cls=.read:=by
  unfold nR at Dw
  rw[hk]at Dw
  cases hc:x.2.op.cls<;>rw[hc]at Dw<;>first|exact .inl rfl|exact .inr rfl|cases Dw
 have htc:=Uq Gx
 rcases ht hb with⟨_,_,⟨h0,h1,KD,dD⟩,hfree,hlog⟩|⟨wN,_⟩|⟨wN,_⟩|⟨wN,_⟩
 rotate_left
 ·rw[hk]at wN;cases wN
 ·rw[hk]at wN;cases wN
 ·rw[hk]at wN;cases wN
 obtain⟨h2,p1,p2,p3⟩:=M.rel.pad (max (aR (HS q)).n (aR (HS k)).n-(aR (HS k)).n)
 have hmx:(aR (HS k)).n+(max (aR (HS q)).n (aR (HS k)).n-(aR (HS k)).n)=max (aR (HS q)).n (aR (HS k)).n:=by omega
 rw[hmx]at p1
 have hEm:=Su F T hc hl I U
 have Gn:aC h2 (qQ (E q) x.2.reads) x.2.op=some (V q,h2):=by
  rw[yV (mM lI)]at dD
  by_cases henv:x.2.op.cls=.env
  ·exact En henv dD
  ·have hrd:=Gx.resolve_left henv
   refine Iw ?_ htc dD
   obtain⟨m,a1,a2,a3⟩:=T.snap q (by simp;omega) _ _ KD
   have GM:m≤k:=by
    rcases zV with e|⟨y,hy,hyk,hyL⟩
    ·omega
    ·refine Nat.le_of_not_lt fun aY=>hyL ?_
     have vF:=(F.pair k q y x (by omega) hy U.hx).2.2
     simp only[uY,Bool.and_eq_true]at vF
     have h4:=vF.1.1.2
     have hr1:=tD (pB hy)
     rw[if_neg hyk]at hr1
     have KF:iE (cA.map (·.2)) (k+1)≤iE (cA.map (·.2)) m:=mO (by omega)
     have hlt2:Be cA k<x.2.snap:=by rw[Kq];omega
     have cY:(y.2.kind != .read)=true:=by simpa using hyk
     simp only[hrd,cY,beq_self_eq_true,Bool.and_self,Bool.not_true,Bool.false_or,if_pos hlt2]at h4
     exact xQ F I U (kI F hy) h4
   have KP:=T.grows hc hl a3 k GM qD (fun p d g1 g2 hd KS=>by
    obtain⟨y,hy,e⟩:=qU hd
    subst e
    have hyL:=M.front p y g2 hy KS
    have cY:(y.2.kind != .read)=true:=by simpa using KS
    rcases Nat.lt_trichotomy p q with hh|hh|hh
    ·have vF:=(F.pair p q y x hh hy U.hx).2.2
     simp only[uY,Bool.and_eq_true]at vF
     have h4:=vF.1.1.2
     have KF:iE (cA.map (·.2)) m≤iE (cA.map (·.2)) p:=mO g1
     have hlt2:¬Be cA p<x.2.snap:=by rw[Kq];omega
     simp only[hrd,cY,beq_self_eq_true,Bool.and_self,Bool.not_true,Bool.false_or,if_neg hlt2,Bool.or_eq_true,Bool.and_eq_true,beq_iff_eq,decide_eq_true_eq]at h4
     rcases h4 with h4|h4
     ·exact .inl h4
     ·exact .inr ⟨h4.1.2,h4.2⟩
    ·subst hh
     have:y=x:=Option.some.inj (hy.symm.trans U.hx)
     subst this
     exact absurd hk KS
    ·by_cases GV:y.2.op.cls=.alloc
     ·exact .inl GV
     ·have hhp:y.2.op.cls=.heap:=(G9 F hy KS).resolve_left GV
      have vF:=(F.pair q p x y hh U.hx hy).2.2
      simp only[uY,Bool.and_eq_true]at vF
      have h4:=vF.1.2
      cases Z4:mJ bs y.1 x.1 with
      | true=>exact absurd (qJ F I y.1 hyL x.1 (kI F U.hx) Z4) U.not
      | false =>
       simp only[hrd,hhp,Z4,beq_self_eq_true,Bool.and_self,Bool.not_true,Bool.false_or,Bool.or_false,Bool.and_eq_true,beq_iff_eq,decide_eq_true_eq]at h4
       exact .inr ⟨h4.1,by omega⟩)
    (fun p d hd ha=>by
     obtain⟨y,hy,e⟩:=qU hd
     subst e
     exact yL F hy ha)
   intro r hmk0 Oa
   obtain⟨ob,jQ⟩:=Oa
   have hmk':mark (E q) x.2.op=some r:=by rw[Yk (mM lI)];exact hmk0
   have htgt':=Sv hmk'
   have eK:=dH jQ
   rw[a2]at jQ eK ⊢
   have hid2:r.1<(aR (HS k)).n:=Nat.lt_of_lt_of_le eK (T.keeps hc hl GM qD).n
   refine jU.trans (KP r eK (fun p d g1 g2 hd KS OV=>?_)) (.of_get (p3 r.1 hid2))
   rcases Nat.lt_trichotomy p q with hh|hh|hh
   ·refine .inr fun hL=>?_
    have h6:=(T.logs (m:=p+1) q (by omega) (by simp;omega)).2 ((HS p).length-1,r.1) hL
    rw[htgt']at hfree
    have h7:=List.all_eq_true.1 hfree _ h6
    have h8:=(T.shape p (by simp;omega)).2
    have KF:iE (cA.map (·.2)) m≤iE (cA.map (·.2)) p:=mO g1
    have hid0:Nat.beq r.1 r.1=true:=Nat.beq_refl r.1
    simp only[hid0,Bool.not_true,Bool.or_false]at h7
    have h9:(HS p).length-1+1≤x.2.snap:=Nat.le_of_ble_eq_true h7
    omega
   ·subst hh
    obtain⟨y,hy,e⟩:=qU hd
    subst e
    have:y=x:=Option.some.inj (hy.symm.trans U.hx)
    subst this
    rw[hk]at KS;cases KS
   ·cases hcm:x.2.calm with
    | false =>
     rw[hcm,hmk']at hlog
     exact .inl ((T.logs (m:=q+1) p (by omega) (by have:=(List.getElem?_eq_some_iff.1 hd).1;omega)).1 r (by rw[hlog];exact List.mem_cons_self ..))
    | true =>
     obtain⟨y,hy,e⟩:=qU hd
     subst e
     have hdk':y.2.kind≠.read:=by rw[KS];exact fun e=>by cases e
     have hyL:=M.front p y g2 hy hdk'
     have hhp:y.2.op.cls=.heap:=(G9 F hy hdk').resolve_left OV
     have vF:=(F.pair q p x y hh U.hx hy).2.2
     simp only[uY,Bool.and_eq_true]at vF
     have h4:=vF.2
     simp only[hcm,hhp,beq_self_eq_true,Bool.and_self,Bool.not_true,Bool.false_or]at h4
     exact absurd (qJ F I y.1 hyL x.1 (kI F U.hx) h4) U.not
 obtain⟨_,nx,v,r1,r2,r3⟩:=Xq F8 htc p1 hEm Gn
 exact⟨nx,v,r1,r2,r3⟩
theorem W3(F:Fit P ops cA bs)(T:fC call (cA.map (·.2)) env [h] .start E HS LS V B)(hc:dL call)(iU:iY P call)(hl:h.lim≤h.n)(I:qG ops cA HS V env listed a ĉ (aR (HS k)).n)(M:lG cA E HS B c listed k ĉ)
  (zV:Max cA listed k) {q:Nat} {x:Nat×aJ} {o:Oper} (U:Up ops cA listed q x o) {K:Act→World→Prop} {Q:Exit→Act→World→Prop}
  (hK:∀a' ĉ1 k1,qG ops cA HS V env (listed.setIfInBounds x.1 true) a' ĉ1 (aR (HS k1)).n→lG cA E HS B c (listed.setIfInBounds x.1 true) k1 ĉ1→Max cA (listed.setIfInBounds x.1 true) k1→K a' ĉ1.w) :
  wpOp P ops.toArray Q x.1 K a ĉ.w:=by
 have fin:∀a' ĉ1 k1 m1,m1≤(aR (HS k1)).n→qG ops cA HS V env (listed.setIfInBounds x.1 true) a' ĉ1 m1→lG cA E HS B c (listed.setIfInBounds x.1 true) k1 ĉ1→K a' ĉ1.w:=by
  intro a' ĉ1 k1 m1 hm I1 M1
  obtain⟨k2,ĉ2,_,g1,g2,g3,g4,g5⟩:=M1.advance F T hc hl _ k1 ĉ1 rfl
  rw[←g2]
  exact hK a' ĉ2 k2 (I1.mono g3 (by omega)) g4 g5
 have hq:q<cA.length:=(List.getElem?_eq_some_iff.1 U.hx).1
 have hnq:=(T.keeps hc hl (by omega:q≤q+1) (by simp;omega)).n
 obtain⟨o',kk,ss,d',Tf,hcomp,Zc,KT,PA⟩:=F.comp q x U.hx
 have OR:o'=o:=Option.some.inj (Tf.symm.trans U.ho)
 subst OR
 obtain⟨F8,hguard,hdst,_,_⟩:=iM hcomp
 rw[Zc]at F8
 rw[KT]at hguard
 rw[PA]at hdst
 obtain⟨⟨hw,g,gs,hg,hf,ht⟩,_⟩:=T.step q x.2 (pB U.hx)
 have hgq:aR (HS q)=g:=by rw[hg];rfl
 have hEm:=Su F T hc hl I U
 have hwant:=gK hguard hEm (b:=B q) (by rw[Ps Tk];exact hw)
 have Dw:=F.kind q x U.hx
 unfold wpOp
 have hoa:ops.toArray[x.1]?=some o':=by simpa using U.ho
 simp only[hoa,hwant]
 rw[←hdst]
 have ge:x.2.kind≠.read→k≤q:=fun hk=>Nat.le_of_not_lt fun aY=>U.not (M.front q x aY U.hx hk)
 have Gx:x.2.kind≠.read→x.2.op.cls=.alloc∨x.2.op.cls=.heap:=by
  intro hk
  unfold nR at Dw
  cases hc:x.2.op.cls<;>rw[hc]at Dw<;>first|exact .inl rfl|exact .inr rfl|skip
  all_goals (cases sR:x.2.kind<;>rw[sR]at Dw<;>first|exact absurd sR hk|cases Dw)
 cases hb:B q with
 | false =>
  rw[if_neg (by simp)]
  have hV:=(hf hb).1
  by_cases hk:x.2.kind=.read
  ·exact fin _ ĉ k _ (Nat.le_refl _) (I.mark F (fun _=>.refl _) (Nat.le_refl _) U (by rw[hV];exact .undef)) (M.same F I U hk)
  ·rcases Gx hk with ha|hh
   ·exact fin _ ĉ k _ (Nat.le_refl _) (I.mark F (fun _=>.refl _) (Nat.le_refl _) U (by rw[hV];exact .undef)) (M.idle F I U ha hb)
   ·have hqk:=Ld F I M zV U hh hk
    subst hqk
    have jD:=T.same U.hx (.inr hb)
    obtain⟨ĉ1,e1,e2,e3,e4⟩:=M.turn F T hc hl I U (w':=ĉ.w) (v:=Go.undef) (d:=bN) (by rw[jD];exact lF.pure M.rel .undef)
    rw[←e1]
    exact fin _ ĉ1 (q+1) (aR (HS (q+1))).n (Nat.le_refl _) (I.mark F e2 hnq U (by rw[hV];exact .undef)) e3
 | true =>
  rw[if_pos rfl]
  refine .inl ?_
  by_cases hk:x.2.kind=.read
  ·obtain⟨jD,nx,v,r1,r2,r3⟩:=JA F T hc hl I M zV U F8 hk hb
   unfold Oper.wp
   rw[r1]
   have key:K (a.put x.2.dst v) ĉ.w:=fin _ ĉ k _ (Nat.le_refl _) (I.mark F (fun _=>.refl _) (Nat.le_refl _) U (by rw[jD];exact r3)) (M.same F I U hk)
   rw[hdst]at key
   rcases r2 with rfl|⟨rfl,rfl⟩
   ·exact key
   ·exact key
  ·rcases Gx hk with ha|hh
   ·obtain⟨ety,sz,xs,hm1,e1,e2⟩:=T.alloc (pB U.hx) ha (yL F U.hx ha) hb
    have hnk2:max (aR (HS q)).n (aR (HS k)).n=(aR (HS q)).n:=by
     have:=(T.keeps hc hl (ge hk) (by simp;omega)).n
     omega
    rw[hnk2]at hEm
    have GN:Dc (qQ (E q) x.2.reads) x.2.op=some (ety,sz,xs):=by rw[←Yl (mM lI)];exact hm1
    obtain⟨w',cur,val,r1,r2,r3,r4,r5,r6,r7,r8,r9,r10⟩:=DU F8 ha hEm GN
    obtain⟨ĉ1,f1,f2,f3,f4⟩:=M.early F T hc hl I U (ge hk) ha hm1 hb r2 r3 r4 r5 r6 r7 r8 r9
    unfold Oper.wp
    have r1':(execOp a.eval o').run P ĉ.w=.ok (.value val) w':=r1
    rw[r1']
    have key:K (a.put x.2.dst val) ĉ1.w:=by
     refine fin _ ĉ1 k _ (Nat.le_refl _) (I.mark F f2 (Nat.le_refl _) U ?_) f3
     rw[e1,e2]
     refine r10 _ _ (by rw[gR (by rw[Bg];omega)];exact f4) ?_
     show World.shape? ĉ1.w ĉ.w.heap.size=_
     have r5':w'.heap[ĉ.w.heap.size]?=some (.cells cur ety (0,0)):=r5
     rw[f1]
     simp only[World.shape?,r5',r7]
    rw[f1,hdst]at key
    exact key
   ·have hqk:=Ld F I M zV U hh hk
    subst hqk
    have hEk:cI (ĉ.cut (aR (HS q)).n) (qQ (E q) x.2.reads) a:=by rw[Nat.max_self]at hEm;exact hEm
    have go:∀v w',lF (aR (HS q)) (ĉ.cut (aR (HS q)).n) (aR (HS (q+1))) w' (V q) v→K (a.put o'.dst v) w':=by
     intro v w' hp
     obtain⟨ĉ1,e1,e2,e3,e4⟩:=M.turn F T hc hl I U hp
     rw[←e1,←hdst]
     exact fin _ ĉ1 (q+1) (aR (HS (q+1))).n (Nat.le_refl _) (I.mark F e2 hnq U (by rw[Nat.max_self];exact e4)) e3
    rcases ht hb with⟨wN,_⟩|⟨_,_,h1,s1,s2⟩|⟨_,_,h0,h1,s0,s1,s2⟩|⟨_,ids,h1,s1,_,_,s2,_⟩
    rotate_right
    ·rw[uZ (mM lI),←hgq]at s1
     have GQ:aR (HS (q+1))=h1:=by rw[s2];rfl
     exact sB iU F8 M.rel hEk s1 K Q (fun v w' hp=>go v w' (by rw[GQ];exact hp))
    ·exact absurd wN hk
    ·rw[uZ (mM lI),←hgq]at s1
     have GQ:aR (HS (q+1))=h1:=by rw[s2];rfl
     exact sB iU F8 M.rel hEk s1 K Q (fun v w' hp=>go v w' (by rw[GQ];exact hp))
    ·have GQ:aR (HS (q+1))=h1:=by rw[s2];rfl
     unfold lX at s1
     split at s1
     ·rename_i v2 h2 s3
      cases s1
      rw[uZ (mM lI),←hgq]at s3
      obtain⟨m,a1,a2,_⟩:=T.snap q (by simp;omega) _ _ s0
      have sR:=T.keeps1 hc hl q (by simp;omega)
      have aS:max h0.n (aR (HS q)).lim≤(aR (HS q)).n:=Nat.max_le.2 ⟨by rw[a2];exact(sR.2 m a1).n,sR.1⟩
      have wN:=(jO hc (h:={aR (HS q)with lim:=max h0.n (aR (HS q)).lim}) aS s3).n
      refine sB iU F8 (M.rel.setLim aS) hEk s3 K Q (fun v w' hp=>go v w' ?_)
      obtain⟨ρ',p1,p2,p3⟩:=hp
      rw[GQ,←hgq]
      exact⟨ρ',p1.setLim (Nat.le_trans sR.1 wN),p2,p3⟩
     ·cases s1
end
end Go.Dm
/-
Part 26 of "Dm": runs do what the machine says.
-/
namespace Go.Dm
theorem KY{listed:Array Bool}{i:Nat}(h:listed.getD i true=false):listed.getD i false=false:=by
 rcases Nat.lt_or_ge i listed.size with h'|h'
 ·simp[h']at h ⊢;exact h
 ·simp[h']at h
theorem RM{listed:Array Bool}{i:Nat}(hi:i<listed.size)(h:listed.getD i false=false):listed.getD i true=false:=by
 simp[hi]at h ⊢;exact h
theorem PE(m j:Nat):(Array.replicate m false).getD j false=false:=by
 rcases Nat.lt_or_ge j m with h|h
 ·simp[h]
 ·simp[h]
section
variable {P:Program} {call:iD} {ops:List Oper} {cA:List (Nat×aJ)} {bs:List Nat} {E:Nat→Env} {HS:Nat→List aA} {LS:Nat→cK} {V:Nat→DV} {B:Nat→Bool} {c ĉ ĉ1:Ctx} {env:Env} {h:aA}
 {listed:Array Bool} {a:Act} {k m0:Nat}
theorem Rv{j:Nat}(hj:j∈Region.ready .any ops.toArray listed)(F:Fit P ops cA bs):∃ q x o,Up ops cA listed q x o∧x.1=j:=by
 obtain⟨h1,o,ho,gO⟩:=mem_ready.1 hj
 have Tf:ops[j]?=some o:=by simpa using ho
 have aY:j<ops.length:=(List.getElem?_eq_some_iff.1 Tf).1
 obtain⟨q,x,hx,he⟩:=F.all j aY
 subst he
 refine⟨q,x,o,⟨hx,Tf,?_,fun e he hb=>gO e (Array.mem_toList_iff.1 he) hb⟩,rfl⟩
 unfold Li
 rw[KY h1]
 simp
theorem Fy(F:Fit P ops cA bs)(kO:listed.size=ops.length)(hr:Region.ready .any ops.toArray listed=[]):∀(q:Nat) (x:Nat×aJ),cA[q]?=some x→Li listed x.1:=by
 intro q
 induction q using Nat.strongRecOn with
 | _ q ih =>
  intro x hx
  refine Classical.byContradiction fun hn=>?_
  obtain⟨o,_,_,_,ho,_⟩:=F.comp q x hx
  have hmem:x.1∈Region.ready .any ops.toArray listed:=by
   rw[mem_ready]
   refine⟨RM (by rw[kO];exact kI F hx) (by unfold Li at hn;simpa using hn),o,by simpa using ho,fun e he hb=>?_⟩
   have EP:=Array.mem_toList_iff.2 he
   obtain⟨h1,h2⟩:=F.edge x.1 o e ho EP hb
   obtain⟨p,y,hy,Nx⟩:=F.all e.on (Nat.lt_trans h2 (kI F hx))
   rcases Nat.lt_trichotomy p q with hh|hh|hh
   ·have:=ih p hh y hy
    rw[Nx]at this
    exact this
   ·subst hh
    have:y=x:=Option.some.inj (hy.symm.trans hx)
    subst this
    omega
   ·have:=(F.pair q p x y hh hx hy).2.1
    rw[Nx]at this
    rw[h1]at this
    cases this
  rw[hr]at hmem
  cases hmem
theorem Lk(F:Fit P ops cA bs)(T:fC call (cA.map (·.2)) env [h] .start E HS LS V B)(hc:dL call)(hl:h.lim≤h.n)(I:qG ops cA HS V env listed a ĉ (aR (HS k)).n)(M:lG cA E HS B c listed k ĉ)(zV:Max cA listed k)
  (gO:∀(q:Nat) (x:Nat×aJ),cA[q]?=some x→Li listed x.1):St c (aR (HS cA.length)) (E cA.length) a ĉ.w:=by
 have hk:k=cA.length:=zV.resolve_right fun⟨x,hx,_,hn⟩=>hn (gO k x hx)
 subst hk
 have hE:ĉ.E=c.E:=by
  funext b
  refine propext ⟨fun hb=>(M.E b hb).resolve_right fun⟨id,h1,h2⟩=>?_,M.cE b⟩
  obtain⟨_,_,p,y,h3,h4,_⟩:=M.dom id b 0 h1 h2
  have:=(List.getElem?_eq_some_iff.1 h4).1
  omega
 have Jp:ĉ.cut (aR (HS cA.length)).n=c.next ĉ.w (ĉ.cut (aR (HS cA.length)).n).ρ (aR (HS cA.length)):=by
  have hO:ĉ.O=fun b=>iS (aR (HS cA.length)) (ĉ.cut (aR (HS cA.length)).n).ρ b∨c.E b:=by
   funext b
   have:=M.rel.own b
   rw[←hE]
   exact propext this
  have hτ:ĉ.τ=c.τ:=M.le.tok
  simp only[Ctx.next,Ctx.cut]at hO ⊢
  rw[hO,hE,M.X,hτ]
 refine⟨(ĉ.cut (aR (HS cA.length)).n).ρ,by rw[←Jp];exact M.rel,by rw[←Jp];exact M.le,?_⟩
 rw[←Jp]
 have cB:cA.length≤(cA.map (·.2)).length:=by simp
 refine⟨by rw[T.len _ cB];exact I.asize,I.defers,fun t ht=>?_⟩
 have ht':t<env.length:=by rw[T.len _ cB]at ht;exact ht
 by_cases hw:∃ (p:Nat) (y:Nat×aJ),cA[p]?=some y∧y.2.dst=some t
 ·obtain⟨p,y,hy,hd⟩:=hw
  have hp:=(List.getElem?_eq_some_iff.1 hy).1
  have e:=T.new (pB hy) hd ht' cA.length hp cB (fun p' d' a1 a2 nJ=>by
   obtain⟨y',e1,e2⟩:=qU nJ
   subst e2
   exact Dz F a1 hy e1 hd)
  have e2:(E cA.length)[t]=V p:=by rw[List.getElem?_eq_getElem ht]at e;exact Option.some.inj e
  rw[e2]
  have hn:=(T.keeps hc hl (by omega:p+1≤cA.length) cB).n
  exact(I.vals p y t hy (gO p y hy) hd ht').mono (oG (by omega))
 ·have e:=T.old (t:=t) cA.length cB (fun p d hp hd e=>by
   obtain⟨y,e1,e2⟩:=qU hd
   subst e2
   exact hw ⟨p,y,e1,e⟩)
  have hn:=(T.keeps hc hl (Nat.zero_le cA.length) cB).n
  have:=(I.olds t fun p y hy _ hd=>hw ⟨p,y,hy,hd⟩).mono (oG (M:=(aR (HS cA.length)).n) (by omega))
  rw[←e,List.getElem?_eq_getElem ht]at this
  exact this
def unl(ops:List Oper)(listed:Array Bool):Nat:=(List.range ops.length).countP fun i=>!(listed.getD i false)
theorem FK(F:Fit P ops cA bs)(T:fC call (cA.map (·.2)) env [h] .start E HS LS V B)(hc:dL call)(iU:iY P call)(hl:h.lim≤h.n){Q:Exit→Act→World→Prop}
  (hQ:∀a' w',St c (aR (HS cA.length)) (E cA.length) a' w'→Q .normal a' w'):∀(fuel:Nat) (listed:Array Bool) (a:Act) (ĉ:Ctx) (k:Nat),unl ops listed≤fuel →
  qG ops cA HS V env listed a ĉ (aR (HS k)).n→lG cA E HS B c listed k ĉ→Max cA listed k→wpAny P .any ops.toArray Q fuel listed a ĉ.w:=by
 intro fuel
 induction fuel with
 | zero =>
  intro listed a ĉ k hu I M zV
  have hz:unl ops listed=0:=by omega
  unfold unl at hz
  rw[List.countP_eq_zero]at hz
  have hr:Region.ready .any ops.toArray listed=[]:=by
   rw[List.eq_nil_iff_forall_not_mem]
   intro j hj
   obtain⟨q,x,o,U,e⟩:=Rv hj F
   refine U.not ?_
   have:=hz x.1 (List.mem_range.2 (kI F U.hx))
   unfold Li
   simpa using this
  exact⟨hr,hQ _ _ (Lk F T hc hl I M zV (Fy F I.size hr))⟩
 | succ fuel ih =>
  intro listed a ĉ k hu I M zV
  refine⟨fun hr=>hQ _ _ (Lk F T hc hl I M zV (Fy F I.size hr)),fun j hj=>?_⟩
  obtain⟨q,x,o,U,e⟩:=Rv hj F
  subst e
  refine W3 F T hc iU hl I M zV U fun a' ĉ1 k1 I1 M1 hmax1=>ih _ a' ĉ1 k1 ?_ I1 M1 hmax1
  have aY:x.1<listed.size:=by rw[I.size];exact kI F U.hx
  have:unl ops (listed.setIfInBounds x.1 true)<unl ops listed:=by
   refine W5 (i:=x.1) ?_ ?_ _ (fun y _ hy=>?_) (List.mem_range.2 (kI F U.hx))
   ·have:=U.not;unfold Li at this;simpa using this
   ·have:=(iP (listed:=listed) (i:=x.1) aY).2 (.inr rfl)
    unfold Li at this
    rw[this];rfl
   ·have h2:¬Li (listed.setIfInBounds x.1 true) y:=by unfold Li;simpa using hy
    have h3:¬Li listed y:=fun h3=>h2 ((iP aY).2 (.inl h3))
    unfold Li at h3
    simpa using h3
  omega
theorem Zz(hm:P.follows .mixedOrders=true){id:Nat}{ops:Array Oper}{ds:List aJ}(hcomp:fI P ops.toList true=some (.draw ds))(hc:dL call)(iU:iY P call){aT:Env}{h':aA}
  (hJ:dP call ds env [h] .start=some (aT,h')) (hR:Rel h c) (hE:cI c env a) {Q:Exit→Act→World→Prop} (hQ:∀a' w',St c h' aT a' w'→Q .normal a' w'):(Code.region id ops true).wp P Q a c.w:=by
 obtain⟨cA,bs,e,F⟩:=eX hcomp
 have e:ds=cA.map (·.2):=by cases e;rfl
 subst e
 obtain⟨E,HS,LS,V,B,T,t1,gs,t2⟩:=Lq _ _ _ _ _ _ hJ
 refine wp_region_any hm ?_
 have cB:(cA.map (·.2)).length=cA.length:=by simp
 rw[cB]at t1 t2
 have hQ':∀a' w',St c (aR (HS cA.length)) (E cA.length) a' w'→Q .normal a' w':=fun a' w' dD=>hQ a' w' (by rw[t2]at dD;rw[←t1];exact dD)
 let ĉ:Ctx:={c with w:={c.w with drawn:=c.w.drawn+1}}
 have hH0:aR (HS 0)=h:=by rw[T.H0];rfl
 have hself:c.next c.w c.ρ h=c:=hR.same
 have hĉ:ĉ=c.next {c.w with drawn:=c.w.drawn+1} c.ρ h:=by
  have:c.O=fun b=>iS h c.ρ b∨c.E b:=by funext b;exact propext (hR.own b)
  simp only[ĉ,Ctx.next]
  rw[this]
 obtain⟨r1,r2⟩:=hR.heapEq {c.w with drawn:=c.w.drawn+1} rfl
 rw[←hĉ]at r1 r2
 have Dy:=FP r1
 have eI:(Array.replicate ops.size false).size=ops.toList.length:=by simp
 have yO:∀i,¬Li (Array.replicate ops.size false) i:=fun i=>by unfold Li;rw[PE];simp
 have I0:qG ops.toList cA HS V env (Array.replicate ops.size false) a ĉ (aR (HS 0)).n :=
  ⟨eI,fun j o _ hj=>absurd hj (yO j),hE.size,hE.defers,fun p x t _ hL=>absurd hL (yO _),fun t _=>by
   rw[Nat.max_self,hH0,Dy]
   exact(hE.get t).mono r2⟩
 have hdom:∀id,(aR (HS 0)).n≤id→ĉ.ρ id=none:=fun id eK=>by
  cases hr:ĉ.ρ id with
  | none=>rfl
  | some p =>
   have:=r1.dom id (by rw[hr];simp)
   rw[hH0]at eK
   omega
 have M0:lG cA E HS B c (Array.replicate ops.size false) 0 ĉ :=
  ⟨Nat.zero_le _,fun p x hp=>absurd hp (Nat.not_lt_zero _),by rw[hH0,Dy];exact r1,by rw[hH0,Dy];exact r2,rfl,fun b hb=>.inl hb,fun b hb=>hb,fun id b x eK hr=>(by rw[hdom id eK]at hr;cases hr),
   fun p x _ _ _ hL=>absurd hL (yO _),fun id id' b h1 _ h3=>(by rw[hdom id h1]at h3;cases h3)⟩
 obtain⟨k1,ĉ1,_,g1,g2,g3,g4,g5⟩:=M0.advance F T hc (by exact hR.lim) _ 0 ĉ rfl
 have:=FK F T hc iU hR.lim hQ' ops.size (Array.replicate ops.size false) a ĉ1 k1 (by
  unfold unl
  refine Nat.le_trans List.countP_le_length ?_
  simp) (I0.mono g3 g1) g4 g5
 rw[g2]at this
 have e:ops.toList.toArray=ops:=by simp
 rw[e]at this
 exact this
end
end Go.Dm
/-
Part 29 of "Dm" (ahead of part 27): a call on a row of unknown capacity, run under each capacity that makes a difference.
-/
namespace Go.Dm
theorem VR.belowN{c:Ctx}{d:DV}{v:Value}(h:VR c d v){N:Nat}:∀n,Dm.dJ n N d=true→VR (c.cut N) d v:=by
 induction h with
 | unk v=>intro n _;exact .unk v
 | bool b=>intro n _;exact .bool b
 | int k m=>intro n _;exact .int k m
 | atl h=>intro n _;exact .atl h
 | tok h=>intro n _;exact .tok h
 | str s=>intro n _;exact .str s
 | nilp=>intro n _;exact .nilp
 | ptr h =>
  intro n hb
  cases n with
  | zero=>simp[Dm.dJ]at hb
  | succ n =>
   simp only[Dm.dJ,decide_eq_true_eq]at hb
   exact .ptr (by rw[gR hb];exact h)
 | iptr vals hb hO hX hc hv _=>intro n _;exact .iptr vals hb hO hX hc hv
 | nsl a=>intro n _;exact .nsl a
 | sl h hs hn hl ho =>
  intro n hb
  cases n with
  | zero=>simp[Dm.dJ]at hb
  | succ n =>
   simp only[Dm.dJ,decide_eq_true_eq]at hb
   exact .sl (by rw[gR hb];exact h) hs hn hl ho
 | isl0 a cap=>intro n _;exact .isl0 a cap
 | isl vals cB hU hb hO hX eI hc hv _=>intro n _;exact .isl vals cB hU hb hO hX eI hc hv
 | nmap=>intro n _;exact .nmap
 | map h =>
  intro n hb
  cases n with
  | zero=>simp[Dm.dJ]at hb
  | succ n =>
   simp only[Dm.dJ,decide_eq_true_eq]at hb
   exact .map (by rw[gR hb];exact h)
 | func hl _ ih =>
  intro n hb
  cases n with
  | zero=>simp[Dm.dJ]at hb
  | succ n =>
   simp only[Dm.dJ,List.all_eq_true]at hb
   exact .func hl fun i h1 h2=>ih i h1 h2 n (hb _ (List.getElem_mem h1))
 | nilf=>intro n _;exact .nilf
 | iface _ ih =>
  intro n hb
  cases n with
  | zero=>simp[Dm.dJ]at hb
  | succ n =>
   simp only[Dm.dJ]at hb
   exact .iface (ih n hb)
 | nili=>intro n _;exact .nili
 | agg hl h1 _ ih =>
  intro n hb
  cases n with
  | zero=>simp[Dm.dJ]at hb
  | succ n =>
   simp only[Dm.dJ,List.all_eq_true]at hb
   exact .agg hl h1 fun i h1 h2=>ih i h1 h2 n (hb _ (List.getElem_mem h1))
 | tup hl _ ih =>
  intro n hb
  cases n with
  | zero=>simp[Dm.dJ]at hb
  | succ n =>
   simp only[Dm.dJ,List.all_eq_true]at hb
   exact .tup hl fun i h1 h2=>ih i h1 h2 n (hb _ (List.getElem_mem h1))
theorem VR.cut_old{c0:Ctx}{d:DV}{v0:Value}(h:VR c0 d v0){N:Nat}(hd:∀id,c0.ρ id≠none→id<N):∀{c:Ctx} {v:Value},VR c d v→VR (c.cut N) d v:=by
 induction h with
 | unk v=>intro c v _;exact .unk v
 | bool b=>intro c v h;cases h;exact .bool b
 | int k m=>intro c v h;cases h;exact .int k m
 | atl h0=>intro c v h;cases h;exact .atl (by assumption)
 | tok h0=>intro c v h;cases h;exact .tok (by assumption)
 | str s=>intro c v h;cases h;exact .str s
 | nilp=>intro c v h;cases h;exact .nilp
 | ptr h0 =>
  intro c v h
  cases h with
  | ptr h1=>exact .ptr (by rw[gR (hd _ (by rw[h0];simp))];exact h1)
 | iptr vals hb hO hX hc hv _ =>
  intro c v h
  cases h with
  | iptr vals hb hO hX hc hv=>exact .iptr vals hb hO hX hc hv
 | nsl a=>intro c v h;cases h;exact .nsl _
 | sl h0 _ _ _ _ =>
  intro c v h
  cases h with
  | sl h1 hs hn hl ho=>exact .sl (by rw[gR (hd _ (by rw[h0];simp))];exact h1) hs hn hl ho
 | isl0 a cap =>
  intro c v h
  cases h with
  | isl0 a cap=>exact .isl0 a cap
  | isl vals cB hU hb hO hX eI hc hv=>exact .isl vals cB hU hb hO hX eI hc hv
 | isl _ _ _ _ _ _ _ _ _ _ =>
  intro c v h
  cases h with
  | isl0 a cap=>exact .isl0 a cap
  | isl vals cB hU hb hO hX eI hc hv=>exact .isl vals cB hU hb hO hX eI hc hv
 | nmap=>intro c v h;cases h;exact .nmap
 | map h0 =>
  intro c v h
  cases h with
  | map h1=>exact .map (by rw[gR (hd _ (by rw[h0];simp))];exact h1)
 | func G0 _ ih =>
  intro c v h
  cases h with
  | func hl hv=>exact .func hl fun i h1 h2=>ih i h1 (by omega) hd (hv i h1 h2)
 | nilf=>intro c v h;cases h;exact .nilf
 | iface _ ih =>
  intro c v h
  cases h with
  | iface h1=>exact .iface (ih hd h1)
 | nili=>intro c v h;cases h;exact .nili
 | agg G0 _ _ ih =>
  intro c v h
  cases h with
  | agg hl h1 hv=>exact .agg hl h1 fun i h1 h2=>ih i h1 (by omega) hd (hv i h1 h2)
 | tup G0 _ ih =>
  intro c v h
  cases h with
  | tup hl hv=>exact .tup hl fun i h1 h2=>ih i h1 (by omega) hd (hv i h1 h2)
section
variable {h:aA} {c:Ctx}
theorem BK(hR:Rel h c){id ety sz off len:Nat}{xs:List DV}(hg:h.get id=some (.arr ety sz xs none)){v:Value}(hv:VR c (.sl id sz off len) v)(k:Nat) :
  ∃ e cap ρ1,((e=k∧cap=none)∨(e<k∧cap=some (xs.length+e))) ∧
   Rel ((h.set id .dead).push (.arr ety sz (xs++List.replicate e .unk) cap)) (c.next c.w ρ1 ((h.set id .dead).push (.arr ety sz (xs++List.replicate e .unk) cap))) ∧
   bR c (c.next c.w ρ1 ((h.set id .dead).push (.arr ety sz (xs++List.replicate e .unk) cap))) ∧
   VR (c.next c.w ρ1 ((h.set id .dead).push (.arr ety sz (xs++List.replicate e .unk) cap))) (.sl h.n sz off len) v:=by
 obtain⟨b,base,fU,gX,nn,nT,dN,hρ,eC,zU,zX,Di⟩:=hv.sl_inv
 obtain⟨cur,m,g1,g2,g3,g4,g5,g6⟩:=hR.arr hg hρ
 have zT:=hR.oneRow hg hρ g1
 have main:∀e cap,xs.length+e≤m→(∀q,cap=some q→q=m∧(xs++List.replicate e DV.unk).length=m) →
   ∃ ρ1,Rel ((h.set id .dead).push (.arr ety sz (xs++List.replicate e .unk) cap)) (c.next c.w ρ1 ((h.set id .dead).push (.arr ety sz (xs++List.replicate e .unk) cap))) ∧
   bR c (c.next c.w ρ1 ((h.set id .dead).push (.arr ety sz (xs++List.replicate e .unk) cap))) ∧
   VR (c.next c.w ρ1 ((h.set id .dead).push (.arr ety sz (xs++List.replicate e .unk) cap))) (.sl h.n sz off len) v:=by
  intro e cap KQ hU
  obtain⟨k1,k2⟩:=hR.moved (.arr ety sz (xs++List.replicate e .unk) cap) hg rfl rfl (base':=base) hρ c.w rfl (fun _ _=>rfl) (fun _ _ hs=>hs) (.refl _) (fun cM=>by
   refine⟨b,base,cur,m,by simp[Ctx.next],g1,g2,g3,by simpa using KQ,hU,zT,fun i hi=>?_⟩
   by_cases hx:i<xs.length
   ·rw[List.getElem_append_left hx]
    obtain⟨a1,a2⟩:=g6 i hx
    refine⟨a1,fun j hj=>?_⟩
    obtain⟨u,b1,b2,b3⟩:=a2 j hj
    exact⟨u,b1,b2,b3.mono cM⟩
   ·rw[List.getElem_append_right (Nat.le_of_not_lt hx)]
    simp only[List.getElem_replicate,aF,List.length_replicate,true_and]
    intro j hj
    simp only[List.length_append,List.length_replicate]at hi
    have hb:base+i*sz+j<cur.size:=by
     have:(i+1)*sz≤m*sz:=Nat.mul_le_mul_right _ (by omega)
     rw[Nat.add_mul]at this
     omega
    exact⟨cur[base+i*sz+j],Array.getElem?_eq_getElem hb,zT _ _ (Array.getElem?_eq_getElem hb),.unk _⟩)
  refine⟨_,k1,k2,?_⟩
  rw[dN]
  exact .sl (by simp[Ctx.next]) eC zU zX Di
 by_cases hk:xs.length+k≤m
 ·obtain⟨ρ1,k1,k2,k3⟩:=main k none hk (fun q hq=>by cases hq)
  exact⟨k,none,ρ1,.inl ⟨rfl,rfl⟩,k1,k2,k3⟩
 ·obtain⟨ρ1,k1,k2,k3⟩:=main (m-xs.length) (some (xs.length+(m-xs.length))) (by omega) (fun q hq=>by cases hq;simp;omega)
  exact⟨m-xs.length,_,ρ1,.inr ⟨by omega,rfl⟩,k1,k2,k3⟩
theorem N3(hR:Rel h c){id ety sz:Nat}{ob:DO}(hg:h.get id=some ob){hj:aA}{w':World}{ρj:Nat→Option (Nat×Nat)}(hRj:Rel hj (c.next w' ρj hj))(cM:bR c (c.next w' ρj hj))
  (Gt:∀i,i<h.n→hj.get i=(h.set id .dead).get i) {l:List DV} {r:DV} (Bj:jK h ety sz (some (r,hj))=some l) {v:Value} (hv:VR (c.next w' ρj hj) r v) :
  lF h c ((h.set id .dead).push (.arr ety sz l none)) w' (.sl h.n sz 0 l.length) v:=by
 unfold jK at Bj
 split at Bj
 ·rename_i idj dT off len h0 GT
  cases GT
  split at Bj
  ·rename_i nT kE xs cap hgj
   split at Bj
   ·rename_i bU
    obtain⟨e1,e2,e3,hidj,cB,hbel⟩:=bU
    subst e1;subst e2;subst e3
    cases Bj
    have eK:=dH hg
    obtain⟨b,base,fU,gX,nn,ety'',dN,hρ,eC,zU,zX,Di⟩:=hv.sl_inv
    obtain⟨cur,m,g1,g2,g3,g4,g5,g6⟩:=hRj.arr hgj hρ
    have zT:=hRj.oneRow hgj hρ g1
    have Bk:((xs.drop off).take len).length=len:=by simp;omega
    have hnf:((h.set id .dead).push (.arr ety sz ((xs.drop off).take len) none)).n=h.n+1:=rfl
    let hf:aA:=(h.set id .dead).push (.arr ety sz ((xs.drop off).take len) none)
    let ρf:Nat→Option (Nat×Nat):=fun i=>if i<h.n then ρj i else if i=h.n then some (b,base+off*sz)else none
    have rlt:∀i,i<h.n→ρf i=ρj i:=fun i hi=>by simp only[ρf,if_pos hi]
    have rn:ρf h.n=some (b,base+off*sz):=by simp[ρf]
    have getf:∀i o,hf.get i=some o→(i=h.n∧o=.arr ety sz ((xs.drop off).take len) none)∨(i<h.n∧hj.get i=some o∧(h.set id .dead).get i=some o):=by
     intro i o hi
     simp only[hf,cD]at hi
     have e0:(h.set id .dead).n=h.n:=rfl
     rw[e0]at hi
     split at hi
     ·rename_i e;cases hi;exact .inl ⟨e,rfl⟩
     ·have hl:=dH hi
      have Od:i<h.n:=hl
      exact .inr ⟨Od,by rw[Gt i Od];exact hi,hi⟩
    have fZ:∀y,iS hf ρf y→iS hj ρj y:=by
     rintro y ⟨i,o,x,hi,ha,hr⟩
     rcases getf i o hi with⟨e,_⟩|⟨hl,sS,_⟩
     ·subst e
      rw[rn]at hr;cases hr
      exact⟨idj,_,base,hgj,rfl,hρ⟩
     ·rw[rlt i hl]at hr
      exact⟨i,o,x,sS,ha,hr⟩
    have Oc:bR ((c.next w' ρj hj).cut h.n) (c.next w' ρf hf) :=
     ⟨fun i p hp=>by
      obtain⟨h1,h2⟩:=pW hp
      show ρf i=some p
      rw[rlt i h1];exact h2,Nat.le_refl _,fun _ _ _=>rfl,fun y hy=>.inl (hy.imp (fZ y) (fun x=>x)),fun _ _ _ hs=>hs,fun _ hx=>hx,fun _ _ hE=>⟨hE,rfl⟩,.refl _,rfl⟩
    have hlef:bR c (c.next w' ρf hf) :=
     ⟨fun i p hp=>by
      have hi:i<h.n:=hR.dom i (by rw[hp];simp)
      show ρf i=some p
      rw[rlt i hi];exact cM.rho i p hp,cM.size,cM.frame,fun y hy=>cM.own y (hy.imp (fZ y) (fun x=>x)),cM.shape,cM.X,cM.pend,cM.quiet,cM.tok⟩
    have hoff:off+fU=m:=by
     rw[dU g1]at eC
     cases eC
     exact zA g2 g3 zU
    refine⟨ρf,⟨sE (zO hR.len),Nat.le_succ_of_le hR.lim,fun i hi=>?_,fun i o hi=>?_,fun i j oi oj y x1 x2 hi sS pT Le nX wW=>?_,fun _=>Iff.rfl,fun y hy=>hRj.notX y (hy.imp (fZ y) (fun x=>x)),hRj.old,fun y hy=>⟨(hRj.pend y hy).1,fun ho=>(hRj.pend y hy).2 (fZ y ho)⟩,hR.glob.mono hlef⟩,hlef,?_⟩
    ·rw[hnf]
     refine Nat.lt_succ_of_le (Nat.le_of_not_lt fun aY=>hi ?_)
     have h1:¬i<h.n:=by omega
     have h2:i≠h.n:=by omega
     show ρf i=none
     simp only[ρf,if_neg h1,if_neg h2]
    ·rcases getf i o hi with⟨e,e2⟩|⟨hl,sS,hs⟩
     ·subst e;subst e2
      have eI:cur.size=base+off*sz+(m-off)*sz:=by
       have:off*sz+(m-off)*sz=m*sz:=by rw[←Nat.add_mul];congr 1;omega
       omega
      refine⟨b,base+off*sz,cur,m-off,rn,g1,g2,eI,by rw[Bk];omega,(fun k hk=>by cases hk),zT,fun q hq=>?_⟩
      rw[Bk]at hq
      have qS:off+q<xs.length:=by omega
      have hx:((xs.drop off).take len)[q]'(by rw[Bk];exact hq)=xs[off+q]:=by simp
      obtain⟨a1,a2⟩:=g6 (off+q) qS
      rw[hx]
      refine⟨a1,fun j Yy=>?_⟩
      obtain⟨u,b1,b2,b3⟩:=a2 j Yy
      have hmem:xs[off+q]∈(xs.drop off).take len:=by rw[←hx];exact List.getElem_mem _
      have Vo:=List.all_eq_true.1 hbel _ hmem
      refine⟨u,by rw[Nat.add_mul]at b1;rw[←b1];congr 1;omega,b2,?_⟩
      have xG:Dm.dJ 200 h.n (aF sz xs[off+q])[j]=true∨Dm.dJ 199 h.n (aF sz xs[off+q])[j]=true:=by
       have key:∀(d:DV) (KJ:j<(aF sz d).length),Dm.dJ 200 h.n d=true→Dm.dJ 200 h.n (aF sz d)[j]=true∨Dm.dJ 199 h.n (aF sz d)[j]=true:=by
        intro d KJ hd
        cases d
        case agg cs =>
         have nJ:cs.all (Dm.dJ 199 h.n)=true:=hd
         exact .inr (List.all_eq_true.1 nJ _ (List.getElem_mem KJ))
        case unk=>simp only[aF,List.getElem_replicate];exact .inl rfl
        case tup=>simp[aF]at KJ
        all_goals
         simp only[aF,List.length_singleton,Nat.lt_one_iff]at KJ
         subst KJ
         exact .inl hd
       exact key _ Yy Vo
      rcases xG with hc|hc
      ·exact(b3.belowN 200 hc).mono Oc
      ·exact(b3.belowN 199 hc).mono Oc
     ·have hob:=hRj.obj i o sS
      cases o with
      | dead=>trivial
      | arr ety2 sz2 ys cap2 =>
       have cY:i≠id:=fun e=>by
        subst e
        rw[eD hR.len hg]at hs
        cases hs
       rw[bD eK cY]at hs
       obtain⟨b2,base2,cur2,m2,q1,q2,q3,q4,q5,q6,q7,q8⟩:=hob
       obtain⟨b3,base3,cur3,m3,r1,r2,r3,r4,r5,r6,r7,r8⟩:=hR.obj i _ hs
       refine⟨b2,base2,cur2,m2,by show ρf i=_;rw[rlt i hl];exact q1,q2,q3,q4,q5,q6,q7,fun q hq=>⟨(q8 q hq).1,fun j Yy=>?_⟩⟩
       obtain⟨u,a1,a2,a3⟩:=(q8 q hq).2 j Yy
       obtain⟨u0,_,_,a4⟩:=(r8 q hq).2 j Yy
       exact⟨u,a1,a2,(a4.cut_old hR.dom a3).mono Oc⟩
      | mp es =>
       have cY:i≠id:=fun e=>by
        subst e
        rw[eD hR.len hg]at hs
        cases hs
       rw[bD eK cY]at hs
       obtain⟨es2,MH,b2,en2,cl2,q1,q2,q3,q4,q5⟩:=hob
       obtain⟨es3,hp3,b3,en3,cl3,r1,r2,r3,r4,_⟩:=hR.obj i _ hs
       refine⟨es2,MH,b2,en2,cl2,by show ρf i=_;rw[rlt i hl];exact q1,q2,q3,fun q a1 a2=>?_,q5⟩
       obtain⟨s1,s2⟩:=q4 q a1 a2
       obtain⟨q',u1,qS⟩:=List.getElem_of_mem ((MH.symm.trans hp3).mem_iff.1 (List.getElem_mem a1))
       obtain⟨t1,t2⟩:=r4 q' u1 (by omega)
       rw[qS]at t1 t2
       exact⟨(t1.cut_old hR.dom s1).mono Oc,(t2.cut_old hR.dom s2).mono Oc⟩
    ·rcases getf i oi hi with⟨e1,_⟩|⟨l1,j1,_⟩<;>rcases getf j oj sS with⟨e2,_⟩|⟨l2,j2,_⟩
     ·omega
     ·subst e1
      have hri':ρf h.n=some (y,x1):=nX
      rw[rn]at hri';cases hri'
      have hrj':ρj j=some (b,x2):=by rw[←rlt j l2];exact wW
      have:=hRj.inj idj j _ oj b base x2 hgj j2 rfl Le hρ hrj'
      omega
     ·subst e2
      have hrj':ρf h.n=some (y,x2):=wW
      rw[rn]at hrj';cases hrj'
      have hri':ρj i=some (b,x1):=by rw[←rlt i l1];exact nX
      have:=hRj.inj idj i _ oi b base x1 hgj j1 rfl pT hρ hri'
      omega
     ·have hri':ρj i=some (y,x1):=by rw[←rlt i l1];exact nX
      have hrj':ρj j=some (y,x2):=by rw[←rlt j l2];exact wW
      exact hRj.inj i j oi oj y x1 x2 j1 j2 pT Le hri' hrj'
    ·rw[Bk,dN]
     exact .sl rn eC (by rw[Nat.zero_mul,Nat.add_zero];exact zU) zX (by rw[Nat.zero_mul,Nat.add_zero];exact Di)
   ·cases Bj
  ·cases Bj
 ·cases Bj
end
end Go.Dm
/-
Part 31 of "Dm" (ahead of part 27): pure calls: what is handed in is read off; the callee starts with a heap of its own; what it answers is read off.
-/
namespace Go.Dm
def Ctx.lend(c:Ctx):Ctx:=⟨c.w,fun _=>none,fun _=>False,fun b=>c.O b∨c.X b,fun _=>False,c.τ⟩
theorem Rel.lend{h:aA}{c:Ctx}(hR:Rel h c):Rel {objs:=[],n:=0,lim:=0} c.lend:=by
 have hg:∀id,({objs:=[],n:=0,lim:=0}:aA).get id=none:=fun id=>by simp[aA.get]
 exact⟨rfl,Nat.le_refl _,fun id h=>absurd rfl h,fun id o h=>(by rw[hg]at h;cases h),fun i j oi oj b x y hi=>(by rw[hg]at hi;cases hi),fun b=>⟨fun h=>h.elim,fun h=>by
  rcases h with⟨id,o,x,sU,_⟩|h
  ·rw[hg]at sU;cases sU
  ·exact h.elim⟩,fun b h=>h.elim,fun b h=>h.elim (fun h1=>hR.O_lt h1) (fun h1=>hR.old b h1),fun b h=>h.elim,fun b v hv=>⟨(hR.glob b v hv).1,fun h=>h,(hR.glob b v hv).2.2⟩⟩
theorem VR.lendStill{c0:Ctx}{d:DV}{v:Value}(h:VR c0 d v):∀{c:Ctx},c0=c.still→VR c.lend d v:=by
 induction h with
 | unk v=>intro c _;exact .unk v
 | bool b=>intro c _;exact .bool b
 | int k n=>intro c _;exact .int k n
 | atl h=>intro c _;exact .atl h
 | tok h=>intro c e;exact .tok (by rw[e]at h;exact h)
 | str s=>intro c _;exact .str s
 | nilp=>intro c _;exact .nilp
 | ptr h=>intro c e;rw[e]at h;cases h
 | iptr vals hb hO hX hc hv ih =>
  intro c e
  subst e
  exact .iptr vals hb (fun h=>h) (fun hl hx=>hx.elim hO (hX hl)) hc (fun j hj=>ih j hj rfl)
 | nsl a=>intro c _;exact .nsl a
 | sl h=>intro c e;rw[e]at h;cases h
 | isl0 a cap=>intro c _;exact .isl0 a cap
 | isl vals cB hU hb hO hX eI hc hv ih =>
  intro c e
  subst e
  exact .isl vals cB hU hb (fun h=>h) (fun hl hx=>hx.elim hO (hX hl)) eI hc (fun i hi j hj=>ih i hi j hj rfl)
 | nmap=>intro c _;exact .nmap
 | map h=>intro c e;rw[e]at h;cases h
 | func hl _ ih=>intro c e;exact .func hl fun i h1 h2=>ih i h1 h2 e
 | nilf=>intro c _;exact .nilf
 | iface _ ih=>intro c e;exact .iface (ih e)
 | nili=>intro c _;exact .nili
 | agg hl h1 _ ih=>intro c e;exact .agg hl h1 fun i a1 a2=>ih i a1 a2 e
 | tup hl _ ih=>intro c e;exact .tup hl fun i a1 a2=>ih i a1 a2 e
theorem VR.mkIsl{c : Ctx}{tag : Bool}{sz : Nat}{xs : List DV}{v : Value}(h : VR c (.isl tag sz xs) v) : VR c (Dm.mkIsl tag sz xs) v := by
  cases xs with
  | nil => rcases h.isl_inv with⟨_, a, cap, rfl⟩ | ⟨b, o, cap, vals, rfl, _⟩
           · exact .isl0 a cap
           · exact .isl0 _ _
  | cons x xs => exact h
theorem lQ{tag:Bool}{h:aA}{sz:Nat}:∀{n:Nat} {e e':DV},resolve tag h n e=some e' →
  (aF sz e').length=(aF sz e).length∧∀j (h1:j<(aF sz e').length) (h2:j<(aF sz e).length),(∃ m,m≤n∧resolve tag h m (aF sz e)[j]=some (aF sz e')[j]):=by
 intro n e e' hr
 cases n with
 | zero=>simp[resolve]at hr
 | succ n =>
  cases e with
  | agg cs =>
   simp only[resolve]at hr
   split at hr
   ·rename_i c hc
    cases hr
    exact⟨cJ _ _ _ hc,fun j h1 h2=>⟨n,Nat.le_succ _,eW _ _ _ hc j h2 h1⟩⟩
   ·cases hr
  | tup cs =>
   simp only[resolve]at hr
   split at hr
   ·cases hr
    exact⟨rfl,fun j h1 _=>absurd h1 (by simp[aF])⟩
   ·cases hr
  | unk =>
   simp only[resolve]at hr
   cases hr
   refine⟨rfl,fun j h1 h2=>⟨n+1,Nat.le_refl _,?_⟩⟩
   simp[aF,resolve]
  | ptr id s idx off =>
   have EM:=hr
   simp only[resolve]at hr
   (repeat' split at hr)<;>first|(cases hr;done)|skip
   cases hr
   refine⟨rfl,fun j h1 h2=>⟨n+1,Nat.le_refl _,?_⟩⟩
   have hj:j=0:=by simpa[aF]using h1
   subst hj
   simpa[aF]using EM
  | sl id s off len =>
   have EM:=hr
   simp only[resolve]at hr
   (repeat' split at hr)<;>first|(cases hr;done)|skip
   have e1:=Option.some.inj hr
   have key:∀q,aF sz (Dm.mkIsl tag s q)=[Dm.mkIsl tag s q]:=by intro q;cases q<;>rfl
   rw[←e1,key]
   refine⟨rfl,fun j h1 h2=>⟨n+1,Nat.le_refl _,?_⟩⟩
   have hj:j=0:=by simpa using h1
   subst hj
   simp only[List.getElem_cons_zero]
   rw[e1]
   simpa[aF]using EM
  | map id=>simp[resolve]at hr
  | func f cap =>
   have EM:=hr
   simp only[resolve]at hr
   (repeat' split at hr)<;>first|(cases hr;done)|skip
   cases hr
   refine⟨rfl,fun j h1 h2=>⟨n+1,Nat.le_refl _,?_⟩⟩
   have hj:j=0:=by simpa[aF]using h1
   subst hj
   simpa[aF]using EM
  | iface t v =>
   have EM:=hr
   simp only[resolve]at hr
   (repeat' split at hr)<;>first|(cases hr;done)|skip
   cases hr
   refine⟨rfl,fun j h1 h2=>⟨n+1,Nat.le_refl _,?_⟩⟩
   have hj:j=0:=by simpa[aF]using h1
   subst hj
   simpa[aF]using EM
  | isl l s xs =>
   have EM:=hr
   simp only[resolve]at hr
   cases hr
   have key:∀q,aF sz (Dm.mkIsl l s q)=[Dm.mkIsl l s q]:=by intro q;cases q<;>rfl
   rw[key]
   refine⟨rfl,fun j h1 h2=>⟨n+1,Nat.le_refl _,?_⟩⟩
   have hj:j=0:=by simpa using h1
   subst hj
   simpa[aF]using EM
  | _ =>
   simp only[resolve]at hr
   cases hr
   refine⟨rfl,fun j h1 h2=>⟨n+1,Nat.le_refl _,?_⟩⟩
   have hj:j=0:=by simpa[aF]using h1
   subst hj
   simp[aF,resolve]
theorem Xn{h:aA}{c:Ctx}(hR:Rel h c):∀n {d d':DV} {v:Value},VR c d v→resolve true h n d=some d'→VR c.lend d' v:=by
 intro n
 induction n using Nat.strongRecOn with
 | _ n ih =>
 cases n with
 | zero=>intro d d' v _ hr;simp[resolve]at hr
 | succ n =>
  have many:∀{ds es:List DV} {vs:List Value},ds.mapM (resolve true h n)=some es→(∀i (h1:i<ds.length) (h2:i<vs.length),VR c ds[i] vs[i])→ds.length=vs.length →
    es.length=vs.length∧∀i (h1:i<es.length) (h2:i<vs.length),VR c.lend es[i] vs[i]:=by
   intro ds es vs hm hv hl
   have OX:=cJ _ _ _ hm
   exact⟨by omega,fun i h1 h2=>ih n (Nat.lt_succ_self n) (hv i (by omega) h2) (eW _ _ _ hm i (by omega) h1)⟩
  intro d d' v hv hr
  cases d with
  | unk=>simp only[resolve]at hr;cases hr;exact .unk v
  | bool b=>simp only[resolve]at hr;cases hr;cases hv;exact .bool b
  | int k m=>simp only[resolve]at hr;cases hr;cases hv;exact .int k m
  | atl m=>simp only[resolve]at hr;cases hr;cases hv;exact .atl (by assumption)
  | tok m=>simp only[resolve]at hr;cases hr;cases hv;exact .tok (by assumption)
  | str s=>simp only[resolve]at hr;cases hr;cases hv;exact .str s
  | nilp=>simp only[resolve]at hr;cases hr;cases hv;exact .nilp
  | nmap=>simp only[resolve]at hr;cases hr;cases hv;exact .nmap
  | nilf=>simp only[resolve]at hr;cases hr;cases hv;exact .nilf
  | nili=>simp only[resolve]at hr;cases hr;cases hv;exact .nili
  | map id=>simp[resolve]at hr
  | nsl=>simp only[resolve]at hr;cases hr;obtain⟨a,rfl⟩:=hv.nsl_inv;exact .isl0 a 0
  | ptr id sz idx off =>
   simp only[resolve]at hr
   split at hr
   ·rename_i ety dT xs cap hg
    split at hr
    ·rename_i eI
     subst eI
     split at hr
     ·rename_i e he
      split at hr
      ·rename_i cs Dy
       cases hr
       obtain⟨b,base,rfl,hρ⟩:=hv.ptr_inv
       obtain⟨cur,m,g1,g2,g3,g4,g5,g6⟩:=hR.arr hg hρ
       obtain⟨hi,hxe⟩:=List.getElem?_eq_some_iff.1 he
       obtain⟨a1,a2⟩:=g6 idx hi
       rw[hxe]at a1 a2
       have hl:=cJ _ _ _ Dy
       refine .iptr (fun j=>(cur[base+idx*sz+j]?).getD undef) (Array.getElem?_eq_some_iff.1 g1).1 (fun h=>h) (fun h=>by cases h) (fun j hj=>?_) (fun j hj=>?_)
       ·obtain⟨u,b1,b2,b3⟩:=a2 j (by omega)
        exact⟨by rw[iN (show c.lend.w.heap[b]?=_ from g1),b1];simp,by rw[b1];exact b2⟩
       ·obtain⟨u,b1,b2,b3⟩:=a2 j (by omega)
        rw[b1]
        exact ih n (Nat.lt_succ_self n) b3 (eW _ _ _ Dy j (by omega) hj)
      ·cases hr
     ·cases hr
    ·cases hr
   ·cases hr
  | sl id sz off len =>
   simp only[resolve]at hr
   split at hr
   ·rename_i ety dT xs cap hg
    split at hr
    ·rename_i bU
     obtain⟨eI,cB⟩:=bU
     subst eI
     split at hr
     ·rename_i ys yN
      cases hr
      apply VR.mkIsl
      obtain⟨b,base,fU,gX,nn,nT,rfl,hρ,eC,zU,zX,Di⟩:=hv.sl_inv
      obtain⟨cur,m,g1,g2,g3,g4,g5,g6⟩:=hR.arr hg hρ
      have hl:=cJ _ _ _ yN
      have Bk:((xs.drop off).take len).length=len:=by simp;omega
      cases len with
      | zero =>
       have:ys=[]:=List.length_eq_zero_iff.1 (by omega)
       subst this
       exact .isl0 _ _
      | succ len =>
       have hco':gX=base+off*sz:=Di.resolve_right (by omega)
       subst hco'
       have elem:∀i (hi:i<ys.length),∃ hx:off+i<xs.length,resolve true h n xs[off+i]=some ys[i]:=by
        intro i hi
        have h1:i<((xs.drop off).take (len+1)).length:=by omega
        have:=eW _ _ _ yN i h1 hi
        have hx:off+i<xs.length:=by omega
        exact⟨hx,by simpa using this⟩
       refine .isl (fun i j=>(cur[base+off*sz+i*sz+j]?).getD undef) (by omega) zX (Array.getElem?_eq_some_iff.1 g1).1 (fun h=>h) (fun h=>by cases h) (fun i hi=>?_) (fun i j hi hj=>?_) (fun i hi j hj=>?_)
       ·obtain⟨hx,he⟩:=elem i hi
        rw[(lQ (sz:=sz) he).1];exact(g6 _ hx).1
       ·obtain⟨hx,he⟩:=elem i hi
        obtain⟨a1,a2⟩:=g6 _ hx
        obtain⟨u,b1,b2,b3⟩:=a2 j (by omega)
        have e0:base+off*sz+i*sz+j=base+(off+i)*sz+j:=by rw[Nat.add_mul];omega
        exact⟨by rw[iN (show c.lend.w.heap[b]?=_ from g1),e0,b1];simp,by rw[e0,b1];exact b2⟩
       ·obtain⟨hx,he⟩:=elem i hi
        obtain⟨a1,a2⟩:=g6 _ hx
        obtain⟨k1,k2⟩:=lQ (sz:=sz) he
        have sS:j<(aF sz xs[off+i]).length:=by omega
        obtain⟨u,b1,b2,b3⟩:=a2 j sS
        have e0:base+off*sz+i*sz+j=base+(off+i)*sz+j:=by rw[Nat.add_mul];omega
        rw[e0,b1]
        obtain⟨q,hq,Kz⟩:=k2 j hj sS
        exact ih q (by omega) b3 Kz
     ·cases hr
    ·cases hr
   ·cases hr
  | iptr lent cs off =>
   simp only[resolve]at hr
   cases hr
   obtain⟨b,o,vals,rfl,hb,hO,hX,hc,xF⟩:=hv.iptr_inv
   exact .iptr vals hb (fun h=>h) (fun hl hx=>hx.elim hO (hX hl)) hc (fun j hj=>(xF j hj).lendStill rfl)
  | isl lent sz xs =>
   simp only[resolve]at hr
   cases hr
   apply VR.mkIsl
   rcases hv.isl_inv with⟨rfl,a,cap,rfl⟩|⟨b,o,cap,vals,rfl,hU,hb,hO,hX,eI,hc,xF⟩
   ·exact .isl0 a cap
   ·exact .isl vals rfl hU hb (fun h=>h) (fun hl hx=>hx.elim hO (hX hl)) eI hc (fun i hi j hj=>(xF i hi j hj).lendStill rfl)
  | func f cap =>
   simp only[resolve]at hr
   split at hr
   ·rename_i es Gw
    cases hr
    obtain⟨vs,rfl,hl,xF⟩:=hv.func_inv
    obtain⟨k1,k2⟩:=many Gw xF hl
    exact .func k1 k2
   ·cases hr
  | iface t x =>
   simp only[resolve]at hr
   split at hr
   ·rename_i y hy
    cases hr
    cases hv with
    | iface hv=>exact .iface (ih n (Nat.lt_succ_self n) hv hy)
   ·cases hr
  | agg cs =>
   simp only[resolve]at hr
   split at hr
   ·rename_i es Gw
    cases hr
    obtain⟨vs,rfl,hl,h1,xF⟩:=hv.agg_inv
    obtain⟨k1,k2⟩:=many Gw xF hl
    exact .agg k1 h1 k2
   ·cases hr
  | tup cs =>
   simp only[resolve]at hr
   split at hr
   ·rename_i es Gw
    cases hr
    obtain⟨vs,rfl,hl,xF⟩:=hv.tup_inv
    obtain⟨k1,k2⟩:=many Gw xF hl
    exact .tup k1 k2
   ·cases hr
theorem wY{sz m:Nat}{e:DV}(h:bE m e=true):∀j (hj:j<(aF sz e).length),∃ q,bE q (aF sz e)[j]=true:=by
 intro j hj
 cases m with
 | zero=>simp[bE]at h
 | succ m =>
  cases e
  case agg cs =>
   simp only[bE,List.all_eq_true]at h
   exact⟨m,h _ (List.getElem_mem hj)⟩
  case unk=>exact⟨1,by simp[aF,bE]⟩
  case tup=>simp[aF]at hj
  all_goals
   simp only[aF,List.length_singleton,Nat.lt_one_iff]at hj
   subst hj
   exact⟨m+1,h⟩
theorem VR.back{c0:Ctx}{d:DV}{v:Value}(h:VR c0 d v):∀{c2 c3:Ctx} {n:Nat},c0=c2.still→bE n d=true→c3.w=c2.w→c3.τ=c2.τ→(∀b,¬c2.X b→¬c3.O b∧¬c3.X b)→VR c3.still d v:=by
 induction h with
 | unk v=>intros;exact .unk v
 | bool b=>intros;exact .bool b
 | int k n=>intros;exact .int k n
 | atl h=>intros;exact .atl h
 | tok h=>intro c2 c3 n e _ _ ht _;exact .tok (by rw[e]at h;show c3.τ _=_;rw[ht];exact h)
 | str s=>intros;exact .str s
 | nilp=>intros;exact .nilp
 | ptr h=>intro c2 c3 n e;rw[e]at h;cases h
 | iptr vals hb hO hX hc hv ih =>
  intro c2 c3 n e hu hw ht hx
  subst e
  cases n with
  | zero=>simp[bE]at hu
  | succ n =>
   simp only[bE,Bool.and_eq_true,Bool.not_eq_true',List.all_eq_true]at hu
   have Il:=hx _ (hX hu.1)
   exact .iptr vals (by show _<c3.w.heap.size;rw[hw];exact hb) Il.1 (fun _=>Il.2) (fun j hj=>by show c3.w.cell? _=_∧_;rw[hw];exact hc j hj) (fun j hj=>ih j hj rfl (hu.2 _ (List.getElem_mem hj)) hw ht hx)
 | nsl a=>intros;exact .nsl a
 | sl h=>intro c2 c3 n e;rw[e]at h;cases h
 | isl0 a cap=>intros;exact .isl0 a cap
 | isl vals cB hU hb hO hX eI hc hv ih =>
  intro c2 c3 n e hu hw ht hx
  subst e
  cases n with
  | zero=>simp[bE]at hu
  | succ n =>
   simp only[bE,Bool.and_eq_true,Bool.not_eq_true',List.all_eq_true]at hu
   have Il:=hx _ (hX hu.1)
   refine .isl vals cB hU (by show _<c3.w.heap.size;rw[hw];exact hb) Il.1 (fun _=>Il.2) eI (fun i j hi hj=>by show c3.w.cell? _=_∧_;rw[hw];exact hc i j hi hj) (fun i hi j hj=>?_)
   have hm:=hu.2 _ (List.getElem_mem hi)
   obtain⟨q,hq⟩:=wY hm j hj
   exact ih i hi j hj rfl hq hw ht hx
 | nmap=>intros;exact .nmap
 | map h=>intro c2 c3 n e;rw[e]at h;cases h
 | func hl _ ih =>
  intro c2 c3 n e hu hw ht hx
  cases n with
  | zero=>simp[bE]at hu
  | succ n =>
   simp only[bE,List.all_eq_true]at hu
   exact .func hl fun i h1 h2=>ih i h1 h2 e (hu _ (List.getElem_mem h1)) hw ht hx
 | nilf=>intros;exact .nilf
 | iface _ ih =>
  intro c2 c3 n e hu hw ht hx
  cases n with
  | zero=>simp[bE]at hu
  | succ n=>simp only[bE]at hu;exact .iface (ih e hu hw ht hx)
 | nili=>intros;exact .nili
 | agg hl h1 _ ih =>
  intro c2 c3 n e hu hw ht hx
  cases n with
  | zero=>simp[bE]at hu
  | succ n =>
   simp only[bE,List.all_eq_true]at hu
   exact .agg hl h1 fun i h1 h2=>ih i h1 h2 e (hu _ (List.getElem_mem h1)) hw ht hx
 | tup hl _ ih =>
  intro c2 c3 n e hu hw ht hx
  cases n with
  | zero=>simp[bE]at hu
  | succ n =>
   simp only[bE,List.all_eq_true]at hu
   exact .tup hl fun i h1 h2=>ih i h1 h2 e (hu _ (List.getElem_mem h1)) hw ht hx
theorem Rr{h2:aA}{c2:Ctx}(hR:Rel h2 c2){c3:Ctx}(hw:c3.w=c2.w)(ht:c3.τ=c2.τ)(hx:∀b,¬c2.X b→¬c3.O b∧¬c3.X b):∀n {d d':DV} {v:Value},VR c2 d v→resolve false h2 n d=some d'→∀m,bE m d'=true→VR c3.still d' v:=by
 intro n
 induction n using Nat.strongRecOn with
 | _ n ih =>
 cases n with
 | zero=>intro d d' v _ hr;simp[resolve]at hr
 | succ n =>
  have many:∀{ds es:List DV} {vs:List Value} {m:Nat},ds.mapM (resolve false h2 n)=some es→(∀x∈es,bE m x=true)→(∀i (h1:i<ds.length) (h2:i<vs.length),VR c2 ds[i] vs[i])→ds.length=vs.length →
    es.length=vs.length∧∀i (h1:i<es.length) (h2:i<vs.length),VR c3.still es[i] vs[i]:=by
   intro ds es vs m hm hu hv hl
   have OX:=cJ _ _ _ hm
   exact⟨by omega,fun i h1 h2=>ih n (Nat.lt_succ_self n) (hv i (by omega) h2) (eW _ _ _ hm i (by omega) h1) m (hu _ (List.getElem_mem h1))⟩
  intro d d' v hv hr m hu
  have own:∀{id b base:Nat} {ety sz:Nat} {xs:List DV} {cap:Option Nat},h2.get id=some (.arr ety sz xs cap)→c2.ρ id=some (b,base)→¬c3.O b∧¬c3.X b:=fun hg hρ =>
   hx _ (hR.notX _ ((hR.own _).2 (.inl ⟨_,_,_,hg,rfl,hρ⟩)))
  cases d with
  | unk=>simp only[resolve]at hr;cases hr;exact .unk v
  | bool b=>simp only[resolve]at hr;cases hr;cases hv;exact .bool b
  | int k m=>simp only[resolve]at hr;cases hr;cases hv;exact .int k m
  | atl m=>simp only[resolve]at hr;cases hr;cases hv;exact .atl (by assumption)
  | tok m =>
   simp only[resolve]at hr;cases hr;cases hv;rename_i h
   exact .tok (by show c3.τ _=_;rw[ht];exact h)
  | str s=>simp only[resolve]at hr;cases hr;cases hv;exact .str s
  | nilp=>simp only[resolve]at hr;cases hr;cases hv;exact .nilp
  | nmap=>simp only[resolve]at hr;cases hr;cases hv;exact .nmap
  | nilf=>simp only[resolve]at hr;cases hr;cases hv;exact .nilf
  | nili=>simp only[resolve]at hr;cases hr;cases hv;exact .nili
  | map id=>simp[resolve]at hr
  | nsl=>simp only[resolve]at hr;cases hr;obtain⟨a,rfl⟩:=hv.nsl_inv;exact .isl0 a 0
  | ptr id sz idx off =>
   simp only[resolve]at hr
   split at hr
   ·rename_i ety dT xs cap hg
    split at hr
    ·rename_i eI
     subst eI
     split at hr
     ·rename_i e he
      split at hr
      ·rename_i cs Dy
       cases hr
       obtain⟨b,base,rfl,hρ⟩:=hv.ptr_inv
       obtain⟨cur,mm,g1,g2,g3,g4,g5,g6⟩:=hR.arr hg hρ
       obtain⟨hi,hxe⟩:=List.getElem?_eq_some_iff.1 he
       obtain⟨a1,a2⟩:=g6 idx hi
       rw[hxe]at a1 a2
       have hl:=cJ _ _ _ Dy
       have Il:=own hg hρ
       cases m with
       | zero=>simp[bE]at hu
       | succ m =>
       simp only[bE,Bool.not_false,Bool.true_and,List.all_eq_true]at hu
       refine .iptr (fun j=>(cur[base+idx*sz+j]?).getD undef) (by show b<c3.w.heap.size;rw[hw];exact(Array.getElem?_eq_some_iff.1 g1).1) Il.1 (fun _=>Il.2) (fun j hj=>?_) (fun j hj=>?_)
       ·obtain⟨u,b1,b2,b3⟩:=a2 j (by omega)
        exact⟨by show c3.w.cell? _=_;rw[hw,iN g1,b1];simp,by rw[b1];exact b2⟩
       ·obtain⟨u,b1,b2,b3⟩:=a2 j (by omega)
        rw[b1]
        exact ih n (Nat.lt_succ_self n) b3 (eW _ _ _ Dy j (by omega) hj) m (hu _ (List.getElem_mem hj))
      ·cases hr
     ·cases hr
    ·cases hr
   ·cases hr
  | sl id sz off len =>
   simp only[resolve]at hr
   split at hr
   ·rename_i ety dT xs cap hg
    split at hr
    ·rename_i bU
     obtain⟨eI,cB⟩:=bU
     subst eI
     split at hr
     ·rename_i ys yN
      cases hr
      obtain⟨b,base,fU,gX,nn,nT,rfl,hρ,eC,zU,zX,Di⟩:=hv.sl_inv
      obtain⟨cur,mm,g1,g2,g3,g4,g5,g6⟩:=hR.arr hg hρ
      have hl:=cJ _ _ _ yN
      have Bk:((xs.drop off).take len).length=len:=by simp;omega
      have Il:=own hg hρ
      cases ys with
      | nil =>
       have hz:len=0:=by simp at hl;omega
       subst hz
       exact .isl0 _ _
      | cons y0 ys0 =>
       generalize hysd:y0::ys0=ys at *
       have GM:Dm.mkIsl false sz ys=.isl false sz ys:=by rw[←hysd];rfl
       rw[GM]at hu ⊢
       have hco':gX=base+off*sz:=Di.resolve_right (by rw[←hysd]at hl;simp at hl;omega)
       subst hco'
       have elem:∀i (hi:i<ys.length),∃ hx:off+i<xs.length,resolve false h2 n xs[off+i]=some ys[i]:=by
        intro i hi
        have h1:i<((xs.drop off).take len).length:=by omega
        have:=eW _ _ _ yN i h1 hi
        have hx:off+i<xs.length:=by omega
        exact⟨hx,by simpa using this⟩
       cases m with
       | zero=>simp[bE]at hu
       | succ m =>
       simp only[bE,Bool.not_false,Bool.true_and,List.all_eq_true]at hu
       have hlc':len≤fU:=zX
       refine .isl (fun i j=>(cur[base+off*sz+i*sz+j]?).getD undef) (by omega) zX (by show b<c3.w.heap.size;rw[hw];exact(Array.getElem?_eq_some_iff.1 g1).1) Il.1 (fun _=>Il.2) (fun i hi=>?_) (fun i j hi hj=>?_) (fun i hi j hj=>?_)
       ·obtain⟨hx,he⟩:=elem i hi
        rw[(lQ (sz:=sz) he).1];exact(g6 _ hx).1
       ·obtain⟨hx,he⟩:=elem i hi
        obtain⟨a1,a2⟩:=g6 _ hx
        obtain⟨u,b1,b2,b3⟩:=a2 j (by omega)
        have e0:base+off*sz+i*sz+j=base+(off+i)*sz+j:=by rw[Nat.add_mul];omega
        exact⟨by show c3.w.cell? _=_;rw[hw,iN g1,e0,b1];simp,by rw[e0,b1];exact b2⟩
       ·obtain⟨hx,he⟩:=elem i hi
        obtain⟨a1,a2⟩:=g6 _ hx
        obtain⟨k1,k2⟩:=lQ (sz:=sz) he
        have sS:j<(aF sz xs[off+i]).length:=by omega
        obtain⟨u,b1,b2,b3⟩:=a2 j sS
        have e0:base+off*sz+i*sz+j=base+(off+i)*sz+j:=by rw[Nat.add_mul];omega
        rw[e0,b1]
        obtain⟨q,hq,Kz⟩:=k2 j hj sS
        obtain⟨p,hp⟩:=wY (hu _ (List.getElem_mem hi)) j hj
        exact ih q (by omega) b3 Kz p hp
     ·cases hr
    ·cases hr
   ·cases hr
  | iptr lent cs off =>
   simp only[resolve]at hr
   cases hr
   obtain⟨b,o,vals,rfl,hb,hO,hX,hc,xF⟩:=hv.iptr_inv
   exact(VR.iptr (c:=c2.still) vals hb hO hX hc xF).back (c2:=c2) rfl hu hw ht hx
  | isl lent sz xs =>
   simp only[resolve]at hr
   cases hr
   rcases hv.isl_inv with⟨rfl,a,cap,rfl⟩|⟨b,o,cap,vals,rfl,hU,hb,hO,hX,eI,hc,xF⟩
   ·exact .isl0 a cap
   ·exact(VR.mkIsl (VR.isl (c:=c2.still) vals rfl hU hb hO hX eI hc xF)).back (c2:=c2) rfl hu hw ht hx
  | func f cap =>
   simp only[resolve]at hr
   split at hr
   ·rename_i es Gw
    cases hr
    cases m with
    | zero=>simp[bE]at hu
    | succ m =>
    simp only[bE,List.all_eq_true]at hu
    obtain⟨vs,rfl,hl,xF⟩:=hv.func_inv
    obtain⟨k1,k2⟩:=many Gw hu xF hl
    exact .func k1 k2
   ·cases hr
  | iface t x =>
   simp only[resolve]at hr
   split at hr
   ·rename_i y hy
    cases hr
    cases m with
    | zero=>simp[bE]at hu
    | succ m =>
    simp only[bE]at hu
    cases hv with
    | iface hv=>exact .iface (ih n (Nat.lt_succ_self n) hv hy m hu)
   ·cases hr
  | agg cs =>
   simp only[resolve]at hr
   split at hr
   ·rename_i es Gw
    cases hr
    cases m with
    | zero=>simp[bE]at hu
    | succ m =>
    simp only[bE,List.all_eq_true]at hu
    obtain⟨vs,rfl,hl,h1,xF⟩:=hv.agg_inv
    obtain⟨k1,k2⟩:=many Gw hu xF hl
    exact .agg k1 h1 k2
   ·cases hr
  | tup cs =>
   simp only[resolve]at hr
   split at hr
   ·rename_i es Gw
    cases hr
    cases m with
    | zero=>simp[bE]at hu
    | succ m =>
    simp only[bE,List.all_eq_true]at hu
    obtain⟨vs,rfl,hl,xF⟩:=hv.tup_inv
    obtain⟨k1,k2⟩:=many Gw hu xF hl
    exact .tup k1 k2
   ·cases hr
theorem Cj{h:aA}{c:Ctx}(hR:Rel h c){n:Nat}{args ds:List DV}{vals:List Value}(hm:args.mapM (resolve true h n)=some ds)(hv:VRs c args vals):VRs c.lend ds vals:=by
 have hl:=cJ _ _ _ hm
 exact⟨by rw[hl];exact hv.1,fun i h1 h2=>Xn hR n (hv.2 i (by omega) h2) (eW _ _ _ hm i (by omega) h1)⟩
theorem Rx{h:aA}{c:Ctx}(hR:Rel h c){h2:aA}{w2:World}{ρ2:Nat→Option (Nat×Nat)}(hR2:Rel h2 (c.lend.next w2 ρ2 h2))(cM:bR c.lend (c.lend.next w2 ρ2 h2)){d d':DV}{v:Value}{n m:Nat}
  (hv:VR (c.lend.next w2 ρ2 h2) d v) (hr:resolve false h2 n d=some d') (hu:bE m d'=true):lF h c h w2 d' v:=by
 have hO:∀b,(iS h c.ρ b∨c.E b)↔c.O b:=fun b=>(hR.own b).symm
 have jD:∀b,b<c.w.heap.size→w2.heap[b]?=c.w.heap[b]?:=fun b hb=>cM.frame b hb (fun h=>h)
 have oC:bR c (c.next w2 c.ρ h) :=
  ⟨fun _ _ hp=>hp,cM.size,fun b hb _=>jD b hb,fun b hb=>.inl ((hO b).1 hb),cM.shape,fun _ hx=>hx,fun b hb hE=>⟨hE,jD b hb⟩,cM.quiet,rfl⟩
 refine⟨c.ρ,⟨hR.len,hR.lim,hR.dom,fun id o hg=>(hR.obj id o hg).mono oC (fun ha b x hr=>jD b (hR.block_lt hg ha hr)),hR.inj,fun _=>Iff.rfl,fun b hb=>hR.notX b ((hO b).1 hb),fun b hb=>Nat.lt_of_lt_of_le (hR.old b hb) cM.size,
  fun b hb=>⟨Nat.lt_of_lt_of_le (hR.pend b hb).1 cM.size,(hR.pend b hb).2⟩,hR.glob.mono oC⟩,oC,?_⟩
 refine VR.of_still (Rr hR2 (c3:=c.next w2 c.ρ h) rfl rfl (fun b hb=>?_) n hv hr m hu)
 exact⟨fun ho=>hb (.inl ((hO b).1 ho)),fun hx=>hb (.inr hx)⟩
end Go.Dm
/-
Part 35 of "Dm": rows that are written no more, read off for good.
-/
namespace Go.Dm
theorem FO(c:Ctx):c.cut 0=c.still:=by
 simp only[Ctx.cut,Ctx.still]
 congr 1
theorem Ia{sz N:Nat}{d:DV}{j:Nat}(KJ:j<(aF sz d).length)(hd:Dm.dJ 200 N d=true):∃ n,Dm.dJ n N (aF sz d)[j]=true:=by
 cases d
 case agg cs =>
  have nJ:cs.all (Dm.dJ 199 N)=true:=hd
  exact⟨199,List.all_eq_true.1 nJ _ (List.getElem_mem KJ)⟩
 case unk=>exact⟨200,by simp only[aF,List.getElem_replicate];rfl⟩
 case tup=>simp[aF]at KJ
 all_goals
  refine⟨200,?_⟩
  have hj0:j=0:=by simp[aF]at KJ;omega
  subst hj0
  exact hd
def oK(h:aA)(c:Ctx)(h':aA):Prop:=Rel h' (c.next c.w c.ρ h')∧bR c (c.next c.w c.ρ h')
theorem oK.refl{h:aA}{c:Ctx}(hR:Rel h c):oK h c h:=by
 unfold oK
 rw[hR.same]
 exact⟨hR,.refl _⟩
theorem tU{h:aA}{c:Ctx}(hR:Rel h c){d d':DV}{v:Value}{h':aA}(hv:VR c d v)(hf:gI h d=some (d',h')):oK h c h'∧VR (c.next c.w c.ρ h') d' v:=by
 have triv:∀{d:DV},VR c d v→some (d,h)=some (d',h')→oK h c h'∧VR (c.next c.w c.ρ h') d' v:=by
  intro d hv he
  cases he
  exact⟨.refl hR,by rw[hR.same];exact hv⟩
 cases d with
 | sl id sz off len =>
  simp only[gI]at hf
  split at hf
  ·rename_i ety dT xs cap hg
   split at hf
   ·rename_i bU
    obtain⟨eI,aS,cB,hbel⟩:=bU
    subst eI
    cases hf
    obtain⟨k1,k2⟩:=hR.kill hg
    refine⟨⟨k1,k2⟩,?_⟩
    obtain⟨b,base,fU,gX,nn,nT,rfl,hρ,eC,zU,zX,Di⟩:=hv.sl_inv
    obtain⟨cur,mm,g1,g2,g3,g4,g5,g6⟩:=hR.arr hg hρ
    have hO:c.O b:=(hR.own b).2 (.inl ⟨id,_,base,hg,rfl,hρ⟩)
    have Bk:((xs.drop off).take len).length=len:=by simp;omega
    cases yN:(xs.drop off).take len with
    | nil =>
     have hz:len=0:=by rw[yN]at Bk;simp at Bk;omega
     subst hz
     exact .isl0 _ _
    | cons y0 ys0 =>
     have G0:0<len:=by rw[yN]at Bk;simp at Bk;omega
     have hco':gX=base+off*sz:=Di.resolve_right (by omega)
     subst hco'
     show VR _ (.isl false sz (y0::ys0)) _
     rw[←yN]
     have hnO:¬(iS (h.set id .dead) c.ρ b∨c.E b):=by
      rintro(⟨i,oi,x,sU,pT,nX⟩|hE)
      ·by_cases e:i=id
       ·subst e
        rw[eD hR.len hg]at sU
        cases sU;simp[gF]at pT
       ·rw[bD (dH hg) e]at sU
        exact e (hR.inj i id oi _ b x base sU hg pT rfl nX hρ)
      ·exact(hR.pend b hE).2 ⟨id,_,base,hg,rfl,hρ⟩
     have helem:∀i (hi:i<((xs.drop off).take len).length),∃ hx:off+i<xs.length,((xs.drop off).take len)[i]=xs[off+i]:=by
      intro i hi
      have hx:off+i<xs.length:=by omega
      exact⟨hx,by simp⟩
     refine .isl (fun i j=>(cur[base+(off+i)*sz+j]?).getD undef) Bk.symm zX (Array.getElem?_eq_some_iff.1 g1).1 hnO (fun _=>hR.notX b hO) (fun i hi=>?_) (fun i j hi hj=>?_) (fun i hi j hj=>?_)
     ·obtain⟨hx,e⟩:=helem i hi
      rw[e];exact(g6 (off+i) hx).1
     ·obtain⟨hx,e⟩:=helem i hi
      obtain⟨a1,a2⟩:=g6 (off+i) hx
      obtain⟨u,b1,b2,b3⟩:=a2 j (by omega)
      have:base+off*sz+i*sz+j=base+(off+i)*sz+j:=by rw[Nat.add_mul];omega
      refine⟨?_,by rw[b1];exact b2⟩
      show c.w.cell? ⟨b,base+off*sz+i*sz+j,none⟩=_
      rw[iN g1,this,b1];rfl
     ·obtain⟨hx,e⟩:=helem i hi
      obtain⟨a1,a2⟩:=g6 (off+i) hx
      have sS:j<(aF sz xs[off+i]).length:=by rw[←e];exact hj
      obtain⟨u,b1,b2,b3⟩:=a2 j sS
      obtain⟨n,hn⟩:=Ia sS (by rw[←e];exact List.all_eq_true.1 hbel _ (List.getElem_mem hi))
      have hs:=VR.belowN b3 n hn
      rw[FO]at hs
      have h2:=hs.mono k2.toStill
      rw[b1]
      simp only[e]
      exact h2
   ·cases hf
  ·cases hf
 | _=>exact triv hv hf
theorem oK.trans{h h1 h2:aA}{c:Ctx}(a:oK h c h1)(b:oK h1 (c.next c.w c.ρ h1) h2):oK h c h2:=⟨b.1,a.2.trans b.2⟩
theorem Gd{f:aA→DV→Option (DV×aA)}(hf:∀{h:aA} {c:Ctx} {d d':DV} {v:Value} {h':aA},Rel h c→VR c d v→f h d=some (d',h')→oK h c h'∧VR (c.next c.w c.ρ h') d' v) :
  ∀{ds ds':List DV} {vs:List Value} {h h':aA} {c:Ctx},Rel h c→VRs c ds vs→tJ f h ds=some (ds',h')→oK h c h'∧VRs (c.next c.w c.ρ h') ds' vs:=by
 intro ds
 induction ds with
 | nil =>
  intro ds' vs h h' c hR hv he
  simp only[tJ]at he
  cases he
  exact⟨.refl hR,by rw[hR.same];exact hv⟩
 | cons d r ih =>
  intro ds' vs h h' c hR hv he
  simp only[tJ]at he
  split at he
  ·rename_i d1 h1 e1
   split at he
   ·rename_i r' h2 e2
    cases he
    cases vs with
    | nil=>have:=hv.1;simp at this
    | cons v vs =>
     obtain⟨k1,k2⟩:=hf hR (hv.2 0 (by simp) (by simp)) e1
     have hvr:VRs (c.next c.w c.ρ h1) r vs:=⟨by have:=hv.1;simp at this;exact this,fun i a b=>(hv.2 (i+1) (by simp;omega) (by simp;omega)).mono k1.2⟩
     obtain⟨k3,k4⟩:=ih k1.1 hvr e2
     refine⟨k1.trans k3,by simp[k4.1],fun i a b=>?_⟩
     cases i with
     | zero=>exact k2.mono k3.2
     | succ i=>exact k4.2 i (by simp at a;omega) (by simp at b;omega)
   ·cases he
  ·cases he
theorem Js{h:aA}{c:Ctx}{d d':DV}{v:Value}{h':aA}(hR:Rel h c)(hv:VR c d v)(hf:gP h d=some (d',h')):oK h c h'∧VR (c.next c.w c.ρ h') d' v:=by
 cases d with
 | agg cs =>
  simp only[gP]at hf
  split at hf
  ·rename_i cs' h1 e1
   cases hf
   obtain⟨vs,rfl,hl,h1c,EL⟩:=hv.agg_inv
   obtain⟨k1,k2⟩:=Gd (fun a b c=>tU a b c) hR ⟨hl,EL⟩ e1
   exact⟨k1,.agg k2.1 h1c k2.2⟩
  ·cases hf
 | _=>rw[Gz (by intro cs e;cases e)]at hf;exact tU hR hv hf
end Go.Dm
/-
Part 38 of "Dm" (ahead of part 27): a loop over a map, whatever order its entries come in.
-/
namespace Go.Dm
open Go.ChangeMaps (setBlock)
theorem VR.setE{c:Ctx}{d:DV}{v:Value}(h:VR c d v)(E:Nat→Prop):VR {c with E:=E} d v:=by
 induction h with
 | unk v=>exact .unk v
 | bool b=>exact .bool b
 | int k n=>exact .int k n
 | atl h=>exact .atl h
 | tok h=>exact .tok h
 | str s=>exact .str s
 | nilp=>exact .nilp
 | ptr h=>exact .ptr h
 | iptr vals hb hO hX hc hv ih=>exact .iptr vals hb hO hX hc ih
 | nsl a=>exact .nsl a
 | sl h hs hn hl ho=>exact .sl h hs hn hl ho
 | isl0 a cap=>exact .isl0 a cap
 | isl vals cB hU hb hO hX eI hc hv ih=>exact .isl vals cB hU hb hO hX eI hc ih
 | nmap=>exact .nmap
 | map h=>exact .map h
 | func hl hv ih=>exact .func hl ih
 | nilf=>exact .nilf
 | iface h ih=>exact .iface ih
 | nili=>exact .nili
 | agg hl h1 hv ih=>exact .agg hl h1 ih
 | tup hl hv ih=>exact .tup hl ih
theorem Kb.setE{c:Ctx}{id:Nat}{o:DO}(h:Kb c id o)(E:Nat→Prop):Kb {c with E:=E} id o:=by
 cases o with
 | dead=>trivial
 | arr ety sz xs cap =>
  obtain⟨b,base,cur,m,h1,h2,h3,h4,h5,h6,h8,h7⟩:=h
  refine⟨b,base,cur,m,h1,h2,h3,h4,h5,h6,h8,fun i hi=>⟨(h7 i hi).1,fun j hj=>?_⟩⟩
  obtain⟨v,a1,a2,a3⟩:=(h7 i hi).2 j hj
  exact⟨v,a1,a2,a3.setE E⟩
 | mp es =>
  obtain⟨es',hp,b,entries,clock,h1,h2,h3,h4,h5⟩:=h
  exact⟨es',hp,b,entries,clock,h1,h2,h3,fun i a1 a2=>⟨(h4 i a1 a2).1.setE E,(h4 i a1 a2).2.setE E⟩,h5⟩
theorem bR.setE{c c':Ctx}(h:bR c c'){E:Nat→Prop}(hE:∀b,E b→c'.E b):bR {c with E:=E} {c' with E:=E} :=
 ⟨h.rho,h.size,h.frame,h.own,h.shape,h.X,fun b hb he=>⟨he,(h.pend b hb (hE b he)).2⟩,h.quiet,h.tok⟩
theorem Rel.shut{h:aA}{c:Ctx}(hR:Rel h c){m mb:Nat}{es:List (DV×DV)}(hg:h.get m=some (.mp es))(hρ:c.ρ m=some (mb,0)):Rel (h.set m .dead) {c with E:=fun b=>c.E b∨b=mb}:=by
 have hm:=dH hg
 have back:∀{i:Nat} {o:DO},(h.set m .dead).get i=some o→gF o=true→i≠m∧h.get i=some o:=by
  intro i o hi ha
  have cY:i≠m:=fun e=>by subst e;rw[eD hR.len hg]at hi;cases hi;cases ha
  rw[bD hm cY]at hi
  exact⟨cY,hi⟩
 have fZ:∀b,iS (h.set m .dead) c.ρ b→iS h c.ρ b:=fun b ⟨i,o,x,hi,ha,hr⟩=>⟨i,o,x,(back hi ha).2,ha,hr⟩
 refine⟨zO hR.len,hR.lim,hR.dom,fun i o hi=>?_,fun i j oi oj b x y hi hj ai aj=>hR.inj i j oi oj b x y (back hi ai).2 (back hj aj).2 ai aj,fun b=>⟨fun hO=>?_,fun hO=>?_⟩,hR.notX,hR.old,fun b hb=>?_,hR.glob⟩
 ·by_cases e:i=m
  ·subst e;rw[eD hR.len hg]at hi;cases hi;trivial
  ·rw[bD hm e]at hi;exact(hR.obj i o hi).setE _
 ·rcases(hR.own b).1 hO with⟨i,o,x,hi,ha,hr⟩|hE
  ·by_cases e:i=m
   ·subst e;rw[hρ]at hr;cases hr;exact .inr (.inr rfl)
   ·exact .inl ⟨i,o,x,by rw[bD hm e];exact hi,ha,hr⟩
  ·exact .inr (.inl hE)
 ·rcases hO with hO|hE|e
  ·exact(hR.own b).2 (.inl (fZ b hO))
  ·exact(hR.own b).2 (.inr hE)
  ·subst e;exact(hR.own b).2 (.inl ⟨m,_,0,hg,rfl,hρ⟩)
 ·rcases hb with hE|e
  ·exact⟨(hR.pend b hE).1,fun ho=>(hR.pend b hE).2 (fZ b ho)⟩
  ·subst e
   refine⟨hR.block_lt hg rfl hρ,fun⟨i,o,x,hi,ha,hr⟩=>?_⟩
   obtain⟨cY,oP⟩:=back hi ha
   exact cY (hR.inj i m o _ b x 0 oP hg ha rfl hr hρ)
theorem Rel.nameE{h : aA}{c : Ctx}(hR : Rel h c)(b : Nat) : Rel (h.push .dead) { c with ρ := fun i => if i = h.n then some (b, 0)else c.ρ i } ∧ bR c { c with ρ := fun i => if i = h.n then some (b, 0)else c.ρ i } := by
  have aY : ∀ {i p}, c.ρ i = some p → i < h.n := fun {i p} hp => hR.dom i (by rw[hp]; simp)
  have cM : bR c { c with ρ := fun i => if i = h.n then some (b, 0)else c.ρ i } :=
    ⟨fun i p hp => by have := aY hp; show(if i = h.n then _ else _) = _; rw[if_neg (by omega)]; exact hp, Nat.le_refl _, fun _ _ _ => rfl, fun _ h => .inl h, fun _ _ _ h => h, fun _ h => h, fun _ _ h => ⟨h, rfl⟩, .refl _, rfl⟩
  have back : ∀ {i : Nat} {o : DO}, (h.push .dead).get i = some o → gF o = true → h.get i = some o := by
    intro i o hi ha
    rw[cD]at hi
    split at hi
    · cases hi; cases ha
    · exact hi
  have hρ : ∀ {i : Nat} {o : DO}, h.get i = some o → (if i = h.n then some (b, 0)else c.ρ i) = c.ρ i := fun {i o} hi => if_neg (by have := dH hi; omega)
  have fZ : ∀ y, iS (h.push .dead) (fun i => if i = h.n then some (b, 0)else c.ρ i) y ↔ iS h c.ρ y := fun y =>
    ⟨fun⟨i, o, x, hi, ha, hr⟩ => ⟨i, o, x, back hi ha, ha, (hρ (back hi ha)).symm.trans hr⟩,
     fun⟨i, o, x, hi, ha, hr⟩ => ⟨i, o, x, by rw[bP (dH hi)]; exact hi, ha, (hρ hi).trans hr⟩⟩
  refine⟨⟨sE hR.len, Nat.le_succ_of_le hR.lim, fun i hi => ?_, fun i o hi => ?_, fun i j oi oj y x1 x2 hi hj ai aj r1 r2 => ?_, fun y => ?_, hR.notX, hR.old, fun y hy => ⟨(hR.pend y hy).1, fun ho => (hR.pend y hy).2 ((fZ y).1 ho)⟩, hR.glob⟩, cM⟩
  · show i < h.n + 1
    by_cases e : i = h.n
    · omega
    · have oP : c.ρ i ≠ none := by simpa[e]using hi
      have := hR.dom i oP
      omega
  · rw[cD]at hi
    split at hi
    · cases hi; trivial
    · exact(hR.obj i o hi).mono cM (fun _ _ _ _ => rfl)
  · have oP := back hi ai
    have sS := back hj aj
    exact hR.inj i j oi oj y x1 x2 oP sS ai aj ((hρ oP).symm.trans r1) ((hρ sS).symm.trans r2)
  · show c.O y ↔ iS _ _ y ∨ c.E y
    rw[fZ y]; exact hR.own y
theorem Rel.touchE{h:aA}{C:Ctx}(hR:Rel h C){bi:Nat}(hE:C.E bi){w2:World}(eI:w2.heap.size=C.w.heap.size)(yP:∀k,k≠bi→w2.heap[k]?=C.w.heap[k]?)(GL:∀b e n,C.w.shape? b=some (e,n)→w2.shape? b=some (e,n))(hq:mE C.w w2) :
  Rel h {C with w:=w2}∧(∀d v,VR C d v→VR {C with w:=w2} d v)∧∀E:Nat→Prop,¬E bi→bR {C with E:=E} {C with w:=w2,E:=E}:=by
 have hO:C.O bi:=(hR.own bi).2 (.inr hE)
 have cM:∀E:Nat→Prop,¬E bi→bR {C with E:=E} {C with w:=w2,E:=E}:=fun E hn =>
  ⟨fun _ _ h=>h,by show _≤w2.heap.size;rw[eI];exact Nat.le_refl _,fun b _ hb=>yP b (fun e=>hb (by rw[e];exact hO)),fun _ h=>.inl h,GL,fun _ h=>h,fun b _ he=>⟨he,yP b (fun e=>hn (by rw[←e];exact he))⟩,hq,rfl⟩
 have hVR:∀d v,VR C d v→VR {C with w:=w2} d v:=fun d v hv=>((hv.setE (fun b=>C.E b∧b≠bi)).mono (cM _ (fun h=>h.2 rfl))).setE C.E
 refine⟨⟨hR.len,hR.lim,hR.dom,fun i o hi=>?_,hR.inj,hR.own,hR.notX,fun b hb=>by show b<w2.heap.size;rw[eI];exact hR.old b hb,fun b hb=>⟨by show b<w2.heap.size;rw[eI];exact(hR.pend b hb).1,(hR.pend b hb).2⟩,?_⟩,hVR,cM⟩
 ·exact(((hR.obj i o hi).setE (fun b=>C.E b∧b≠bi)).mono (cM _ (fun h=>h.2 rfl)) (fun ha b x hr=>yP b (fun e=>(hR.pend bi hE).2 (by rw[←e];exact⟨i,o,x,hi,ha,hr⟩)))).setE C.E
 ·intro b v hv
  obtain⟨h1,h2,h3⟩:=hR.glob b v hv
  refine⟨by show b<w2.heap.size;rw[eI];exact h1,h2,?_⟩
  rw[←h3]
  exact World.cell?_of_block (yP b (fun e=>h2 (by rw[e];exact hO)))
structure oV(c1:Ctx)(mb bi clk n0:Nat)(h:aA)(C:Ctx)(seen:Array Nat):Prop where
 rel:Rel h C
 le:bR c1 {C with E:=c1.E}
 E:C.E=fun b=>c1.E b∨b=bi
 X:C.X=c1.X
 it:C.w.heap[bi]?=some (.mapIter (some mb) clk seen clk)
 nm:C.ρ n0=some (bi,0)
section
variable {c1:Ctx} {mb bi clk n0:Nat} {h:aA} {C:Ctx} {seen:Array Nat}
theorem oV.Ebi(I:oV c1 mb bi clk n0 h C seen):C.E bi:=by rw[I.E];exact .inr rfl
theorem oV.lt(I:oV c1 mb bi clk n0 h C seen):bi<C.w.heap.size:=(Array.getElem?_eq_some_iff.1 I.it).1
theorem oV.run(I:oV c1 mb bi clk n0 h C seen){h':aA}{aT:Env}{a':Act}{w':World}(hs:St C h' aT a' w'):∃ C',C'.w=w'∧oV c1 mb bi clk n0 h' C' seen∧cI C' aT a':=by
 obtain⟨ρ',k1,k2,k3⟩:=hs
 refine⟨C.next w' ρ' h',rfl,⟨k1,I.le.trans (k2.setE fun b hb=>by show C.E b;rw[I.E];exact .inl hb),I.E,I.X,?_,k2.rho _ _ I.nm⟩,k3⟩
 rw[(k2.pend bi I.lt I.Ebi).2];exact I.it
theorem oV.step(I:oV c1 mb bi clk n0 h C seen)(hbi:∀b,c1.E b→b≠bi){x:Nat}{w1:World}(hw:w1=C.w∨w1=C.w.drew){env:Env}{a:Act}(hE:cI C env a) :
  ∃ C',C'.w=setBlock w1 bi (.mapIter (some mb) clk (seen.push x) clk)∧oV c1 mb bi clk n0 h C' (seen.push x)∧cI C' env a∧∀d v,VR C d v→VR C' d v:=by
 have hh:w1.heap=C.w.heap:=by rcases hw with rfl|rfl<;>rfl
 have aY:=I.lt
 have yP:∀k,k≠bi→(setBlock w1 bi (.mapIter (some mb) clk (seen.push x) clk)).heap[k]?=C.w.heap[k]?:=fun k hk=>by
  simp[setBlock,hh,Array.getElem?_setIfInBounds_ne (Ne.symm hk)]
 have Df:(setBlock w1 bi (.mapIter (some mb) clk (seen.push x) clk)).heap[bi]?=some (.mapIter (some mb) clk (seen.push x) clk):=by simp[setBlock,hh,aY]
 have hq:mE C.w (setBlock w1 bi (.mapIter (some mb) clk (seen.push x) clk)) :=
  .at I.it Df yP trivial trivial (by rcases hw with rfl|rfl<;>rfl) (by rcases hw with rfl|rfl<;>rfl) (by rcases hw with rfl|rfl<;>rfl) (by rcases hw with rfl|rfl;exact Nat.le_refl _;exact Nat.le_succ _)
 obtain⟨k1,k2,k3⟩:=I.rel.touchE I.Ebi (w2:=setBlock w1 bi (.mapIter (some mb) clk (seen.push x) clk)) (by simp[setBlock,hh]) yP (fun b e n hs=>by
  by_cases hb:b=bi
  ·subst hb;simp[World.shape?,I.it]at hs
  ·simp only[World.shape?]at hs ⊢;rw[yP b hb];exact hs) hq
 refine⟨{C with w:=setBlock w1 bi (.mapIter (some mb) clk (seen.push x) clk)},rfl,⟨k1,I.le.trans (k3 c1.E fun hb=>hbi bi hb rfl),I.E,I.X,Df,I.nm⟩,⟨hE.size,hE.defers,fun i hi=>k2 _ _ (hE.val i hi)⟩,k2⟩
end
end Go.Dm
/-
Part 39 of "Dm" (ahead of part 27): the rounds of a loop over a map.
-/
namespace Go.Dm
open Go.ChangeMaps (setBlock)
def Bp:Ex→Exit
 | .normal=>.normal
 | .exit id=>.exit id
 | .ret=>.ret
section
variable {P:Program} {o:Oper}
theorem Un{x':Opd}(hc:gJ P o=some (.next x')):∃ x,o.op=.next x false∧opd x=some x':=by
 unfold gJ at hc
 split at hc
 case h_28 x s ho =>
  split at hc
  ·cases hc
  ·rename_i hs
   simp only[Option.map_eq_some_iff]at hc
   obtain⟨y,hy,e⟩:=hc
   cases e
   exact⟨x,by rw[ho];simp at hs;rw[hs],hy⟩
 all_goals ((repeat' split at hc)<;>first|(cases hc;done)|(simp at hc;done))
theorem Pd{x':Opd}(hc:gJ P o=some (.entry x')):∃ x,o.op=.entry x∧opd x=some x':=by
 unfold gJ at hc
 split at hc
 case h_29 x ho =>
  simp only[Option.map_eq_some_iff]at hc
  obtain⟨y,hy,e⟩:=hc
  cases e
  exact⟨x,ho,hy⟩
 all_goals ((repeat' split at hc)<;>first|(cases hc;done)|(simp at hc;done))
theorem Pc{x':Opd}(hc:gJ P o=some (.range x')):∃ t x k e,o.op=.range t x∧P.underlying t=some (.map k e)∧opd x=some x':=by
 unfold gJ at hc
 split at hc
 case h_27 t x ho =>
  split at hc
  ·rename_i k e y hu hy;cases hc;exact⟨t,x,k,e,ho,hu,hy⟩
  ·cases hc
 all_goals ((repeat' split at hc)<;>first|(cases hc;done)|(simp at hc;done))
end
theorem Fd{call:iD}{run:aN→Env→aA→Res}{it nx ok en X Y p:Nat}{ops:List aJ}{b:aN}{l:List (DV×DV)}{env:Env}{h:aA}{e:Ex}{aT:Env}{h':aA}(he:rounds call run it nx ok en X Y p ops b l env h=.ok e aT h') :
  env[it]?=some (.ptr p 0 0 0)∧nx<env.length∧ok<env.length:=by
 cases l with
 | nil =>
  simp only[rounds]at he
  split at he
  ·rename_i hq
   split at he
   ·rename_i hc;rw[hq,hc.1];exact⟨rfl,hc.2⟩
   ·cases he
  ·cases he
 | cons x r =>
  obtain⟨k,v⟩:=x
  simp only[rounds]at he
  split at he
  ·rename_i hq
   split at he
   ·rename_i hc;rw[hq,hc.1];exact⟨rfl,hc.2⟩
   ·cases he
  ·cases he
def Aft(r:Res)(X Y:Nat)(e2:Ex)(env2:Env)(h2:aA)(e:Ex)(aT:Env)(h':aA):Prop :=
 match e2 with
 | .normal=>r=.ok e aT h'
 | .exit i=>if i=Y then r=.ok e aT h' else if i=X then e=.normal∧aT=env2∧h'=h2 else e=.exit i∧aT=env2∧h'=h2
 | .ret=>e=.ret∧aT=env2∧h'=h2
theorem Cg{call:iD}{run:aN→Env→aA→Res}{it nx ok en X Y p:Nat}{ops:List aJ}{b:aN}{k v:DV}{l:List (DV×DV)}{env:Env}{h:aA}{e:Ex}{aT:Env}{h':aA}(he:rounds call run it nx ok en X Y p ops b ((k,v)::l) env h=.ok e aT h') :
  ∃ env1 h1 e2 env2 h2,eO call ops (((env.set nx (.tup [.bool true,k,v])).set ok (.bool true)).set en (.tup [k,v])) h=some (env1,h1)∧run b env1 h1=.ok e2 env2 h2 ∧
   Aft (rounds call run it nx ok en X Y p ops b l env2 h2) X Y e2 env2 h2 e aT h':=by
 simp only[rounds]at he
 split at he
 ·split at he
  ·split at he
   ·rename_i env1 h1 h2
    refine⟨env1,h1,?_⟩
    split at he
    ·rename_i h3;exact⟨_,_,_,h2,h3,he⟩
    ·rename_i i env2 h2' h3
     refine⟨_,_,_,h2,h3,?_⟩
     unfold Aft
     simp only
     split at he
     ·rename_i hi;rw[if_pos hi];exact he
     ·rename_i hi
      rw[if_neg hi]
      split at he
      ·rename_i hx;rw[if_pos hx];cases he;exact⟨rfl,rfl,rfl⟩
      ·rename_i hx;rw[if_neg hx];cases he;exact⟨rfl,rfl,rfl⟩
    ·rename_i h3 h4
     refine⟨e,aT,h',h2,he,?_⟩
     cases e with
     | normal=>exact absurd he (h3 _ _)
     | exit i=>exact absurd he (h4 _ _ _)
     | ret=>exact⟨rfl,rfl,rfl⟩
   ·cases he
  ·cases he
 ·cases he
theorem nB{P:Program}{Q:Exit→Act→World→Prop}{a:Act}{w:World}{id:Nat}{ops:Array Oper}(h:wpList P ops.toList.toArray Q ops.toList a w):(Code.region id ops false).wp P Q a w :=
 wp_region_list (by rwa[Array.toArray_toList]at h)
section
variable {P:Program} {call:iD} {run:aN→Env→aA→Res}
theorem Ae{env:Env}{t:Nat}{d:DV}(h:env[t]?=some d):Opd.eval env (.t t)=d:=by simp[Opd.eval,h]
theorem Mx(iU:iY P call){db:aN}{v:Code}
  (hv:∀h c env a e aT h' (Q:Exit→Act→World→Prop),run db env h=.ok e aT h'→Rel h c→cI c env a→(∀a' w',St c h' aT a' w'→Q (Bp e) a' w')→v.wp P Q a c.w)
  {i2 i3:Nat} {ops2 ops3:Array Oper} {o1 o2 o3:Oper} {l3:List Oper} {it nx ok en X Y:Nat} {okO:Operand} {ops:List aJ} {d1 d2 d3:aJ} (e2:ops2.toList=[o1,o2]) (e3:ops3.toList=o3::l3)
  (k1:dI P ops2.toList .write 0 o1=some d1) (Zc:d1.dst=some nx∧d1.op=.next (.t it)∧d1.guard=none)
  (k2:dI P ops2.toList .write 0 o2=some d2) (KT:d2.dst=some ok∧d2.op=.extract (.t nx) 0∧d2.guard=none)
  (k3:dI P ops3.toList .write 0 o3=some d3) (PA:d3.dst=some en∧d3.op=.entry (.t it)∧d3.guard=none)
  (k4:l3.mapM (dI P ops3.toList .write 0)=some ops) (kok:opd okO=some (.t ok)) (cY:it≠nx∧it≠ok)
  {c1:Ctx} {mb bi clk n0:Nat} (hbi:∀b,c1.E b→b≠bi) (hmb:c1.E mb) {ents:Array MapEntry} (zZ:c1.w.heap[mb]?=some (.map ents clk)) (oT:Aq ents clk) {es':List (DV×DV)} (jG:rB c1 es' ents.toList)
  {Q:Exit→Act→World→Prop} {Fin:Ex→Env→aA→Prop} (hFin:∀e env1 h1 C a seen,Fin e env1 h1→oV c1 mb bi clk n0 h1 C seen→cI C env1 a→Q (Bp e) a C.w) :
  ∀(n:Nat) (rem:List Nat),rem.length=n→rem.Nodup→(∀j∈rem,j<ents.size)→∀(hk:aA) (C:Ctx) (env:Env) (a:Act) (seen:Array Nat),oV c1 mb bi clk n0 hk C seen→cI C env a →
   (∀j (hj:j<ents.size),seen.contains ents[j].born=true↔j ∉ rem) →
   (∀l:List (DV×DV),l.Perm (rem.map fun j=>es'.getD j (.unk,.unk))→∃ e env1 h1,rounds call run it nx ok en X Y n0 ops db l env hk=.ok e env1 h1∧Fin e env1 h1) →
   Code.rounds P (.seq (.region i2 ops2 false) (.seq (.cond okO .skip (.exit X)) (.block Y (.seq (.region i3 ops3 false) v)))) (Exit.inBlock X Q) (n+1) a C.w:=by
 obtain⟨p1,p2,p3,_,_⟩:=iM k1
 obtain⟨q1,q2,q3,_,_⟩:=iM k2
 obtain⟨r1,r2,r3,_,_⟩:=iM k3
 rw[Zc.2.1]at p1
 rw[Zc.2.2]at p2
 rw[Zc.1]at p3
 rw[PA.2.1]at r1
 rw[PA.2.2]at r2
 rw[PA.1]at r3
 obtain⟨x1,OT,hx1⟩:=Un p1
 obtain⟨x3,ho3,hx3⟩:=Pd r1
 rw[e2]at p2 k2 q2
 rw[e3]at r2 k4
 have hmap:∀{hk C seen},oV c1 mb bi clk n0 hk C seen→C.w.heap[mb]?=some (.map ents clk):=fun {hk C seen} I=>by
  rw[(I.le.pend mb (Array.getElem?_eq_some_iff.1 zZ).1 hmb).2];exact zZ
 have hptr:∀{hk C seen env a} {x:Operand},oV c1 mb bi clk n0 hk C seen→cI C env a→opd x=some (.t it)→env[it]?=some (.ptr n0 0 0 0)→a.eval x=.pointer (some ⟨bi,0,none⟩):=by
  intro hk C seen env a x I hE hx hit
  have dN:=bI hx hE
  rw[Ae hit]at dN
  obtain⟨b,base,h1,h2⟩:=dN.ptr_inv
  rw[I.nm]at h2
  cases h2
  exact h1
 have Vm:(ents.toList.map (·.born)).Nodup:=oT.inc.imp (fun h=>Nat.ne_of_lt h)
 have cB:es'.length=ents.size:=by simpa using jG.1
 have hext:∀{env1:Env} {h:aA} {t:Bool} {r:List DV},env1[nx]?=some (.tup (.bool t::r))→eO call [d2] env1 h=some (env1.set ok (.bool t),h):=by
  intro env1 h t r he
  have hw:gN env1 d2.guard=some true:=by rw[KT.2.2];rfl
  simp only[eO,hw]
  have hs:bH call d2.op env1 h=some (.bool t,h):=by
   rw[KT.2.1]
   show aC h env1 (.extract (.t nx) 0)=_
   simp only[aC,Ae he,List.getElem?_cons_zero]
  rw[hs,KT.1]
  rfl
 have GN:([o2]:List Oper).mapM (dI P [o1,o2] .write 0)=some [d2]:=by simp[k2]
 intro n
 induction n with
 | zero =>
  intro rem hrl _ _ hk C env a seen I hE hseen hgood
  have hrem:rem=[]:=List.length_eq_zero_iff.1 hrl
  subst hrem
  obtain⟨e,env1,h1,hr,hf⟩:=hgood [] (.refl _)
  obtain⟨c1',c2',c3'⟩:=Fd hr
  simp only[rounds,c1',c2',c3',and_self,if_true]at hr
  cases hr
  rw[rounds_succ]
  refine wp_seq (nB ?_)
  rw[e2]
  refine wpList_step fun K hK=>?_
  rw[if_pos (gK p2 hE rfl)]
  have hpx:=hptr I hE hx1 c1'
  have hnext:=run_next_at (P:=P) C.w o1.type bi mb clk clk seen ents clk I.it (hmap I) oT.lt (Nat.le_refl _)
  rcases hnext with⟨_,hJ⟩|⟨e,he,_⟩
  ·have Z2:(execOp a.eval o1).run P C.w=.ok (.value (.tuple #[.bool false])) C.w:=by simp[execOp,OT,hpx,hJ]
   unfold Oper.wp
   rw[Z2]
   refine hK _ _ ?_
   have htup:VR C (.tup [.bool false]) (.tuple #[.bool false]):=.tup (ds:=[.bool false]) (vs:=[.bool false]) rfl (fun i h1 h2=>by
    match i,h1,h2 with
    | 0,_,_=>exact .bool false)
   have hE1:cI C (env.set nx (.tup [.bool false])) (a.put o1.dst (.tuple #[.bool false])):=by rw[←p3];exact hE.put htup (some nx)
   have hg:(env.set nx (.tup [.bool false]))[nx]?=some (.tup [.bool false]):=by simp[c2']
   refine wI iU [o2] [d2] hk C (env.set nx (.tup [.bool false])) _ _ hk GN (hext hg) I.rel hE1 fun a' w' dD=>?_
   obtain⟨C',rfl,I',hE'⟩:=I.run dD
   refine wp_seq (wp_cond_false ?_ (wp_exit ?_))
   ·have hvo:=bI kok hE'
    rw[Ae (d:=.bool false) (by simp[c3'])]at hvo
    exact hvo.bool_inv
   ·show Exit.inBlock X Q (.exit X) a' C'.w
    simp only[Exit.inBlock,if_true]
    exact hFin .normal _ hk C' a' seen hf I' hE'
  ·exfalso
   unfold leftOf at he
   simp only[Array.toList_filter,List.mem_filter]at he
   obtain⟨hm,T3⟩:=he
   obtain⟨j,hj,rfl⟩:=List.getElem_of_mem hm
   have:=(hseen j (by simpa using hj)).2 (by simp)
   simp at T3
   simp at this
   exact T3 this
 | succ n ih =>
  intro rem hrl hrn hrb hk C env a seen I hE hseen hgood
  obtain⟨_,_,_,EM,_⟩:=hgood _ (.refl _)
  obtain⟨c1',c2',c3'⟩:=Fd EM
  rw[rounds_succ]
  refine wp_seq (nB ?_)
  rw[e2]
  refine wpList_step fun K hK=>?_
  rw[if_pos (gK p2 hE rfl)]
  have hpx:=hptr I hE hx1 c1'
  have hnext:=run_next_at (P:=P) C.w o1.type bi mb clk clk seen ents clk I.it (hmap I) oT.lt (Nat.le_refl _)
  rcases hnext with⟨h0,_⟩|⟨e,he,w1,GJ,hJ⟩
  ·exfalso
   obtain⟨j,hj⟩:∃ j,j∈rem:=by
    cases rem with
    | nil=>simp at hrl
    | cons j _=>exact⟨j,List.mem_cons_self ..⟩
   have hjs:=hrb j hj
   have T3:seen.contains ents[j].born=false:=by
    cases hc:seen.contains ents[j].born with
    | false=>rfl
    | true=>exact absurd hj ((hseen j hjs).1 hc)
   have:ents[j]∈(leftOf ents seen).toList:=by
    unfold leftOf
    simp only[Array.toList_filter,List.mem_filter]
    exact⟨by simp,by simpa using T3⟩
   have h0':(leftOf ents seen).toList=[]:=List.length_eq_zero_iff.1 (by simpa using h0)
   rw[h0']at this
   cases this
  ·have hej:∃ (j:Nat) (hj:j<ents.size),ents[j]=e∧j∈rem:=by
    unfold leftOf at he
    simp only[Array.toList_filter,List.mem_filter]at he
    obtain⟨hm,T3⟩:=he
    obtain⟨j,hj,rfl⟩:=List.getElem_of_mem hm
    refine⟨j,by simpa using hj,by simp,?_⟩
    by_cases hjr:j∈rem
    ·exact hjr
    ·have:=(hseen j (by simpa using hj)).2 hjr
     simp at T3
     simp at this
     exact absurd this T3
   obtain⟨j,hj,rfl,hjr⟩:=hej
   have hje:j<es'.length:=by omega
   obtain⟨vk0,vv0⟩:=jG.2 j es'[j] ents[j] (List.getElem?_eq_getElem hje) (by simp)
   have jQ:es'.getD j (.unk,.unk)=es'[j]:=by simp[hje]
   generalize KS:es'[j]=dd at vk0 vv0 jQ
   obtain⟨dk,dv⟩:=dd
   have kP:∀l:List (DV×DV),l.Perm ((rem.erase j).map fun j=>es'.getD j (.unk,.unk))→((dk,dv)::l).Perm (rem.map fun j=>es'.getD j (.unk,.unk)):=by
    intro l hl
    refine List.Perm.trans ?_ ((List.perm_cons_erase hjr).map _).symm
    simp only[List.map_cons,jQ]
    exact List.Perm.cons _ hl
   have hgood':=fun l hl=>hgood ((dk,dv)::l) (kP l hl)
   obtain⟨_,_,_,hrA,_⟩:=hgood' _ (.refl _)
   obtain⟨env1,h1,ex,env2,h2,Vl,hrb2,_⟩:=Cg hrA
   have hcont:∀l:List (DV×DV),l.Perm ((rem.erase j).map fun j=>es'.getD j (.unk,.unk))→∃ e aT h',Fin e aT h'∧Aft (rounds call run it nx ok en X Y n0 ops db l env2 h2) X Y ex env2 h2 e aT h':=by
    intro l hl
    obtain⟨e,aT,h',hA,hf⟩:=hgood' l hl
    obtain⟨env1',Zf,ex',env2',h2',hro',hrb',hm⟩:=Cg hA
    rw[Vl]at hro'
    cases hro'
    rw[hrb2]at hrb'
    cases hrb'
    exact⟨e,aT,h',hf,hm⟩
   have Z2:(execOp a.eval o1).run P C.w=.ok (.value (.tuple #[.bool true,ents[j].key,ents[j].val])) (setBlock w1 bi (.mapIter (some mb) clk (seen.push ents[j].born) clk)):=by simp[execOp,OT,hpx,hJ]
   unfold Oper.wp
   rw[Z2]
   refine hK _ _ ?_
   obtain⟨C2,hw2,I2,hE2,hV⟩:=I.step hbi GJ hE (x:=ents[j].born)
   rw[←hw2]
   have up:∀{d w},VR c1 d w→VR C2 d w:=fun {d w} hd=>hV _ _ ((hd.mono I.le).setE C.E)
   have vk:=up vk0
   have vv:=up vv0
   have htup:VR C2 (.tup [.bool true,dk,dv]) (.tuple #[.bool true,ents[j].key,ents[j].val]):=.tup (ds:=[.bool true,dk,dv]) (vs:=[.bool true,ents[j].key,ents[j].val]) rfl (fun i h1 h2=>by
    match i,h1,h2 with
    | 0,_,_=>exact .bool true
    | 1,_,_=>exact vk
    | 2,_,_=>exact vv)
   have hE1:cI C2 (env.set nx (.tup [.bool true,dk,dv])) (a.put o1.dst (.tuple #[.bool true,ents[j].key,ents[j].val])):=by rw[←p3];exact hE2.put htup (some nx)
   have hg:(env.set nx (.tup [.bool true,dk,dv]))[nx]?=some (.tup [.bool true,dk,dv]):=by simp[c2']
   refine wI iU [o2] [d2] hk C2 (env.set nx (.tup [.bool true,dk,dv])) _ _ hk GN (hext hg) I2.rel hE1 fun a' w' dD=>?_
   obtain⟨C3,rfl,I3,hE3⟩:=I2.run dD
   have hvk3:VR C3 (.tup [dk,dv]) (.tuple #[ents[j].key,ents[j].val]):=by
    have up3:∀{d w},VR c1 d w→VR C3 d w:=fun {d w} hd=>(hd.mono I3.le).setE C3.E
    exact .tup (ds:=[dk,dv]) (vs:=[ents[j].key,ents[j].val]) rfl (fun i h1 h2=>by
     match i,h1,h2 with
     | 0,_,_=>exact up3 vk0
     | 1,_,_=>exact up3 vv0)
   refine wp_seq (wp_cond_true ?_ (wp_skip ?_))
   ·have hvo:=bI kok hE3
    rw[Ae (d:=.bool true) (by simp[c3'])]at hvo
    exact hvo.bool_inv
   ·refine wp_block (wp_seq (nB ?_))
    rw[e3]
    refine wpList_step fun K3 hK3=>?_
    rw[if_pos (gK r2 hE3 rfl)]
    have hpx3:a'.eval x3=.pointer (some ⟨bi,0,none⟩):=hptr I3 hE3 hx3 (by rw[List.getElem?_set_ne (Ne.symm cY.2),List.getElem?_set_ne (Ne.symm cY.1)];exact c1')
    have hent3:=run_entry_at (P:=P) C3.w bi mb clk seen ents clk ents[j] I3.it (hmap I3) (by simp) Vm
    have hex3:(execOp a'.eval o3).run P C3.w=.ok (.value (.tuple #[ents[j].key,ents[j].val])) C3.w:=by simp[execOp,ho3,hpx3,hent3]
    unfold Oper.wp
    rw[hex3]
    refine hK3 _ _ ?_
    have hE4:cI C3 (((env.set nx (.tup [.bool true,dk,dv])).set ok (.bool true)).set en (.tup [dk,dv])) (a'.put o3.dst (.tuple #[ents[j].key,ents[j].val])):=by rw[←r3];exact hE3.put hvk3 (some en)
    refine wI iU l3 ops hk C3 _ _ env1 h1 k4 Vl I3.rel hE4 fun a4 w4 Yw=>?_
    obtain⟨C4,rfl,I4,hE4'⟩:=I3.run Yw
    refine hv h1 C4 env1 a4 ex env2 h2 _ hrb2 I4.rel hE4' fun a5 w5 hst5=>?_
    obtain⟨C5,rfl,I5,hE5⟩:=I4.run hst5
    have next:(∀l:List (DV×DV),l.Perm ((rem.erase j).map fun j=>es'.getD j (.unk,.unk))→∃ e env1 h1,rounds call run it nx ok en X Y n0 ops db l env2 h2=.ok e env1 h1∧Fin e env1 h1)→Code.rounds P (.seq (.region i2 ops2 false) (.seq (.cond okO .skip (.exit X)) (.block Y (.seq (.region i3 ops3 false) v)))) (Exit.inBlock X Q) (n+1) a5 C5.w:=by
     intro hg5
     refine ih (rem.erase j) (by rw[List.length_erase_of_mem hjr];omega) (hrn.erase _) (fun i hi=>hrb i (List.mem_of_mem_erase hi)) h2 C5 env2 a5 _ I5 hE5 (fun i hi=>?_) hg5
     rw[List.Nodup.mem_erase_iff hrn]
     have hs:=hseen i hi
     simp only[Array.contains_eq_mem,Array.mem_push,decide_eq_true_eq]at hs ⊢
     have hinj:ents[i].born=ents[j].born↔i=j:=by
      constructor
      ·intro h
       have hpi:(ents.toList.map (·.born))[i]'(by simpa using hi)=(ents.toList.map (·.born))[j]'(by simpa using hj):=by simpa using h
       exact(List.getElem_inj Vm).1 hpi
      ·rintro rfl;rfl
     rw[hs,hinj]
     constructor
     ·rintro(h|h)
      ·exact fun h'=>h h'.2
      ·exact fun h'=>h'.1 h
     ·intro h
      by_cases T4:i=j
      ·exact .inr T4
      ·exact .inl fun hr=>h ⟨T4,hr⟩
    obtain⟨e9,env9,h9,hf9,hm9⟩:=hcont _ (.refl _)
    cases ex with
    | normal =>
     show Code.rounds P _ (Exit.inBlock X Q) (n+1) a5 C5.w
     exact next fun l hl=>by
      obtain⟨e,aT,h',hf,hm⟩:=hcont l hl
      exact⟨e,aT,h',hm,hf⟩
    | exit i =>
     show Exit.inBlock Y (Exit.then (Code.rounds P _ (Exit.inBlock X Q) (n+1)) (Exit.inBlock X Q)) (.exit i) a5 C5.w
     simp only[Exit.inBlock]
     by_cases hY:i=Y
     ·rw[if_pos hY]
      show Code.rounds P _ (Exit.inBlock X Q) (n+1) a5 C5.w
      exact next fun l hl=>by
       obtain⟨e,aT,h',hf,hm⟩:=hcont l hl
       simp only[Aft,if_pos hY]at hm
       exact⟨e,aT,h',hm,hf⟩
     ·rw[if_neg hY]
      show Exit.inBlock X Q (.exit i) a5 C5.w
      simp only[Exit.inBlock]
      simp only[Aft,if_neg hY]at hm9
      by_cases hX:i=X
      ·rw[if_pos hX]at hm9 ⊢
       obtain⟨rfl,rfl,rfl⟩:=hm9
       exact hFin .normal _ _ C5 a5 _ hf9 I5 hE5
      ·rw[if_neg hX]at hm9 ⊢
       obtain⟨rfl,rfl,rfl⟩:=hm9
       exact hFin (.exit i) _ _ C5 a5 _ hf9 I5 hE5
    | ret =>
     obtain⟨rfl,rfl,rfl⟩:=hm9
     exact hFin .ret _ _ C5 a5 _ hf9 I5 hE5
end
end Go.Dm
/-
Part 40 of "Dm" (ahead of part 27): behind a loop over a map; the whole of it.
-/
namespace Go.Dm
open Go.ChangeMaps (setBlock)
theorem Ib{α:Type}{f:α→α→Bool}:∀{l r:List α},qE f l r=true→l.length=r.length∧∀(i:Nat) (x y:α),l[i]?=some x→r[i]?=some y→f x y=true:=by
 intro l
 induction l with
 | nil=>intro r h;cases r<;>simp only[qE,Bool.false_eq_true]at h;exact⟨rfl,fun i x y hx=>by simp at hx⟩
 | cons a l ih =>
  intro r h
  cases r with
  | nil=>simp[qE]at h
  | cons b r =>
   simp only[qE,Bool.and_eq_true]at h
   obtain⟨h1,h2⟩:=ih h.2
   refine⟨by simp[h1],fun i x y hx hy=>?_⟩
   cases i with
   | zero=>simp at hx hy;subst hx;subst hy;exact h.1
   | succ i=>exact h2 i x y (by simpa using hx) (by simpa using hy)
theorem Wa{x:DV×DV}:∀{l l':List (DV×DV)},Qd x l=some l'→l.Perm (x::l'):=by
 intro l
 induction l with
 | nil=>intro l' h;cases h
 | cons y r ih =>
  intro l' h
  simp only[Qd]at h
  split at h
  ·rename_i hb;cases h;rw[I9 hb]
  ·simp only[Option.map_eq_some_iff]at h
   obtain⟨r',h1,rfl⟩:=h
   exact(List.Perm.cons y (ih h1)).trans (.swap _ _ _)
theorem Xz:∀{a b:List (DV×DV)},Fu a b=true→a.Perm b:=by
 intro a
 induction a with
 | nil=>intro b h;simp only[Fu,List.isEmpty_iff]at h;subst h;exact .refl _
 | cons x r ih =>
  intro b h
  simp only[Fu]at h
  split at h
  ·rename_i l' hl;exact(List.Perm.cons x (ih h)).trans (Wa hl).symm
  ·cases h
theorem Tx{a b:DO}(h:Ty a b=true):a=b∨∃ x y,a=.mp x∧b=.mp y∧x.Perm y:=by
 unfold Ty at h
 split at h
 ·exact .inr ⟨_,_,rfl,rfl,Xz h⟩
 ·exact .inl (Fa h)
theorem Yu{α:Type}{x:α}:∀{l r:List α} (a:List α),l=a++r→(a++x::r)∈tL x l:=by
 intro l
 induction l with
 | nil =>
  intro r a h
  have:=List.nil_eq_append_iff.1 h
  rw[this.1,this.2]
  simp[tL]
 | cons y l ih =>
  intro r a h
  cases a with
  | nil=>simp at h;subst h;simp[tL]
  | cons z a =>
   simp at h
   obtain⟨rfl,rfl⟩:=h
   simp only[tL,List.cons_append,List.mem_cons,List.mem_map]
   exact .inr ⟨_,ih a rfl,rfl⟩
theorem Q5{α:Type}:∀{l p:List α},p.Perm l→p∈zM l:=by
 intro l
 induction l with
 | nil=>intro p h;rw[List.Perm.eq_nil h];simp[zM]
 | cons x l ih =>
  intro p h
  obtain⟨a,b,rfl⟩:=List.append_of_mem (h.mem_iff.2 (List.mem_cons_self ..))
  have h2:(a++b).Perm l:=List.Perm.cons_inv ((List.perm_middle).symm.trans h)
  simp only[zM,List.mem_flatMap]
  exact⟨a++b,ih h2,Yu a rfl⟩
section
variable {P:Program}
theorem cI.kill{c:Ctx}{a:Act}:∀(kl:List Nat) {env:Env},cI c env a→cI c (Gi kl env) a:=by
 intro kl
 induction kl with
 | nil=>intro env h;exact h
 | cons t kl ih =>
  intro env h
  refine ih (env:=env.set t .unk) ⟨by simp[h.size],h.defers,fun i hi=>?_⟩
  rw[List.getElem_set]
  split
  ·exact .unk _
  ·exact h.val i (by simpa using hi)
theorem yH{kl:List Nat}{m:Nat}{es:List (DV×DV)}{env env1 env2:Env}{h h1 h2:aA}{e e2:Ex}(hc:rK kl m es env h (.ok e env1 h1)=.ok e2 env2 h2) :
  e2=e∧env2=Gi kl env1∧h2=({objs:=h1.objs.drop (h1.n-h.n),n:=h.n,lim:=h.lim}:aA).set m (.mp es)∧h.n≤h1.n ∧
   qE (fun a b=>DV.beq a b || dJ 200 h.n b) env env2=true∧qE (fun a b=>uR a b || Bu h.n b) h.objs (h1.objs.drop (h1.n-h.n))=true:=by
 unfold rK at hc
 split at hc
 ·rename_i GT
  cases GT
  split at hc
  ·rename_i bU
   simp only[Bool.and_eq_true,Nat.ble_eq]at bU
   cases hc
   exact⟨rfl,rfl,rfl,bU.1,bU.2.1,bU.2.2⟩
  ·cases hc
 ·rename_i GT;cases GT
theorem Ur{h : aA}{c : Ctx}(hR : Rel h c){m mb : Nat}{es es' : List (DV × DV)}(hg : h.get m = some (.mp es))(hρ : c.ρ m = some (mb, 0))(kP : es.Perm es'){ents : Array MapEntry}{clk : Nat}(zZ : c.w.heap[mb]? = some (.map ents clk))(oT : Aq ents clk)
    (jG : rB c es' ents.toList) {env0 : Env} {a0 : Act} (hE0 : cI c env0 a0) {bi clk' : Nat} {h1 : aA} {C : Ctx} {seen : Array Nat} (I : oV { c with E := fun b => c.E b ∨ b = mb } mb bi clk' h.n h1 C seen) {env1 : Env} {a1 : Act} (hE : cI C env1 a1)
    {kl : List Nat} {e e2 : Ex} {env2 envr : Env} {h2 hr : aA} (hc : rK kl m es env0 h (.ok e env1 h1) = .ok e2 env2 h2) (henv : envr = env2) (hn : hr.n = h.n) (hl : hr.lim = h.lim) (hz : qE Ty hr.objs h2.objs = true) : St c hr envr a1 C.w := by
  obtain⟨rfl, hk, rfl, hle1, hzE, hzO⟩ := yH hc
  subst henv
  have hm := dH hg
  obtain⟨lz, gz⟩ := Ib hz
  obtain⟨lo, go⟩ := Ib hzO
  have hlen2 : (({ objs := h1.objs.drop (h1.n - h.n), n := h.n, lim := h.lim } : aA).set m (.mp es)).objs.length = h.n := by
    simp only[aA.set, List.length_set]
    rw[← lo]; exact hR.len
  have hlenr : hr.objs.length = h.n := by rw[lz]; exact hlen2
  have hCm : C.ρ m = some (mb, 0) := I.le.rho m _ hρ
  have hCE : C.E mb := by rw[I.E]; exact .inl (.inr rfl)
  have De : ∀ b, c.E b → C.E b := fun b hb => by rw[I.E]; exact .inl (.inl hb)
  have hCO : ∀ b, C.E b → C.O b := fun b hb => (I.rel.own b).2 (.inr hb)
  have hX : C.X = c.X := I.X
  have other : ∀ i o, i ≠ m → hr.get i = some o → ∃ o1, h1.get i = some o1 ∧ (o = o1 ∨ ∃ x y, o = .mp x ∧ o1 = .mp y ∧ x.Perm y) ∧ (h.get i = some o1 ∨ Bu h.n o1 = true) := by
    intro i o cY hi
    have aY : i < h.n := by rw[← hn]; exact dH hi
    have uK := hi
    unfold aA.get at hi
    rw[hn, if_pos aY]at hi
    have Yz : h.n - 1 - i < hr.objs.length := (List.getElem?_eq_some_iff.1 hi).1
    have h2i : (({ objs := h1.objs.drop (h1.n - h.n), n := h.n, lim := h.lim } : aA).set m (.mp es)).objs[h.n - 1 - i]? = h1.get i := by
      have e0 := bD (h := { objs := h1.objs.drop (h1.n - h.n), n := h.n, lim := h.lim }) (o' := .mp es) (show m < h.n from hm) cY
      rw[Aa hle1 aY]at e0
      rw[← e0]
      exact(if_pos (show i < h.n from aY)).symm
    obtain⟨o1, OT⟩ : ∃ o1, h1.get i = some o1 := by
      rw[← h2i]
      exact⟨_, List.getElem?_eq_getElem (by rw[hlen2]; omega)⟩
    rw[OT]at h2i
    refine⟨o1, OT, Tx (gz _ _ _ hi h2i), ?_⟩
    have hd : (h1.objs.drop (h1.n - h.n))[h.n - 1 - i]? = some o1 := by
      have := Aa (lim := h.lim) hle1 aY
      unfold aA.get at this
      simp only[aY, if_true]at this
      rw[this]
      unfold aA.get at OT
      exact OT
    have hx : h.n - 1 - i < h.objs.length := by rw[hR.len]; omega
    have := go _ _ _ (List.getElem?_eq_getElem hx) hd
    simp only[Bool.or_eq_true]at this
    rcases this with hs | hs
    · left
      unfold aA.get
      rw[if_pos aY, List.getElem?_eq_getElem hx, Fa hs]
    · exact .inr hs
  have atm : ∃ x, hr.get m = some (.mp x) ∧ x.Perm es := by
    have Yz : h.n - 1 - m < hr.objs.length := by rw[hlenr]; omega
    have h2m : (({ objs := h1.objs.drop (h1.n - h.n), n := h.n, lim := h.lim } : aA).set m (.mp es)).objs[h.n - 1 - m]? = some (.mp es) := by
      simp only[aA.set, List.getElem?_set, if_true]
      rw[if_pos]
      rw[← lo, hR.len]; omega
    have jQ : hr.get m = some hr.objs[h.n - 1 - m] := by
      unfold aA.get
      rw[hn, if_pos hm, List.getElem?_eq_getElem Yz]
    rcases Tx (gz _ _ _ (List.getElem?_eq_getElem Yz) h2m)with e | ⟨x, y, e1, e2, hp⟩
    · exact⟨es, by rw[jQ, e], .refl _⟩
    · cases e2; exact⟨x, by rw[jQ, e1], hp⟩
  let ρ' : Nat → Option (Nat × Nat) := fun i => if i < h.n then C.ρ i else none
  have rlt : ∀ {i : Nat}, i < h.n → ρ' i = C.ρ i := fun {i} hi => if_pos hi
  have alive1 : ∀ {i : Nat} {o o1 : DO}, (o = o1 ∨ ∃ x y, o = .mp x ∧ o1 = .mp y ∧ x.Perm y) → gF o = true → gF o1 = true := by
    intro i o o1 ho ha
    rcases ho with rfl | ⟨x, y, rfl, rfl, _⟩
    · exact ha
    · rfl
  have fZ : ∀ b, iS hr ρ' b → b = mb ∨ iS h1 C.ρ b := by
    rintro b ⟨i, o, x, hi, ha, zR⟩
    have aY : i < h.n := by rw[← hn]; exact dH hi
    rw[rlt aY]at zR
    by_cases cY : i = m
    · subst cY; rw[hCm]at zR; cases zR; exact .inl rfl
    · obtain⟨o1, g1, g2, _⟩ := other i o cY hi
      exact .inr ⟨i, o1, x, g1, alive1 (i := i) g2 ha, zR⟩
  have hFO : ∀ b, (iS hr ρ' b ∨ c.E b) → C.O b := by
    rintro b (hb | hb)
    · rcases fZ b hb with rfl | hb
      · exact hCO _ hCE
      · exact(I.rel.own b).2 (.inl hb)
    · exact hCO b (De b hb)
  have Jp : bR (C.cut h.n) (c.next C.w ρ' hr) :=
    ⟨fun i p hp => by obtain⟨q1, q2⟩ := pW hp; show ρ' i = _; rw[rlt q1]; exact q2, Nat.le_refl _, fun _ _ _ => rfl, fun b hb => .inl (hFO b hb), fun _ _ _ hs => hs, fun b hb => by show C.X b; rw[hX]; exact hb, fun b _ hb => ⟨De b hb, rfl⟩, .refl _, I.le.tok.symm⟩
  have cM : bR c (c.next C.w ρ' hr) :=
    ⟨fun i p hp => by show ρ' i = _; rw[rlt (hR.dom i (by rw[hp]; simp))]; exact I.le.rho i p hp, I.le.size, I.le.frame, fun b hb => I.le.own b (hFO b hb), I.le.shape, fun _ hb => hb, fun b aY hb => ⟨hb, (I.le.pend b aY (.inl hb)).2⟩, I.le.quiet, rfl⟩
  have up : ∀ {d v}, VR (C.cut h.n) d v → VR (c.next C.w ρ' hr) d v := fun {d v} hd => hd.mono Jp
  have hmapC : C.w.heap[mb]? = some (.map ents clk) := by
    rw[(I.le.pend mb (Array.getElem?_eq_some_iff.1 zZ).1 (.inr rfl)).2]; exact zZ
  have toC : ∀ {d v}, VR c d v → VR (c.next C.w ρ' hr) d v := fun {d v} hd => hd.mono cM
  refine⟨ρ', ⟨by rw[hlenr, hn], by rw[hl, hn]; exact hR.lim, fun i hi => ?_, fun i o hi => ?_, fun i j oi oj y x1 x2 hi hj ai aj r1 r2 => ?_, fun _ => Iff.rfl, fun b hb hx => ?_, fun b hb => ?_, fun b hb => ⟨?_, fun ho => ?_⟩, hR.glob.mono cM⟩, cM, ?_⟩
  · rw[hn]
    by_cases aY : i < h.n
    · exact aY
    · exact absurd (if_neg aY) hi
  · have aY : i < h.n := by rw[← hn]; exact dH hi
    by_cases cY : i = m
    · subst cY
      obtain⟨x, g1, g2⟩ := atm
      rw[g1]at hi; cases hi
      refine⟨es', g2.trans kP, mb, ents, clk, by show ρ' i = _; rw[rlt aY]; exact hCm, hmapC, by simpa using jG.1, fun q a1 a2 => ?_, oT⟩
      have := jG.2 q _ _ (List.getElem?_eq_getElem a1) (by rw[Array.getElem?_toList]; exact Array.getElem?_eq_getElem a2)
      exact⟨toC this.1, toC this.2⟩
    · obtain⟨o1, g1, g2, g3⟩ := other i o cY hi
      have hob := I.rel.obj i o1 g1
      cases o1 with
      | dead => rcases g2 with rfl | ⟨x, y, _, e, _⟩
                · trivial
                · cases e
      | arr ety sz xs cap =>
        have : o = .arr ety sz xs cap := by rcases g2 with rfl | ⟨x, y, _, e, _⟩; rfl; cases e
        subst this
        obtain⟨b, base, cur, q, q1, q2, q3, q4, q5, q6, q7, q8⟩ := hob
        refine⟨b, base, cur, q, by show ρ' i = _; rw[rlt aY]; exact q1, q2, q3, q4, q5, q6, q7, fun k hk => ⟨(q8 k hk).1, fun j hj => ?_⟩⟩
        obtain⟨u, a1, a2, a3⟩ := (q8 k hk).2 j hj
        refine⟨u, a1, a2, up ?_⟩
        rcases g3 with g3 | g3
        · obtain⟨b3, base3, cur3, m3, r1, r2, r3, r4, r5, r6, r7, r8⟩ := hR.obj i _ g3
          obtain⟨u0, _, _, a4⟩ := (r8 k hk).2 j hj
          exact a4.cut_old hR.dom a3
        · have hb : xs.all (dJ 200 h.n) = true := g3
          obtain⟨n', KI⟩ := Ia hj (List.all_eq_true.1 hb _ (List.getElem_mem hk))
          exact a3.belowN n' KI
      | mp es1 =>
        have : ∃ x, o = .mp x ∧ x.Perm es1 := by
          rcases g2 with rfl | ⟨x, y, rfl, e, hp⟩
          · exact⟨_, rfl, .refl _⟩
          · cases e; exact⟨_, rfl, hp⟩
        obtain⟨x, rfl, hp⟩ := this
        obtain⟨es2, MH, b2, en2, cl2, q1, q2, q3, q4, q5⟩ := hob
        refine⟨es2, hp.trans MH, b2, en2, cl2, by show ρ' i = _; rw[rlt aY]; exact q1, q2, q3, fun q a1 a2 => ?_, q5⟩
        obtain⟨s1, s2⟩ := q4 q a1 a2
        rcases g3 with g3 | g3
        · obtain⟨es3, hp3, b3, en3, cl3, r1, r2, r3, r4, _⟩ := hR.obj i _ g3
          obtain⟨q', u1, qS⟩ := List.getElem_of_mem ((MH.symm.trans hp3).mem_iff.1 (List.getElem_mem a1))
          obtain⟨t1, t2⟩ := r4 q' u1 (by omega)
          rw[qS]at t1 t2
          exact⟨up (t1.cut_old hR.dom s1), up (t2.cut_old hR.dom s2)⟩
        · have hb : es1.all (fun p => dJ 200 h.n p.1 && dJ 200 h.n p.2) = true := g3
          have := List.all_eq_true.1 hb _ (MH.mem_iff.2 (List.getElem_mem a1))
          simp only[Bool.and_eq_true]at this
          exact⟨up (s1.belowN 200 this.1), up (s2.belowN 200 this.2)⟩
  · have l1 : i < h.n := by rw[← hn]; exact dH hi
    have l2 : j < h.n := by rw[← hn]; exact dH hj
    have r1' : C.ρ i = some (y, x1) := by rw[← rlt l1]; exact r1
    have r2' : C.ρ j = some (y, x2) := by rw[← rlt l2]; exact r2
    by_cases e1 : i = m <;> by_cases e2 : j = m
    · omega
    · subst e1
      rw[hCm]at r1'; cases r1'
      obtain⟨o1, g1, g2, _⟩ := other j oj e2 hj
      exact absurd ⟨j, o1, x2, g1, alive1 (i := j) g2 aj, r2'⟩ (I.rel.pend mb hCE).2
    · subst e2
      rw[hCm]at r2'; cases r2'
      obtain⟨o1, g1, g2, _⟩ := other i oi e1 hi
      exact absurd ⟨i, o1, x1, g1, alive1 (i := i) g2 ai, r1'⟩ (I.rel.pend mb hCE).2
    · obtain⟨p1, g1, g2, _⟩ := other i oi e1 hi
      obtain⟨p2, g3, g4, _⟩ := other j oj e2 hj
      exact I.rel.inj i j p1 p2 y x1 x2 g1 g3 (alive1 (i := i) g2 ai) (alive1 (i := j) g4 aj) r1' r2'
  · exact I.rel.notX b (hFO b hb) (by rw[hX]; exact hx)
  · exact I.rel.old b (by rw[hX]; exact hb)
  · exact(I.rel.pend b (De b hb)).1
  · rcases fZ b ho with rfl | ho
    · exact(hR.pend b hb).2 ⟨m, _, 0, hg, rfl, hρ⟩
    · exact(I.rel.pend b (De b hb)).2 ho
  · have hkE : cI C (Gi kl env1) a1 := hE.kill kl
    rw[hk]at hzE ⊢
    obtain⟨lE, gE⟩ := Ib hzE
    refine⟨hkE.size, hkE.defers, fun i hi => up ?_⟩
    have hv := hkE.val i hi
    have uK : i < env0.length := by omega
    have := gE i _ _ (List.getElem?_eq_getElem uK) (List.getElem?_eq_getElem hi)
    simp only[Bool.or_eq_true]at this
    rcases this with hb | hb
    · have e0 := DV.beq_eq _ _ hb
      have hv0 := hE0.val i uK
      rw[e0]at hv0
      exact hv0.cut_old hR.dom hv
    · exact hv.belowN 200 hb
end
end Go.Dm
