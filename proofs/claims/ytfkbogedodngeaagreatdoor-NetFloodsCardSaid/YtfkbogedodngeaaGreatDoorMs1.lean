/- A part of the proof. -/
import Derived.Test.YtfkbogedodngeaaGreatDoorMs0
set_option linter.all false
set_option maxRecDepth 100000
namespace Go.Dm.Tc
theorem JQ{α:Type}(key:α→ID){l:List α}(h:eC (l.map key))(x:ID)(a:α):l.find? (fun b=>decide (key b=x))=some a↔a∈l∧key a=x:=by
 constructor
 ·intro hf
  exact⟨List.mem_of_find?_eq_some hf,by simpa using List.find?_some hf⟩
 ·rintro⟨hm,hk⟩
  cases hf:l.find? (fun b=>decide (key b=x))with
  | none=>exact absurd hk (by have:=List.find?_eq_none.1 hf a hm;simpa using this)
  | some b =>
   have hb:=List.mem_of_find?_eq_some hf
   have hkb:key b=x:=by simpa using List.find?_some hf
   have:b=a:=by
    by_cases e:b=a
    ·exact e
    ·exfalso
     unfold eC at h
     rw[List.pairwise_map]at h
     obtain⟨i,hi,rfl⟩:=List.mem_iff_getElem.1 hb
     obtain⟨j,hj,rfl⟩:=List.mem_iff_getElem.1 hm
     rcases Nat.lt_trichotomy i j with aZ|he|aZ
     ·have:=List.pairwise_iff_getElem.1 h i j hi hj aZ
      rw[hkb,hk,gV]at this;omega
     ·subst he;exact e rfl
     ·have:=List.pairwise_iff_getElem.1 h j i hj hi aZ
      rw[hkb,hk,gV]at this;omega
   rw[this]
theorem Ke{α:Type}(key:α→ID){l:List α}(x:ID):l.find? (fun b=>decide (key b=x))=none↔∀a∈l,key a≠x:=by
 rw[List.find?_eq_none]
 exact⟨fun h a ha=>by simpa using h a ha,fun h a ha=>by simpa using h a ha⟩
theorem tT{b:aL}(h:eC (b.aY.map (·.id))){x:ID}{a:cP}:nP b x=some a↔a∈b.aY∧a.id=x:=JQ (fun a:cP=>a.id) h x a
theorem L6{b:aL}{x:ID}:nP b x=none↔∀a∈b.aY,a.id≠x:=Ke (fun a:cP=>a.id) x
theorem iU(b:aL)(x:ID):gQ b x=((nP b x).getD Au).eQ:=rfl
theorem oN{l:List bM}{t:ID}{p:dR}:eG l t p=true↔∃ e∈l,e.tree=t∧e.up=true∧R9 e.pred p=true:=by
 unfold eG ofT
 rw[List.any_eq_true]
 constructor
 ·rintro⟨e,he,h⟩
  have:=List.mem_filter.1 he
  rw[Bool.and_eq_true]at h
  exact⟨e,this.1,by simpa using this.2,h.1,h.2⟩
 ·rintro⟨e,he,h1,h2,h3⟩
  exact⟨e,List.mem_filter.2 ⟨he,by simpa using h1⟩,by rw[h2,h3];rfl⟩
theorem uW{e x:bM}{l:List bM}:x∈Pn e l↔x=e∨x∈l:=by
 unfold Pn
 rw[List.mem_append,List.mem_cons]
 constructor
 ·rintro(h|h|h)
  ·exact .inr (List.mem_of_mem_take h)
  ·exact .inl h
  ·exact .inr (List.mem_of_mem_drop h)
 ·rintro(h|h)
  ·exact .inr (.inl h)
  ·rw[←List.take_append_drop (dQ (lI e.tree e.sub) l) l,List.mem_append]at h
   exact h.elim .inl fun h=>.inr (.inr h)
theorem Uw(e:bM)(l:List bM):(Pn e l).length=l.length+1:=by
 unfold Pn
 rw[List.length_append,List.length_cons,List.length_take,List.length_drop]
 have:=wJ (lI e.tree e.sub) l
 omega
theorem MZ{t s:ID}{a:bM}(h1:¬lI t s a<0)(h2:¬(a.tree=t∧a.sub=s))(e:bM)(he:e.tree=t)(he2:e.sub=s):lI a.tree a.sub e<0:=by
 rw[En,kG,kG]at *
 rw[he,he2]
 rw[ID.ext',ID.ext']at h2
 rw[ID.ext']at *
 omega
theorem Uv{e:bM}{l:List bM}(h:jP l)(hn:∀x∈l,isE e.tree e.sub x=false):jP (Pn e l):=by
 unfold jP Pn
 rw[List.pairwise_append,List.pairwise_cons]
 generalize hk:dQ (lI e.tree e.sub) l=k
 have Hc:∀b∈l.take k,lI e.tree e.sub b<0:=by
  intro b hb
  obtain⟨i,hi,rfl⟩:=List.mem_iff_getElem.1 hb
  rw[List.getElem_take]
  rw[List.length_take]at hi
  have:=List.not_of_lt_findIdx (p:=fun x=>!decide (lI e.tree e.sub x<0)) (xs:=l) (i:=i) (by unfold dQ at hk;omega)
  simpa using this
 have vB:∀b∈l.drop k,lI b.tree b.sub e<0:=by
  intro b hb
  obtain⟨i,hi,rfl⟩:=List.mem_iff_getElem.1 hb
  rw[List.length_drop]at hi
  rw[List.getElem_drop]
  have RQ:k<l.length:=by omega
  have h1:¬lI e.tree e.sub l[k]<0:=by
   have:=List.findIdx_getElem (p:=fun x=>!decide (lI e.tree e.sub x<0)) (xs:=l) (w:=by unfold dQ at hk;omega)
   have nY:List.findIdx (fun x=>!decide (lI e.tree e.sub x<0)) l=k:=hk
   simp only[nY]at this
   simpa using this
  have h2:¬lI e.tree e.sub l[k+i]<0:=fun hc=>h1 (k8 h _ _ k (k+i) RQ (by omega) (by omega) hc)
  refine MZ h2 ?_ e rfl rfl
  have:=hn l[k+i] (List.getElem_mem _)
  simpa[isE]using this
 refine⟨h.sublist (List.take_sublist ..),⟨fun b hb=>vB b hb,h.sublist (List.drop_sublist ..)⟩,?_⟩
 intro x hx y hy
 rcases List.mem_cons.1 hy with rfl|hy
 ·exact Hc x hx
 ·exact Fw (Hc x hx) (by have:=vB y hy;omega)
structure oT(b:aL):Prop where
 bB:kO (fun x y=>decide (x<y)) b.bB=true
 loc:∀x∈b.bB,0≤x
 ra:eC (b.aY.map (·.id))
 rs:eC b.seen
 ro:eC (b.kR.map (·.id))
 re:jP b.entries
 sub:∀a∈b.aY,a.id∈b.seen
 par:∀a∈b.aY,uU b a.eQ=true
 pa:∀a∈b.aY,jX a.pred
 po:∀o∈b.kR,jX o.pred
 ent:∀e∈b.entries,lJ b e=true
 pe:∀e∈b.entries,jX e.pred
 tight:Xq b=true
structure SzK(b:aL)(n:Nat):Prop where
 bB:b.bB.length≤1000
 adv:b.aY.length≤n
 seen:b.seen.length≤n
 own:b.kR.length≤n
 ent:b.entries.length≤n*n
theorem SzK.mono{b:aL}{n m:Nat}(h:SzK b n)(hn:n≤m):SzK b m:=by
 have:=Nat.mul_le_mul hn hn
 obtain⟨h1,h2,h3,h4,h5⟩:=h
 exact⟨h1,by omega,by omega,by omega,by omega⟩
theorem oT.asked{b:aL}(h:oT b):XG b:=⟨fun e he=>(h.pe e he).unlike,fun e he=>Nat.le_trans (h.pe e he).len (by decide)⟩
theorem oT.right{b:aL}(h:oT b):Om b=true:=by
 unfold Om Bm
 rw[h.bB,pA (key:=fun a:cP=>a.id) h.ra,pA (key:=fun a:Xa=>a.id) h.ro,Lq h.re,show kO (fun x y=>Bu x y) b.seen=true from pA (key:=fun a:ID=>a) (by simpa using h.rs)]
 have h1:(b.aY.any fun a=>!uN b a)=false:=by
  rw[List.any_eq_false]
  intro a ha
  simp[uN,h.sub a ha,h.par a ha,(h.pa a ha).right]
 have h2:(b.entries.any fun e=>!lJ b e)=false:=by
  rw[List.any_eq_false]
  intro e he
  simp[h.ent e he]
 have h3:(b.kR.any fun o=>!qY o.pred)=false:=by
  rw[List.any_eq_false]
  intro o ho
  simp[(h.po o ho).right]
 rw[h1,h2,h3]
 rfl
theorem hM{b:aL}{e:bM}:lJ b e=true↔∃ a,nP b e.tree=some a∧uU b e.lW=true∧(e.lW=a.eQ→a.eQ=-1)∧(e.up=true→a.eQ≠-1)∧qY e.pred=true:=by
 unfold lJ nP
 cases b.aY.find? (fun a=>a.id=e.tree)with
 | none=>simp
 | some a =>
  simp only[Option.some.injEq,exists_eq_left',Bool.and_eq_true,Bool.or_eq_true,Bool.not_eq_true',Bool.and_eq_false_iff,decide_eq_true_eq,decide_eq_false_iff_not]
  constructor
  ·rintro⟨⟨⟨h1,h2⟩,h3⟩,h4⟩
   exact⟨h1,fun q=>h2.resolve_left (fun hn=>hn q),fun q=>h3.resolve_left (by rw[q];decide),h4⟩
  ·rintro⟨h1,h2,h3,h4⟩
   refine⟨⟨⟨h1,?_⟩,?_⟩,h4⟩
   ·by_cases q:e.lW=a.eQ
    ·exact .inr (h2 q)
    ·exact .inl q
   ·cases q:e.up with
    | false=>exact .inl rfl
    | true=>exact .inr (h3 q)
theorem kN{b:aL}:Xq b=true↔∀e∈b.entries,e.up=true∨gQ b e.tree=-1∨eG b.entries e.tree e.pred=true:=by
 unfold Xq
 rw[List.all_eq_true]
 simp only[EP,Bool.or_eq_true,decide_eq_true_eq,or_assoc]
theorem yE{b b':aL}(h:b'.bB=b.bB)(n:Int):uU b' n=uU b n:=by unfold uU;rw[h]
theorem qZ{b b':aL}{e:bM}(h:b'.bB=b.bB)(ha:nP b' e.tree=nP b e.tree):lJ b' e=lJ b e:=by
 rw[Bool.eq_iff_iff,hM,hM,ha]
 simp only[yE h]
theorem oT.start{me:Int}{bB:List Int}(hn:kO (fun x y=>decide (x<y)) bB=true)(hl:∀x∈bB,0≤x):oT ⟨me,bB,[],[],[],[]⟩ :=
 ⟨hn,hl,.nil,.nil,.nil,.nil,fun a h=>(by cases h),fun a h=>(by cases h),fun a h=>(by cases h),fun a h=>(by cases h),fun a h=>(by cases h),fun a h=>(by cases h),rfl⟩
theorem SzK.start{me:Int}{bB:List Int}(hn:bB.length≤1000):SzK ⟨me,bB,[],[],[],[]⟩ 0:=⟨hn,Nat.le_refl _,Nat.le_refl _,Nat.le_refl _,Nat.le_refl _⟩
theorem Wx{b:aL}(h:oT b)(a:cP)(hn:a.id ∉ b.seen)(x:ID):nP (dF b a).1 x=if a.id=x then some a else nP b x:=by
 have Pu:∀c∈b.aY,c.id≠a.id:=fun c hc e=>hn (by rw[←e];exact h.sub c hc)
 have hr:eC ((dF b a).1.aY.map (·.id)):=by
  unfold dF;rw[if_neg hn]
  exact pI (fun a:cP=>a.id) a h.ra Pu
 have hm:∀c,c∈(dF b a).1.aY↔c=a∨c∈b.aY:=by
  intro c
  unfold dF;rw[if_neg hn]
  exact qK (fun a:cP=>a.id) a b.aY c
 by_cases e:a.id=x
 ·rw[if_pos e,tT hr,hm];exact⟨.inl rfl,e⟩
 ·rw[if_neg e]
  cases hq:nP b x with
  | none =>
   rw[L6]at hq ⊢
   intro c hc
   rcases(hm c).1 hc with rfl|hc
   ·exact e
   ·exact hq c hc
  | some c =>
   rw[tT h.ra]at hq
   rw[tT hr,hm]
   exact⟨.inr hq.1,hq.2⟩
theorem oT.learn{b:aL}(h:oT b){a:cP}(hp:uU b a.eQ=true)(hr:jX a.pred):oT (dF b a).1:=by
 by_cases hn:a.id∈b.seen
 ·unfold dF;rw[if_pos hn];exact h
 ·have ho:=Wx h a hn
  have hE:(dF b a).1.entries=b.entries:=by unfold dF;rw[if_neg hn]
  have hN:(dF b a).1.bB=b.bB:=by unfold dF;rw[if_neg hn]
  have hO:(dF b a).1.kR=b.kR:=by unfold dF;rw[if_neg hn]
  have hA:(dF b a).1.aY=tV (fun a=>a.id) a b.aY:=by unfold dF;rw[if_neg hn]
  have hS:(dF b a).1.seen=tV (fun x=>x) a.id b.seen:=by unfold dF;rw[if_neg hn]
  have hother:∀e∈b.entries,nP (dF b a).1 e.tree=nP b e.tree:=by
   intro e he
   rw[ho,if_neg]
   intro hc
   obtain⟨c,BO,_⟩:=hM.1 (h.ent e he)
   rw[tT h.ra]at BO
   exact hn (by rw[hc,←BO.2];exact h.sub c BO.1)
  refine⟨by rw[hN];exact h.bB,by rw[hN];exact h.loc,?_,?_,by rw[hO];exact h.ro,by rw[hE];exact h.re,?_,?_,?_,by rw[hO];exact h.po,?_,by rw[hE];exact h.pe,?_⟩
  ·rw[hA];exact pI (fun a:cP=>a.id) a h.ra fun c hc e=>hn (by rw[←e];exact h.sub c hc)
  ·rw[hS]
   have:=pI (fun x:ID=>x) a.id (l:=b.seen) (by simpa using h.rs) (fun c hc e=>hn (by rw[←e];exact hc))
   simpa using this
  ·intro c hc
   rw[hA,qK]at hc
   rw[hS,qK]
   rcases hc with rfl|hc
   ·exact .inl rfl
   ·exact .inr (h.sub c hc)
  ·intro c hc
   rw[yE hN]
   rw[hA,qK]at hc
   rcases hc with rfl|hc
   ·exact hp
   ·exact h.par c hc
  ·intro c hc
   rw[hA,qK]at hc
   rcases hc with rfl|hc
   ·exact hr
   ·exact h.pa c hc
  ·intro e he
   rw[hE]at he
   rw[qZ hN (hother e he)];exact h.ent e he
  ·rw[kN,hE]
   intro e he
   rw[iU,hother e he,←iU]
   exact kN.1 h.tight e he
theorem SzK.learn{b:aL}{n:Nat}(h:SzK b n)(a:cP):SzK (dF b a).1 (n+1):=by
 have h':=h.mono (Nat.le_succ n)
 unfold dF
 split
 ·exact h'
 ·obtain⟨h1,h2,h3,h4,h5⟩:=h'
  exact⟨h1,by simp only[Er];have:=h.adv;omega,by simp only[Er];have:=h.seen;omega,h4,h5⟩
theorem B7{b:aL}{e:bM}:Pl b e=true↔∃ a,nP b e.tree=some a∧(∀x∈b.entries,isE e.tree e.sub x=false)∧(e.lW=a.eQ→a.eQ=-1):=by
 unfold Pl nP
 cases b.aY.find? (fun a=>a.id=e.tree)with
 | none=>simp
 | some a =>
  simp only[Option.some.injEq,exists_eq_left',Bool.and_eq_true,Bool.not_eq_true',Bool.and_eq_false_iff,List.any_eq_false,Bool.not_eq_true,decide_eq_false_iff_not,Bool.not_eq_false',decide_eq_true_eq]
  refine and_congr Iff.rfl ⟨fun h q=>h.resolve_left (fun hn=>hn q),fun h=>?_⟩
  by_cases q:e.lW=a.eQ
  ·exact .inr (h q)
  ·exact .inl q
theorem Ap{l l':List bM}{t:ID}{p:dR}(h:∀e∈l,e∈l')(hc:eG l t p=true):eG l' t p=true:=by
 rw[oN]at *
 obtain⟨e,he,h2⟩:=hc
 exact⟨e,h e he,h2⟩
theorem oT.add{b:aL}(h:oT b){e:bM}(hl:uU b e.lW=true)(hp:jX e.pred):oT (vT b e).1:=by
 by_cases hm:Pl b e=true
 ·obtain⟨a,ha,Pt,hfp⟩:=B7.1 hm
  unfold vT
  rw[if_pos hm]
  have hpar:gQ b e.tree=a.eQ:=by rw[iU,ha];rfl
  refine⟨h.bB,h.loc,h.ra,h.rs,h.ro,?_,h.sub,h.par,h.pa,h.po,?_,?_,?_⟩
  ·exact Uv (e:={e with up:=Xm b e}) h.re Pt
  ·intro x hx
   rw[uW]at hx
   have hs:∀y,lJ {b with entries:=Pn {e with up:=Xm b e} b.entries} y=lJ b y:=fun y=>qZ rfl rfl
   rw[hs]
   rcases hx with rfl|hx
   ·rw[hM]
    refine⟨a,ha,hl,hfp,?_,hp.right⟩
    intro hu Pq
    simp only[Xm,hpar,Pq]at hu
    simp at hu
   ·exact h.ent x hx
  ·intro x hx
   rw[uW]at hx
   rcases hx with rfl|hx
   ·exact hp
   ·exact h.pe x hx
  ·rw[kN]
   intro x hx
   have hs:∀y,gQ {b with entries:=Pn {e with up:=Xm b e} b.entries} y=gQ b y:=fun y=>rfl
   rw[hs]
   have tA:=hx
   rw[uW]at hx
   rcases hx with rfl|hx
   ·by_cases Pq:a.eQ=-1
    ·exact .inr (.inl (by rw[hpar,Pq]))
    ·cases PP:eG b.entries e.tree e.pred with
     | true=>exact .inr (.inr (Ap (fun y hy=>uW.2 (.inr hy)) PP))
     | false=>left;simp[Xm,hpar,Pq,PP]
   ·rcases kN.1 h.tight x hx with h1|h1|h1
    ·exact .inl h1
    ·exact .inr (.inl h1)
    ·exact .inr (.inr (Ap (fun y hy=>uW.2 (.inr hy)) h1))
 ·unfold vT
  rw[if_neg hm];exact h
inductive eS(t:ID):List bM→List bM→Prop where
 | nil:eS t [] []
 | keep (e:bM) {l l':List bM} (h:eS t l l'):eS t (e::l) (e::l')
 | up (e:bM) {l l':List bM} (ht:e.tree=t) (hu:e.up=false) (h:eS t l l'):eS t (e::l) ({e with up:=true}::l')
theorem eS.refl(t:ID):∀l,eS t l l
 | []=>.nil
 | e::l=>.keep e (eS.refl t l)
theorem eS.append{t:ID}{a a' b b':List bM}(h:eS t a a')(k:eS t b b'):eS t (a++b) (a'++b'):=by
 induction h with
 | nil=>exact k
 | keep e _ ih=>exact .keep e ih
 | up e ht hu _ ih=>exact .up e ht hu ih
theorem eS.len{t:ID}{a a':List bM}(h:eS t a a'):a'.length=a.length:=by
 induction h with
 | nil=>rfl
 | keep e _ ih=>simp[ih]
 | up e ht hu _ ih=>simp[ih]
theorem eS.mem{t:ID}{a a':List bM}(h:eS t a a'){x:bM}(hx:x∈a'):x∈a∨∃ e∈a,e.tree=t∧e.up=false∧x={e with up:=true}:=by
 induction h with
 | nil=>cases hx
 | keep e _ ih =>
  rcases List.mem_cons.1 hx with rfl|hx
  ·exact .inl (List.mem_cons_self ..)
  ·rcases ih hx with h|⟨y,hy,h⟩
   ·exact .inl (List.mem_cons_of_mem _ h)
   ·exact .inr ⟨y,List.mem_cons_of_mem _ hy,h⟩
 | up e ht hu _ ih =>
  rcases List.mem_cons.1 hx with rfl|hx
  ·exact .inr ⟨e,List.mem_cons_self ..,ht,hu,rfl⟩
  ·rcases ih hx with h|⟨y,hy,h⟩
   ·exact .inl (List.mem_cons_of_mem _ h)
   ·exact .inr ⟨y,List.mem_cons_of_mem _ hy,h⟩
theorem eS.of_mem{t:ID}{a a':List bM}(h:eS t a a'){x:bM}(hx:x∈a):x∈a'∨(x.tree=t∧x.up=false∧{x with up:=true}∈a'):=by
 induction h with
 | nil=>cases hx
 | keep e _ ih =>
  rcases List.mem_cons.1 hx with rfl|hx
  ·exact .inl (List.mem_cons_self ..)
  ·rcases ih hx with h|⟨h1,h2,h3⟩
   ·exact .inl (List.mem_cons_of_mem _ h)
   ·exact .inr ⟨h1,h2,List.mem_cons_of_mem _ h3⟩
 | up e ht hu _ ih =>
  rcases List.mem_cons.1 hx with rfl|hx
  ·exact .inr ⟨ht,hu,List.mem_cons_self ..⟩
  ·rcases ih hx with h|⟨h1,h2,h3⟩
   ·exact .inl (List.mem_cons_of_mem _ h)
   ·exact .inr ⟨h1,h2,List.mem_cons_of_mem _ h3⟩
theorem eS.rising{t:ID}{a a':List bM}(h:eS t a a')(hr:jP a):jP a':=by
 induction h with
 | nil=>exact hr
 | keep e h ih =>
  unfold jP at *
  rw[List.pairwise_cons]at *
  refine⟨fun x hx=>?_,ih hr.2⟩
  rcases h.mem hx with hx|⟨y,hy,_,_,rfl⟩
  ·exact hr.1 x hx
  ·exact hr.1 y hy
 | up e ht hu h ih =>
  unfold jP at *
  rw[List.pairwise_cons]at *
  refine⟨fun x hx=>?_,ih hr.2⟩
  have:∀t s,lI t s {e with up:=true}=lI t s e:=fun t s=>rfl
  rw[this]
  rcases h.mem hx with hx|⟨y,hy,_,_,rfl⟩
  ·exact hr.1 x hx
  ·exact hr.1 y hy
theorem eS.covered{t:ID}{a a':List bM}(h:eS t a a'){t':ID}{p:dR}(hc:eG a t' p=true):eG a' t' p=true:=by
 rw[oN]at *
 obtain⟨e,he,h1,h2,h3⟩:=hc
 rcases h.of_mem he with hx|⟨_,hx,_⟩
 ·exact⟨e,hx,h1,h2,h3⟩
 ·rw[h2]at hx;cases hx
theorem Na(t:ID):∀(rest done DQ:List bM),∃ r',(zD t done rest DQ).1=done++r'∧eS t rest r'∧(∀x∈r',x.tree=t→x.up=true∨eG (done++r') t x.pred=true) ∧
  ∃ u',(zD t done rest DQ).2=DQ++u'∧∀x∈u',x∈r'∧x.tree=t∧x.up=true∧{x with up:=false}∈rest∧eG (done++rest) t x.pred=false:=by
 intro rest
 induction rest with
 | nil=>intro done DQ;exact⟨[],by simp[zD],.nil,(fun x hx=>by cases hx),[],by simp[zD],(fun x hx=>by cases hx)⟩
 | cons e rest ih =>
  intro done DQ
  unfold zD
  by_cases hc:e.tree=t∧e.up=false∧eG (done++e::rest) t e.pred=false
  ·rw[if_pos hc]
   obtain⟨r',h1,h2,h3,u',h4,h5⟩:=ih (done++[{e with up:=true}]) (DQ++[{e with up:=true}])
   refine⟨{e with up:=true}::r',by rw[h1];simp,.up e hc.1 hc.2.1 h2,?_,{e with up:=true}::u',by rw[h4];simp,?_⟩
   ·intro x hx ht
    rcases List.mem_cons.1 hx with rfl|hx
    ·exact .inl rfl
    ·have:=h3 x hx ht
     simpa using this
   ·intro x hx
    rcases List.mem_cons.1 hx with rfl|hx
    ·have he:({{e with up:=true} with up:=false}:bM)=e:=by obtain⟨a1,a2,a3,a4,a5⟩:=e;simp only at hc;rw[hc.2.1]
     exact⟨List.mem_cons_self ..,hc.1,rfl,by rw[he];exact List.mem_cons_self ..,hc.2.2⟩
    ·obtain⟨k1,k2,k3,k4,k5⟩:=h5 x hx
     refine⟨List.mem_cons_of_mem _ k1,k2,k3,List.mem_cons_of_mem _ k4,?_⟩
     have hR:eS t (done++e::rest) (done++[{e with up:=true}]++rest):=by
      rw[List.append_assoc]
      exact(eS.refl t done).append (.up e hc.1 hc.2.1 (.refl t rest))
     cases hq:eG (done++e::rest) t x.pred with
     | false=>rfl
     | true=>rw[hR.covered hq]at k5;cases k5
  ·rw[if_neg hc]
   obtain⟨r',h1,h2,h3,u',h4,h5⟩:=ih (done++[e]) DQ
   refine⟨e::r',by rw[h1];simp,.keep e h2,?_,u',h4,?_⟩
   ·intro x hx ht
    rcases List.mem_cons.1 hx with rfl|hx
    ·cases hu:x.up with
     | true=>exact .inl rfl
     | false =>
      cases hq:eG (done++x::rest) t x.pred with
      | true=>exact .inr (((eS.refl t done).append (.keep x h2)).covered hq)
      | false=>exact absurd ⟨ht,hu,hq⟩ hc
    ·have:=h3 x hx ht
     simpa using this
   ·intro x hx
    obtain⟨k1,k2,k3,k4,k5⟩:=h5 x hx
    exact⟨List.mem_cons_of_mem _ k1,k2,k3,List.mem_cons_of_mem _ k4,by simpa using k5⟩
theorem Fh{b:aL}(h:oT b)(t s:ID)(q:Int) :
  ((xA b t s q)=(b,[],false)∧∀e∈b.entries,isE t s e=true→e.lW≠q) ∨
  (∃ e∈b.entries,isE t s e=true∧e.lW=q∧e.up=false∧xA b t s q=({b with entries:=b.entries.filter fun x=>!isE t s x},[],false)) ∨
  (∃ e∈b.entries,isE t s e=true∧e.lW=q∧e.up=true∧∃ r' u',xA b t s q=({b with entries:=r'},u',true)∧eS t (b.entries.filter fun x=>!isE t s x) r' ∧
   (∀x∈r',x.tree=t→x.up=true∨eG r' t x.pred=true)∧∀x∈u',x∈r'∧x.tree=t∧x.up=true∧{x with up:=false}∈b.entries.filter (fun x=>!isE t s x)∧eG (b.entries.filter fun x=>!isE t s x) t x.pred=false):=by
 unfold xA
 cases hf:b.entries.find? (isE t s)with
 | none =>
  left
  refine⟨rfl,fun e he hi=>?_⟩
  have:=List.find?_eq_none.1 hf e he
  exact absurd hi this
 | some e =>
  have he:=List.mem_of_find?_eq_some hf
  have hi:=List.find?_some hf
  by_cases hq:e.lW=q
  ·simp only[if_pos hq]
   cases hu:e.up with
   | false =>
    right;left
    exact⟨e,he,hi,hq,hu,by simp⟩
   | true =>
    right;right
    obtain⟨r',h1,h2,h3,u',h4,h5⟩:=Na t (b.entries.filter fun x=>!isE t s x) [] []
    refine⟨e,he,hi,hq,hu,r',u',by simp[h1,h4],h2,by simpa using h3,by simpa using h5⟩
  ·left
   refine⟨by simp only[if_neg hq],fun x hx xI=>?_⟩
   have hkey:x=e:=by
    by_cases hxe:x=e
    ·exact hxe
    ·exfalso
     have k1:x.tree=t∧x.sub=s:=by simpa[isE]using xI
     have k2:e.tree=t∧e.sub=s:=by simpa[isE]using hi
     obtain⟨i,tZ,rfl⟩:=List.mem_iff_getElem.1 hx
     obtain⟨j,PJ,rfl⟩:=List.mem_iff_getElem.1 he
     rcases Nat.lt_trichotomy i j with aZ|he|aZ
     ·have:=List.pairwise_iff_getElem.1 h.re i j tZ PJ aZ
      rw[k2.1,k2.2,zO.2 k1]at this;omega
     ·subst he;exact hxe rfl
     ·have:=List.pairwise_iff_getElem.1 h.re j i PJ tZ aZ
      rw[k1.1,k1.2,zO.2 k2]at this;omega
   rw[hkey];exact hq
theorem oT.entries{b b':aL}(h:oT b)(hb:b'={b with entries:=b'.entries})(hre:jP b'.entries)(he:∀e∈b'.entries,∃ d∈b.entries,e.tree=d.tree∧e.pred=d.pred∧e.lW=d.lW∧(e.up=true→gQ b e.tree≠-1))
  (ht:∀e∈b'.entries,e.up=true∨gQ b e.tree=-1∨eG b'.entries e.tree e.pred=true):oT b':=by
 have hA:b'.aY=b.aY:=by rw[hb]
 have hN:b'.bB=b.bB:=by rw[hb]
 have hS:b'.seen=b.seen:=by rw[hb]
 have hO:b'.kR=b.kR:=by rw[hb]
 have ho:∀x,nP b' x=nP b x:=fun x=>by unfold nP;rw[hA]
 refine⟨by rw[hN];exact h.bB,by rw[hN];exact h.loc,by rw[hA];exact h.ra,by rw[hS];exact h.rs,by rw[hO];exact h.ro,hre,by rw[hA,hS];exact h.sub,?_,by rw[hA];exact h.pa,by rw[hO];exact h.po,?_,?_,?_⟩
 ·intro a ha;rw[yE hN];rw[hA]at ha;exact h.par a ha
 ·intro e hm
  obtain⟨d,hd,k1,k2,k3,k4⟩:=he e hm
  rw[qZ hN (ho _),hM]
  obtain⟨a,a1,a2,a3,a4,a5⟩:=hM.1 (h.ent d hd)
  refine⟨a,by rw[k1];exact a1,by rw[k3];exact a2,by rw[k3];exact a3,fun hu=>?_,by rw[k2];exact a5⟩
  have:=k4 hu
  rw[iU,k1,a1]at this
  exact this
 ·intro e hm
  obtain⟨d,hd,_,k2,_⟩:=he e hm
  rw[k2];exact h.pe d hd
 ·rw[kN]
  intro e hm
  have:gQ b' e.tree=gQ b e.tree:=by rw[iU,ho,←iU]
  rw[this]
  exact ht e hm
theorem oT.up{b:aL}(h:oT b){e:bM}(he:e∈b.entries)(hu:e.up=true):gQ b e.tree≠-1:=by
 obtain⟨a,a1,_,_,a4,_⟩:=hM.1 (h.ent e he)
 rw[iU,a1]
 exact a4 hu
theorem oT.take{b:aL}(h:oT b)(t s:ID)(q:Int):oT (xA b t s q).1:=by
 have Ab:∀x∈b.entries.filter (fun x=>!isE t s x),x∈b.entries:=fun x hx=>(List.mem_filter.1 hx).1
 have hrf:jP (b.entries.filter fun x=>!isE t s x):=h.re.sublist (List.filter_sublist ..)
 rcases Fh h t s q with⟨hc,_⟩|⟨e,he,hi,_,hu,hc⟩|⟨e,he,hi,_,hu,r',u',hc,hR,htt,_⟩
 ·rw[hc];exact h
 ·rw[hc]
  refine h.entries rfl hrf ?_ ?_
  ·intro x hx
   exact⟨x,Ab x hx,rfl,rfl,rfl,fun hux=>h.up (Ab x hx) hux⟩
  ·intro x hx
   rcases kN.1 h.tight x (Ab x hx)with h1|h1|h1
   ·exact .inl h1
   ·exact .inr (.inl h1)
   ·refine .inr (.inr ?_)
    rw[oN]at *
    obtain⟨d,hd,k1,k2,k3⟩:=h1
    refine⟨d,List.mem_filter.2 ⟨hd,?_⟩,k1,k2,k3⟩
    cases eB:isE t s d with
    | false=>rfl
    | true =>
     exfalso
     have q1:d.tree=t∧d.sub=s:=by simpa[isE]using eB
     have q2:e.tree=t∧e.sub=s:=by simpa[isE]using hi
     have:d=e:=by
      by_cases hde:d=e
      ·exact hde
      ·exfalso
       obtain⟨i,tZ,rfl⟩:=List.mem_iff_getElem.1 hd
       obtain⟨j,PJ,rfl⟩:=List.mem_iff_getElem.1 he
       rcases Nat.lt_trichotomy i j with aZ|Ri|aZ
       ·have:=List.pairwise_iff_getElem.1 h.re i j tZ PJ aZ
        rw[q2.1,q2.2,zO.2 q1]at this;omega
       ·subst Ri;exact hde rfl
       ·have:=List.pairwise_iff_getElem.1 h.re j i PJ tZ aZ
        rw[q1.1,q1.2,zO.2 q2]at this;omega
     rw[this,hu]at k2;cases k2
 ·have hpt:gQ b t≠-1:=by
   have:=h.up he hu
   have q2:e.tree=t∧e.sub=s:=by simpa[isE]using hi
   rw[q2.1]at this;exact this
  rw[hc]
  refine h.entries rfl (hR.rising hrf) ?_ ?_
  ·intro x hx
   rcases hR.mem hx with hx|⟨y,hy,h1,h2,rfl⟩
   ·exact⟨x,Ab x hx,rfl,rfl,rfl,fun hux=>h.up (Ab x hx) hux⟩
   ·exact⟨y,Ab y hy,rfl,rfl,rfl,fun _=>by rw[h1];exact hpt⟩
  ·intro x hx
   by_cases hxt:x.tree=t
   ·rcases htt x hx hxt with k|k
    ·exact .inl k
    ·exact .inr (.inr (by rw[hxt];exact k))
   ·have tA:x∈b.entries.filter fun x=>!isE t s x:=by
     rcases hR.mem hx with hx|⟨y,hy,h1,h2,rfl⟩
     ·exact hx
     ·exact absurd h1 hxt
    rcases kN.1 h.tight x (Ab x tA)with h1|h1|h1
    ·exact .inl h1
    ·exact .inr (.inl h1)
    ·refine .inr (.inr (hR.covered ?_))
     rw[oN]at *
     obtain⟨d,hd,k1,k2,k3⟩:=h1
     refine⟨d,List.mem_filter.2 ⟨hd,?_⟩,k1,k2,k3⟩
     have:¬(d.tree=t∧d.sub=s):=fun hh=>hxt (by rw[←k1];exact hh.1)
     simp[isE,this]
theorem EX{b:aL}(h:oT b)(t s:ID)(q:Int):(xA b t s q).1.entries.length≤b.entries.length:=by
 rcases Fh h t s q with⟨hc,_⟩|⟨e,_,_,_,_,hc⟩|⟨e,_,_,_,_,r',u',hc,hR,_⟩
 ·rw[hc];exact Nat.le_refl _
 ·rw[hc];exact List.length_filter_le ..
 ·rw[hc]
  show r'.length≤_
  rw[hR.len];exact List.length_filter_le ..
theorem U9(b:aL)(t s:ID)(q:Int):(xA b t s q).1={b with entries:=(xA b t s q).1.entries}:=by
 unfold xA
 split
 ·rfl
 ·split
  ·split<;>rfl
  ·rfl
theorem KZ(b:aL)(e:bM):(vT b e).1={b with entries:=(vT b e).1.entries}:=by
 unfold vT
 split<;>rfl
theorem QV(b:aL)(e:bM):(vT b e).1.entries.length≤b.entries.length+1:=by
 unfold vT
 split
 ·simp only[Uw];exact Nat.le_refl _
 ·exact Nat.le_succ _
theorem SzK.take{b:aL}{n:Nat}(h:SzK b n)(hi:oT b)(t s:ID)(q:Int):SzK (xA b t s q).1 n:=by
 have h1:=EX hi t s q
 rw[U9]at h1 ⊢
 obtain⟨a1,a2,a3,a4,a5⟩:=h
 exact⟨a1,a2,a3,a4,Nat.le_trans h1 a5⟩
theorem SzK.add{b:aL}{n:Nat}(h:SzK b n)(e:bM):SzK (vT b e).1 (n+1):=by
 have h1:=QV b e
 rw[KZ]at h1 ⊢
 obtain⟨a1,a2,a3,a4,a5⟩:=h
 have:(n+1)*(n+1)=n*n+n+n+1:=by rw[Nat.add_mul,Nat.mul_add];omega
 exact⟨a1,Nat.le_succ_of_le a2,Nat.le_succ_of_le a3,Nat.le_succ_of_le a4,by simp only at h1 ⊢;omega⟩
end Go.Dm.Tc
/-
Brokers as one datum: what the machine's steps do to it;what functions answer of a broker that calls Eb.
-/
namespace Go.Dm.Tc
theorem XE(t:iE)(b:aL):DV.agg (eY t b)=aW t b:=_root_.id rfl
theorem CJ(sz:Nat)(t:iE)(b:aL):aF sz (aW t b)=eY t b:=_root_.id rfl
theorem XA(t:iE)(b:aL):(eY t b).length=6:=_root_.id rfl
theorem QQ(t:iE)(b:aL):(eY t b).take 6=eY t b:=_root_.id rfl
theorem bC_0(t:iE)(b:aL):(eY t b)[0]?=some (.int .i64 b.me):=_root_.id rfl
theorem bC_1(t:iE)(b:aL):(eY t b)[1]?=some (eL t.bB 1 bW b.bB):=_root_.id rfl
theorem bC_2(t:iE)(b:aL):(eY t b)[2]?=some (eL t.aY 4 aG b.aY):=_root_.id rfl
theorem bC_3(t:iE)(b:aL):(eY t b)[3]?=some (eL t.seen 2 eID b.seen):=_root_.id rfl
theorem bC_4(t:iE)(b:aL):(eY t b)[4]?=some (eL t.entries 7 bO b.entries):=_root_.id rfl
theorem bC_5(t:iE)(b:aL):(eY t b)[5]?=some (eL t.kR 3 pQ b.kR):=_root_.id rfl
theorem w8(t:iE)(b:aL)(h:0<(eY t b).length):(eY t b)[0]=.int .i64 b.me:=_root_.id rfl
theorem w7(t:iE)(b:aL)(h:1<(eY t b).length):(eY t b)[1]=eL t.bB 1 bW b.bB:=_root_.id rfl
theorem v9(t:iE)(b:aL)(h:2<(eY t b).length):(eY t b)[2]=eL t.aY 4 aG b.aY:=_root_.id rfl
theorem v8(t:iE)(b:aL)(h:3<(eY t b).length):(eY t b)[3]=eL t.seen 2 eID b.seen:=_root_.id rfl
theorem v7(t:iE)(b:aL)(h:4<(eY t b).length):(eY t b)[4]=eL t.entries 7 bO b.entries:=_root_.id rfl
theorem v6(t:iE)(b:aL)(h:5<(eY t b).length):(eY t b)[5]=eL t.kR 3 pQ b.kR:=_root_.id rfl
theorem Se(t:iE)(b:aL):aO 6 (aW t b)=true:=_root_.id rfl
theorem UN(tg:Bool)(h:aA)(n:Nat)(t:iE)(b:aL):resolve tg h (n+2) (aW t b)=some (aW t b):=by
 simp[aW]
theorem XI(n:Nat)(b:aL):bA (n+24) (aW .none b)=true:=by
 simp[aW,iE.none]
theorem WE(h:aA)(t:iE)(b:aL):fQ h (aW t b)=some (aW t b,h):=by
 simp[aW,Qf,Bt,Gw,E8,R1,yQ,yP,Co]
theorem BZ(off:Nat)(n:Option Nat)(t:iE)(b:aL):Hq off n (aW t b)=cQ n (eY t b) off:=_root_.id rfl
attribute [simp] XE CJ XA QQ bC_0 bC_1 bC_2 bC_3 bC_4 bC_5 w8 w7 v9 v8 v7 v6 Se UN XI WE BZ R6 E9 Vm R5 Qf Gw Bt E8 R4 JN R1 R0 JO yQ yP Co
section
variable {b:aL} (t:iE)
end
end Go.Dm.Tc
/-
What the laws' arguments are: numbers of which predicates,steps,brokers are Eb.
-/
namespace Go.Dm.Tc
structure PK where
 has:List Int
 vals:List Int
def ePK(p:PK):DV:=.agg [eL false 1 bW p.has,eL false 1 bW p.vals]
def PK.pred(p:PK):dR:=Br p.has p.vals
structure z7 where
 kind:Int
 lW:Int
 tree:Int
 bK:Int
 seq:Int
 has:List Int
 vals:List Int
structure BrokK where
 bB:Int
 steps:List z7
end Go.Dm.Tc
/-
More plain laws of brokers: one entry for a tree and a number;what covers itself;what comes of an entry taken out,of one added.
-/
namespace Go.Dm.Tc
end Go.Dm.Tc
/-
Numbers sorted,pairs too: the plain law,and the hook.
-/
namespace Go.Dm.Tc
def atL(L:List Int)(i:Nat):Int:=L.getD i 0
theorem lT{L:List Int}{i:Nat}(h:i<L.length):atL L i=L[i]:=by simp[atL,h]
theorem Lz{α:Type}(lt:α→α→Bool)(x:α)(l:List α):(Ec lt x l).Perm (x::l):=by
 induction l with
 | nil=>exact .refl _
 | cons y r ih =>
  simp only[Ec]
  split
  ·exact(List.Perm.cons y ih).trans (.swap _ _ _)
  ·exact .refl _
theorem uV{α:Type}(lt:α→α→Bool)(l:List α):(gB lt l).Perm l:=by
 induction l with
 | nil=>exact .refl _
 | cons x r ih=>exact(Lz lt x _).trans (.cons x ih)
def Lx(L:List Int):List Int:=gB ltZ L
theorem sZ(L:List Int):(Lx L).Perm L:=uV ltZ L
theorem Uu{x:Int}:∀{l:List Int},l.Pairwise (·≤·)→(Ec ltZ x l).Pairwise (·≤·):=by
 intro l
 induction l with
 | nil=>intro _;exact List.pairwise_singleton _ _
 | cons y r ih =>
  intro h
  obtain⟨h1,h2⟩:=List.pairwise_cons.1 h
  simp only[Ec,ltZ,decide_eq_true_eq]
  split
  ·rename_i aZ
   refine List.pairwise_cons.2 ⟨fun z hz=>?_,ih h2⟩
   rcases List.mem_cons.1 ((Lz ltZ x r).mem_iff.1 hz)with rfl|hz
   ·omega
   ·exact h1 z hz
  ·rename_i aZ
   refine List.pairwise_cons.2 ⟨fun z hz=>?_,h⟩
   rcases List.mem_cons.1 hz with rfl|hz
   ·omega
   ·have:=h1 z hz;omega
theorem Aa(L:List Int):(Lx L).Pairwise (·≤·):=by
 unfold Lx
 induction L with
 | nil=>exact List.Pairwise.nil
 | cons x r ih=>exact Uu ih
structure L8(id:Nat)(sp:List DV)(cap:Option Nat)(h h':aA)(L:List Int):Prop where
 get:h'.get id=some (.arr 3 1 (L.map bW++sp) cap)
 n:h'.n=h.n
 lim:h'.lim=h.lim
 wf:WF h'
 oth:∀k,k≠id→h'.get k=h.get k
theorem OK{α:Type}{un:DV→Option α}{mk:α→DV}(hu:∀x,un (mk x)=some x):∀l:List α,(l.map mk).mapM un=some l:=by
 intro l
 induction l with
 | nil=>rfl
 | cons x r ih=>simp[hu,ih]
theorem Cy{α:Type}{sz:Nat}{un:DV→Option α}{mk:α→DV}{lt:α→α→Bool}(hu:∀x,un (mk x)=some x){h:aA}{id ety:Nat}{sp:List DV}{cap:Option Nat}{L:List α}(g:h.get id=some (.arr ety sz (L.map mk++sp) cap))(hl:h.lim≤id)(hb:L.length≤1000000) :
  qC sz un mk lt h (.sl id sz 0 L.length)=some (.tup [],h.set id (.arr ety sz ((gB lt L).map mk++sp) cap)):=by
 have h1:(L.map mk++sp).take L.length=L.map mk:=by rw[List.take_append_of_le_length (by simp),List.take_of_length_le (by simp)]
 have hp:=(uV lt L).length_eq
 simp only[qC,g,List.drop_zero,h1,OK hu]
 have hb2:L.length<4611686018427387904:=by omega
 rw[if_pos (by first|exact⟨trivial,trivial,hl,by simp,hb2⟩|exact⟨trivial,trivial,hl,by simp⟩)]
 simp only[cF,List.take_zero,List.nil_append,Nat.zero_add,List.length_map,hp]
 rw[List.drop_append_of_le_length (by simp),List.drop_of_length_le (by simp)]
 rfl
theorem i7(id:Nat)(sp:List DV)(cap:Option Nat)(h:aA)(L:List Int)(g:h.get id=some (.arr 3 1 (L.map bW++sp) cap))(hl:h.lim≤id)(wf:WF h)(hb:L.length≤1000000) :
  ∃ Kb,fc D 142 [.sl id 1 0 L.length] h=some (.tup [],Kb)∧L8 id sp cap h Kb (Lx L):=by
 have hs:=Cy (un:=unI) (mk:=bW) (lt:=ltZ) (fun _=>rfl) g hl hb
 refine⟨_,(t7 _ h).trans hs,cN wf g,rfl,rfl,wf.set,fun k hk=>aS (aC g) hk⟩
theorem Tm(h:aA):fc D 142 [.nsl] h=some (.tup [],h):=t7 _ h
end Go.Dm.Tc
/-
AdvertsOrder: numbers sorted,and the same ones struck: the walk.
-/
namespace Go.Dm.Tc
def gI(L:List Int):Prop:=L.Pairwise (·<·)
theorem Cr{A:List Int}{v:Int}(h:gI A)(hv:∀a∈A,a<v):gI (A++[v]):=by
 unfold gI at *
 rw[List.pairwise_append]
 exact⟨h,List.pairwise_singleton ..,fun a ha b hb=>by rw[List.mem_singleton.1 hb];exact hv a ha⟩
theorem rN{L:List Int}{p:Nat}(h:p<L.length):L.take (p+1)=L.take p++[atL L p]:=by
 rw[List.take_succ,List.getElem?_eq_getElem h,lT h];rfl
theorem Ky{M:List Int}{k:Nat}(h:k<M.length)(v:Int):(M.set k v).take (k+1)=M.take k++[v]:=by
 rw[rN (by simpa using h)]
 congr 1
 ·exact List.take_set_of_le (Nat.le_refl _)
 ·simp[atL,h]
structure vW(L M:List Int)(k p:Nat):Prop where
 len:M.length=L.length
 k1:1≤k
 kp:k<p
 pl:p≤L.length
 tail:∀i,p-1≤i→atL M i=atL L i
 strict:gI (M.take k)
 mem:∀x,x∈M.take k↔x∈L.take p
 last:atL M (k-1)=atL L (p-1)
theorem vW.start{L:List Int}{k:Nat}(hs:gI (L.take k))(h1:1≤k)(hk:k<L.length)(he:atL L k=atL L (k-1)):vW L L k (k+1):=by
 refine⟨rfl,h1,by omega,by omega,fun _ _=>rfl,hs,fun x=>?_,by simp[he]⟩
 rw[rN hk,List.mem_append,List.mem_singleton]
 constructor
 ·exact .inl
 ·rintro(h|h)
  ·exact h
  ·rw[h,he]
   have:k-1<L.length:=by omega
   rw[lT this]
   exact List.mem_take_iff_getElem.2 ⟨k-1,by omega,rfl⟩
theorem vW.same{L M:List Int}{k p:Nat}(h:vW L M k p)(hp:p<L.length)(he:atL L p=atL L (p-1)):vW L M k (p+1):=by
 refine⟨h.len,h.k1,by have:=h.kp;omega,by omega,fun i hi=>h.tail i (by omega),h.strict,fun x=>?_,by rw[h.last];simp[he]⟩
 rw[h.mem,rN hp,List.mem_append,List.mem_singleton]
 constructor
 ·exact .inl
 ·rintro(q|q)
  ·exact q
  ·rw[q,he]
   have hkp:=h.kp
   have:p-1<L.length:=by omega
   rw[lT this]
   exact List.mem_take_iff_getElem.2 ⟨p-1,by omega,rfl⟩
theorem vW.more{L M:List Int}{k p:Nat}(h:vW L M k p)(hs:L.Pairwise (·≤·))(hp:p<L.length)(he:atL L p≠atL L (p-1)):vW L (M.set k (atL L p)) (k+1) (p+1):=by
 have hkp:=h.kp
 have LN:=h.k1
 have hkM:k<M.length:=by rw[h.len];omega
 have aZ:atL L (p-1)<atL L p:=by
  have:=List.pairwise_iff_getElem.1 hs (p-1) p (by omega) hp (by omega)
  rw[←lT (by omega:p-1<L.length),←lT hp]at this
  omega
 refine⟨by simpa using h.len,by omega,by omega,by omega,?_,?_,?_,?_⟩
 ·intro i hi
  have:atL (M.set k (atL L p)) i=atL M i:=by
   unfold atL
   simp only[List.getD_eq_getElem?_getD,List.getElem?_set]
   rw[if_neg (by omega)]
  rw[this]
  exact h.tail i (by omega)
 ·rw[Ky hkM]
  refine Cr h.strict fun a ha=>?_
  have cB:a≤atL M (k-1):=by
   obtain⟨i,hi,rfl⟩:=List.mem_take_iff_getElem.1 ha
   by_cases e:i=k-1
   ·subst e;rw[lT (by omega)];exact Int.le_refl _
   ·have:=List.pairwise_iff_getElem.1 h.strict i (k-1) (by simp;omega) (by simp;omega) (by omega)
    simp only[List.getElem_take]at this
    rw[lT (by omega)];omega
  rw[h.last]at cB
  omega
 ·intro x
  rw[Ky hkM,rN hp,List.mem_append,List.mem_append,h.mem]
 ·have:atL (M.set k (atL L p)) (k+1-1)=atL L p:=by simp[atL,hkM]
  rw[this];rfl
theorem m5(S:List Fr)(P:Res→Prop)(id n k0:Nat)(L:List Int)(sp:List DV)(cap:Option Nat)(h:aA)(hl:h.lim≤id)(hn:n≤1000000)(hs:L.Pairwise (·≤·))(hL:L.length=n)(He:k0≤n) :
  ∀(j p k:Nat) (M:List Int) (f:eI) (h':aA),L8 id sp cap h h' M→vW L M k p→k0<p→p+j=n→f 0=.sl id 1 0 n→f 3=.int .i64 k→f 4=.sl id 1 k0 (n-k0)→f 5=.int .i64 ((p-k0:Nat):Int) →
  (∀k' M' f' Kb,f' 0=.sl id 1 0 n→f' 3=.int .i64 k'→L8 id sp cap h Kb M'→vW L M' k' n→P (ret D 61 S .normal f' Kb)) →
  P (run D 61 (.block 2::S) (.loop Nm) f h'):=by
 intro j
 induction j with
 | zero =>
  intro p k M f h' R I hk hp h0 h3 h4 h5 hP
  have hpn:p=n:=by omega
  subst hpn
  rw[aJ Nm.eq_1]
  simp[h0,h3,h4,h5]
  exact hP k M _ h' (by simp[h0]) (by simp[h3]) R I
 | succ j ih =>
  intro p k M f h' R I hk hp h0 h3 h4 h5 hP
  have hkp:=I.kp
  have hML:M.length=n:=by rw[I.len,hL]
  have hpn:p<n:=by omega
  have hx:∀i,i<n→(M.map bW++sp)[i]?=some (.int .i64 (atL M i)):=fun i hi=>by
   rw[List.getElem?_append_left (by simp;omega),List.getElem?_map,List.getElem?_eq_getElem (by omega),lT (by omega)];rfl
  have Iu:=hx p hpn
  have Ma:=hx (p-1) (by omega)
  have hxk:=hx k (by omega)
  rw[I.tail p (by omega)]at Iu
  rw[I.tail (p-1) (by omega)]at Ma
  have g:=R.get
  have Pw:h'.lim≤id:=by rw[R.lim];exact hl
  have PC:=aC g
  have DR:=R.wf
  have tZ:aQ 1 (.sl id 1 k0 (n-k0)) (.int .i64 ((p-k0:Nat):Int))=some (.ptr id 1 p 0):=by
   have:p-k0<n-k0:=by omega
   simp[aQ,asI,this];omega
  have Xd:IntKind.i64.wrap (((p-k0:Nat):Int)-1)=((p-k0-1:Nat):Int):=by rw[bG (by omega) (by omega)];omega
  have hw2:IntKind.i64.wrap (((p-k0:Nat):Int)+1)=((p+1-k0:Nat):Int):=by rw[bG (by omega) (by omega)];omega
  have VO:IntKind.i64.wrap ((k:Int)+1)=((k+1:Nat):Int):=by rw[bG (by omega) (by omega)];omega
  have E1:aQ 1 (.sl id 1 k0 (n-k0)) (.int .i64 ((p-k0-1:Nat):Int))=some (.ptr id 1 (p-1) 0):=by
   have:p-k0-1<n-k0:=by omega
   simp[aQ,asI,this];omega
  have BM:aQ 1 (.sl id 1 0 n) (.int .i64 (k:Int))=some (.ptr id 1 k 0):=by
   have:k<n:=by omega
   simp[aQ,asI,this]
  have aZ:((p-k0:Nat):Int)<((n-k0:Nat):Int):=by omega
  have pX:p-k0<n-k0:=by omega
  rw[aJ Nm.eq_1]
  by_cases hc:atL L p=atL L (p-1)
  ·simp[h0,h3,h4,h5,g,Iu,Ma,Pw,PC,DR,Xd,hw2,VO,tZ,E1,BM,aZ,pX,hc]
   generalize hF:upd _ 5 _=F
   exact ih (p+1) k M F h' R (I.same (by omega) hc) (by omega) (by omega) (by rw[←hF];simp[h0]) (by rw[←hF];simp[h3]) (by rw[←hF];simp[h4]) (by rw[←hF];simp) hP
  ·simp[h0,h3,h4,h5,g,Iu,Ma,Pw,PC,DR,Xd,hw2,VO,tZ,E1,BM,aZ,pX,hc,hxk]
   generalize hF:upd _ 5 _=F
   have eD:(M.map bW++sp).set k (.int .i64 (atL L p))=(M.set k (atL L p)).map bW++sp:=by
    rw[List.set_append_left _ _ (by simp;omega),List.map_set];rfl
   rw[eD]
   have R':L8 id sp cap h (h'.set id (.arr 3 1 ((M.set k (atL L p)).map bW++sp) cap)) (M.set k (atL L p)) :=
    ⟨by rw[cO DR PC,if_pos rfl],R.n,R.lim,DR.set,fun i hi=>by rw[cO DR PC,if_neg hi];exact R.oth i hi⟩
   exact ih (p+1) (k+1) _ F _ R' (I.more hs (by omega) hc) (by omega) (by omega) (by rw[←hF];simp[h0]) (by rw[←hF];simp) (by rw[←hF];simp[h4]) (by rw[←hF];simp) hP
def SB(id:Nat)(cap:Option Nat)(h:aA)(L:List Int)(r:Res):Prop :=
 ∃ N sp' Kb,fin [.t 2] r=some (.sl id 1 0 N.length,Kb)∧L8 id sp' cap h Kb N∧gI N∧(∀x,x∈N↔x∈L)∧N.length≤L.length
theorem l9(id n:Nat)(L:List Int)(sp:List DV)(cap:Option Nat)(h:aA)(hl:h.lim≤id)(hn:n≤1000000)(hs:L.Pairwise (·≤·))(hL:L.length=n)(g:h.get id=some (.arr 3 1 (L.map bW++sp) cap))(wf:WF h) :
  ∀(j k:Nat) (f:eI),gI (L.take k)→1≤k→k+j=n→f 0=.sl id 1 0 n→f 3=.int .i64 k →
  SB id cap h L (run D 61 [.block 0,.seq Yf] (.loop Nl) f h):=by
 have R:L8 id sp cap h h L:=⟨g,rfl,rfl,wf,fun _ _=>rfl⟩
 have PC:=aC g
 intro j
 induction j with
 | zero =>
  intro k f cS h1 hk h0 h3
  have Rg:k=n:=by omega
  subst Rg
  rw[aJ Nl.eq_1]
  simp[h0,h3,Yf]
  refine⟨L,sp,h,by rw[hL];rfl,R,by rw[←hL,List.take_length]at cS;exact cS,fun x=>Iff.rfl,Nat.le_refl _⟩
 | succ j ih =>
  intro k f cS h1 hk h0 h3
  have Rg:k<n:=by omega
  have hx:∀i,i<n→(L.map bW++sp)[i]?=some (.int .i64 (atL L i)):=fun i hi=>by
   rw[List.getElem?_append_left (by simp;omega),List.getElem?_map,List.getElem?_eq_getElem (by omega),lT (by omega)];rfl
  have Iu:=hx k Rg
  have Ma:=hx (k-1) (by omega)
  have Xd:IntKind.i64.wrap ((k:Int)-1)=((k-1:Nat):Int):=by rw[bG (by omega) (by omega)];omega
  have VO:IntKind.i64.wrap ((k:Int)+1)=((k+1:Nat):Int):=by rw[bG (by omega) (by omega)];omega
  have BM:∀i:Nat,i<n→aQ 1 (.sl id 1 0 n) (.int .i64 (i:Int))=some (.ptr id 1 i 0):=fun i hi=>by
   simp[aQ,asI,hi]
  have tZ:=BM k Rg
  have E1:=BM (k-1) (by omega)
  rw[aJ Nl.eq_1]
  by_cases hc:atL L k=atL L (k-1)
  ·have D5:fC h 1 (.sl id 1 0 n) (some (.int .i64 (k:Int))) none=some (.sl id 1 k (n-k)):=by
    simp only[fC,g]
    rw[if_pos ⟨trivial,trivial,by simp;omega⟩]
    simp only[cH,asI]
    rw[if_pos ⟨by omega,by omega⟩]
    simp
   simp[h0,h3,g,Iu,Ma,hl,PC,wf,Xd,VO,tZ,E1,Rg,hc,D5]
   generalize hF:upd _ 5 _=F
   refine m5 _ (SB id cap h L) id n k L sp cap h hl hn hs hL (by omega) (n-(k+1)) (k+1) k L F h R (vW.start cS h1 (by omega) hc) (by omega) (by omega) (by rw[←hF];simp[h0]) (by rw[←hF];simp[h3]) (by rw[←hF];simp) (by rw[←hF];simp<;>omega) fun k' M f' Kb a0 a3 R' I=>?_
   have g':=R'.get
   have Pw:Kb.lim≤id:=by rw[R'.lim];exact hl
   have hkp:=I.kp
   have hML:M.length=n:=by rw[I.len,hL]
   have hsl1:fC Kb 1 (.sl id 1 0 n) (some (.int .i64 (k':Int))) none=some (.sl id 1 k' (n-k')):=by
    simp only[fC,g']
    rw[if_pos ⟨trivial,trivial,by simp;omega⟩]
    simp only[cH,asI]
    rw[if_pos ⟨by omega,by omega⟩]
    simp
   have wN:=wQ (z:=.int .i64 0) (len:=n-k') (off:=k') g' (by simp;omega) Pw (by omega)
   have DR:=R'.wf
   have hnn':=aC g'
   have eD:cF (M.map bW++sp) (List.replicate (n-k') (.int .i64 0)) k'=(M.take k').map bW++(List.replicate (n-k') (.int .i64 0)++sp):=by
    unfold cF
    have e1:(M.map bW++sp).take k'=(M.take k').map bW:=by
     rw[List.take_append_of_le_length (by simp;omega),List.map_take]
    have e2:(M.map bW++sp).drop (k'+(n-k'))=sp:=by
     have:k'+(n-k')=(M.map bW).length:=by simp;omega
     rw[this,List.drop_left]
    simp only[List.length_replicate]
    rw[e1,e2,List.append_assoc]
   obtain⟨X,hX⟩:∃ X,(M.take k').map bW++(List.replicate (n-k') (.int .i64 0)++sp)=X:=⟨_,rfl⟩
   have hXl:n≤X.length:=by rw[←hX];simp;omega
   rw[eD,hX]at wN
   have hsl2:∀H:aA,∀xs c,H.get id=some (.arr 3 1 xs c)→n≤xs.length→fC H 1 (.sl id 1 0 n) none (some (.int .i64 (k':Int)))=some (.sl id 1 0 k'):=fun H xs c hg bZ=>by
    simp only[fC,hg]
    rw[if_pos ⟨trivial,trivial,by omega⟩]
    simp only[cH,asI]
    rw[if_pos ⟨by omega,by omega⟩]
    simp
   have RU:(Kb.set id (.arr 3 1 (X) cap)).get id=some (.arr 3 1 (X) cap):=by
    rw[cO DR hnn',if_pos rfl]
   have hs2:=hsl2 _ _ _ RU hXl
   simp[FJ,a0,a3,hsl1,wN,zW,hs2]
   refine⟨M.take k',List.replicate (n-k') (.int .i64 0)++sp,(Kb.set id (.arr 3 1 (X) cap)),?_,⟨by rw[hX];exact RU,R'.n,R'.lim,DR.set,fun i hi=>by rw[cO DR hnn',if_neg hi];exact R'.oth i hi⟩,I.strict,fun x=>?_,by simp;omega⟩
   ·have:(M.take k').length=k':=by simp;omega
    rw[this];rfl
   ·rw[I.mem,←hL,List.take_length]
  ·have aZ:atL L (k-1)<atL L k:=by
    have:=List.pairwise_iff_getElem.1 hs (k-1) k (by omega) (by omega) (by omega)
    rw[←lT (by omega:k-1<L.length),←lT (by omega:k<L.length)]at this
    omega
   have hst':gI (L.take (k+1)):=by
    rw[rN (by omega)]
    refine Cr cS fun a ha=>?_
    obtain⟨i,hi,rfl⟩:=List.mem_take_iff_getElem.1 ha
    have cB:L[i]≤atL L (k-1):=by
     rw[lT (by omega)]
     by_cases e:i=k-1
     ·subst e;exact Int.le_refl _
     ·exact List.pairwise_iff_getElem.1 hs i (k-1) (by omega) (by omega) (by omega)
    omega
   simp[h0,h3,g,Iu,Ma,hl,PC,wf,Xd,VO,tZ,E1,Rg,hc,FI]
   generalize hF:upd _ 3 _=F
   exact ih (k+1) F hst' (by omega) (by omega) (by rw[←hF];simp[h0]) (by rw[←hF];simp)
theorem i6(id:Nat)(L:List Int)(sp:List DV)(cap:Option Nat)(h:aA)(hl:h.lim≤id)(hn:L.length≤1000000)(hs:L.Pairwise (·≤·))(g:h.get id=some (.arr 3 1 (L.map bW++sp) cap))(wf:WF h) :
  ∃ N sp' Kb,fc D 143 [.sl id 1 0 L.length] h=some (.sl id 1 0 N.length,Kb)∧L8 id sp' cap h Kb N∧gI N∧(∀x,x∈N↔x∈L)∧N.length≤L.length:=by
 rw[WN,aM _ _ _ _ (by simp[Nn])]
 simp[Nn]
 by_cases h2:L.length<2
 ·have PU:(L.length:Int)<2:=by omega
  simp[h2,PU]
  refine⟨L,sp,h,⟨rfl,rfl⟩,⟨g,rfl,rfl,wf,fun _ _=>rfl⟩,?_,fun x=>Iff.rfl,Nat.le_refl _⟩
  match L,h2 with
  | [],_=>exact List.Pairwise.nil
  | [a],_=>exact List.pairwise_singleton ..
 ·have PU:¬(L.length:Int)<2:=by omega
  simp[h2,PU]
  generalize hF:upd _ 3 _=F
  refine l9 id L.length L sp cap h hl hn hs rfl g wf (L.length-1) 1 F ?_ (Nat.le_refl _) (by omega) (by rw[←hF];simp) (by rw[←hF];simp)
  match L with
  | []=>simp[gI]
  | a::r=>simp[gI]
end Go.Dm.Tc
/-
AdvertsOrder: a new broker,whatever its neighbours.
-/
namespace Go.Dm.Tc
theorem KN(h:aA):fc D 143 [.nsl] h=some (.nsl,h):=by
 rw[WN,aM _ _ _ _ (by simp[Nn])]
 simp[Nn]
theorem s64(t:Bool)(me:Int)(bB:List Int)(hn:bB.length≤1000000):∃ nr,pcF D t64 [.int .i64 me,eL t 1 bW bB]=some (aW .none ⟨me,nr,[],[],[],[]⟩)∧gI nr∧(∀x,x∈nr↔x∈bB)∧nr.length≤bB.length:=by
 unfold pcF
 rw[aM _ _ _ _ (by simp[t64])]
 simp[t64,e88]
 generalize hA:bJ _ _ _ _ _=A
 obtain⟨v,K,rfl,o,x,_⟩:=sF (lo:=1) (ys:=bB.map bW) (fY ..) (by simp) (by simp) (by simp) (by simp;omega) (by decide) hA
 clear hA
 cases o with
 | nil hv hx =>
  subst hv
  have tA:bB=[]:=by simpa using hx
  subst tA
  have g0:=x.get 0 (by decide)
  simp at g0
  have kl:K.lim=0:=by rw[x.lim];simp
  have kw:=x.wf
  have kn:0<K.n:=aC g0
  refine⟨[],?_,List.Pairwise.nil,fun x=>Iff.rfl,Nat.le_refl _⟩
  simp[Tm,KN,turn,g0,kl,kw,kn,aU,aW,iE.none,tM]
 | arr id hv hg bI eN =>
  subst hv
  have g0:=x.get 0 (by decide)
  simp at g0
  have g1:K.get id=some (.arr 3 1 (bB.map bW++[]) none):=by simpa using hg
  obtain⟨K2,h2,R2⟩:=i7 id [] none K bB g1 bI x.wf (by omega)
  have D5:=(sZ bB).length_eq
  have eB:=aC hg
  obtain⟨N,sp,K3,h3,R3,sN,mN,lN⟩:=i6 id (Lx bB) [] none K2 (by rw[R2.lim];exact bI) (by omega) (Aa bB) R2.get R2.wf
  rw[D5]at h3
  have k0:K3.get 0=some (.arr 37 6 [.agg [.int .i64 0,.nsl,.nsl,.nsl,.nsl,.nsl]] (some 1)):=by
   rw[R3.oth 0 (by omega),R2.oth 0 (by omega),g0]
  have kl:K3.lim=0:=by rw[R3.lim,R2.lim,x.lim];simp
  have kw:=R3.wf
  have kn:0<K3.n:=aC k0
  have kg:=R3.get
  refine⟨N,?_,sN,fun y=>by rw[mN,(sZ bB).mem_iff],by omega⟩
  have i0:¬id=0:=by omega
  have i1:¬0=id:=by omega
  have w:OwnR 1 K3 (.sl id 1 0 N.length) 3 1 (N.map bW):=.arr id sp none (by simp) kg (by omega) eN
  have hr:∀o,resolve false (K3.set 0 o) 199 (.sl id 1 0 N.length)=some (eL false 1 bW N):=fun o =>
   OwnR.resolve (lo:=1) (h:=K3.set 0 o) (ety:=3) (sz:=1) (k:=20) (e:=bW) (ys:=N) (v:=.sl id 1 0 N.length) false (.arr id sp none (by simp) (by rw[cO kw kn,if_neg i0];exact kg) (by show K3.lim≤id;omega) eN) (fun y _=>(fD y).1) (by decide)
  have ws:=w.aO
  have we:=w.aF
  generalize (DV.sl id 1 0 N.length)=V at *
  simp[h2,h3,turn,k0,kl,kw,kn,hr,ws,we,aU,aW,iE.none,tM]
end Go.Dm.Tc
/-
What functions compute,part 30: texts compared;the search among constraints;two constraints in one.
-/
namespace Go.Dm.Tc
theorem XJ{a b:UInt8}(h1:¬a<b)(h2:¬b<a):a=b:=by
 rw[UInt8.lt_iff_toNat_lt]at h1 h2
 exact UInt8.toNat_inj.1 (by omega)
theorem S1:∀{a b:List UInt8},Go.Lib.compareBytes a b<0↔Go.Op.bytesLess a b=true
 | [],[]=>by simp[Go.Lib.compareBytes,Go.Op.bytesLess]
 | [],b::bs=>by simp[Go.Lib.compareBytes,Go.Op.bytesLess]
 | a::az,[]=>by simp[Go.Lib.compareBytes,Go.Op.bytesLess]
 | a::az,b::bz=>by
  have ih:=S1 (a:=az) (b:=bz)
  unfold Go.Lib.compareBytes Go.Op.bytesLess
  by_cases h1:a<b
  ·simp[h1]
  ·by_cases h2:b<a
   ·have:a≠b:=fun e=>by subst e;exact h1 h2
    simp[h1,h2,this]
   ·have:=XJ h1 h2
    simp[h1,h2,this,ih]
def WT(s:List UInt8)(c:yX):Int:=Go.Lib.compareBytes c.name s
end Go.Dm.Tc
/-
What functions compute,part 31: a predicate Eb of constraints.
-/
namespace Go.Dm.Tc
def LD(p:dR):Prop:=(p.map (·.name)).Pairwise fun a b=>Go.Op.bytesLess a b=true
theorem LD.mono{p:dR}(h:LD p)(s:List UInt8):∀i j (hi:i<p.length) (hj:j<p.length),i≤j→WT s p[j]<0→WT s p[i]<0:=by
 intro i j hi hj LO hc
 unfold WT at *
 rw[S1]at *
 rcases Nat.lt_or_eq_of_le LO with aZ|rfl
 ·have:=List.pairwise_iff_getElem.1 h i j (by simpa using hi) (by simpa using hj) aZ
  simp only[List.getElem_map]at this
  exact Ij this hc
 ·exact hc
end Go.Dm.Tc
/-
What functions compute,part 32: pred.Make.
-/
namespace Go.Dm.Tc
end Go.Dm.Tc
/-
What functions compute,part 33: rel.Sample,rel.Joint,rel.Meets.
-/
namespace Go.Dm.Tc
theorem Ga:∀{p:dR} {n:Option (List UInt8)},jV n p=true→∀c∈p,kC c=true
 | [],_,_,c,h=>by cases h
 | x::r,n,h,c,hc=>by
  simp only[jV,Bool.and_eq_true]at h
  rcases List.mem_cons.1 hc with rfl|hc
  ·exact h.1.1
  ·exact Ga h.2 c hc
theorem jX.one{p:dR}(h:jX p):∀c∈p,kC c=true∧c.name.length≤1000000:=by
 intro c hc
 have h1:=h.right
 unfold qY at h1
 simp only[Bool.and_eq_true]at h1
 exact⟨Ga h1.1 c hc,h.names.2 c hc⟩
end Go.Dm.Tc
/-
What the reference's functions compute,part 9: two constraints in one.
-/
namespace Go.Dm.Tc
end Go.Dm.Tc
/-
What the reference's functions compute,part 10: a predicate Eb of constraints.
-/
namespace Go.Dm.Tc
theorem _root_.Go.Dm.OwnR.mapId{lo:Nat}{h:aA}{v:DV}{ety sz:Nat}{xs:List DV}(w:OwnR lo h v ety sz xs):Dm.mapId v=none:=by
 cases w with
 | nil hv _=>subst hv;rfl
 | arr _ _ _ hv=>subst hv;rfl
end Go.Dm.Tc
/-
What the reference's functions compute,part 11: its predicate Eb of constraints;do two predicates meet?
-/
namespace Go.Dm.Tc
end Go.Dm.Tc
/-
What functions compute,part 34: messages put out;to all neighbours but one.
-/
namespace Go.Dm.Tc
structure vV where
 to:Int
 kind:Int
 tree:ID
 id:ID
 pred:dR
 deriving DecidableEq,Inhabited
def oJ(o:vV):DV:=.agg [.int .i64 o.to,.int .i64 o.kind,.int .i64 o.tree.bK,.int .i64 o.tree.seq,.int .i64 o.id.bK,.int .i64 o.id.seq,dY o.pred,.isl false 0 []]
def Cp(es:List DV)(os:List vV):Prop:=es.length=os.length∧∀(tag:Bool) (h:aA) (n:Nat),21≤n→es.mapM (resolve tag h n)=some (os.map oJ)
theorem Cp.nil:Cp [] []:=⟨rfl,fun _ _ _ _=>rfl⟩
theorem Cp.append{a b:List DV}{x y:List vV}(h1:Cp a x)(h2:Cp b y):Cp (a++b) (x++y):=by
 refine⟨by simp[h1.1,h2.1],fun tag h n hn=>?_⟩
 rw[List.mapM_append,h1.2 tag h n hn,h2.2 tag h n hn]
 simp
def Zq(to k tc td ic id:Int)(pd ad:DV):DV:=.agg [.int .i64 to,.int .i64 k,.int .i64 tc,.int .i64 td,.int .i64 ic,.int .i64 id,pd,ad]
def Xb(pd:DV)(p:dR):Prop:=pd=dY p∨(pd=.nsl∧p=[])
def LC(ad:DV):Prop:=ad=.nsl∨ad=.isl false 0 []
theorem Xb.res{pd:DV}{p:dR}(h:Xb pd p)(tag:Bool)(hp:aA)(n:Nat)(hn:20≤n):resolve tag hp n pd=some (dY p):=by
 obtain⟨m,rfl⟩:∃ m,n=m+1:=⟨n-1,by omega⟩
 rcases h with rfl|⟨rfl,rfl⟩
 ·exact Tj ..
 ·rfl
theorem LC.res{ad:DV}(h:LC ad)(tag:Bool)(hp:aA)(n:Nat)(hn:20≤n):resolve tag hp n ad=some (.isl false 0 []):=by
 obtain⟨m,rfl⟩:∃ m,n=m+1:=⟨n-1,by omega⟩
 rcases h with rfl|rfl
 ·rfl
 ·rfl
theorem GY{to k tc td ic id:Int}{pd ad:DV}{p:dR}(hp:Xb pd p)(ha:LC ad)(tag:Bool)(h:aA)(n:Nat)(hn:21≤n):resolve tag h n (Zq to k tc td ic id pd ad)=some (oJ ⟨to,k,⟨tc,td⟩,⟨ic,id⟩,p⟩):=by
 obtain⟨m,rfl⟩:∃ m,n=m+1:=⟨n-1,by omega⟩
 obtain⟨q,rfl⟩:∃ q,m=q+1:=⟨m-1,by omega⟩
 have h1:=hp.res tag h (q+1) (by omega)
 have h2:=ha.res tag h (q+1) (by omega)
 unfold Zq oJ
 rw[P3]
 simp[h1,h2]
theorem Cp.one{to k tc td ic id:Int}{pd ad:DV}{p:dR}(hp:Xb pd p)(ha:LC ad):Cp [Zq to k tc td ic id pd ad] [⟨to,k,⟨tc,td⟩,⟨ic,id⟩,p⟩] :=
 ⟨rfl,fun tag h n hn=>by simp only[List.mapM_cons,List.mapM_nil,GY hp ha tag h n hn];rfl⟩
theorem wD(o:vV):kJ 20 (oJ o)∧Unl 22 (oJ o):=⟨pP (by
  intro x hx
  simp only[List.mem_cons,List.not_mem_nil,or_false]at hx
  rcases hx with rfl|rfl|rfl|rfl|rfl|rfl|rfl|rfl
  all_goals first|exact gU _ _|exact eX false 5 fZ o.pred|exact fun t h m hm=>by obtain⟨q,rfl,_⟩:=cL hm;rfl),rK (by
  intro x hx
  simp only[List.mem_cons,List.not_mem_nil,or_false]at hx
  rcases hx with rfl|rfl|rfl|rfl|rfl|rfl|rfl|rfl
  all_goals first|exact(jG _ _).mono (by decide)|exact(rJ o.pred).mono (by decide)|exact fun n hn=>by obtain⟨q,rfl,_⟩:=cL (k:=20) hn;simp[bA])⟩
theorem P7{lo:Nat}{h:aA}{v:DV}{ety:Nat}{es:List DV}{os:List vV}(w:OwnR lo h v ety 8 es)(r:Cp es os)(tag:Bool){n:Nat}(hn:22≤n):resolve tag h n v=some (eL tag 8 oJ os):=by
 obtain⟨m,rfl,hm⟩:=cL (k:=21) hn
 cases w with
 | nil hv hx =>
  subst hv;subst hx
  have:os=[]:=List.length_eq_zero_iff.1 r.1.symm
  subst this;rfl
 | arr id sp cap hv hg hl hi =>
  subst hv
  have yG:=r.2 tag h m hm
  simp only[Dm.resolve,hg,true_and,Nat.zero_add,List.length_append,Nat.le_add_right,if_true,List.drop_zero,List.take_left,yG]
  rfl
def lZ(bB:List Int)(but k tc td ic id:Int)(p:dR):List vV:=(bB.filter fun n=>!decide (n=but)).map fun n=>⟨n,k,⟨tc,td⟩,⟨ic,id⟩,p⟩
def nS(bB:List Int)(but k tc td ic id:Int)(pd ad:DV):List DV:=(bB.filter fun n=>!decide (n=but)).map fun n=>Zq n k tc td ic id pd ad
theorem xX{but k tc td ic id:Int}{pd ad:DV}{p:dR}(hp:Xb pd p)(ha:LC ad):∀(bB:List Int),Cp (nS bB but k tc td ic id pd ad) (lZ bB but k tc td ic id p)
 | []=>Cp.nil
 | x::r=>by
  have ih:=xX (but:=but) (k:=k) (tc:=tc) (td:=td) (ic:=ic) (id:=id) hp ha r
  unfold nS lZ at *
  by_cases hx:x=but
  ·simp only[List.filter_cons,hx,decide_true,Bool.not_true,Bool.false_eq_true,if_false];exact ih
  ·simp only[List.filter_cons,hx,decide_false,Bool.not_false,if_true,List.map_cons]
   exact Cp.append (Cp.one (to:=x) hp ha) ih
theorem l175(t:iE)(b:aL)(but k tc td ic id:Int)(pd ad:DV)(N:Nat)(ta tb:Nat)(hl:b.bB.length≤1000000)(h0:aA)(g0:h0.get N=some (.arr ta 6 [aW t b] (some 1)))(g1:h0.get (N+1)=some (.arr tb 7 [.agg [.int .i64 k,.int .i64 tc,.int .i64 td,.int .i64 ic,.int .i64 id,pd,ad]] (some 1)))(Pw:h0.lim≤N) :
  ∀(rest:List Int) (i:Nat) (es:List DV) (v:DV) (f:eI) (h:aA),b.bB.drop i=rest→es.length≤i→f 1=.int .i64 but→f 3=.ptr N 6 0 0→f 5=.ptr (N+1) 7 0 0→f 7=v→f 11=eL t.bB 1 bW b.bB→f 12=.int .i64 b.bB.length→f 13=.int .i64 i→OwnR (N+2) h v 206 8 es→Ext (N+2) h0 h →
  ∃ v' h',fin [.t 6] (run D 28 [.block 0,.seq Yc] (.loop Ni) f h)=some (v',h')∧OwnR (N+2) h' v' 206 8 (es++nS rest but k tc td ic id pd ad)∧Ext (N+2) h0 h':=by
 intro rest
 induction rest with
 | nil =>
  intro i es v f h hd he h1 h3 h5 h7 Iy RX h13 ho x
  have hi:=iD hd
  have:¬(i<b.bB.length):=by omega
  rw[aJ Ni.eq_1]
  simp[Yc,RX,h13,this,h7]
  first
   | exact⟨_,_,⟨rfl,rfl⟩,by simpa[nS]using ho,x⟩
   | exact⟨by simpa[nS]using ho,x⟩
 | cons y rest ih =>
  intro i es v f h hd he h1 h3 h5 h7 Iy RX h13 ho x
  obtain⟨hi,JI,pV⟩:=jO hd
  have a0:=(x.get N (by omega)).trans g0
  have a1:=(x.get (N+1) (by omega)).trans g1
  rw[aJ Ni.eq_1]
  by_cases hy:y=but
  ·subst hy
   simp[h1,h3,h5,h7,Iy,RX,h13,hi,JI,bW]
   rw[bG (by omega) (by omega)]
   generalize hF:upd _ 13 _=F
   have hr:nS (y::rest) y k tc td ic id pd ad=nS rest y k tc td ic id pd ad:=by simp[nS]
   rw[hr]
   refine ih (i+1) es v F h pV (by omega) ?_ ?_ ?_ ?_ ?_ ?_ ?_ ho x
   all_goals (rw[←hF];simp[h1,h3,h5,h7,Iy,RX])
  ·simp[h1,h3,h5,h7,Iy,RX,h13,hi,JI,hy,a1,bW]
   generalize hA:bF _ _ _ _ _ _=A
   obtain⟨v',K,rfl,p',x',_⟩:=OwnR.append (ho.push) (by simp[x.wf]) (by have:=x.le;simp;omega) (by have:=x.le;have:=x.lim;simp;omega) hA (by simp;omega) (by decide)
   clear hA
   simp[h13]
   rw[bG (by omega) (by omega)]
   generalize hF:upd _ 13 _=F
   have hr:nS (y::rest) but k tc td ic id pd ad=Zq y k tc td ic id pd ad::nS rest but k tc td ic id pd ad:=by simp[nS,hy]
   obtain⟨v2,K2,k1,k2,k3⟩:=ih (i+1) (es++[Zq y k tc td ic id pd ad]) v' F K pV (by simp;omega) (by rw[←hF];simp[h1]) (by rw[←hF];simp[h3]) (by rw[←hF];simp[h5]) (by rw[←hF];simp) (by rw[←hF];simp[Iy]) (by rw[←hF];simp[RX]) (by rw[←hF];simp) (by simpa[Zq]using p') (x.push.trans x')
   exact⟨v2,K2,k1,by rw[hr];simpa using k2,k3⟩
theorem i5{h:aA}{A:Option (DV×aA)}{t:iE}{b:aL}{but k tc td ic id:Int}{pd ad:DV}(hA:fc D 175 [aW t b,.int .i64 but,.agg [.int .i64 k,.int .i64 tc,.int .i64 td,.int .i64 ic,.int .i64 id,pd,ad]] h=A)(hl:b.bB.length≤1000000)(wf:WF h)(bI:h.lim≤h.n) :
  ∃ v' h',A=some (v',h')∧OwnR h.n h' v' 206 8 (nS b.bB but k tc td ic id pd ad)∧Ext h.n h h':=by
 subst hA
 rw[e175,aM _ _ _ _ (by simp[FF])]
 simp[FF]
 generalize hF:upd _ 13 _=F
 generalize hH:aA.push _ _=H0
 have hn:h.n+2≤H0.n:=by rw[←hH];simp
 have g0:H0.get h.n=some (.arr 37 6 [aW t b] (some 1)):=by rw[←hH];simp
 have g1:H0.get (h.n+1)=some (.arr 49 7 [.agg [.int .i64 k,.int .i64 tc,.int .i64 td,.int .i64 ic,.int .i64 id,pd,ad]] (some 1)):=by rw[←hH];simp
 have hw:WF H0:=by rw[←hH];simp[wf]
 have hm:H0.lim≤h.n:=by rw[←hH];simpa using bI
 obtain⟨v',h',k1,k2,k3⟩:=l175 t b but k tc td ic id pd ad h.n _ _ hl H0 g0 g1 hm b.bB 0 [] .nsl F H0 rfl (by simp) (by rw[←hF];simp) (by rw[←hF];simp) (by rw[←hF];simp) (by rw[←hF];simp) (by rw[←hF];simp) (by rw[←hF];simp) (by rw[←hF];simp) (.nil rfl rfl) (.refl hn hw)
 refine⟨v',h',k1,by simpa using k2.lower (by omega:h.n≤h.n+2),?_⟩
 have k4:=k3.lower (by omega:h.n≤h.n+2)
 refine⟨k4.le,by rw[k4.lim,←hH];simp,fun id eB=>?_,k4.wf⟩
 rw[k4.get id eB,←hH]
 have e1:¬id=h.n:=by omega
 have e2:¬id=h.n+1:=by omega
 simp[e1,e2]
end Go.Dm.Tc
/-
What functions compute,part 35: an advertisement comes by a link.
-/
namespace Go.Dm.Tc
structure ZL(b:aL)(k:Nat):Prop where
 bB:b.bB.length≤100000
 adv:b.aY.length≤100000
 seen:b.seen.length≤100000
 own:b.kR.length≤100000
 ent:b.entries.length+k≤100000
theorem ZL.less{b:aL}{k m:Nat}(h:ZL b k)(hm:m≤k):ZL b m:=⟨h.bB,h.adv,h.seen,h.own,by have:=h.ent;omega⟩
theorem DL(b:aL)(e:bM):(vT b e).1.bB=b.bB∧(vT b e).1.aY=b.aY∧(vT b e).1.seen=b.seen∧(vT b e).1.kR=b.kR∧(vT b e).1.me=b.me∧(vT b e).1.entries.length≤b.entries.length+1:=by
 unfold vT
 split
 ·exact⟨rfl,rfl,rfl,rfl,rfl,by simp only[Uw];omega⟩
 ·exact⟨rfl,rfl,rfl,rfl,rfl,by simp⟩
theorem ZL.add{b:aL}{k:Nat}(h:ZL b (k+1))(e:bM):ZL (vT b e).1 k:=by
 obtain⟨h1,h2,h3,h4,_,h5⟩:=DL b e
 have:=h.ent
 exact⟨by rw[h1];exact h.bB,by rw[h2];exact h.adv,by rw[h3];exact h.seen,by rw[h4];exact h.own,by omega⟩
end Go.Dm.Tc
/-
TreesTells: the plain law: a path is the same with more room;linked is linked both ways round.
-/
namespace Go.Dm.Tc
theorem yB:∀{n:Nat} {l:List Int},l.Nodup→(∀x∈l,0≤x∧x<n)→l.length≤n
 | 0,[],_,_=>Nat.le_refl _
 | 0,a::l,_,h=>by have:=h a (List.mem_cons_self ..);omega
 | n+1,l,hd,h=>by
  have h1:(l.erase (n:Int)).length≤n:=yB (hd.erase _) fun x hx=>by
   have hm:=(hd.mem_erase_iff).1 hx
   have:=h x hm.2
   have:=hm.1
   omega
  rw[List.length_erase]at h1
  split at h1<;>omega
def yH(m:Int)(l:Int×Int):Bool:=decide (0≤l.1∧l.1<m∧0≤l.2∧l.2<m∧l.1≠l.2)
def cU(m:Int)(L:List (Int×Int))(a b:Int):Bool:=L.any fun l=>yH m l && (decide (l.1=a∧l.2=b) || decide (l.1=b∧l.2=a))
theorem yI(m:Int)(L:List (Int×Int))(a b:Int):cU m L a b=cU m L b a:=by
 unfold cU;congr 1;funext l;rw[Bool.or_comm]
def fL(m:Int)(b:Int):List (Int×Int)→List Int
 | []=>[]
 | l::r=>if yH m l then(if l.1=b then l.2::fL m b r else if l.2=b then l.1::fL m b r else fL m b r)else fL m b r
theorem Bs(m:Int)(a b:Int):∀L:List (Int×Int),(b∈fL m a L↔cU m L a b=true)
 | []=>by simp[fL,cU]
 | l::r=>by
  have ih:=Bs m a b r
  have hl:cU m (l::r) a b=((yH m l && (decide (l.1=a∧l.2=b) || decide (l.1=b∧l.2=a))) || cU m r a b):=rfl
  rw[hl,fL]
  by_cases hm:yH m l=true
  ·have cT:l.1≠l.2:=by have:=of_decide_eq_true hm;exact this.2.2.2.2
   rw[if_pos hm]
   by_cases h1:l.1=a
   ·rw[if_pos h1]
    have h2:¬(l.1=b∧l.2=a):=fun e=>cT (h1.trans e.2.symm)
    simp[hm,h1,ih]
    constructor
    ·rintro(rfl|h)
     ·exact .inl (.inl rfl)
     ·exact .inr h
    ·rintro((rfl|⟨e1,e2⟩)|h)
     ·exact .inl rfl
     ·exact absurd (h1.trans e2.symm) cT
     ·exact .inr h
   ·rw[if_neg h1]
    by_cases h2:l.2=a
    ·rw[if_pos h2]
     simp[hm,h1,h2,ih]
     exact⟨fun h=>h.imp Eq.symm id,fun h=>h.imp Eq.symm id⟩
    ·rw[if_neg h2]
     simp[hm,h1,h2,ih]
  ·rw[if_neg hm]
   simp[hm,ih]
def GQ(p:List Int):Int:=((p.filter fun x=>decide (x=-1)).length:Int)
end Go.Dm.Tc
/-
Graphs: whom a broker is bB;are two linked.
-/
namespace Go.Dm.Tc
def aV(l:Int×Int):DV:=.agg [.int .i64 l.1,.int .i64 l.2]
theorem sU(x:Int×Int):kJ 20 (aV x)∧Unl 22 (aV x):=kD ⟨x.1,x.2⟩
theorem Jw(id sz:Nat)(k:IntKind):jJ 2 1 (.ptr id sz 0 0) (.int k 0)=some (.ptr id sz 0 0):=rfl
theorem Jv(id sz:Nat)(k:IntKind):jJ 2 1 (.ptr id sz 0 0) (.int k 1)=some (.ptr id sz 0 1):=rfl
theorem s190(m b:Int)(x:DV):pcF D W2 [.agg [.int .i64 m,x],.int .i64 b]=some (.bool (decide (0≤b∧b<m))):=by
 unfold pcF
 rw[aM _ _ _ _ (by simp[W2])]
 by_cases h:0≤b<;>by_cases h':b<m<;>simp[W2,h,h']
theorem UM(t:Bool)(m:Int)(L:List (Int×Int))(l:Int×Int):pcF D Np [.agg [.int .i64 m,eL t 2 aV L],aV l]=some (.bool (yH m l)):=by
 obtain⟨a,b⟩:=l
 have hf:∀h,resolve true h 199 (eL t 2 aV L)=some (eL t 2 aV L):=fun h=>eX _ _ _ _ true h 199 (by decide)
 unfold pcF
 rw[aM _ _ _ _ (by simp[Np])]
 by_cases h1:0≤a∧a<m<;>by_cases h2:0≤b∧b<m<;>by_cases h3:a=b<;>simp[Np,aV,e190,s190,yH,h1,h2,h3,hf,Jw,Jv]
theorem l76(P:Res→Prop)(t:Bool)(m b:Int)(L:List (Int×Int))(hL:L.length≤1000000)(h0:aA)(g0:h0.get 0=some (.arr 76 2 [.agg [.int .i64 m,eL t 2 aV L]] (some 1)))(bI:h0.lim=0) :
  ∀(rest:List (Int×Int)) (iR:List Int) (i:Nat) (f:eI) (h:aA),L.drop i=rest→iR.length≤i→f 1=.int .i64 b→f 2=.ptr 0 2 0 0→f 9=eL t 2 aV L→f 10=.int .i64 L.length→f 11=.int .i64 i→OwnR 1 h (f 5) 3 1 (iR.map bW)→Ext 1 h0 h →
  (∀F H,OwnR 1 H (F 5) 3 1 ((iR++fL m b rest).map bW)→Ext 1 h0 H→P (run D 45 [] Rv F H)) →
  P (run D 45 [.block 0,.seq Rv] (.loop N1) f h):=by
 intro rest
 induction rest with
 | nil =>
  intro iR i f h hd ha h1 h2 h9 vC Iy ho hx dO
  have hi:=iD hd
  have:¬(i<L.length):=by omega
  rw[aJ N1.eq_1]
  simp[vC,Iy,this]
  exact dO _ _ (by simpa[fL]using ho) hx
 | cons l rest ih =>
  intro iR i f h hd ha h1 h2 h9 vC Iy ho hx dO
  obtain⟨hi,he,pV⟩:=jO hd
  have hlH:h.lim=0:=hx.lim.trans bI
  have Hg:=(hx.get 0 (by decide)).trans g0
  have hnh:=hx.le
  have n0:¬0=h.n:=by omega
  have hw:IntKind.i64.wrap ((i:Int)+1)=(i:Int)+1:=bG (by omega) (by omega)
  have hf:∀h,resolve true h 199 (eL t 2 aV L)=some (eL t 2 aV L):=fun h=>eX _ _ _ _ true h 199 (by decide)
  obtain⟨u,v⟩:=l
  have hm:pcF D Np [.agg [.int .i64 m,eL t 2 aV L],.agg [.int .i64 u,.int .i64 v]]=some (.bool (yH m (u,v))):=UM t m L (u,v)
  rw[aJ N1.eq_1]
  by_cases hc:yH m (u,v)=true
  ·by_cases hu:u=b
   ·have hN:fL m b ((u,v)::rest)=v::fL m b rest:=by rw[fL,if_pos hc,if_pos hu]
    rw[hN,List.append_cons]at dO
    subst hu
    simp[h1,h2,h9,vC,Iy,hi,he,hlH,Hg,n0,aV,CK,hm,hc,hf,Jw,Jv]
    generalize hA:bF _ _ _ _ _ _=A
    obtain⟨w',h',rfl,Jy,tA,_⟩:=ho.push.push.append hx.push.push.wf (hx.push.push.le) (by simp[hlH]) hA (by simp;omega) (by decide)
    clear hA
    simp[Iy,hw]
    generalize hF:upd _ 11 _=F
    refine ih (iR++[v]) (i+1) F h' pV (by simp;omega) (by rw[←hF];simp[h1]) (by rw[←hF];simp[h2]) (by rw[←hF];simp[h9]) (by rw[←hF];simp[vC]) (by rw[←hF];simp) (by rw[←hF];simp;simpa[bW]using Jy) (hx.push.push.trans tA) dO
   ·by_cases hv:v=b
    ·have hN:fL m b ((u,v)::rest)=u::fL m b rest:=by rw[fL,if_pos hc,if_neg hu,if_pos hv]
     rw[hN,List.append_cons]at dO
     subst hv
     simp[h1,h2,h9,vC,Iy,hi,he,hlH,Hg,n0,aV,CK,hm,hc,hf,Jw,Jv,hu]
     generalize hA:bF _ _ _ _ _ _=A
     obtain⟨w',h',rfl,Jy,tA,_⟩:=ho.push.push.append hx.push.push.wf (hx.push.push.le) (by simp[hlH]) hA (by simp;omega) (by decide)
     clear hA
     simp[Iy,hw]
     generalize hF:upd _ 11 _=F
     refine ih (iR++[u]) (i+1) F h' pV (by simp;omega) (by rw[←hF];simp[h1]) (by rw[←hF];simp[h2]) (by rw[←hF];simp[h9]) (by rw[←hF];simp[vC]) (by rw[←hF];simp) (by rw[←hF];simp;simpa[bW]using Jy) (hx.push.push.trans tA) dO
    ·have hN:fL m b ((u,v)::rest)=fL m b rest:=by rw[fL,if_pos hc,if_neg hu,if_neg hv]
     rw[hN]at dO
     simp[h1,h2,h9,vC,Iy,hi,he,hlH,Hg,n0,aV,CK,hm,hc,hf,Jw,Jv,hu,hv,hw]
     generalize hF:upd _ 11 _=F
     exact ih iR (i+1) F _ pV (by omega) (by rw[←hF];simp[h1]) (by rw[←hF];simp[h2]) (by rw[←hF];simp[h9]) (by rw[←hF];simp[vC]) (by rw[←hF];simp) (by rw[←hF];simp;exact ho.push) hx.push dO
  ·have hN:fL m b ((u,v)::rest)=fL m b rest:=by rw[fL,if_neg hc]
   rw[hN]at dO
   simp[h1,h2,h9,vC,Iy,hi,he,hlH,Hg,n0,aV,CK,hm,hc,hf,hw]
   generalize hF:upd _ 11 _=F
   exact ih iR (i+1) F _ pV (by omega) (by rw[←hF];simp[h1]) (by rw[←hF];simp[h2]) (by rw[←hF];simp[h9]) (by rw[←hF];simp[vC]) (by rw[←hF];simp) (by rw[←hF];simp;exact ho.push) hx.push dO
theorem HA(h:aA):fc D 143 [.nsl] h=some (.nsl,h):=by
 rw[WN,aM _ _ _ _ (by simp[Nn])]
 simp[Nn]
theorem s76(t:Bool)(m b:Int)(L:List (Int×Int))(hL:L.length≤1000000)(hn:(fL m b L).length≤12):∃ N,pcF D t76 [.agg [.int .i64 m,eL t 2 aV L],.int .i64 b]=some (eL false 1 bW N)∧gI N∧(∀x,x∈N↔x∈fL m b L)∧N.length≤12:=by
 unfold pcF
 rw[aM _ _ _ _ (by simp[t76])]
 simp[t76]
 generalize hF:upd _ 11 _=F
 generalize hH:aA.push _ _=H
 refine l76 (fun r=>∃ N,jS (fin [.t 4] r)=some (eL false 1 bW N)∧gI N∧(∀x,x∈N↔x∈fL m b L)∧N.length≤12) t m b L hL H (by rw[←hH];simp) (by rw[←hH];simp) L [] 0 F H rfl (Nat.zero_le _) (by rw[←hF];simp) (by rw[←hF];simp) (by rw[←hF];simp) (by rw[←hF];simp) (by rw[←hF];simp) (.nil (by rw[←hF];simp) rfl) (.refl (by rw[←hH];simp) (by rw[←hH];simp)) fun F K o x=>?_
 rw[List.nil_append]at o
 cases o with
 | nil hv hx =>
  have tA:fL m b L=[]:=by simpa using hx
  refine⟨[],?_,List.Pairwise.nil,fun y=>by rw[tA],by simp⟩
  simp[Rv,hv,Tm,HA,turn]
  rfl
 | arr id sp cap hv hg bI eN =>
  obtain⟨K2,h2,R2⟩:=i7 id sp cap K (fL m b L) hg bI x.wf (by omega)
  have D5:=(sZ (fL m b L)).length_eq
  obtain⟨N,sp',K3,h3,R3,sN,mN,lN⟩:=i6 id (Lx (fL m b L)) sp cap K2 (by rw[R2.lim];exact bI) (by omega) (Aa _) R2.get R2.wf
  rw[D5]at h3
  rw[List.length_map]at hv
  refine⟨N,?_,sN,fun y=>by rw[mN,(sZ _).mem_iff],by omega⟩
  have w:OwnR 1 K3 (.sl id 1 0 N.length) 3 1 (N.map bW):=.arr id sp' cap (by simp) R3.get (by rw[R3.lim,R2.lim];exact bI) eN
  have hout:=w.out (k:=22) (fun y _=>(fD y).1.mono (by decide)) (fun y _=>(fD y).2) (by decide)
  simp[Rv,hv,h2,h3,turn,-mL]
  exact hout
end Go.Dm.Tc
/-
A graph of numbers: right,seven brokers at most.
-/
namespace Go.Dm.Tc
def Xp(l:Int×Int):ID:=⟨l.1,l.2⟩
theorem Gu{L:List (Int×Int)}{a b:Int}:(⟨a,b⟩:ID)∈L.map Xp↔(a,b)∈L:=by
 rw[List.mem_map]
 constructor
 ·rintro⟨⟨u,v⟩,h,e⟩
  cases e;exact h
 ·exact fun h=>⟨_,h,rfl⟩
structure bR(m:Int)(L:List (Int×Int)):Prop where
 rng:∀l∈L,0≤l.1∧l.1<m∧0≤l.2∧l.2<m∧l.1≠l.2
 nd:L.Pairwise fun x y=>x≠y∧x≠(y.2,y.1)
def rR(L:List (Int×Int))(a b:Int):List (Int×Int):=if a=b∨(a,b)∈L∨(b,a)∈L then L else L++[(a,b)]
theorem bR.nil(m:Int):bR m []:=⟨fun l h=>by simp at h,List.Pairwise.nil⟩
theorem bR.put{m:Int}{L:List (Int×Int)}(h:bR m L){a b:Int}(ha:0≤a∧a<m)(hb:0≤b∧b<m):bR m (rR L a b):=by
 unfold rR
 split
 ·exact h
 ·rename_i hn
  have h1:a≠b:=fun e=>hn (.inl e)
  have h2:(a,b) ∉ L:=fun e=>hn (.inr (.inl e))
  have h3:(b,a) ∉ L:=fun e=>hn (.inr (.inr e))
  refine⟨fun l hl=>?_,?_⟩
  ·rcases List.mem_append.1 hl with hl|hl
   ·exact h.rng l hl
   ·rw[List.mem_singleton]at hl;subst hl;exact⟨ha.1,ha.2,hb.1,hb.2,h1⟩
  ·rw[List.pairwise_append]
   refine⟨h.nd,List.pairwise_singleton _ _,fun x hx y hy=>?_⟩
   rw[List.mem_singleton]at hy;subst hy
   exact⟨fun e=>h2 (e ▸ hx),fun e=>h3 (e ▸ hx)⟩
theorem Gf(L:List (Int×Int))(a b:Int):(rR L a b).length≤L.length+1:=by
 unfold rR;split<;>simp
theorem bR.toID_nd{m:Int}{L:List (Int×Int)}(h:bR m L):(L.map Xp).Nodup:=by
 rw[List.nodup_iff_pairwise_ne,List.pairwise_map]
 refine h.nd.imp fun {x y} LI e=>LI.1 ?_
 obtain⟨a,b⟩:=x;obtain⟨c,d⟩:=y
 cases e;rfl
theorem Cb{m a:Int}{L:List (Int×Int)}{x:Int}(h:x∈fL m a L):((a,x)∈L∨(x,a)∈L)∧0≤x∧x<m:=by
 rw[Bs]at h
 unfold cU at h
 rw[List.any_eq_true]at h
 obtain⟨l,hl,h2⟩:=h
 obtain⟨u,v⟩:=l
 rw[Bool.and_eq_true,Bool.or_eq_true]at h2
 have hm:=of_decide_eq_true h2.1
 rcases h2.2 with h3|h3
 ·have:=of_decide_eq_true h3
  obtain⟨e1,e2⟩:=this
  simp only at e1 e2 hm
  subst e1;subst e2
  exact⟨.inl hl,hm.2.2.1,hm.2.2.2.1⟩
 ·have:=of_decide_eq_true h3
  obtain⟨e1,e2⟩:=this
  simp only at e1 e2 hm
  subst e1;subst e2
  exact⟨.inr hl,hm.1,hm.2.1⟩
theorem Do{m a:Int}:∀{L:List (Int×Int)},(L.Pairwise fun x y=>x≠y∧x≠(y.2,y.1))→(fL m a L).Nodup
 | [],_=>List.nodup_nil
 | (u,v)::r,h=>by
  rw[List.pairwise_cons]at h
  have ih:=Do (m:=m) (a:=a) h.2
  rw[fL]
  split
  ·split
   ·rename_i e
    simp only at e
    subst e
    rw[List.nodup_cons]
    refine⟨fun hm=>?_,ih⟩
    rcases(Cb hm).1 with h1|h1
    ·exact(h.1 _ h1).1 rfl
    ·exact(h.1 _ h1).2 rfl
   ·split
    ·rename_i e
     simp only at e
     subst e
     rw[List.nodup_cons]
     refine⟨fun hm=>?_,ih⟩
     rcases(Cb hm).1 with h1|h1
     ·exact(h.1 _ h1).2 rfl
     ·exact(h.1 _ h1).1 rfl
    ·exact ih
  ·exact ih
theorem bR.bB{m:Int}{L:List (Int×Int)}(h:bR m L)(h0:0≤m)(h7:m≤12)(a:Int):(fL m a L).length≤12:=by
 have:=yB (n:=m.toNat) (Do (m:=m) (a:=a) h.nd) fun x hx=>by have:=(Cb hx).2;omega
 omega
structure Cq(x0 x1 x2:DV)(h:aA)(m:Int)(L:List (Int×Int)):Prop where
 g0:h.get 0=some (.arr 73 3 [.agg [x0,x1,x2]] (some 1))
 g1:h.get 1=some (.arr 76 2 [.agg [.int .i64 0,.nsl]] (some 1))
 g2:∃ v,h.get 2=some (.arr 76 2 [.agg [.int .i64 m,v]] (some 1))∧OwnR 5 h v 86 2 (L.map aV)
 g3:h.get 3=some (.mp (uB (L.map Xp)))
 g4:h.get 4=some (.arr 153 1 [.map 3] (some 1))
 lim:h.lim=0
 n:5≤h.n
 wf:WF h
theorem q71{x0 x1 x2:DV}{h:aA}{m:Int}{L:List (Int×Int)}(g:Cq x0 x1 x2 h m L)(ok:bR m L)(hl:L.length≤1000)(a b:Int) :
  ∃ h',fc D 71 [.int .i64 a,.int .i64 b,.ptr 4 1 0 0,.ptr 2 2 0 0] h=some (.tup [],h')∧Cq x0 x1 x2 h' m (rR L a b):=by
 obtain⟨g0,g1,⟨v,g2,ho⟩,g3,g4,lim,hn,wf⟩:=g
 have nd:=ok.toID_nd
 have l1:=yC nd a b
 have l2:=yC nd b a
 have Re:=fun(H:aA) (hl:H.lim≤3)=>M2 (h:=H) (id:=3) nd hl a b
 have e1:((⟨a,b⟩:ID)∈L.map Xp)=((a,b)∈L):=propext Gu
 have e2:((⟨b,a⟩:ID)∈L.map Xp)=((b,a)∈L):=propext Gu
 simp only[e1]at l1
 simp only[e2]at l2
 rw[e71,aM _ _ _ _ (by simp[t71])]
 by_cases h1:a=b
 ·have hp:rR L a b=L:=by rw[rR,if_pos (.inl h1)]
  rw[hp]
  refine⟨h,?_,⟨g0,g1,⟨v,g2,ho⟩,g3,g4,lim,hn,wf⟩⟩
  simp[t71,h1]
  rfl
 ·by_cases h2:(a,b)∈L
  ·have hp:rR L a b=L:=by rw[rR,if_pos (.inr (.inl h2))]
   rw[hp]
   refine⟨h,?_,⟨g0,g1,⟨v,g2,ho⟩,g3,g4,lim,hn,wf⟩⟩
   rw[decide_eq_true h2]at l1
   simp[t71,h1,g0,g1,g2,g3,g4,eF,fV,l1]
   rfl
  ·by_cases h3:(b,a)∈L
   ·have hp:rR L a b=L:=by rw[rR,if_pos (.inr (.inr h3))]
    rw[hp]
    refine⟨h,?_,⟨g0,g1,⟨v,g2,ho⟩,g3,g4,lim,hn,wf⟩⟩
    rw[decide_eq_false h2]at l1
    rw[decide_eq_true h3]at l2
    simp[t71,h1,g0,g1,g2,g3,g4,eF,fV,l1,l2]
    rfl
   ·have hp:rR L a b=L++[(a,b)]:=by rw[rR,if_neg (fun hh=>hh.elim h1 fun hh=>hh.elim h2 h3)]
    rw[hp]
    rw[decide_eq_false h2]at l1
    rw[decide_eq_false h3]at l2
    have E4:yV ⟨a,b⟩ (L.map Xp)=(L++[(a,b)]).map Xp:=by
     rw[yV,if_neg (fun hm=>h2 (Gu.1 hm)),List.map_append];rfl
    rw[E4]at Re
    have l3:3<h.n:=by omega
    have l4:2<h.n:=by omega
    simp[t71,h1,g0,g1,g2,g3,g4,eF,fV,l1,l2,kX,Re,lim,wf,l3]
    generalize hA:bF _ _ _ _ _ _=A
    obtain⟨v',K,rfl,o',x',_,_⟩:=Qv ((ho.aR wf (by decide) l3).push) (by simp[wf]) (by simp;omega) (by simp[lim]) hA (by simp;omega) (by decide)
    clear hA
    have G0:=x'.get 0 (by decide)
    have G1:=x'.get 1 (by decide)
    have G2:=x'.get 2 (by decide)
    have G3:=x'.get 3 (by decide)
    have G4:=x'.get 4 (by decide)
    have Kl:=x'.lim
    have Kw:=x'.wf
    have Kn:=x'.le
    have i0:¬0=h.n:=by omega
    have i1:¬1=h.n:=by omega
    have i2:¬2=h.n:=by omega
    have i3:¬3=h.n:=by omega
    have i4:¬4=h.n:=by omega
    simp[i0,i1,i2,i3,i4,g0,g1,g2,g3,g4,lim,wf,l3]at G0 G1 G2 G3 G4 Kl
    have k2:2<K.n:=by omega
    have ws:=o'.aO
    have we:=o'.aF
    simp[G2,Kl,Kw,k2,ws,we,turn]
    refine⟨_,rfl,⟨?_,?_,⟨v',?_,?_⟩,?_,?_,?_,?_,?_⟩⟩
    ·simp[Kw,k2,G0]
    ·simp[Kw,k2,G1]
    ·simp[Kw,k2]
    ·have o'':OwnR 5 K v' 86 2 ((L++[(a,b)]).map aV):=by simpa[aV]using o'
     exact o''.aR Kw (by decide) k2
    ·simp[Kw,k2,G3]
    ·simp[Kw,k2,G4]
    ·simp[Kl]
    ·simp;omega
    ·simp[Kw]
end Go.Dm.Tc
/-
A graph of numbers: the function's walk.
-/
namespace Go.Dm.Tc
def tU(under:List Int):Nat→List (Int×Int)
 | 0=>[]
 | n+1=>rR (tU under n) ((n:Int)+1) (bY (nA under (n+1)) 0 n)
def uT(m:Int):List Int→List (Int×Int)→List (Int×Int)
 | [],L=>L
 | x::r,L=>uT m r (rR L (bY x 0 (m-1)) (bY (IntKind.i64.wrap (x.tdiv 8)) 0 (m-1)))
def tH(m:Int)(under more:List Int):List (Int×Int):=uT m (more.take 8) (tU under (m-1).toNat)
theorem vY(under:List Int):∀n,(tU under n).length≤n
 | 0=>Nat.le_refl _
 | n+1=>by have:=Gf (tU under n) ((n:Int)+1) (bY (nA under (n+1)) 0 n);have:=vY under n;rw[tU];omega
theorem Ls(m:Int):∀(r:List Int) (L:List (Int×Int)),(uT m r L).length≤L.length+r.length
 | [],L=>by simp[uT]
 | x::r,L=>by
  rw[uT]
  have:=Ls m r (rR L (bY x 0 (m-1)) (bY (IntKind.i64.wrap (x.tdiv 8)) 0 (m-1)))
  have:=Gf L (bY x 0 (m-1)) (bY (IntKind.i64.wrap (x.tdiv 8)) 0 (m-1))
  simp;omega
theorem iF(n lo hi:Int)(h:lo≤hi):lo≤bY n lo hi∧bY n lo hi≤hi:=by
 have h1:0<hi-lo+1:=by omega
 have h2:=Int.tmod_lt_of_pos n h1
 have h3:=Int.lt_tmod_of_pos n h1
 unfold bY
 split<;>omega
theorem zC{m:Int}(under:List Int):∀n:Nat,(n:Int)+1≤m→bR m (tU under n)
 | 0,_=>bR.nil m
 | n+1,h=>by
  have:=iF (nA under (n+1)) 0 n (by omega)
  exact(zC under n (by omega)).put ⟨by omega,by omega⟩ ⟨by omega,by omega⟩
theorem Ug{m:Int}(h1:1≤m):∀(r:List Int) (L:List (Int×Int)),bR m L→bR m (uT m r L)
 | [],L,h=>h
 | x::r,L,h=>by
  have e1:=iF x 0 (m-1) (by omega)
  have e2:=iF (IntKind.i64.wrap (x.tdiv 8)) 0 (m-1) (by omega)
  exact Ug h1 r _ (h.put ⟨by omega,by omega⟩ ⟨by omega,by omega⟩)
theorem BQ{m:Int}(h1:1≤m)(under more:List Int):bR m (tH m under more):=Ug h1 _ _ (zC under _ (by omega))
theorem E6{m:Int}(h7:m≤7)(under more:List Int):(tH m under more).length≤14:=by
 have:=Ls m (more.take 8) (tU under (m-1).toNat)
 have:=vY under (m-1).toNat
 have:(more.take 8).length≤8:=by simp;omega
 unfold tH;omega
theorem l23a(S:List Fr)(P:Res→Prop)(x0 x2:DV)(tu:Bool)(under:List Int)(m:Int)(hm:1≤m∧m≤7) :
  ∀(k i:Nat) (f:eI) (h:aA),(i:Int)+k+1=m→Cq x0 (eL tu 1 bW under) x2 h m (tU under i)→f 1=.ptr 0 3 0 0→f 2=.ptr 1 2 0 0→f 3=.ptr 2 2 0 0→f 5=.func 71 [.ptr 4 1 0 0,.ptr 2 2 0 0]→f 6=.int .i64 ((i:Int)+1) →
  (∀F H,Cq x0 (eL tu 1 bW under) x2 H m (tU under (m-1).toNat)→F 1=.ptr 0 3 0 0→F 2=.ptr 1 2 0 0→F 3=.ptr 2 2 0 0→F 5=.func 71 [.ptr 4 1 0 0,.ptr 2 2 0 0]→P (run D 63 S O1 F H)) →
  P (run D 63 (.block 0::.seq O1::S) (.loop O0) f h):=by
 intro k
 induction k with
 | zero =>
  intro i f h hi g h1 h2 h3 h5 h6 dO
  obtain⟨v,g2,ho⟩:=g.g2
  have e1:i=(m-1).toNat:=by omega
  have e2:¬(i:Int)+1<m:=by omega
  rw[aJ O0.eq_1]
  simp[h3,h6,g2,e2]
  exact dO _ _ (by rw[←e1];exact g) (by simp[h1]) (by simp[h2]) (by simp[h3]) (by simp[h5])
 | succ k ih =>
  intro i f h hi g h1 h2 h3 h5 h6 dO
  obtain⟨v,g2,ho⟩:=g.g2
  have g0:=g.g0
  have e2:(i:Int)+1<m:=by omega
  have hl:=vY under i
  obtain⟨h',hq,g'⟩:=q71 g (zC under i (by omega)) (by omega) ((i:Int)+1) (bY (nA under (i+1)) 0 i)
  have hp:=s72 tu under (i+1)
  have Va:pcF D t72 [eL tu 1 bW under,.int .i64 ((i:Int)+1)]=some (.int .i64 (nA under (i+1))):=by simpa using hp
  have hw:=s10 (nA under (i+1)) 0 i (by omega) (by decide) (by omega)
  have w1:IntKind.i64.wrap (i:Int)=i:=bG (by omega) (by omega)
  have w2:IntKind.i64.wrap ((i:Int)+1+1)=(i:Int)+1+1:=bG (by omega) (by omega)
  rw[aJ O0.eq_1]
  simp[h1,h3,h5,h6,g0,g2,e2,e72,Va,e10,hw,w1,w2,hq]
  generalize hF:upd _ 6 _=F
  exact ih (i+1) F h' (by omega) g' (by rw[←hF];simp[h1]) (by rw[←hF];simp[h2]) (by rw[←hF];simp[h3]) (by rw[←hF];simp[h5]) (by rw[←hF];simp) dO
theorem l23b(S:List Fr)(P:Res→Prop)(x0 x1:DV)(tm:Bool)(more:List Int)(m:Int)(hm:1≤m∧m≤7) :
  ∀(k i:Nat) (f:eI) (h:aA) (L:List (Int×Int)),i+k=8→L.length≤6+i→bR m L→Cq x0 x1 (eL tm 1 bW more) h m L→f 1=.ptr 0 3 0 0→f 2=.ptr 1 2 0 0→f 3=.ptr 2 2 0 0→f 5=.func 71 [.ptr 4 1 0 0,.ptr 2 2 0 0]→f 7=.int .i64 i →
  (∀F H,Cq x0 x1 (eL tm 1 bW more) H m (uT m ((more.take 8).drop i) L)→F 2=.ptr 1 2 0 0→F 3=.ptr 2 2 0 0→P (run D 63 S O2 F H)) →
  P (run D 63 (.block 2::.seq O2::S) (.loop N9) f h):=by
 intro k
 induction k with
 | zero =>
  intro i f h L hi hl ok g h1 h2 h3 h5 h7 dO
  have g0:=g.g0
  have e1:i=8:=by omega
  subst e1
  have hd:(more.take 8).drop 8=[]:=by simp
  rw[hd,uT]at dO
  rw[aJ N9.eq_1]
  by_cases a1:8<more.length
  ·have a1':(8:Int)<more.length:=by omega
   simp[h1,h7,g0,a1,a1']
   exact dO _ _ g (by simp[h2]) (by simp[h3])
  ·have a1':¬(8:Int)<more.length:=by omega
   simp[h1,h7,g0,a1,a1']
   exact dO _ _ g (by simp[h2]) (by simp[h3])
 | succ k ih =>
  intro i f h L hi hl ok g h1 h2 h3 h5 h7 dO
  obtain⟨v,g2,ho⟩:=g.g2
  have g0:=g.g0
  have lim:=g.lim
  have gn:=g.n
  have a8:i<8:=by omega
  have a8':(i:Int)<8:=by omega
  rw[aJ N9.eq_1]
  by_cases a1:i<more.length
  ·have a1':(i:Int)<more.length:=by omega
   obtain⟨cv,PP⟩:∃ cv,more[i]=cv:=⟨_,rfl⟩
   have hdr:(more.take 8).drop i=cv::(more.take 8).drop (i+1):=by
    rw[List.drop_eq_getElem_cons (by simp;omega)]
    congr 1
    rw[List.getElem_take];exact PP
   rw[hdr,uT]at dO
   have hsv:bQ .quo (.int .i64 cv) (.int .i64 8)=some (.int .i64 (IntKind.i64.wrap (cv.tdiv 8))):=rfl
   have w1:=s10 cv 0 (m-1) (by omega) (by decide) (by omega)
   have w2:=s10 (IntKind.i64.wrap (cv.tdiv 8)) 0 (m-1) (by omega) (by decide) (by omega)
   have hw:IntKind.i64.wrap ((i:Int)+1)=(i:Int)+1:=bG (by omega) (by omega)
   have hwm:IntKind.i64.wrap (m-1)=m-1:=bG (by omega) (by omega)
   obtain⟨h',hq,g'⟩:=q71 g ok (by omega) (bY cv 0 (m-1)) (bY (IntKind.i64.wrap (cv.tdiv 8)) 0 (m-1))
   have e1:=iF cv 0 (m-1) (by omega)
   have e2:=iF (IntKind.i64.wrap (cv.tdiv 8)) 0 (m-1) (by omega)
   have ok':=ok.put (a:=bY cv 0 (m-1)) (b:=bY (IntKind.i64.wrap (cv.tdiv 8)) 0 (m-1)) ⟨by omega,by omega⟩ ⟨by omega,by omega⟩
   have Xe:=Gf L (bY cv 0 (m-1)) (bY (IntKind.i64.wrap (cv.tdiv 8)) 0 (m-1))
   simp[h1,h3,h5,h7,g0,g2,a1,a1',a8,a8',PP,bW,hsv,e10,w1,w2,hwm,lim,hq,hw]
   generalize hF:upd _ 7 _=F
   exact ih (i+1) F h' _ (by omega) (by omega) ok' g' (by rw[←hF];simp[h1]) (by rw[←hF];simp[h2]) (by rw[←hF];simp[h3]) (by rw[←hF];simp[h5]) (by rw[←hF];simp) dO
  ·have a1':¬(i:Int)<more.length:=by omega
   have hd:(more.take 8).drop i=[]:=by rw[List.drop_eq_nil_iff];simp;omega
   rw[hd,uT]at dO
   simp[h1,h7,g0,a1,a1']
   exact dO _ _ g (by simp[h2]) (by simp[h3])
theorem Rn(n:Nat)(xs:List (Int×Int)):bA (n+23) (eL false 2 aV xs)=true:=lG (fun x _=>(sU x).2) _ (by omega)
theorem Vx:aF 1 .nmap=[.nmap]:=rfl
theorem s23(tu tm:Bool)(n:Int)(under more:List Int):pcF D t23 [.agg [.int .i64 n,eL tu 1 bW under,eL tm 1 bW more]]=some (.agg [.int .i64 (bY n 1 7),eL false 2 aV (tH (bY n 1 7) under more)]):=by
 obtain⟨m,hm⟩:∃ m,bY n 1 7=m:=⟨_,rfl⟩
 have PE:=iF n 1 7 (by decide)
 have hw:=s10 n 1 7 (by decide) (by decide) (by decide)
 rw[hm]at PE hw ⊢
 unfold pcF
 rw[aM _ _ _ _ (by simp[t23])]
 simp[t23,e10,hw,turn,Vx,-mL]
 generalize hF:upd _ 6 _=F
 generalize hH:aA.push _ _=H
 refine l23a [] (fun r=>jS (fin [.cell 2 (some 2)] r)=_) (.int .i64 n) (eL tm 1 bW more) tu under m PE (m-1).toNat 0 F H (by omega) ⟨?_,?_,⟨.nsl,?_,.nil rfl rfl⟩,?_,?_,?_,?_,?_⟩ (by rw[←hF];simp) (by rw[←hF];simp) (by rw[←hF];simp) (by rw[←hF];simp) (by rw[←hF];simp) fun F1 H1 g1 a1 a2 a3 a5=>?_
 ·rw[←hH];simp
 ·rw[←hH];simp
 ·rw[←hH];simp[tU]
 ·rw[←hH];simp[tU,uB]
 ·rw[←hH];simp
 ·rw[←hH];simp
 ·rw[←hH];simp
 ·rw[←hH];simp
 have tl:=vY under (m-1).toNat
 simp[O1,-mL]
 generalize hF2:upd _ 7 _=F2
 refine l23b [] (fun r=>jS (fin [.cell 2 (some 2)] r)=_) (.int .i64 n) (eL tu 1 bW under) tm more m PE 8 0 F2 H1 _ (by omega) (by omega) (zC under _ (by omega)) g1 (by rw[←hF2];simp[a1]) (by rw[←hF2];simp[a2]) (by rw[←hF2];simp[a3]) (by rw[←hF2];simp[a5]) (by rw[←hF2];simp) fun F3 H3 g3 b2 b3=>?_
 obtain⟨v,g2,ho⟩:=g3.g2
 have gg1:=g3.g1
 have lim:=g3.lim
 have wf:=g3.wf
 have gn:=g3.n
 have k1:1<H3.n:=by omega
 have ws:=ho.aO
 have we:=ho.aF
 have hr:∀o,resolve false (H3.set 1 o) 199 v=some (eL false 2 aV (tH m under more)):=fun o =>
  (ho.aR wf (by decide) k1).resolve false (fun y _=>(sU y).1) (by decide)
 simp[O2,b2,b3,g2,gg1,lim,wf,k1,ws,we,turn,hr,aU,Rn]
structure Rc where
 n:Int
 under:List Int
 more:List Int
def wP(k:Rc):DV:=.agg [.int .i64 k.n,eL false 1 bW k.under,eL false 1 bW k.more]
end Go.Dm.Tc
/-
Maps by keys of whatever kind.
-/
namespace Go.Dm.Tc
section
variable {α:Type} [DecidableEq α] {q:EqT} {kE:α→DV} (hq:∀x y,fA q (kE x) (kE y)=some (decide (y=x)))
def fR(kE:α→DV)(ms:List (α×DV)):List (DV×DV):=ms.map fun p=>(kE p.1,p.2)
def lB(ms:List (α×DV))(x:α):Option DV:=(ms.find? fun p=>decide (p.1=x)).map (·.2)
def uQ(x:α)(v:DV):List (α×DV)→List (α×DV)
 | []=>[(x,v)]
 | p::r=>if p.1=x then(x,v)::r else p::uQ x v r
include hq in
theorem Mm(x:α):∀(ms:List (α×DV)) (i:Nat),(lB ms x=none∧eU q (kE x) (fR kE ms) i=some none∧∀w,fR kE (uQ x w ms)=fR kE ms++[(kE x,w)]) ∨
  (∃ j v,lB ms x=some v∧eU q (kE x) (fR kE ms) i=some (some (i+j,v))∧∀w,(fR kE ms).set j (kE x,w)=fR kE (uQ x w ms)):=by
 intro ms
 induction ms with
 | nil=>intro i;exact .inl ⟨rfl,rfl,fun w=>rfl⟩
 | cons p r ih =>
  intro i
  obtain⟨y,u⟩:=p
  by_cases h:y=x
  ·subst h
   refine .inr ⟨0,u,by simp[lB],?_,fun w=>by simp[fR,uQ]⟩
   simp only[fR,List.map_cons,eU]
   rw[hq,decide_eq_true rfl]
   rfl
  ·have hf:eU q (kE x) (fR kE ((y,u)::r)) i=eU q (kE x) (fR kE r) (i+1):=by
    simp only[fR,List.map_cons,eU]
    rw[hq,decide_eq_false h]
   have hg:lB ((y,u)::r) x=lB r x:=by simp[lB,h]
   rw[hf,hg]
   rcases ih (i+1)with⟨h1,h2,h3⟩|⟨j,v,h1,h2,h3⟩
   ·exact .inl ⟨h1,h2,fun w=>by
     have:=h3 w
     simp only[uQ,if_neg h]
     simp only[fR,List.map_cons,List.cons_append]at this ⊢
     rw[this]⟩
   ·exact .inr ⟨j+1,v,h1,by rw[h2,show i+1+j=i+(j+1) by omega],fun w=>by
     have:=h3 w
     simp only[uQ,if_neg h]
     simp only[fR,List.map_cons,List.set_cons_succ]at this ⊢
     rw[this]⟩
include hq in
theorem Md(x:α):∀(ms:List (α×DV)),(ms.map (·.1)).Nodup→pK q (kE x) (fR kE ms)=some (if x∈ms.map (·.1)then 1 else 0):=by
 intro ms
 induction ms with
 | nil=>intro _;rfl
 | cons p r ih =>
  intro hn
  obtain⟨y,u⟩:=p
  simp only[List.map_cons,List.nodup_cons]at hn
  have:=ih hn.2
  simp only[fR,List.map_cons,pK]at this ⊢
  rw[hq,this]
  by_cases h:y=x
  ·subst h
   simp[hn.1]
  ·have h':¬x=y:=fun e=>h e.symm
   by_cases h2:x∈r.map (·.1)
   ·simp[h,h2]
   ·simp[h,h',h2]
include hq in
theorem Dk{ms:List (α×DV)}(hn:(ms.map (·.1)).Nodup)(z:DV)(ok:Bool)(x:α):fP q z ok (kE x) (some (fR kE ms))=some (match lB ms x with|some v=>if ok then .tup [v,.bool true]else v|none=>if ok then .tup [z,.bool false]else z):=by
 have he:(fA q (kE x) (kE x)).isSome=true:=by rw[hq];rfl
 have hh:(if x∈ms.map (·.1)then 1 else 0)≤1:=by split<;>omega
 simp only[fP,he,if_true,lR,Md hq x ms hn,if_pos hh]
 rcases Mm hq x ms 0 with⟨h1,h2,_⟩|⟨j,v,h1,h2,_⟩
 ·rw[h2,h1]
 ·rw[h2,h1]
include hq in
theorem Pm{ms:List (α×DV)}(hn:(ms.map (·.1)).Nodup)(z:DV)(x:α):fP q z false (kE x) (some (fR kE ms))=some ((lB ms x).getD z):=by
 rw[Dk hq hn];cases lB ms x<;>rfl
include hq in
theorem Rl{h:aA}{id:Nat}{ms:List (α×DV)}(hn:(ms.map (·.1)).Nodup)(hl:h.lim≤id)(x:α)(v:DV):Iz h q id (kE x) v (some (.mp (fR kE ms)))=some (h.set id (.mp (fR kE (uQ x v ms)))):=by
 have he:(fA q (kE x) (kE x)).isSome=true:=by rw[hq];rfl
 have hh:(if x∈ms.map (·.1)then 1 else 0)≤1:=by split<;>omega
 simp only[Iz,he,hl,and_self,if_true,lR,Md hq x ms hn,if_pos hh]
 rcases Mm hq x ms 0 with⟨_,h2,h3⟩|⟨j,u,_,h2,h3⟩
 ·rw[h2,h3]
 ·rw[h2]
  simp only[Nat.zero_add]
  rw[h3]
theorem Lt{ms:List (α×DV)}{x:α}:x∈ms.map (·.1)↔∃ v,lB ms x=some v:=by
 induction ms with
 | nil=>simp[lB]
 | cons p r ih =>
  obtain⟨y,u⟩:=p
  by_cases h:y=x
  ·subst h
   simp[lB]
  ·have h':¬x=y:=fun e=>h e.symm
   have e1:lB ((y,u)::r) x=lB r x:=by simp[lB,h]
   rw[e1,←ih]
   simp[h']
end
theorem Pp(x y:Int):fA (.prim 1) (.int .i64 x) (.int .i64 y)=some (decide (y=x)):=by
 simp only[fA,fH,and_self,if_true]
 congr 1
 rw[Bool.eq_iff_iff,beq_iff_eq,decide_eq_true_iff]
 exact eq_comm
end Go.Dm.Tc
/-
Networks,part 1: pairs looked for;maps by pairs;rows put together.
-/
namespace Go.Dm.Tc
theorem l328(t:Bool)(xs:List (Int×Int))(v:Int×Int)(h:aA)(hg:h.get 0=some (.arr 86 2 [aV v] (some 1)))(hl:xs.length≤1000000) :
  ∀(rest:List (Int×Int)) (i:Nat) (f:eI),xs.drop i=rest→f 0=eL t 2 aV xs→f 3=.ptr 0 2 0 0→f 7=.int .i64 xs.length→f 8=.int .i64 i →
  jS (fin [.t 4] (run D 19 [.block 0,.seq Xu] (.loop Nb) f h))=some (.int .i64 (qL ((rest.findIdx? fun x=>decide (v=x)).map (·+i)))):=by
 intro rest
 induction rest with
 | nil =>
  intro i f hd h0 h3 h7 h8
  have hi:=iD hd
  have:¬(i<xs.length):=by omega
  rw[aJ Nb.eq_1]
  simp[Xu,h7,h8,this,qL]
 | cons e rest ih =>
  intro i f hd h0 h3 h7 h8
  obtain⟨hi,he,pV⟩:=jO hd
  have hq:(v.1 == e.1 && v.2 == e.2)=decide (v=e):=by
   obtain⟨a,b⟩:=v;obtain⟨c,d⟩:=e
   by_cases h1:a=c<;>by_cases h2:b=d<;>simp[h1,h2]
  rw[aJ Nb.eq_1]
  by_cases hp:v=e
  ·rw[decide_eq_true hp]at hq
   simp[h0,h3,h7,h8,hi,he,aV,hg,hq,qL,List.findIdx?_cons,hp]
  ·rw[decide_eq_false hp]at hq
   simp[h0,h3,h7,h8,hi,he,aV,hg,hq]
   rw[bG (by omega) (by omega)]
   refine(ih (i+1) _ pV ?_ ?_ ?_ ?_).trans ?_<;>simp[h0,h3,h7,List.findIdx?_cons,hp]
   congr 2
   funext q
   simp
   omega
theorem s328(t:Bool)(xs:List (Int×Int))(v:Int×Int)(hl:xs.length≤1000000) :
  pcF D V0 [eL t 2 aV xs,aV v]=some (.int .i64 (qL (xs.findIdx? fun x=>decide (v=x)))):=by
 unfold pcF
 rw[aM _ _ _ _ (by simp[V0])]
 simp[V0,aV]
 refine(l328 t xs v _ (by simp[aV]) hl xs 0 _ rfl ?_ ?_ ?_ ?_).trans ?_<;>simp
theorem s298(t:Bool)(xs:List (Int×Int))(v:Int×Int)(hl:xs.length≤1000000) :
  pcF D V1 [eL t 2 aV xs,aV v]=some (.bool (decide (v∈xs))):=by
 have hi:=s328 t xs v hl
 have hc:decide (0≤qL (xs.findIdx? fun x=>decide (v=x)))=decide (v∈xs):=by
  rw[JE,Bool.eq_iff_iff,List.any_eq_true,decide_eq_true_iff]
  exact⟨fun⟨x,hx,h⟩=>by rw[of_decide_eq_true h];exact hx,fun h=>⟨v,h,by simp⟩⟩
 unfold pcF
 rw[aM _ _ _ _ (by simp[V1])]
 simp only[aV]at hi
 simp[V1,aV,e328,hi,hc]
def kID(x:ID):DV:=.agg [.int .i64 x.bK,.int .i64 x.seq]
def oK(ms:List (ID×DV)):List (DV×DV):=ms.map fun p=>(kID p.1,p.2)
def pY(ms:List (ID×DV))(x:ID):Option DV:=(ms.find? fun p=>decide (p.1=x)).map (·.2)
def wV(x:ID)(v:DV):List (ID×DV)→List (ID×DV)
 | []=>[(x,v)]
 | p::r=>if p.1=x then(x,v)::r else p::wV x v r
theorem vJ(x y:ID):fA (.agg [1,1]) (kID x) (kID y)=some (decide (y=x)):=by
 have:=tL x.bK x.seq y
 rw[kID,kID,this]
 congr 1
 exact decide_eq_decide.2 ⟨fun h=>h.symm,fun h=>h.symm⟩
theorem Vo(x:ID):∀(ms:List (ID×DV)) (i:Nat),(pY ms x=none∧eU (.agg [1,1]) (kID x) (oK ms) i=some none∧∀w,oK (wV x w ms)=oK ms++[(kID x,w)]) ∨
  (∃ j v,pY ms x=some v∧eU (.agg [1,1]) (kID x) (oK ms) i=some (some (i+j,v))∧∀w,(oK ms).set j (kID x,w)=oK (wV x w ms)):=by
 intro ms
 induction ms with
 | nil=>intro i;exact .inl ⟨rfl,rfl,fun w=>rfl⟩
 | cons p r ih =>
  intro i
  obtain⟨y,u⟩:=p
  by_cases h:y=x
  ·subst h
   refine .inr ⟨0,u,by simp[pY],?_,fun w=>by simp[oK,wV]⟩
   simp only[oK,List.map_cons,eU]
   rw[vJ,decide_eq_true rfl]
   rfl
  ·have hf:eU (.agg [1,1]) (kID x) (oK ((y,u)::r)) i=eU (.agg [1,1]) (kID x) (oK r) (i+1):=by
    simp only[oK,List.map_cons,eU]
    rw[vJ,decide_eq_false h]
   have hg:pY ((y,u)::r) x=pY r x:=by simp[pY,h]
   rw[hf,hg]
   rcases ih (i+1)with⟨h1,h2,h3⟩|⟨j,v,h1,h2,h3⟩
   ·exact .inl ⟨h1,h2,fun w=>by
     have:=h3 w
     simp only[wV,if_neg h]
     simp only[oK,List.map_cons,List.cons_append]at this ⊢
     rw[this]⟩
   ·exact .inr ⟨j+1,v,h1,by rw[h2,show i+1+j=i+(j+1) by omega],fun w=>by
     have:=h3 w
     simp only[wV,if_neg h]
     simp only[oK,List.map_cons,List.set_cons_succ]at this ⊢
     rw[this]⟩
theorem Vc(x:ID):∀(ms:List (ID×DV)),(ms.map (·.1)).Nodup→pK (.agg [1,1]) (kID x) (oK ms)=some (if x∈ms.map (·.1)then 1 else 0):=by
 intro ms
 induction ms with
 | nil=>intro _;rfl
 | cons p r ih =>
  intro hn
  obtain⟨y,u⟩:=p
  simp only[List.map_cons,List.nodup_cons]at hn
  have:=ih hn.2
  simp only[oK,List.map_cons,pK]at this ⊢
  rw[vJ,this]
  by_cases h:y=x
  ·subst h
   simp[hn.1]
  ·have h':¬x=y:=fun e=>h e.symm
   by_cases h2:x∈r.map (·.1)
   ·simp[h,h2]
   ·simp[h,h',h2]
theorem C0{ms:List (ID×DV)}(hn:(ms.map (·.1)).Nodup)(z:DV)(ok:Bool)(x:ID):fP (.agg [1,1]) z ok (kID x) (some (oK ms))=some (match pY ms x with|some v=>if ok then .tup [v,.bool true]else v|none=>if ok then .tup [z,.bool false]else z):=by
 have he:(fA (.agg [1,1]) (kID x) (kID x)).isSome=true:=by rw[vJ];rfl
 have hh:(if x∈ms.map (·.1)then 1 else 0)≤1:=by split<;>omega
 simp only[fP,he,if_true,lR,Vc x ms hn,if_pos hh]
 rcases Vo x ms 0 with⟨h1,h2,_⟩|⟨j,v,h1,h2,_⟩
 ·rw[h2,h1]
 ·rw[h2,h1]
theorem qJ{ms:List (ID×DV)}(hn:(ms.map (·.1)).Nodup)(z:DV)(x:ID):fP (.agg [1,1]) z false (kID x) (some (oK ms))=some ((pY ms x).getD z):=by
 rw[C0 hn];cases pY ms x<;>rfl
theorem M3{h:aA}{id:Nat}{ms:List (ID×DV)}(hn:(ms.map (·.1)).Nodup)(hl:h.lim≤id)(x:ID)(v:DV):Iz h (.agg [1,1]) id (kID x) v (some (.mp (oK ms)))=some (h.set id (.mp (oK (wV x v ms)))):=by
 have he:(fA (.agg [1,1]) (kID x) (kID x)).isSome=true:=by rw[vJ];rfl
 have hh:(if x∈ms.map (·.1)then 1 else 0)≤1:=by split<;>omega
 simp only[Iz,he,hl,and_self,if_true,lR,Vc x ms hn,if_pos hh]
 rcases Vo x ms 0 with⟨_,h2,h3⟩|⟨j,u,_,h2,h3⟩
 ·rw[h2,h3]
 ·rw[h2]
  simp only[Nat.zero_add]
  rw[h3]
theorem IW(x:ID)(v:DV)(ms:List (ID×DV)):(wV x v ms).map (·.1)=if x∈ms.map (·.1)then ms.map (·.1)else ms.map (·.1)++[x]:=by
 induction ms with
 | nil=>rfl
 | cons p r ih =>
  obtain⟨y,u⟩:=p
  by_cases h:y=x
  ·subst h;simp[wV]
  ·have h':¬x=y:=fun e=>h e.symm
   simp only[wV,if_neg h,List.map_cons,ih,List.mem_cons,h',false_or]
   split<;>simp
theorem AM{x:ID}{v:DV}{ms:List (ID×DV)}(hn:(ms.map (·.1)).Nodup):((wV x v ms).map (·.1)).Nodup:=by
 rw[IW]
 split
 ·exact hn
 ·rename_i h
  exact List.nodup_append.2 ⟨hn,by simp,fun a ha b hb e=>h (by rw[List.mem_singleton.1 hb]at e;exact e ▸ ha)⟩
theorem PV(x y:ID)(v:DV)(ms:List (ID×DV)):pY (wV x v ms) y=if x=y then some v else pY ms y:=by
 induction ms with
 | nil =>
  by_cases h:x=y<;>simp[wV,pY,h]
 | cons p r ih =>
  obtain⟨z,u⟩:=p
  by_cases h:z=x
  ·subst h
   by_cases h2:z=y<;>simp[wV,pY,h2]
  ·simp only[wV,if_neg h]
   by_cases h2:z=y
   ·subst h2
    have:¬x=z:=fun e=>h e.symm
    simp[pY,this]
   ·have e1:∀l,pY ((z,u)::l) y=pY l y:=fun l=>by simp[pY,h2]
    rw[e1,e1];exact ih
theorem MA(a:Att):Unl 20 (QI a):=(Em (k:=1) (by
  intro x hx;simp only[List.mem_cons,List.not_mem_nil,or_false]at hx
  rcases hx with rfl|rfl|rfl|rfl<;>first|exact jG _ _|exact M4 _|exact Rm _)).mono (by decide)
theorem Ll(m : Msg) : kJ 20 (jN m) ∧ Unl 22 (jN m) :=
  ⟨(sB (k := 1) (by
    intro x hx; simp only[List.mem_cons, List.not_mem_nil, or_false]at hx
    rcases hx with rfl | rfl | rfl | rfl | rfl | rfl | rfl <;> first | exact gU _ _ | exact eX _ _ _ _)).mono (by decide),
   Em (k := 21) (by
    intro x hx; simp only[List.mem_cons, List.not_mem_nil, or_false]at hx
    rcases hx with rfl | rfl | rfl | rfl | rfl | rfl | rfl
    · exact(jG _ _).mono (by decide)
    · exact(jG _ _).mono (by decide)
    · exact(jG _ _).mono (by decide)
    · exact(jG _ _).mono (by decide)
    · exact(jG _ _).mono (by decide)
    · exact rJ _
    · exact lG (k := 20) fun x _ => MA x)⟩
def sH(v:DV)(l:List Msg):Prop:=(v=.nsl∧l=[])∨∃ sz,v=.isl false sz (l.map jN)∧(sz=7∨l=[])
theorem sH.res{v:DV}{l:List Msg}(r:sH v l)(tag:Bool)(h:aA)(n:Nat):resolve tag h (n+1) v=some (eL false 7 jN l):=by
 rcases r with⟨rfl,rfl⟩|⟨sz,rfl,hs⟩
 ·rfl
 ·cases l with
  | nil=>rfl
  | cons x r=>rcases hs with rfl|hs;rfl;cases hs
theorem sH.len{v:DV}{l:List Msg}(r:sH v l)(h:aA):lenV h 1 v=some (.int .i64 l.length):=by
 rcases r with⟨rfl,rfl⟩|⟨sz,rfl,hs⟩
 ·rfl
 ·simp[lenV]
theorem sH.one{v:DV}{l:List Msg}(r:sH v l):aO 1 v=true:=by
 rcases r with⟨rfl,rfl⟩|⟨sz,rfl,hs⟩<;>rfl
theorem sH.ec{v:DV}{l:List Msg}(r:sH v l):aF 1 v=[v]:=by
 rcases r with⟨rfl,rfl⟩|⟨sz,rfl,hs⟩<;>rfl
theorem sH.eL(l:List Msg):sH (eL false 7 jN l) l:=by
 cases l with
 | nil=>exact .inr ⟨0,rfl,.inr rfl⟩
 | cons x r=>exact .inr ⟨7,rfl,.inl rfl⟩
end Go.Dm.Tc
/-
Networks,part 2: rows of messages put together;queues as they lie;a message pushed.
-/
namespace Go.Dm.Tc
theorem q299(n:Nat)(h:aA)(hn:0<n)(hb:n≤1000000) :
  fc D 299 [.nsl,.int .i64 n] h=some (.sl h.n 7 0 0,h.push (.arr 49 7 (List.replicate n (.agg [.int .i64 0,.int .i64 0,.int .i64 0,.int .i64 0,.int .i64 0,.nsl,.nsl])) none)):=by
 have h1:¬(n:Int)<0:=by omega
 have h2:(0:Int)<n:=by omega
 have h3:(n:Int)≤140737488355328:=by omega
 have hw:IntKind.i64.wrap (n:Int)=n:=bG (by omega) (by omega)
 have hc:J6 h .nsl=some (.int .i64 0):=rfl
 have hsn:fC h 7 .nsl none (some (.int .i64 0))=some .nsl:=rfl
 have hA:bF h 49 7 88 .nsl (List.replicate n (.agg [.int .i64 0,.int .i64 0,.int .i64 0,.int .i64 0,.int .i64 0,.nsl,.nsl]))=some (.sl h.n 7 0 n,h.push (.arr 49 7 (List.replicate n (.agg [.int .i64 0,.int .i64 0,.int .i64 0,.int .i64 0,.int .i64 0,.nsl,.nsl])) none)):=by
  have cT:(List.replicate n (DV.agg [.int .i64 0,.int .i64 0,.int .i64 0,.int .i64 0,.int .i64 0,.nsl,.nsl])).isEmpty=false:=by
   cases n with
   | zero=>omega
   | succ n=>rfl
  simp only[bF,cT,Bool.false_eq_true,if_false,List.length_replicate]
  rw[if_pos ⟨by omega,by omega⟩]
 rw[o8,aM _ _ _ _ (by simp[Xv])]
 simp[Xv,h1,hn,hw,hc,hsn,h3,hA]
theorem Z8(h:aA):fc D 299 [.nsl,.int .i64 0] h=some (.nsl,h):=by
 have hc:J6 h .nsl=some (.int .i64 0):=rfl
 have hw:IntKind.i64.wrap (0:Int)=0:=rfl
 rw[o8,aM _ _ _ _ (by simp[Xv])]
 simp[Xv,hc,hw]
theorem Dy{h:aA}{id ety sz bytes k:Nat}{xs ys sp:List DV}(g:h.get id=some (.arr ety sz (xs++sp) none))(hl:h.lim≤id)(hk:k=xs.length)(hs:ys.length≤sp.length)(hb:(xs.length+sp.length)*bytes≤140737488355328)(hb2:xs.length+sp.length≤1000000000) :
  bF h ety sz bytes (.sl id sz 0 k) ys=some (.sl id sz 0 (k+ys.length),h.set id (.arr ety sz (xs++ys++sp.drop ys.length) none)):=by
 subst hk
 have hm:(xs.length+ys.length)*bytes≤(xs.length+sp.length)*bytes:=Nat.mul_le_mul_right _ (by omega)
 by_cases hy:ys=[]
 ·subst hy
  have wW:h.set id (.arr ety sz (xs++sp) none)=h:=by
   have aZ:=aC g
   unfold aA.get at g
   rw[if_pos aZ]at g
   unfold aA.set
   have:h.objs.set (h.n-1-id) (.arr ety sz (xs++sp) none)=h.objs:=by
    apply List.ext_getElem?
    intro j
    rw[List.getElem?_set]
    by_cases e:h.n-1-id=j
    ·subst e
     rw[if_pos rfl]
     split
     ·exact g.symm
     ·rename_i hh;rw[List.getElem?_eq_none (by omega)]
    ·rw[if_neg e]
   rw[this]
  simp[bF,wW]
 ·have Jx:ys.isEmpty=false:=by cases ys<;>simp_all
  simp only[bF,Jx,Bool.false_eq_true,if_false,g,true_and,Nat.zero_add]
  rw[if_pos ⟨by simp,by omega,by omega⟩,if_pos (by simp;omega),if_pos hl]
  simp[cF]
theorem s240(ta tb tc:Bool)(a b:List Msg)(ha:a.length≤400000)(hb:b.length≤400000) :
  pcF D V6 [.isl tc 1 [eL ta 7 jN a,eL tb 7 jN b]]=some (eL false 7 jN (a++b)):=by
 have i0:aQ 1 (.isl tc 1 [eL ta 7 jN a,eL tb 7 jN b]) (.int .i64 0)=some (.iptr tc [eL ta 7 jN a] 0):=by simp[aQ,asI,wO]
 have i1:aQ 1 (.isl tc 1 [eL ta 7 jN a,eL tb 7 jN b]) (.int .i64 1)=some (.iptr tc [eL tb 7 jN b] 0):=by simp[aQ,asI,wO]
 have w0:IntKind.i64.wrap ((a.length:Int))=a.length:=bG (by omega) (by omega)
 have w1:IntKind.i64.wrap ((a.length:Int)+b.length)=a.length+b.length:=bG (by omega) (by omega)
 have w2:IntKind.i64.wrap (1:Int)=1:=rfl
 have w3:IntKind.i64.wrap (2:Int)=2:=rfl
 have n0:¬(a.length:Int)<0:=by omega
 have n1:¬(a.length:Int)+b.length<0:=by omega
 unfold pcF
 rw[aM _ _ _ _ (by simp[V6])]
 simp[V6]
 rw[aJ Nf.eq_1]
 simp[i0,w0,n0,w2]
 rw[aJ Nf.eq_1]
 simp[i1,w1,n1,w3]
 rw[aJ Nf.eq_1]
 by_cases hz:a.length+b.length=0
 ·have hA:a=[]:=List.length_eq_zero_iff.1 (by omega)
  have hB:b=[]:=List.length_eq_zero_iff.1 (by omega)
  subst hA;subst hB
  have hg:=Z8
  have hn:∀h,bF h 49 7 88 .nsl []=some (.nsl,h):=fun h=>rfl
  simp[Xy,hg]
  rw[aJ xQ.eq_1]
  simp[i0,hn,w2]
  rw[aJ xQ.eq_1]
  simp[i1,hn,w3]
  rw[aJ xQ.eq_1]
  simp[Xz]
  rfl
 ·have hg:=fun h=>q299 (a.length+b.length) h (by omega) (by omega)
  simp only[Int.natCast_add]at hg
  simp[Xy,hg]
  rw[aJ xQ.eq_1]
  generalize VM:DV.agg [.int .i64 0,.int .i64 0,.int .i64 0,.int .i64 0,.int .i64 0,.nsl,.nsl]=z0
  generalize hH:aA.push _ _=H
  have hHg:H.get 0=some (.arr 49 7 ([]++List.replicate (a.length+b.length) z0) none):=by rw[←hH];simp
  have hHl:H.lim=0:=by rw[←hH];simp
  have hHw:WF H:=by rw[←hH];simp
  have A1:=Dy (bytes:=88) (ys:=a.map jN) (k:=0) hHg (by omega) rfl (by simp) (by simp;omega) (by simp;omega)
  simp at A1
  simp[i0,A1,w2]
  rw[aJ xQ.eq_1]
  generalize hK:aA.set _ _ _=K
  have hKg:K.get 0=some (.arr 49 7 (a.map jN++List.replicate b.length z0) none):=by rw[←hK];simp[hHw,aC hHg]
  have hKl:K.lim=0:=by rw[←hK];simp[hHl]
  have hKw:WF K:=by rw[←hK];simp[hHw]
  have A2:=Dy (bytes:=88) (ys:=b.map jN) (k:=a.length) hKg (by omega) (by simp) (by simp) (by simp;omega) (by simp;omega)
  simp at A2
  simp[i1,A2,w3]
  rw[aJ xQ.eq_1]
  simp[Xz,-mL]
  have aZ:=aC hKg
  have w:OwnR 0 (K.set 0 (.arr 49 7 (a.map jN++b.map jN) none)) (.sl 0 7 0 (a.length+b.length)) 49 7 ((a++b).map jN) :=
   .arr 0 [] none (by simp) (by rw[Hj hKw aZ];simp) (by show K.lim≤0;omega) (Nat.le_refl _)
  exact w.out (fun y _=>(Ll y).1.mono (by decide)) (fun y _=>(Ll y).2) (k:=22) (by decide)
structure S7(ms:List (ID×DV))(W:ID→List Msg):Prop where
 nd:(ms.map (·.1)).Nodup
 row:∀x,sH ((pY ms x).getD .nsl) (W x)
def wU(W:ID→List Msg)(x:ID)(l:List Msg):ID→List Msg:=fun y=>if x=y then l else W y
theorem S7.put{ms:List (ID×DV)}{W:ID→List Msg}(r:S7 ms W)(x:ID){v:DV}{l:List Msg}(hv:sH v l):S7 (wV x v ms) (wU W x l):=by
 refine⟨AM r.nd,fun y=>?_⟩
 rw[PV,wU]
 by_cases h:x=y
 ·rw[if_pos h,if_pos h];exact hv
 ·rw[if_neg h,if_neg h];exact r.row y
def qO(ways:List (Int×Int))(wid:Nat):DO:=.arr 271 2 [.agg [eL false 2 aV ways,.map wid]] (some 1)
structure QAt(h:aA)(q wid:Nat)(ways:List (Int×Int))(W:ID→List Msg):Prop where
 gq:h.get q=some (qO ways wid)
 gw:∃ ms,h.get wid=some (.mp (oK ms))∧S7 ms W
 lw:h.lim≤wid
 lq:h.lim≤q
structure Upd(h h':aA)(F F':List Nat):Prop where
 n:h.n≤h'.n
 lim:h'.lim=h.lim
 wf:WF h'
 old:∀i,i<h.n→i ∉ F→h'.get i=h.get i
 fp:∀i∈F',i∈F∨h.n≤i
theorem Upd.refl{h:aA}(w:WF h)(F:List Nat):Upd h h F F:=⟨Nat.le_refl _,rfl,w,fun _ _ _=>rfl,fun _ hi=>.inl hi⟩
theorem Upd.trans{a b c : aA}{F G H : List Nat}(x : Upd a b F G)(y : Upd b c G H) : Upd a c F H :=
  ⟨Nat.le_trans x.n y.n, y.lim.trans x.lim, y.wf, fun i hi hn => (y.old i (Nat.lt_of_lt_of_le hi x.n) (fun hg => (x.fp i hg).elim hn (fun h => by omega))).trans (x.old i hi hn),
   fun i hi => (y.fp i hi).elim (fun hg => x.fp i hg) (fun h => .inr (Nat.le_trans x.n h))⟩
theorem Upd.push{a b:aA}{F G:List Nat}(x:Upd a b F G)(o:DO):Upd a (b.push o) F G :=
 ⟨Nat.le_succ_of_le x.n,x.lim,x.wf.push,fun i hi hn=>by rw[aN (Nat.lt_of_lt_of_le hi x.n)];exact x.old i hi hn,x.fp⟩
theorem Upd.set{a b:aA}{F G:List Nat}(x:Upd a b F G){i:Nat}{o:DO}(hi:i∈F∨a.n≤i)(hb:i<b.n):Upd a (b.set i o) F G :=
 ⟨x.n,x.lim,x.wf.set,fun j hj hn=>by rw[aS hb (fun e=>hi.elim (fun h=>hn (by rw[e];exact h)) (fun h=>by omega))];exact x.old j hj hn,x.fp⟩
theorem Upd.mono{a b:aA}{F G:List Nat}(x:Upd a b F F)(h:∀i∈F,i∈G):Upd a b G G :=
 ⟨x.n,x.lim,x.wf,fun i hi hn=>x.old i hi (fun hf=>hn (h i hf)),fun _ hi=>.inl hi⟩
theorem QAt.old{h h':aA}{q wid:Nat}{ways:List (Int×Int)}{W:ID→List Msg}(Q:QAt h q wid ways W)(hl:h'.lim=h.lim)(h1:h'.get q=h.get q)(h2:h'.get wid=h.get wid):QAt h' q wid ways W :=
 ⟨by rw[h1];exact Q.gq,by rw[h2];exact Q.gw,by rw[hl];exact Q.lw,by rw[hl];exact Q.lq⟩
theorem QAt.ne{h:aA}{q wid:Nat}{ways:List (Int×Int)}{W:ID→List Msg}(Q:QAt h q wid ways W):q≠wid:=fun e=>by
 obtain⟨ms,g,_⟩:=Q.gw
 have:=Q.gq
 rw[e,g]at this
 cases this
theorem q239{h:aA}{q wid:Nat}{ways:List (Int×Int)}{W:ID→List Msg}(Q:QAt h q wid ways W)(hw:ways.length≤1000000)(u v:Int) :
  fc D 239 [.ptr q 2 0 0,.int .i64 u,.int .i64 v] h=some (.bool (decide ((u,v)∈ways)),h):=by
 have hc:=s298 false ways (u,v) hw
 simp only[aV]at hc
 have gq:=Q.gq
 simp only[qO]at gq
 rw[e239,aM _ _ _ _ (by simp[FC])]
 simp[FC,gq,e298,hc]
theorem q182{h:aA}{q wid mid:Nat}{ways:List (Int×Int)}{W:ID→List Msg}(Q:QAt h q wid ways W)(wf:WF h)(hw:ways.length≤1000000){u v:Int}(Py:(u,v)∈ways){m:Msg}{e0:DV}{cap:Option Nat}(hm:h.get mid=some (.arr 49 7 [e0] cap))(he:∀n tag h,resolve tag h (n+2) e0=some (jN m))(hl:(W ⟨u,v⟩).length≤300000) :
  ∃ h',fc D 182 [.ptr q 2 0 0,.int .i64 u,.int .i64 v,.sl mid 7 0 1] h=some (.nili,h')∧QAt h' q wid ways (wU W ⟨u,v⟩ (W ⟨u,v⟩++[m]))∧Upd h h' [q,wid] [q,wid]:=by
 have hway:=q239 Q hw u v
 rw[decide_eq_true Py]at hway
 obtain⟨ms,gw,r⟩:=Q.gw
 have gq:=Q.gq
 have hqw:=Q.ne
 have RO:=Q.lw
 simp only[qO]at gq
 have Pw:h.lim≤h.n:=by have:=Q.lq;have:=aC gq;omega
 have hlm1:h.lim≤h.n+1:=by omega
 have tW:fP (.agg [1,1]) .nsl false (.agg [.int .i64 u,.int .i64 v]) (some (oK ms))=_:=qJ r.nd .nsl ⟨u,v⟩
 have Re:=fun(H:aA) (hl:H.lim≤wid) (x:DV)=>M3 (h:=H) (id:=wid) r.nd hl ⟨u,v⟩ x
 simp only[kID]at Re
 have eD:=r.row ⟨u,v⟩
 generalize (pY ms ⟨u,v⟩).getD .nsl=v0 at tW eD
 have hC:=s240 false true true (W ⟨u,v⟩) [m] (by omega) (by simp)
 simp only[qR,List.map_nil]at hC
 have cS:=eD.one
 have hec:=eD.ec
 have BI:∀H n,resolve true H (n+1) v0=some (eL false 7 jN (W ⟨u,v⟩)):=fun H n=>eD.res true H n
 have lq:=aC gq
 have lw:=aC gw
 have lm:=aC hm
 have lw1:wid<h.n+1:=by omega
 have nq:¬q=h.n:=by omega
 have nw:¬wid=h.n:=by omega
 have nm:¬mid=h.n:=by omega
 have nq1:¬q=h.n+1:=by omega
 have nw1:¬wid=h.n+1:=by omega
 have nm1:¬mid=h.n+1:=by omega
 rw[e182,aM _ _ _ _ (by simp[FE])]
 simp[FE,hway,gq,gw,nq,nw,wf,turn,eF,fV,tW,cS,hec,Pw,hlm1,e240,BI,he,hm,nm,nm1,hC,nw1,nq1,kX,Re,RO,lw,lw1,mkIsl]
 refine⟨⟨?_,⟨_,?_,r.put ⟨u,v⟩ (sH.eL _)⟩,RO,Q.lq⟩,(((Upd.refl wf _).set (.inl (by simp)) lw).push _).push _⟩
 ·have cT:¬q=wid:=hqw
  simp[qO,nq,nq1,cT,wf,lw,gq]
 ·simp[nw,nw1,wf,lw]
end Go.Dm.Tc
/-
Networks,part 3: the first message that waits;where something waits.
-/
namespace Go.Dm.Tc
theorem UD(H:aA)(t:Bool)(sz:Nat)(x:DV)(xs:List DV):fC H sz (.isl t sz (x::xs)) (some (.int .i64 1)) none=some (.isl t sz xs):=by
 simp only[fC,true_or,if_true,vR]
 have:cH (some (.int .i64 1)) 0 (x::xs).length=some 1:=by
  simp[cH,asI]
  omega
 rw[this]
 simp
theorem JC(t:Bool)(sz:Nat)(x:DV)(xs:List DV):aQ sz (.isl t sz (x::xs)) (.int .i64 0)=some (.iptr t (aF sz x) 0):=by simp[aQ,asI]
theorem q84{h:aA}{q wid:Nat}{ways:List (Int×Int)}{W:ID→List Msg}(Q:QAt h q wid ways W)(wf:WF h){u v:Int}{m:Msg}{r:List Msg}(hm:W ⟨u,v⟩=m::r) :
  ∃ h',fc D 84 [.ptr q 2 0 0,.int .i64 u,.int .i64 v] h=some (.tup [jN m,.nili],h')∧QAt h' q wid ways (wU W ⟨u,v⟩ r)∧Upd h h' [q,wid] [q,wid]:=by
 obtain⟨ms,gw,rr⟩:=Q.gw
 have gq:=Q.gq
 have hqw:=Q.ne
 have RO:=Q.lw
 simp only[qO]at gq
 have Pw:h.lim≤h.n:=by have:=Q.lq;have:=aC gq;omega
 have hlm1:h.lim≤h.n+1:=by omega
 have tW:fP (.agg [1,1]) .nsl false (.agg [.int .i64 u,.int .i64 v]) (some (oK ms))=_:=qJ rr.nd .nsl ⟨u,v⟩
 have Re:=fun(H:aA) (hl:H.lim≤wid) (x:DV)=>M3 (h:=H) (id:=wid) rr.nd hl ⟨u,v⟩ x
 simp only[kID]at Re
 have eD:=rr.row ⟨u,v⟩
 rw[hm]at eD
 generalize (pY ms ⟨u,v⟩).getD .nsl=v0 at tW eD
 obtain⟨sz,rfl,hs⟩:∃ sz,v0=.isl false sz ((m::r).map jN)∧sz=7:=by
  rcases eD with⟨_,h⟩|⟨sz,h1,h2⟩
  ·cases h
  ·exact⟨sz,h1,h2.resolve_right (by simp)⟩
 subst hs
 have lq:=aC gq
 have lw:=aC gw
 have nq:¬q=h.n:=by omega
 have nw:¬wid=h.n:=by omega
 have nq1:¬q=h.n+1:=by omega
 have nw1:¬wid=h.n+1:=by omega
 have lw1:wid<h.n+1:=by omega
 have hz:¬((r.length:Int)+1=0):=by omega
 rw[e84,aM _ _ _ _ (by simp[t84])]
 simp[t84,gq,gw,nq,nw,nq1,nw1,wf,turn,eF,fV,tW,Pw,hlm1,hz,kX,Re,RO,lw,lw1,jN,UD,JC,aU]
 refine⟨⟨?_,⟨_,?_,rr.put ⟨u,v⟩ (.inr ⟨7,rfl,.inl rfl⟩)⟩,RO,Q.lq⟩,(((Upd.refl wf _).set (.inl (by simp)) lw).push _).push _⟩
 ·have cT:¬q=wid:=hqw
  simp[qO,nq,nq1,cT,wf,lw,gq]
 ·simp[nw,nw1,wf,lw]
def iN(W:ID→List Msg)(ways:List (Int×Int)):List (Int×Int):=ways.filter fun w=>!(W ⟨w.1,w.2⟩).isEmpty
theorem sH.lenV{v:DV}{l:List Msg}(r:sH v l)(h:aA):Dm.lenV h 1 v=some (.int .i64 l.length):=by
 rcases r with⟨rfl,rfl⟩|⟨sz,rfl,_⟩
 ·rfl
 ·simp[Dm.lenV]
theorem l82(P:Res→Prop){h0:aA}{q wid:Nat}{ways:List (Int×Int)}{W:ID→List Msg}(Q:QAt h0 q wid ways W)(hL:ways.length≤1000000) :
  ∀(rest iR:List (Int×Int)) (i:Nat) (f:eI) (h:aA),ways.drop i=rest→iR.length≤i→f 0=.ptr q 2 0 0→f 9=eL false 2 aV ways→f 10=.int .i64 ways.length→f 11=.int .i64 i→OwnR h0.n h (f 3) 86 2 (iR.map aV)→Ext h0.n h0 h →
  (∀F H,OwnR h0.n H (F 3) 86 2 ((iR++iN W rest).map aV)→Ext h0.n h0 H→P (run D 29 [] N0 F H)) →
  P (run D 29 [.block 0,.seq N0] (.loop M9) f h):=by
 intro rest
 induction rest with
 | nil =>
  intro iR i f h hd ha WC h9 vC Iy ho hx dO
  have hi:=iD hd
  have:¬(i<ways.length):=by omega
  rw[aJ M9.eq_1]
  simp[vC,Iy,this]
  exact dO _ _ (by simpa[iN]using ho) hx
 | cons l rest ih =>
  intro iR i f h hd ha WC h9 vC Iy ho hx dO
  obtain⟨hi,he,pV⟩:=jO hd
  obtain⟨ms,gw,r⟩:=Q.gw
  have gq:=Q.gq
  have lq:=aC gq
  have lw:=aC gw
  have RT:=(hx.get q lq).trans gq
  have hgw:=(hx.get wid lw).trans gw
  have bI:=hx.lim
  have hq:=Q.lq
  have hnh:=hx.le
  simp only[qO]at RT
  have nq:¬q=h.n:=by omega
  have nw:¬wid=h.n:=by omega
  have hw:IntKind.i64.wrap ((i:Int)+1)=(i:Int)+1:=bG (by omega) (by omega)
  obtain⟨u,v⟩:=l
  have tW:fP (.agg [1,1]) .nsl false (.agg [.int .i64 u,.int .i64 v]) (some (oK ms))=_:=qJ r.nd .nsl ⟨u,v⟩
  have eD:=r.row ⟨u,v⟩
  generalize (pY ms ⟨u,v⟩).getD .nsl=v0 at tW eD
  have bZ:=fun h=>eD.lenV h
  have wfh:=hx.wf
  have Pw:h.lim≤h.n:=by omega
  rw[aJ M9.eq_1]
  by_cases hc:W ⟨u,v⟩=[]
  ·have hB:iN W ((u,v)::rest)=iN W rest:=by simp[iN,hc]
   rw[hB]at dO
   rw[hc]at bZ
   simp[WC,h9,vC,Iy,hi,he,aV,Pw,RT,hgw,nq,nw,wfh,turn,eF,fV,tW,bZ,hw]
   generalize hF:upd _ 11 _=F
   exact ih iR (i+1) F _ pV (by omega) (by rw[←hF];simp[WC]) (by rw[←hF];simp[h9]) (by rw[←hF];simp[vC]) (by rw[←hF];simp) (by rw[←hF];simp;exact ho.push) hx.push dO
  ·have hB:iN W ((u,v)::rest)=(u,v)::iN W rest:=by simp[iN,hc]
   have hp:0<(W ⟨u,v⟩).length:=List.length_pos_iff.2 hc
   rw[hB,List.append_cons]at dO
   simp[WC,h9,vC,Iy,hi,he,aV,Pw,RT,hgw,nq,nw,wfh,turn,eF,fV,tW,bZ,hp]
   generalize hA:bF _ _ _ _ _ _=A
   obtain⟨w',h',rfl,Jy,tA,_⟩:=ho.push.push.append hx.push.push.wf (hx.push.push.le) (by simp[bI];omega) hA (by simp;omega) (by decide)
   clear hA
   simp[Iy,hw]
   generalize hF:upd _ 11 _=F
   refine ih (iR++[(u,v)]) (i+1) F h' pV (by simp;omega) (by rw[←hF];simp[WC]) (by rw[←hF];simp[h9]) (by rw[←hF];simp[vC]) (by rw[←hF];simp) (by rw[←hF];simp;simpa[aV]using Jy) (hx.push.push.trans tA) dO
theorem q82{h:aA}{q wid:Nat}{ways:List (Int×Int)}{W:ID→List Msg}(Q:QAt h q wid ways W)(wf:WF h)(hL:ways.length≤1000000) :
  ∃ v h',fc D 82 [.ptr q 2 0 0] h=some (v,h')∧OwnR h.n h' v 86 2 ((iN W ways).map aV)∧Ext h.n h h':=by
 have gq:=Q.gq
 have lq:=aC gq
 simp only[qO]at gq
 rw[e82,aM _ _ _ _ (by simp[t82])]
 simp[t82,gq]
 generalize hF:upd _ 11 _=F
 refine l82 (fun r=>∃ v h',fin [.t 2] r=some (v,h')∧OwnR h.n h' v 86 2 ((iN W ways).map aV)∧Ext h.n h h') Q hL ways [] 0 F h rfl (Nat.zero_le _) (by rw[←hF];simp) (by rw[←hF];simp) (by rw[←hF];simp) (by rw[←hF];simp) (by rw[←hF];simp;exact .start _ _ _ _) (.refl (Nat.le_refl _) wf) fun F K o x=>?_
 rw[List.nil_append]at o
 refine⟨F 3,K,?_,o,x⟩
 simp[N0]
end Go.Dm.Tc
/-
Networks,part 4: all ways of a graph,sorted.
-/
namespace Go.Dm.Tc
def rI:List (Int×Int)→List (Int×Int)
 | []=>[]
 | l::r=>l::(l.2,l.1)::rI r
def bD(L:List (Int×Int)):List (Int×Int):=gB ltP (rI L)
theorem zY{u v:Int}:∀{L:List (Int×Int)},(u,v)∈rI L↔(u,v)∈L∨(v,u)∈L
 | []=>by simp[rI]
 | l::r=>by
  obtain⟨a,b⟩:=l
  simp only[rI,List.mem_cons,zY (L:=r),Prod.mk.injEq]
  constructor
  ·rintro(h|h|h|h)
   ·exact .inl (.inl h)
   ·exact .inr (.inl ⟨h.2,h.1⟩)
   ·exact .inl (.inr h)
   ·exact .inr (.inr h)
  ·rintro((h|h)|(h|h))
   ·exact .inl h
   ·exact .inr (.inr (.inl h))
   ·exact .inr (.inl ⟨h.2,h.1⟩)
   ·exact .inr (.inr (.inr h))
theorem Fe:∀L:List (Int×Int),(rI L).length=2*L.length
 | []=>rfl
 | l::r=>by simp[rI,Fe r];omega
theorem bR.tail{m:Int}{l:Int×Int}{r:List (Int×Int)}(h:bR m (l::r)):bR m r:=⟨fun x hx=>h.rng x (List.mem_cons_of_mem _ hx),(List.pairwise_cons.1 h.nd).2⟩
theorem bR.wayL_nd{m:Int}:∀{L:List (Int×Int)},bR m L→(rI L).Nodup
 | [],_=>List.nodup_nil
 | (a,b)::r,h=>by
  obtain⟨h1,_⟩:=List.pairwise_cons.1 h.nd
  have hr:=h.rng (a,b) (List.mem_cons_self ..)
  have n1:(a,b) ∉ rI r:=fun hm=>by
   rcases zY.1 hm with hm|hm
   ·exact(h1 _ hm).1 rfl
   ·exact(h1 _ hm).2 rfl
  have n2:(b,a) ∉ rI r:=fun hm=>by
   rcases zY.1 hm with hm|hm
   ·exact(h1 _ hm).2 rfl
   ·exact(h1 _ hm).1 rfl
  simp only[rI,List.nodup_cons,List.mem_cons,not_or]
  refine⟨⟨fun e=>hr.2.2.2.2 ?_,n1⟩,n2,h.tail.wayL_nd⟩
  cases e;rfl
theorem uG(L:List (Int×Int)):(bD L).Perm (rI L):=uV ltP _
theorem B6{u v:Int}{L:List (Int×Int)}:(u,v)∈bD L↔(u,v)∈L∨(v,u)∈L:=(uG L).mem_iff.trans zY
theorem kM(L:List (Int×Int)):(bD L).length=2*L.length:=(uG L).length_eq.trans (Fe L)
theorem bR.waysOf_nd{m:Int}{L:List (Int×Int)}(h:bR m L):(bD L).Nodup:=(uG L).nodup_iff.2 h.wayL_nd
theorem l106(id n:Nat)(L:List (Int×Int))(sp:List DV)(cap:Option Nat)(h:aA)(hl:h.lim≤id)(hn:n≤1000000)(hs:L.Nodup)(hL:L.length=n)(g:h.get id=some (.arr 86 2 (L.map aV++sp) cap))(wf:WF h) :
  ∀(j k:Nat) (f:eI),1≤k→k+j=n→f 0=.sl id 2 0 n→f 3=.int .i64 k →
  fin [.t 2] (run D 61 [.block 0,.seq Yh] (.loop No) f h)=some (.sl id 2 0 n,h):=by
 have PC:=aC g
 intro j
 induction j with
 | zero =>
  intro k f h1 hk h0 h3
  have Rg:k=n:=by omega
  subst Rg
  rw[aJ No.eq_1]
  simp[h0,h3,Yh]
 | succ j ih =>
  intro k f h1 hk h0 h3
  have Rg:k<n:=by omega
  have hx:∀i,(hi:i<n)→(L.map aV++sp)[i]?=some (.agg [.int .i64 (L[i]'(by omega)).1,.int .i64 (L[i]'(by omega)).2]):=fun i hi=>by
   rw[List.getElem?_append_left (by simp;omega),List.getElem?_map,List.getElem?_eq_getElem (by omega)];rfl
  have Iu:=hx k Rg
  have Ma:=hx (k-1) (by omega)
  have Xd:IntKind.i64.wrap ((k:Int)-1)=((k-1:Nat):Int):=by rw[bG (by omega) (by omega)];omega
  have VO:IntKind.i64.wrap ((k:Int)+1)=((k+1:Nat):Int):=by rw[bG (by omega) (by omega)];omega
  have BM:∀i:Nat,i<n→aQ 2 (.sl id 2 0 n) (.int .i64 (i:Int))=some (.ptr id 2 i 0):=fun i hi=>by
   simp[aQ,asI,hi]
  have tZ:=BM k Rg
  have E1:=BM (k-1) (by omega)
  have cT:¬((L[k]'(by omega)).1=(L[k-1]'(by omega)).1∧(L[k]'(by omega)).2=(L[k-1]'(by omega)).2):=fun e=>by
   have:L[k]'(by omega)=L[k-1]'(by omega):=Prod.ext e.1 e.2
   exact List.pairwise_iff_getElem.1 hs (k-1) k (by omega) (by omega) (by omega) this.symm
  have hq:((L[k]'(by omega)).1 == (L[k-1]'(by omega)).1 && (L[k]'(by omega)).2 == (L[k-1]'(by omega)).2)=false:=by
   rw[Bool.and_eq_false_iff]
   by_cases h1:(L[k]'(by omega)).1=(L[k-1]'(by omega)).1
   ·exact .inr (by simpa using fun h2=>cT ⟨h1,h2⟩)
   ·exact .inl (by simpa using h1)
  rw[aJ No.eq_1]
  simp[h0,h3,g,Iu,Ma,PC,Xd,tZ,E1,Rg,hq,FK,VO]
  exact ih (k+1) _ (by omega) (by omega) (by simp[h0]) (by simp)
theorem q106(id:Nat)(L:List (Int×Int))(sp:List DV)(cap:Option Nat)(h:aA)(hl:h.lim≤id)(hn:L.length≤1000000)(hs:L.Nodup)(g:h.get id=some (.arr 86 2 (L.map aV++sp) cap))(wf:WF h) :
  fc D 106 [.sl id 2 0 L.length] h=some (.sl id 2 0 L.length,h):=by
 rw[t8,aM _ _ _ _ (by simp[Rx])]
 by_cases h2:L.length<2
 ·have PU:(L.length:Int)<2:=by omega
  simp[Rx,h2,PU]
 ·have PU:¬(L.length:Int)<2:=by omega
  simp[Rx,h2,PU]
  exact l106 id L.length L sp cap h hl hn hs rfl g wf (L.length-1) 1 _ (by omega) (by omega) (by simp) (by simp)
theorem HB(h:aA):fc D 106 [.nsl] h=some (.nsl,h):=by
 rw[t8,aM _ _ _ _ (by simp[Rx])]
 simp[Rx]
theorem q102(id:Nat)(sp:List DV)(cap:Option Nat)(h:aA)(L:List (Int×Int))(g:h.get id=some (.arr 86 2 (L.map aV++sp) cap))(hl:h.lim≤id)(hb:L.length≤1000000) :
  fc D 102 [.sl id 2 0 L.length,.func 103 []] h=some (.tup [],h.set id (.arr 86 2 ((gB ltP L).map aV++sp) cap)) :=
 (u4 _ h).trans (Cy (un:=unP) (mk:=aV) (lt:=ltP) (fun _=>rfl) g hl hb)
theorem HC(h:aA):fc D 102 [.nsl,.func 103 []] h=some (.tup [],h):=u4 _ h
theorem l40(P:Res→Prop)(t:Bool)(m:Int)(L:List (Int×Int))(hm:∀l∈L,yH m l=true)(hL:L.length≤100000)(h0:aA)(g0:h0.get 0=some (.arr 76 2 [.agg [.int .i64 m,eL t 2 aV L]] (some 1)))(bI:h0.lim=0) :
  ∀(rest iR:List (Int×Int)) (i:Nat) (f:eI) (h:aA),L.drop i=rest→iR.length≤2*i→f 1=.ptr 0 2 0 0→f 7=eL t 2 aV L→f 8=.int .i64 L.length→f 9=.int .i64 i→OwnR 1 h (f 3) 86 2 (iR.map aV)→Ext 1 h0 h →
  (∀F H,OwnR 1 H (F 3) 86 2 ((iR++rI rest).map aV)→Ext 1 h0 H→P (run D 30 [] Rw F H)) →
  P (run D 30 [.block 0,.seq Rw] (.loop N4) f h):=by
 intro rest
 induction rest with
 | nil =>
  intro iR i f h hd ha h1 h7 h8 h9 ho hx dO
  have hi:=iD hd
  have:¬(i<L.length):=by omega
  rw[aJ N4.eq_1]
  simp[h8,h9,this]
  exact dO _ _ (by simpa[rI]using ho) hx
 | cons l rest ih =>
  intro iR i f h hd ha h1 h7 h8 h9 ho hx dO
  obtain⟨hi,he,pV⟩:=jO hd
  have hlH:h.lim=0:=hx.lim.trans bI
  have Hg:=(hx.get 0 (by decide)).trans g0
  have hnh:=hx.le
  have n0:¬0=h.n:=by omega
  have hw:IntKind.i64.wrap ((i:Int)+1)=(i:Int)+1:=bG (by omega) (by omega)
  have hf:∀h,resolve true h 199 (eL t 2 aV L)=some (eL t 2 aV L):=fun h=>eX _ _ _ _ true h 199 (by decide)
  obtain⟨u,v⟩:=l
  have yG:pcF D Np [.agg [.int .i64 m,eL t 2 aV L],.agg [.int .i64 u,.int .i64 v]]=some (.bool true):=by
   have:=UM t m L (u,v)
   rw[hm (u,v) (by rw[←List.take_append_drop i L,hd];simp)]at this
   exact this
  rw[aJ N4.eq_1]
  rw[show iR++rI ((u,v)::rest)=(iR++[(u,v),(v,u)])++rI rest by simp[rI]]at dO
  simp[h1,h7,h8,h9,hi,he,hlH,Hg,n0,aV,CK,yG,hf,Jw,Jv]
  generalize hA:bF _ _ _ _ _ _=A
  obtain⟨w',h',rfl,Jy,tA,_⟩:=ho.push.push.append hx.push.push.wf (hx.push.push.le) (by simp[hlH]) hA (by simp;omega) (by decide)
  clear hA
  simp[h9,hw]
  generalize hF:upd _ 9 _=F
  refine ih (iR++[(u,v),(v,u)]) (i+1) F h' pV (by simp;omega) (by rw[←hF];simp[h1]) (by rw[←hF];simp[h7]) (by rw[←hF];simp[h8]) (by rw[←hF];simp) (by rw[←hF];simp;simpa[aV]using Jy) (hx.push.push.trans tA) dO
theorem s40(t:Bool){m:Int}{L:List (Int×Int)}(ok:bR m L)(hL:L.length≤100000):pcF D t40 [.agg [.int .i64 m,eL t 2 aV L]]=some (eL false 2 aV (bD L)):=by
 have hm:∀l∈L,yH m l=true:=fun l hl=>decide_eq_true (ok.rng l hl)
 unfold pcF
 rw[aM _ _ _ _ (by simp[t40])]
 simp[t40]
 generalize hF:upd _ 9 _=F
 generalize hH:aA.push _ _=H
 refine l40 (fun r=>jS (fin [.t 2] r)=some (eL false 2 aV (bD L))) t m L hm hL H (by rw[←hH];simp) (by rw[←hH];simp) L [] 0 F H rfl (Nat.zero_le _) (by rw[←hF];simp) (by rw[←hF];simp) (by rw[←hF];simp) (by rw[←hF];simp) (.nil (by rw[←hF];simp) rfl) (.refl (by rw[←hH];simp) (by rw[←hH];simp)) fun F K o x=>?_
 rw[List.nil_append]at o
 have bZ:=kM L
 have RO:=Fe L
 cases o with
 | nil hv hx =>
  have tA:L=[]:=List.length_eq_zero_iff.1 (by have:=congrArg List.length hx;rw[List.length_map]at this;simp only[List.length_nil]at this;omega)
  subst tA
  simp[Rw,hv,HC,HB,turn]
  rfl
 | arr id sp cap hv hg bI eN =>
  have h2:=q102 id sp cap K (rI L) hg bI (by omega)
  have hgl:=aC hg
  have g2:(K.set id (.arr 86 2 ((bD L).map aV++sp) cap)).get id=some (.arr 86 2 ((bD L).map aV++sp) cap):=cN x.wf hg
  have h3:=q106 id (bD L) sp cap _ (by exact bI) (by omega) ok.waysOf_nd g2 x.wf.set
  have e2:(bD L).length=(rI L).length:=by omega
  rw[List.length_map]at hv
  rw[e2]at h3
  have w:OwnR 1 (K.set id (.arr 86 2 ((bD L).map aV++sp) cap)) (.sl id 2 0 (rI L).length) 86 2 ((bD L).map aV):=.arr id sp cap (by rw[List.length_map,e2]) g2 bI eN
  have hout:=w.out (k:=22) (fun y _=>(sU y).1.mono (by decide)) (fun y _=>(sU y).2) (by decide)
  unfold bD at h3 hout ⊢
  simp[Rw,hv,h2,h3,turn,-mL]
  exact hout
end Go.Dm.Tc
