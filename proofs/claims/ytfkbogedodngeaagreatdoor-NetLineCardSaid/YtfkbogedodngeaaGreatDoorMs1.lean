/- A part of the proof. -/
import Derived.Test.YtfkbogedodngeaaGreatDoorMs0
set_option linter.all false
set_option maxRecDepth 100000
namespace Go.Dm.Tc
theorem JP{α:Type}(key:α→ID){l:List α}(h:eJ (l.map key))(x:ID)(a:α):l.find? (fun b=>decide (key b=x))=some a↔a∈l∧key a=x:=by
 constructor
 ·intro hf
  exact⟨List.mem_of_find?_eq_some hf,by simpa using List.find?_some hf⟩
 ·rintro⟨hm,hk⟩
  cases hf:l.find? (fun b=>decide (key b=x))with
  | none=>exact absurd hk (by have:=List.find?_eq_none.1 hf a hm;simpa using this)
  | some b =>
   have hb:=List.mem_of_find?_eq_some hf
   have hkb:key b=x:=by simpa using List.find?_some hf
   have:b=a:=by
    by_cases e:b=a
    ·exact e
    ·exfalso
     unfold eJ at h
     rw[List.pairwise_map]at h
     obtain⟨i,hi,rfl⟩:=List.mem_iff_getElem.1 hb
     obtain⟨j,hj,rfl⟩:=List.mem_iff_getElem.1 hm
     rcases Nat.lt_trichotomy i j with aY|he|aY
     ·have:=List.pairwise_iff_getElem.1 h i j hi hj aY
      rw[hkb,hk,gV]at this;omega
     ·subst he;exact e rfl
     ·have:=List.pairwise_iff_getElem.1 h j i hj hi aY
      rw[hkb,hk,gV]at this;omega
   rw[this]
theorem Km{α:Type}(key:α→ID){l:List α}(x:ID):l.find? (fun b=>decide (key b=x))=none↔∀a∈l,key a≠x:=by
 rw[List.find?_eq_none]
 exact⟨fun h a ha=>by simpa using h a ha,fun h a ha=>by simpa using h a ha⟩
theorem uD{b:aK}(h:eJ (b.bB.map (·.id))){x:ID}{a:cQ}:nV b x=some a↔a∈b.bB∧a.id=x:=JP (fun a:cQ=>a.id) h x a
theorem N0{b:aK}{x:ID}:nV b x=none↔∀a∈b.bB,a.id≠x:=Km (fun a:cQ=>a.id) x
theorem iU(b:aK)(x:ID):gQ b x=((nV b x).getD T7).eQ:=rfl
theorem pA{l:List bL}{t:ID}{p:dZ}:eH l t p=true↔∃ e∈l,e.tree=t∧e.up=true∧S7 e.pred p=true:=by
 unfold eH ofT
 rw[List.any_eq_true]
 constructor
 ·rintro⟨e,he,h⟩
  have:=List.mem_filter.1 he
  rw[Bool.and_eq_true]at h
  exact⟨e,this.1,by simpa using this.2,h.1,h.2⟩
 ·rintro⟨e,he,h1,h2,h3⟩
  exact⟨e,List.mem_filter.2 ⟨he,by simpa using h1⟩,by rw[h2,h3];rfl⟩
theorem vI{e x:bL}{l:List bL}:x∈Ps e l↔x=e∨x∈l:=by
 unfold Ps
 rw[List.mem_append,List.mem_cons]
 constructor
 ·rintro(h|h|h)
  ·exact .inr (List.mem_of_mem_take h)
  ·exact .inl h
  ·exact .inr (List.mem_of_mem_drop h)
 ·rintro(h|h)
  ·exact .inr (.inl h)
  ·rw[←List.take_append_drop (dS (lB e.tree e.sub) l) l,List.mem_append]at h
   exact h.elim .inl fun h=>.inr (.inr h)
theorem Uz(e:bL)(l:List bL):(Ps e l).length=l.length+1:=by
 unfold Ps
 rw[List.length_append,List.length_cons,List.length_take,List.length_drop]
 have:=wZ (lB e.tree e.sub) l
 omega
theorem NC{t s:ID}{a:bL}(h1:¬lB t s a<0)(h2:¬(a.tree=t∧a.sub=s))(e:bL)(he:e.tree=t)(he2:e.sub=s):lB a.tree a.sub e<0:=by
 rw[Ev,jV,jV]at *
 rw[he,he2]
 rw[ID.ext',ID.ext']at h2
 rw[ID.ext']at *
 omega
theorem Uy{e:bL}{l:List bL}(h:jN l)(hn:∀x∈l,isE e.tree e.sub x=false):jN (Ps e l):=by
 unfold jN Ps
 rw[List.pairwise_append,List.pairwise_cons]
 generalize hk:dS (lB e.tree e.sub) l=k
 have Hk:∀b∈l.take k,lB e.tree e.sub b<0:=by
  intro b hb
  obtain⟨i,hi,rfl⟩:=List.mem_iff_getElem.1 hb
  rw[List.getElem_take]
  rw[List.length_take]at hi
  have:=List.not_of_lt_findIdx (p:=fun x=>!decide (lB e.tree e.sub x<0)) (xs:=l) (i:=i) (by unfold dS at hk;omega)
  simpa using this
 have vO:∀b∈l.drop k,lB b.tree b.sub e<0:=by
  intro b hb
  obtain⟨i,hi,rfl⟩:=List.mem_iff_getElem.1 hb
  rw[List.length_drop]at hi
  rw[List.getElem_drop]
  have RQ:k<l.length:=by omega
  have h1:¬lB e.tree e.sub l[k]<0:=by
   have:=List.findIdx_getElem (p:=fun x=>!decide (lB e.tree e.sub x<0)) (xs:=l) (w:=by unfold dS at hk;omega)
   have oN:List.findIdx (fun x=>!decide (lB e.tree e.sub x<0)) l=k:=hk
   simp only[oN]at this
   simpa using this
  have h2:¬lB e.tree e.sub l[k+i]<0:=fun hc=>h1 (v7 h _ _ k (k+i) RQ (by omega) (by omega) hc)
  refine NC h2 ?_ e rfl rfl
  have:=hn l[k+i] (List.getElem_mem _)
  simpa[isE]using this
 refine⟨h.sublist (List.take_sublist ..),⟨fun b hb=>vO b hb,h.sublist (List.drop_sublist ..)⟩,?_⟩
 intro x hx y hy
 rcases List.mem_cons.1 hy with rfl|hy
 ·exact Hk x hx
 ·exact Gh (Hk x hx) (by have:=vO y hy;omega)
structure pC(b:aK):Prop where
 bE:kC (fun x y=>decide (x<y)) b.bE=true
 loc:∀x∈b.bE,0≤x
 ra:eJ (b.bB.map (·.id))
 rs:eJ b.seen
 ro:eJ (b.lI.map (·.id))
 re:jN b.entries
 sub:∀a∈b.bB,a.id∈b.seen
 par:∀a∈b.bB,vG b a.eQ=true
 pa:∀a∈b.bB,kI a.pred
 po:∀o∈b.lI,kI o.pred
 ent:∀e∈b.entries,lC b e=true
 pe:∀e∈b.entries,kI e.pred
 tight:Xu b=true
structure SzK(b:aK)(n:Nat):Prop where
 bE:b.bE.length≤1000
 adv:b.bB.length≤n
 seen:b.seen.length≤n
 own:b.lI.length≤n
 ent:b.entries.length≤n*n
theorem SzK.mono{b:aK}{n m:Nat}(h:SzK b n)(hn:n≤m):SzK b m:=by
 have:=Nat.mul_le_mul hn hn
 obtain⟨h1,h2,h3,h4,h5⟩:=h
 exact⟨h1,by omega,by omega,by omega,by omega⟩
theorem pC.asked{b:aK}(h:pC b):XU b:=⟨fun e he=>(h.pe e he).unlike,fun e he=>Nat.le_trans (h.pe e he).len (by decide)⟩
theorem pC.right{b:aK}(h:pC b):Ou b=true:=by
 unfold Ou Cg
 rw[h.bE,pG (key:=fun a:cQ=>a.id) h.ra,pG (key:=fun a:Xc=>a.id) h.ro,Lw h.re,show kC (fun x y=>Cm x y) b.seen=true from pG (key:=fun a:ID=>a) (by simpa using h.rs)]
 have h1:(b.bB.any fun a=>!uW b a)=false:=by
  rw[List.any_eq_false]
  intro a ha
  simp[uW,h.sub a ha,h.par a ha,(h.pa a ha).right]
 have h2:(b.entries.any fun e=>!lC b e)=false:=by
  rw[List.any_eq_false]
  intro e he
  simp[h.ent e he]
 have h3:(b.lI.any fun o=>!tB o.pred)=false:=by
  rw[List.any_eq_false]
  intro o ho
  simp[(h.po o ho).right]
 rw[h1,h2,h3]
 rfl
theorem iB{b:aK}{e:bL}:lC b e=true↔∃ a,nV b e.tree=some a∧vG b e.lX=true∧(e.lX=a.eQ→a.eQ=-1)∧(e.up=true→a.eQ≠-1)∧tB e.pred=true:=by
 unfold lC nV
 cases b.bB.find? (fun a=>a.id=e.tree)with
 | none=>simp
 | some a =>
  simp only[Option.some.injEq,exists_eq_left',Bool.and_eq_true,Bool.or_eq_true,Bool.not_eq_true',Bool.and_eq_false_iff,decide_eq_true_eq,decide_eq_false_iff_not]
  constructor
  ·rintro⟨⟨⟨h1,h2⟩,h3⟩,h4⟩
   exact⟨h1,fun q=>h2.resolve_left (fun hn=>hn q),fun q=>h3.resolve_left (by rw[q];decide),h4⟩
  ·rintro⟨h1,h2,h3,h4⟩
   refine⟨⟨⟨h1,?_⟩,?_⟩,h4⟩
   ·by_cases q:e.lX=a.eQ
    ·exact .inr (h2 q)
    ·exact .inl q
   ·cases q:e.up with
    | false=>exact .inl rfl
    | true=>exact .inr (h3 q)
theorem kB{b:aK}:Xu b=true↔∀e∈b.entries,e.up=true∨gQ b e.tree=-1∨eH b.entries e.tree e.pred=true:=by
 unfold Xu
 rw[List.all_eq_true]
 simp only[EU,Bool.or_eq_true,decide_eq_true_eq,or_assoc]
theorem yS{b b':aK}(h:b'.bE=b.bE)(n:Int):vG b' n=vG b n:=by unfold vG;rw[h]
theorem rH{b b':aK}{e:bL}(h:b'.bE=b.bE)(ha:nV b' e.tree=nV b e.tree):lC b' e=lC b e:=by
 rw[Bool.eq_iff_iff,iB,iB,ha]
 simp only[yS h]
theorem pC.start{me:Int}{bE:List Int}(hn:kC (fun x y=>decide (x<y)) bE=true)(hl:∀x∈bE,0≤x):pC ⟨me,bE,[],[],[],[]⟩ :=
 ⟨hn,hl,.nil,.nil,.nil,.nil,fun a h=>(by cases h),fun a h=>(by cases h),fun a h=>(by cases h),fun a h=>(by cases h),fun a h=>(by cases h),fun a h=>(by cases h),rfl⟩
theorem SzK.start{me:Int}{bE:List Int}(hn:bE.length≤1000):SzK ⟨me,bE,[],[],[],[]⟩ 0:=⟨hn,Nat.le_refl _,Nat.le_refl _,Nat.le_refl _,Nat.le_refl _⟩
theorem Xb{b:aK}(h:pC b)(a:cQ)(hn:a.id ∉ b.seen)(x:ID):nV (dH b a).1 x=if a.id=x then some a else nV b x:=by
 have Qb:∀c∈b.bB,c.id≠a.id:=fun c hc e=>hn (by rw[←e];exact h.sub c hc)
 have hr:eJ ((dH b a).1.bB.map (·.id)):=by
  unfold dH;rw[if_neg hn]
  exact pQ (fun a:cQ=>a.id) a h.ra Qb
 have hm:∀c,c∈(dH b a).1.bB↔c=a∨c∈b.bB:=by
  intro c
  unfold dH;rw[if_neg hn]
  exact qS (fun a:cQ=>a.id) a b.bB c
 by_cases e:a.id=x
 ·rw[if_pos e,uD hr,hm];exact⟨.inl rfl,e⟩
 ·rw[if_neg e]
  cases hq:nV b x with
  | none =>
   rw[N0]at hq ⊢
   intro c hc
   rcases(hm c).1 hc with rfl|hc
   ·exact e
   ·exact hq c hc
  | some c =>
   rw[uD h.ra]at hq
   rw[uD hr,hm]
   exact⟨.inr hq.1,hq.2⟩
theorem pC.learn{b:aK}(h:pC b){a:cQ}(hp:vG b a.eQ=true)(hr:kI a.pred):pC (dH b a).1:=by
 by_cases hn:a.id∈b.seen
 ·unfold dH;rw[if_pos hn];exact h
 ·have ho:=Xb h a hn
  have hE:(dH b a).1.entries=b.entries:=by unfold dH;rw[if_neg hn]
  have hN:(dH b a).1.bE=b.bE:=by unfold dH;rw[if_neg hn]
  have hO:(dH b a).1.lI=b.lI:=by unfold dH;rw[if_neg hn]
  have hA:(dH b a).1.bB=uG (fun a=>a.id) a b.bB:=by unfold dH;rw[if_neg hn]
  have hS:(dH b a).1.seen=uG (fun x=>x) a.id b.seen:=by unfold dH;rw[if_neg hn]
  have hother:∀e∈b.entries,nV (dH b a).1 e.tree=nV b e.tree:=by
   intro e he
   rw[ho,if_neg]
   intro hc
   obtain⟨c,BY,_⟩:=iB.1 (h.ent e he)
   rw[uD h.ra]at BY
   exact hn (by rw[hc,←BY.2];exact h.sub c BY.1)
  refine⟨by rw[hN];exact h.bE,by rw[hN];exact h.loc,?_,?_,by rw[hO];exact h.ro,by rw[hE];exact h.re,?_,?_,?_,by rw[hO];exact h.po,?_,by rw[hE];exact h.pe,?_⟩
  ·rw[hA];exact pQ (fun a:cQ=>a.id) a h.ra fun c hc e=>hn (by rw[←e];exact h.sub c hc)
  ·rw[hS]
   have:=pQ (fun x:ID=>x) a.id (l:=b.seen) (by simpa using h.rs) (fun c hc e=>hn (by rw[←e];exact hc))
   simpa using this
  ·intro c hc
   rw[hA,qS]at hc
   rw[hS,qS]
   rcases hc with rfl|hc
   ·exact .inl rfl
   ·exact .inr (h.sub c hc)
  ·intro c hc
   rw[yS hN]
   rw[hA,qS]at hc
   rcases hc with rfl|hc
   ·exact hp
   ·exact h.par c hc
  ·intro c hc
   rw[hA,qS]at hc
   rcases hc with rfl|hc
   ·exact hr
   ·exact h.pa c hc
  ·intro e he
   rw[hE]at he
   rw[rH hN (hother e he)];exact h.ent e he
  ·rw[kB,hE]
   intro e he
   rw[iU,hother e he,←iU]
   exact kB.1 h.tight e he
theorem SzK.learn{b:aK}{n:Nat}(h:SzK b n)(a:cQ):SzK (dH b a).1 (n+1):=by
 have h':=h.mono (Nat.le_succ n)
 unfold dH
 split
 ·exact h'
 ·obtain⟨h1,h2,h3,h4,h5⟩:=h'
  exact⟨h1,by simp only[Fa];have:=h.adv;omega,by simp only[Fa];have:=h.seen;omega,h4,h5⟩
theorem D5{b:aK}{e:bL}:Pq b e=true↔∃ a,nV b e.tree=some a∧(∀x∈b.entries,isE e.tree e.sub x=false)∧(e.lX=a.eQ→a.eQ=-1):=by
 unfold Pq nV
 cases b.bB.find? (fun a=>a.id=e.tree)with
 | none=>simp
 | some a =>
  simp only[Option.some.injEq,exists_eq_left',Bool.and_eq_true,Bool.not_eq_true',Bool.and_eq_false_iff,List.any_eq_false,Bool.not_eq_true,decide_eq_false_iff_not,Bool.not_eq_false',decide_eq_true_eq]
  refine and_congr Iff.rfl ⟨fun h q=>h.resolve_left (fun hn=>hn q),fun h=>?_⟩
  by_cases q:e.lX=a.eQ
  ·exact .inr (h q)
  ·exact .inl q
theorem Bi{l l':List bL}{t:ID}{p:dZ}(h:∀e∈l,e∈l')(hc:eH l t p=true):eH l' t p=true:=by
 rw[pA]at *
 obtain⟨e,he,h2⟩:=hc
 exact⟨e,h e he,h2⟩
theorem pC.add{b:aK}(h:pC b){e:bL}(hl:vG b e.lX=true)(hp:kI e.pred):pC (wI b e).1:=by
 by_cases hm:Pq b e=true
 ·obtain⟨a,ha,Qa,hfp⟩:=D5.1 hm
  unfold wI
  rw[if_pos hm]
  have hpar:gQ b e.tree=a.eQ:=by rw[iU,ha];rfl
  refine⟨h.bE,h.loc,h.ra,h.rs,h.ro,?_,h.sub,h.par,h.pa,h.po,?_,?_,?_⟩
  ·exact Uy (e:={e with up:=Xr b e}) h.re Qa
  ·intro x hx
   rw[vI]at hx
   have hs:∀y,lC {b with entries:=Ps {e with up:=Xr b e} b.entries} y=lC b y:=fun y=>rH rfl rfl
   rw[hs]
   rcases hx with rfl|hx
   ·rw[iB]
    refine⟨a,ha,hl,hfp,?_,hp.right⟩
    intro hu F8
    simp only[Xr,hpar,F8]at hu
    simp at hu
   ·exact h.ent x hx
  ·intro x hx
   rw[vI]at hx
   rcases hx with rfl|hx
   ·exact hp
   ·exact h.pe x hx
  ·rw[kB]
   intro x hx
   have hs:∀y,gQ {b with entries:=Ps {e with up:=Xr b e} b.entries} y=gQ b y:=fun y=>rfl
   rw[hs]
   have uL:=hx
   rw[vI]at hx
   rcases hx with rfl|hx
   ·by_cases F8:a.eQ=-1
    ·exact .inr (.inl (by rw[hpar,F8]))
    ·cases hcv:eH b.entries e.tree e.pred with
     | true=>exact .inr (.inr (Bi (fun y hy=>vI.2 (.inr hy)) hcv))
     | false=>left;simp[Xr,hpar,F8,hcv]
   ·rcases kB.1 h.tight x hx with h1|h1|h1
    ·exact .inl h1
    ·exact .inr (.inl h1)
    ·exact .inr (.inr (Bi (fun y hy=>vI.2 (.inr hy)) h1))
 ·unfold wI
  rw[if_neg hm];exact h
inductive eU(t:ID):List bL→List bL→Prop where
 | nil:eU t [] []
 | keep (e:bL) {l l':List bL} (h:eU t l l'):eU t (e::l) (e::l')
 | up (e:bL) {l l':List bL} (ht:e.tree=t) (hu:e.up=false) (h:eU t l l'):eU t (e::l) ({e with up:=true}::l')
theorem eU.refl(t:ID):∀l,eU t l l
 | []=>.nil
 | e::l=>.keep e (eU.refl t l)
theorem eU.append{t:ID}{a a' b b':List bL}(h:eU t a a')(k:eU t b b'):eU t (a++b) (a'++b'):=by
 induction h with
 | nil=>exact k
 | keep e _ ih=>exact .keep e ih
 | up e ht hu _ ih=>exact .up e ht hu ih
theorem eU.len{t:ID}{a a':List bL}(h:eU t a a'):a'.length=a.length:=by
 induction h with
 | nil=>rfl
 | keep e _ ih=>simp[ih]
 | up e ht hu _ ih=>simp[ih]
theorem eU.mem{t:ID}{a a':List bL}(h:eU t a a'){x:bL}(hx:x∈a'):x∈a∨∃ e∈a,e.tree=t∧e.up=false∧x={e with up:=true}:=by
 induction h with
 | nil=>cases hx
 | keep e _ ih =>
  rcases List.mem_cons.1 hx with rfl|hx
  ·exact .inl (List.mem_cons_self ..)
  ·rcases ih hx with h|⟨y,hy,h⟩
   ·exact .inl (List.mem_cons_of_mem _ h)
   ·exact .inr ⟨y,List.mem_cons_of_mem _ hy,h⟩
 | up e ht hu _ ih =>
  rcases List.mem_cons.1 hx with rfl|hx
  ·exact .inr ⟨e,List.mem_cons_self ..,ht,hu,rfl⟩
  ·rcases ih hx with h|⟨y,hy,h⟩
   ·exact .inl (List.mem_cons_of_mem _ h)
   ·exact .inr ⟨y,List.mem_cons_of_mem _ hy,h⟩
theorem eU.of_mem{t:ID}{a a':List bL}(h:eU t a a'){x:bL}(hx:x∈a):x∈a'∨(x.tree=t∧x.up=false∧{x with up:=true}∈a'):=by
 induction h with
 | nil=>cases hx
 | keep e _ ih =>
  rcases List.mem_cons.1 hx with rfl|hx
  ·exact .inl (List.mem_cons_self ..)
  ·rcases ih hx with h|⟨h1,h2,h3⟩
   ·exact .inl (List.mem_cons_of_mem _ h)
   ·exact .inr ⟨h1,h2,List.mem_cons_of_mem _ h3⟩
 | up e ht hu _ ih =>
  rcases List.mem_cons.1 hx with rfl|hx
  ·exact .inr ⟨ht,hu,List.mem_cons_self ..⟩
  ·rcases ih hx with h|⟨h1,h2,h3⟩
   ·exact .inl (List.mem_cons_of_mem _ h)
   ·exact .inr ⟨h1,h2,List.mem_cons_of_mem _ h3⟩
theorem eU.rising{t:ID}{a a':List bL}(h:eU t a a')(hr:jN a):jN a':=by
 induction h with
 | nil=>exact hr
 | keep e h ih =>
  unfold jN at *
  rw[List.pairwise_cons]at *
  refine⟨fun x hx=>?_,ih hr.2⟩
  rcases h.mem hx with hx|⟨y,hy,_,_,rfl⟩
  ·exact hr.1 x hx
  ·exact hr.1 y hy
 | up e ht hu h ih =>
  unfold jN at *
  rw[List.pairwise_cons]at *
  refine⟨fun x hx=>?_,ih hr.2⟩
  have:∀t s,lB t s {e with up:=true}=lB t s e:=fun t s=>rfl
  rw[this]
  rcases h.mem hx with hx|⟨y,hy,_,_,rfl⟩
  ·exact hr.1 x hx
  ·exact hr.1 y hy
theorem eU.covered{t:ID}{a a':List bL}(h:eU t a a'){t':ID}{p:dZ}(hc:eH a t' p=true):eH a' t' p=true:=by
 rw[pA]at *
 obtain⟨e,he,h1,h2,h3⟩:=hc
 rcases h.of_mem he with hx|⟨_,hx,_⟩
 ·exact⟨e,hx,h1,h2,h3⟩
 ·rw[h2]at hx;cases hx
theorem Nf(t:ID):∀(rest done DX:List bL),∃ r',(zP t done rest DX).1=done++r'∧eU t rest r'∧(∀x∈r',x.tree=t→x.up=true∨eH (done++r') t x.pred=true) ∧
  ∃ u',(zP t done rest DX).2=DX++u'∧∀x∈u',x∈r'∧x.tree=t∧x.up=true∧{x with up:=false}∈rest∧eH (done++rest) t x.pred=false:=by
 intro rest
 induction rest with
 | nil=>intro done DX;exact⟨[],by simp[zP],.nil,(fun x hx=>by cases hx),[],by simp[zP],(fun x hx=>by cases hx)⟩
 | cons e rest ih =>
  intro done DX
  unfold zP
  by_cases hc:e.tree=t∧e.up=false∧eH (done++e::rest) t e.pred=false
  ·rw[if_pos hc]
   obtain⟨r',h1,h2,h3,u',h4,h5⟩:=ih (done++[{e with up:=true}]) (DX++[{e with up:=true}])
   refine⟨{e with up:=true}::r',by rw[h1];simp,.up e hc.1 hc.2.1 h2,?_,{e with up:=true}::u',by rw[h4];simp,?_⟩
   ·intro x hx ht
    rcases List.mem_cons.1 hx with rfl|hx
    ·exact .inl rfl
    ·have:=h3 x hx ht
     simpa using this
   ·intro x hx
    rcases List.mem_cons.1 hx with rfl|hx
    ·have he:({{e with up:=true} with up:=false}:bL)=e:=by obtain⟨a1,a2,a3,a4,a5⟩:=e;simp only at hc;rw[hc.2.1]
     exact⟨List.mem_cons_self ..,hc.1,rfl,by rw[he];exact List.mem_cons_self ..,hc.2.2⟩
    ·obtain⟨k1,k2,k3,k4,k5⟩:=h5 x hx
     refine⟨List.mem_cons_of_mem _ k1,k2,k3,List.mem_cons_of_mem _ k4,?_⟩
     have hR:eU t (done++e::rest) (done++[{e with up:=true}]++rest):=by
      rw[List.append_assoc]
      exact(eU.refl t done).append (.up e hc.1 hc.2.1 (.refl t rest))
     cases hq:eH (done++e::rest) t x.pred with
     | false=>rfl
     | true=>rw[hR.covered hq]at k5;cases k5
  ·rw[if_neg hc]
   obtain⟨r',h1,h2,h3,u',h4,h5⟩:=ih (done++[e]) DX
   refine⟨e::r',by rw[h1];simp,.keep e h2,?_,u',h4,?_⟩
   ·intro x hx ht
    rcases List.mem_cons.1 hx with rfl|hx
    ·cases hu:x.up with
     | true=>exact .inl rfl
     | false =>
      cases hq:eH (done++x::rest) t x.pred with
      | true=>exact .inr (((eU.refl t done).append (.keep x h2)).covered hq)
      | false=>exact absurd ⟨ht,hu,hq⟩ hc
    ·have:=h3 x hx ht
     simpa using this
   ·intro x hx
    obtain⟨k1,k2,k3,k4,k5⟩:=h5 x hx
    exact⟨List.mem_cons_of_mem _ k1,k2,k3,List.mem_cons_of_mem _ k4,by simpa using k5⟩
theorem Fs{b:aK}(h:pC b)(t s:ID)(q:Int) :
  ((xS b t s q)=(b,[],false)∧∀e∈b.entries,isE t s e=true→e.lX≠q) ∨
  (∃ e∈b.entries,isE t s e=true∧e.lX=q∧e.up=false∧xS b t s q=({b with entries:=b.entries.filter fun x=>!isE t s x},[],false)) ∨
  (∃ e∈b.entries,isE t s e=true∧e.lX=q∧e.up=true∧∃ r' u',xS b t s q=({b with entries:=r'},u',true)∧eU t (b.entries.filter fun x=>!isE t s x) r' ∧
   (∀x∈r',x.tree=t→x.up=true∨eH r' t x.pred=true)∧∀x∈u',x∈r'∧x.tree=t∧x.up=true∧{x with up:=false}∈b.entries.filter (fun x=>!isE t s x)∧eH (b.entries.filter fun x=>!isE t s x) t x.pred=false):=by
 unfold xS
 cases hf:b.entries.find? (isE t s)with
 | none =>
  left
  refine⟨rfl,fun e he hi=>?_⟩
  have:=List.find?_eq_none.1 hf e he
  exact absurd hi this
 | some e =>
  have he:=List.mem_of_find?_eq_some hf
  have hi:=List.find?_some hf
  by_cases hq:e.lX=q
  ·simp only[if_pos hq]
   cases hu:e.up with
   | false =>
    right;left
    exact⟨e,he,hi,hq,hu,by simp⟩
   | true =>
    right;right
    obtain⟨r',h1,h2,h3,u',h4,h5⟩:=Nf t (b.entries.filter fun x=>!isE t s x) [] []
    refine⟨e,he,hi,hq,hu,r',u',by simp[h1,h4],h2,by simpa using h3,by simpa using h5⟩
  ·left
   refine⟨by simp only[if_neg hq],fun x hx yA=>?_⟩
   have hkey:x=e:=by
    by_cases hxe:x=e
    ·exact hxe
    ·exfalso
     have k1:x.tree=t∧x.sub=s:=by simpa[isE]using yA
     have k2:e.tree=t∧e.sub=s:=by simpa[isE]using hi
     obtain⟨i,uJ,rfl⟩:=List.mem_iff_getElem.1 hx
     obtain⟨j,PL,rfl⟩:=List.mem_iff_getElem.1 he
     rcases Nat.lt_trichotomy i j with aY|he|aY
     ·have:=List.pairwise_iff_getElem.1 h.re i j uJ PL aY
      rw[k2.1,k2.2,zZ.2 k1]at this;omega
     ·subst he;exact hxe rfl
     ·have:=List.pairwise_iff_getElem.1 h.re j i PL uJ aY
      rw[k1.1,k1.2,zZ.2 k2]at this;omega
   rw[hkey];exact hq
theorem pC.entries{b b':aK}(h:pC b)(hb:b'={b with entries:=b'.entries})(hre:jN b'.entries)(he:∀e∈b'.entries,∃ d∈b.entries,e.tree=d.tree∧e.pred=d.pred∧e.lX=d.lX∧(e.up=true→gQ b e.tree≠-1))
  (ht:∀e∈b'.entries,e.up=true∨gQ b e.tree=-1∨eH b'.entries e.tree e.pred=true):pC b':=by
 have hA:b'.bB=b.bB:=by rw[hb]
 have hN:b'.bE=b.bE:=by rw[hb]
 have hS:b'.seen=b.seen:=by rw[hb]
 have hO:b'.lI=b.lI:=by rw[hb]
 have ho:∀x,nV b' x=nV b x:=fun x=>by unfold nV;rw[hA]
 refine⟨by rw[hN];exact h.bE,by rw[hN];exact h.loc,by rw[hA];exact h.ra,by rw[hS];exact h.rs,by rw[hO];exact h.ro,hre,by rw[hA,hS];exact h.sub,?_,by rw[hA];exact h.pa,by rw[hO];exact h.po,?_,?_,?_⟩
 ·intro a ha;rw[yS hN];rw[hA]at ha;exact h.par a ha
 ·intro e hm
  obtain⟨d,hd,k1,k2,k3,k4⟩:=he e hm
  rw[rH hN (ho _),iB]
  obtain⟨a,a1,a2,a3,a4,a5⟩:=iB.1 (h.ent d hd)
  refine⟨a,by rw[k1];exact a1,by rw[k3];exact a2,by rw[k3];exact a3,fun hu=>?_,by rw[k2];exact a5⟩
  have:=k4 hu
  rw[iU,k1,a1]at this
  exact this
 ·intro e hm
  obtain⟨d,hd,_,k2,_⟩:=he e hm
  rw[k2];exact h.pe d hd
 ·rw[kB]
  intro e hm
  have:gQ b' e.tree=gQ b e.tree:=by rw[iU,ho,←iU]
  rw[this]
  exact ht e hm
theorem pC.up{b:aK}(h:pC b){e:bL}(he:e∈b.entries)(hu:e.up=true):gQ b e.tree≠-1:=by
 obtain⟨a,a1,_,_,a4,_⟩:=iB.1 (h.ent e he)
 rw[iU,a1]
 exact a4 hu
theorem pC.take{b:aK}(h:pC b)(t s:ID)(q:Int):pC (xS b t s q).1:=by
 have Ar:∀x∈b.entries.filter (fun x=>!isE t s x),x∈b.entries:=fun x hx=>(List.mem_filter.1 hx).1
 have hrf:jN (b.entries.filter fun x=>!isE t s x):=h.re.sublist (List.filter_sublist ..)
 rcases Fs h t s q with⟨hc,_⟩|⟨e,he,hi,_,hu,hc⟩|⟨e,he,hi,_,hu,r',u',hc,hR,htt,_⟩
 ·rw[hc];exact h
 ·rw[hc]
  refine h.entries rfl hrf ?_ ?_
  ·intro x hx
   exact⟨x,Ar x hx,rfl,rfl,rfl,fun hux=>h.up (Ar x hx) hux⟩
  ·intro x hx
   rcases kB.1 h.tight x (Ar x hx)with h1|h1|h1
   ·exact .inl h1
   ·exact .inr (.inl h1)
   ·refine .inr (.inr ?_)
    rw[pA]at *
    obtain⟨d,hd,k1,k2,k3⟩:=h1
    refine⟨d,List.mem_filter.2 ⟨hd,?_⟩,k1,k2,k3⟩
    cases eF:isE t s d with
    | false=>rfl
    | true =>
     exfalso
     have q1:d.tree=t∧d.sub=s:=by simpa[isE]using eF
     have q2:e.tree=t∧e.sub=s:=by simpa[isE]using hi
     have:d=e:=by
      by_cases hde:d=e
      ·exact hde
      ·exfalso
       obtain⟨i,uJ,rfl⟩:=List.mem_iff_getElem.1 hd
       obtain⟨j,PL,rfl⟩:=List.mem_iff_getElem.1 he
       rcases Nat.lt_trichotomy i j with aY|Rk|aY
       ·have:=List.pairwise_iff_getElem.1 h.re i j uJ PL aY
        rw[q2.1,q2.2,zZ.2 q1]at this;omega
       ·subst Rk;exact hde rfl
       ·have:=List.pairwise_iff_getElem.1 h.re j i PL uJ aY
        rw[q1.1,q1.2,zZ.2 q2]at this;omega
     rw[this,hu]at k2;cases k2
 ·have hpt:gQ b t≠-1:=by
   have:=h.up he hu
   have q2:e.tree=t∧e.sub=s:=by simpa[isE]using hi
   rw[q2.1]at this;exact this
  rw[hc]
  refine h.entries rfl (hR.rising hrf) ?_ ?_
  ·intro x hx
   rcases hR.mem hx with hx|⟨y,hy,h1,h2,rfl⟩
   ·exact⟨x,Ar x hx,rfl,rfl,rfl,fun hux=>h.up (Ar x hx) hux⟩
   ·exact⟨y,Ar y hy,rfl,rfl,rfl,fun _=>by rw[h1];exact hpt⟩
  ·intro x hx
   by_cases hxt:x.tree=t
   ·rcases htt x hx hxt with k|k
    ·exact .inl k
    ·exact .inr (.inr (by rw[hxt];exact k))
   ·have uL:x∈b.entries.filter fun x=>!isE t s x:=by
     rcases hR.mem hx with hx|⟨y,hy,h1,h2,rfl⟩
     ·exact hx
     ·exact absurd h1 hxt
    rcases kB.1 h.tight x (Ar x uL)with h1|h1|h1
    ·exact .inl h1
    ·exact .inr (.inl h1)
    ·refine .inr (.inr (hR.covered ?_))
     rw[pA]at *
     obtain⟨d,hd,k1,k2,k3⟩:=h1
     refine⟨d,List.mem_filter.2 ⟨hd,?_⟩,k1,k2,k3⟩
     have:¬(d.tree=t∧d.sub=s):=fun hh=>hxt (by rw[←k1];exact hh.1)
     simp[isE,this]
theorem FC{b:aK}(h:pC b)(t s:ID)(q:Int):(xS b t s q).1.entries.length≤b.entries.length:=by
 rcases Fs h t s q with⟨hc,_⟩|⟨e,_,_,_,_,hc⟩|⟨e,_,_,_,_,r',u',hc,hR,_⟩
 ·rw[hc];exact Nat.le_refl _
 ·rw[hc];exact List.length_filter_le ..
 ·rw[hc]
  show r'.length≤_
  rw[hR.len];exact List.length_filter_le ..
theorem V8(b:aK)(t s:ID)(q:Int):(xS b t s q).1={b with entries:=(xS b t s q).1.entries}:=by
 unfold xS
 split
 ·rfl
 ·split
  ·split<;>rfl
  ·rfl
theorem KX(b:aK)(e:bL):(wI b e).1={b with entries:=(wI b e).1.entries}:=by
 unfold wI
 split<;>rfl
theorem QT(b:aK)(e:bL):(wI b e).1.entries.length≤b.entries.length+1:=by
 unfold wI
 split
 ·simp only[Uz];exact Nat.le_refl _
 ·exact Nat.le_succ _
theorem SzK.take{b:aK}{n:Nat}(h:SzK b n)(hi:pC b)(t s:ID)(q:Int):SzK (xS b t s q).1 n:=by
 have h1:=FC hi t s q
 rw[V8]at h1 ⊢
 obtain⟨a1,a2,a3,a4,a5⟩:=h
 exact⟨a1,a2,a3,a4,Nat.le_trans h1 a5⟩
theorem SzK.add{b:aK}{n:Nat}(h:SzK b n)(e:bL):SzK (wI b e).1 (n+1):=by
 have h1:=QT b e
 rw[KX]at h1 ⊢
 obtain⟨a1,a2,a3,a4,a5⟩:=h
 have:(n+1)*(n+1)=n*n+n+n+1:=by rw[Nat.add_mul,Nat.mul_add];omega
 exact⟨a1,Nat.le_succ_of_le a2,Nat.le_succ_of_le a3,Nat.le_succ_of_le a4,by simp only at h1 ⊢;omega⟩
end Go.Dm.Tc
/-
Brokers as one datum: what the machine's steps do to it;what functions answer of a broker that calls El.
-/
namespace Go.Dm.Tc
theorem XS(t:iJ)(b:aK):DV.agg (fJ t b)=aM t b:=_root_.id rfl
theorem CS(sz:Nat)(t:iJ)(b:aK):aF sz (aM t b)=fJ t b:=_root_.id rfl
theorem XP(t:iJ)(b:aK):(fJ t b).length=6:=_root_.id rfl
theorem QO(t:iJ)(b:aK):(fJ t b).take 6=fJ t b:=_root_.id rfl
theorem bC_0(t:iJ)(b:aK):(fJ t b)[0]?=some (.int .i64 b.me):=_root_.id rfl
theorem bC_1(t:iJ)(b:aK):(fJ t b)[1]?=some (eL t.bE 1 dQ b.bE):=_root_.id rfl
theorem bC_2(t:iJ)(b:aK):(fJ t b)[2]?=some (eL t.bB 4 aJ b.bB):=_root_.id rfl
theorem bC_3(t:iJ)(b:aK):(fJ t b)[3]?=some (eL t.seen 2 eID b.seen):=_root_.id rfl
theorem bC_4(t:iJ)(b:aK):(fJ t b)[4]?=some (eL t.entries 7 bR b.entries):=_root_.id rfl
theorem bC_5(t:iJ)(b:aK):(fJ t b)[5]?=some (eL t.lI 3 rJ b.lI):=_root_.id rfl
theorem AaJ(t:iJ)(b:aK)(h:0<(fJ t b).length):(fJ t b)[0]=.int .i64 b.me:=_root_.id rfl
theorem AaI(t:iJ)(b:aK)(h:1<(fJ t b).length):(fJ t b)[1]=eL t.bE 1 dQ b.bE:=_root_.id rfl
theorem AaH(t:iJ)(b:aK)(h:2<(fJ t b).length):(fJ t b)[2]=eL t.bB 4 aJ b.bB:=_root_.id rfl
theorem AaG(t:iJ)(b:aK)(h:3<(fJ t b).length):(fJ t b)[3]=eL t.seen 2 eID b.seen:=_root_.id rfl
theorem AaF(t:iJ)(b:aK)(h:4<(fJ t b).length):(fJ t b)[4]=eL t.entries 7 bR b.entries:=_root_.id rfl
theorem AaE(t:iJ)(b:aK)(h:5<(fJ t b).length):(fJ t b)[5]=eL t.lI 3 rJ b.lI:=_root_.id rfl
theorem Sf(t:iJ)(b:aK):aQ 6 (aM t b)=true:=_root_.id rfl
theorem UU(tg:Bool)(h:aA)(n:Nat)(t:iJ)(b:aK):resolve tg h (n+2) (aM t b)=some (aM t b):=by
 simp[aM]
theorem XX(n:Nat)(b:aK):aZ (n+24) (aM .none b)=true:=by
 simp[aM,iJ.none]
theorem Ht(h:aA)(t:iJ)(b:aK):fB h (aM t b)=some (aM t b,h):=by
 simp[aM,tT,Cl,He,H9,S3,zG,zF,Dd]
theorem CI(off:Nat)(n:Option Nat)(t:iJ)(b:aK):Hy off n (aM t b)=cO n (fJ t b) off:=_root_.id rfl
attribute [simp] XS CS XP QO bC_0 bC_1 bC_2 bC_3 bC_4 bC_5 AaJ AaI AaH AaG AaF AaE Sf UU XX Ht CI xD I6 Vp S5 tT He Cl H9 S4 JM S3 S1 JN zG zF Dd
section
variable {b:aK} (t:iJ)
end
end Go.Dm.Tc
/-
What the laws' arguments are: numbers of which predicates,steps,brokers are El.
-/
namespace Go.Dm.Tc
structure PK where
 has:List Int
 vals:List Int
def PK.pred(p:PK):dZ:=VO p.has p.vals
structure AbC where
 kind:Int
 lX:Int
 tree:Int
 bG:Int
 seq:Int
 has:List Int
 vals:List Int
structure BrokK where
 bE:Int
 steps:List AbC
end Go.Dm.Tc
/-
More plain laws of brokers: one entry for a tree and a number;what covers itself;what comes of an entry taken out,of one added.
-/
namespace Go.Dm.Tc
end Go.Dm.Tc
/-
Numbers sorted,pairs too: the plain law,and the hook.
-/
namespace Go.Dm.Tc
def atL(L:List Int)(i:Nat):Int:=L.getD i 0
theorem lU{L:List Int}{i:Nat}(h:i<L.length):atL L i=L[i]:=by simp[atL,h]
theorem Mf{α:Type}(lt:α→α→Bool)(x:α)(l:List α):(Em lt x l).Perm (x::l):=by
 induction l with
 | nil=>exact .refl _
 | cons y r ih =>
  simp only[Em]
  split
  ·exact(List.Perm.cons y ih).trans (.swap _ _ _)
  ·exact .refl _
theorem vH{α:Type}(lt:α→α→Bool)(l:List α):(fZ lt l).Perm l:=by
 induction l with
 | nil=>exact .refl _
 | cons x r ih=>exact(Mf lt x _).trans (.cons x ih)
def Md(L:List Int):List Int:=fZ ltZ L
theorem tK(L:List Int):(Md L).Perm L:=vH ltZ L
theorem Ux{x:Int}:∀{l:List Int},l.Pairwise (·≤·)→(Em ltZ x l).Pairwise (·≤·):=by
 intro l
 induction l with
 | nil=>intro _;exact List.pairwise_singleton _ _
 | cons y r ih =>
  intro h
  obtain⟨h1,h2⟩:=List.pairwise_cons.1 h
  simp only[Em,ltZ,decide_eq_true_eq]
  split
  ·rename_i aY
   refine List.pairwise_cons.2 ⟨fun z hz=>?_,ih h2⟩
   rcases List.mem_cons.1 ((Mf ltZ x r).mem_iff.1 hz)with rfl|hz
   ·omega
   ·exact h1 z hz
  ·rename_i aY
   refine List.pairwise_cons.2 ⟨fun z hz=>?_,h⟩
   rcases List.mem_cons.1 hz with rfl|hz
   ·omega
   ·have:=h1 z hz;omega
theorem Aq(L:List Int):(Md L).Pairwise (·≤·):=by
 unfold Md
 induction L with
 | nil=>exact List.Pairwise.nil
 | cons x r ih=>exact Ux ih
structure N2(id:Nat)(sp:List DV)(cap:Option Nat)(h h':aA)(L:List Int):Prop where
 get:h'.get id=some (.arr 3 1 (L.map dQ++sp) cap)
 n:h'.n=h.n
 lim:h'.lim=h.lim
 wf:WF h'
 oth:∀k,k≠id→h'.get k=h.get k
theorem OP{α:Type}{un:DV→Option α}{mk:α→DV}(hu:∀x,un (mk x)=some x):∀l:List α,(l.map mk).mapM un=some l:=by
 intro l
 induction l with
 | nil=>rfl
 | cons x r ih=>simp[hu,ih]
theorem Dn{α:Type}{sz:Nat}{un:DV→Option α}{mk:α→DV}{lt:α→α→Bool}(hu:∀x,un (mk x)=some x){h:aA}{id ety:Nat}{sp:List DV}{cap:Option Nat}{L:List α}(g:h.get id=some (.arr ety sz (L.map mk++sp) cap))(hl:h.lim≤id)(hb:L.length≤1000000) :
  qL sz un mk lt h (.sl id sz 0 L.length)=some (.tup [],h.set id (.arr ety sz ((fZ lt L).map mk++sp) cap)):=by
 have h1:(L.map mk++sp).take L.length=L.map mk:=by rw[List.take_append_of_le_length (by simp),List.take_of_length_le (by simp)]
 have hp:=(vH lt L).length_eq
 simp only[qL,g,List.drop_zero,h1,OP hu]
 have hb2:L.length<4611686018427387904:=by omega
 rw[if_pos (by first|exact⟨trivial,trivial,hl,by simp,hb2⟩|exact⟨trivial,trivial,hl,by simp⟩)]
 simp only[cB,List.take_zero,List.nil_append,Nat.zero_add,List.length_map,hp]
 rw[List.drop_append_of_le_length (by simp),List.drop_of_length_le (by simp)]
 rfl
theorem s5(id:Nat)(sp:List DV)(cap:Option Nat)(h:aA)(L:List Int)(g:h.get id=some (.arr 3 1 (L.map dQ++sp) cap))(hl:h.lim≤id)(wf:WF h)(hb:L.length≤1000000) :
  ∃ Ki,fc D 142 [.sl id 1 0 L.length] h=some (.tup [],Ki)∧N2 id sp cap h Ki (Md L):=by
 have hs:=Dn (un:=unI) (mk:=dQ) (lt:=ltZ) (fun _=>rfl) g hl hb
 refine⟨_,(e142 _ h).trans hs,bV wf g,rfl,rfl,wf.set,fun k hk=>aN (aB g) hk⟩
theorem To(h:aA):fc D 142 [.nsl] h=some (.tup [],h):=e142 _ h
end Go.Dm.Tc
/-
AdvertsOrder: numbers sorted,and the same ones struck: the walk.
-/
namespace Go.Dm.Tc
def gI(L:List Int):Prop:=L.Pairwise (·<·)
theorem Df{A:List Int}{v:Int}(h:gI A)(hv:∀a∈A,a<v):gI (A++[v]):=by
 unfold gI at *
 rw[List.pairwise_append]
 exact⟨h,List.pairwise_singleton ..,fun a ha b hb=>by rw[List.mem_singleton.1 hb];exact hv a ha⟩
theorem rV{L:List Int}{p:Nat}(h:p<L.length):L.take (p+1)=L.take p++[atL L p]:=by
 rw[List.take_succ,List.getElem?_eq_getElem h,lU h];rfl
theorem Lf{M:List Int}{k:Nat}(h:k<M.length)(v:Int):(M.set k v).take (k+1)=M.take k++[v]:=by
 rw[rV (by simpa using h)]
 congr 1
 ·exact List.take_set_of_le (Nat.le_refl _)
 ·simp[atL,h]
structure wL(L M:List Int)(k p:Nat):Prop where
 len:M.length=L.length
 k1:1≤k
 kp:k<p
 pl:p≤L.length
 tail:∀i,p-1≤i→atL M i=atL L i
 strict:gI (M.take k)
 mem:∀x,x∈M.take k↔x∈L.take p
 last:atL M (k-1)=atL L (p-1)
theorem wL.start{L:List Int}{k:Nat}(hs:gI (L.take k))(h1:1≤k)(hk:k<L.length)(he:atL L k=atL L (k-1)):wL L L k (k+1):=by
 refine⟨rfl,h1,by omega,by omega,fun _ _=>rfl,hs,fun x=>?_,by simp[he]⟩
 rw[rV hk,List.mem_append,List.mem_singleton]
 constructor
 ·exact .inl
 ·rintro(h|h)
  ·exact h
  ·rw[h,he]
   have:k-1<L.length:=by omega
   rw[lU this]
   exact List.mem_take_iff_getElem.2 ⟨k-1,by omega,rfl⟩
theorem wL.same{L M:List Int}{k p:Nat}(h:wL L M k p)(hp:p<L.length)(he:atL L p=atL L (p-1)):wL L M k (p+1):=by
 refine⟨h.len,h.k1,by have:=h.kp;omega,by omega,fun i hi=>h.tail i (by omega),h.strict,fun x=>?_,by rw[h.last];simp[he]⟩
 rw[h.mem,rV hp,List.mem_append,List.mem_singleton]
 constructor
 ·exact .inl
 ·rintro(q|q)
  ·exact q
  ·rw[q,he]
   have hkp:=h.kp
   have:p-1<L.length:=by omega
   rw[lU this]
   exact List.mem_take_iff_getElem.2 ⟨p-1,by omega,rfl⟩
theorem wL.more{L M:List Int}{k p:Nat}(h:wL L M k p)(hs:L.Pairwise (·≤·))(hp:p<L.length)(he:atL L p≠atL L (p-1)):wL L (M.set k (atL L p)) (k+1) (p+1):=by
 have hkp:=h.kp
 have LP:=h.k1
 have hkM:k<M.length:=by rw[h.len];omega
 have aY:atL L (p-1)<atL L p:=by
  have:=List.pairwise_iff_getElem.1 hs (p-1) p (by omega) hp (by omega)
  rw[←lU (by omega:p-1<L.length),←lU hp]at this
  omega
 refine⟨by simpa using h.len,by omega,by omega,by omega,?_,?_,?_,?_⟩
 ·intro i hi
  have:atL (M.set k (atL L p)) i=atL M i:=by
   unfold atL
   simp only[List.getD_eq_getElem?_getD,List.getElem?_set]
   rw[if_neg (by omega)]
  rw[this]
  exact h.tail i (by omega)
 ·rw[Lf hkM]
  refine Df h.strict fun a ha=>?_
  have cD:a≤atL M (k-1):=by
   obtain⟨i,hi,rfl⟩:=List.mem_take_iff_getElem.1 ha
   by_cases e:i=k-1
   ·subst e;rw[lU (by omega)];exact Int.le_refl _
   ·have:=List.pairwise_iff_getElem.1 h.strict i (k-1) (by simp;omega) (by simp;omega) (by omega)
    simp only[List.getElem_take]at this
    rw[lU (by omega)];omega
  rw[h.last]at cD
  omega
 ·intro x
  rw[Lf hkM,rV hp,List.mem_append,List.mem_append,h.mem]
 ·have:atL (M.set k (atL L p)) (k+1-1)=atL L p:=by simp[atL,hkM]
  rw[this];rfl
theorem x6(S:List Fr)(P:Res→Prop)(id n k0:Nat)(L:List Int)(sp:List DV)(cap:Option Nat)(h:aA)(hl:h.lim≤id)(hn:n≤1000000)(hs:L.Pairwise (·≤·))(hL:L.length=n)(Hm:k0≤n) :
  ∀(j p k:Nat) (M:List Int) (f:eN) (h':aA),N2 id sp cap h h' M→wL L M k p→k0<p→p+j=n→f 0=.sl id 1 0 n→f 3=.int .i64 k→f 4=.sl id 1 k0 (n-k0)→f 5=.int .i64 ((p-k0:Nat):Int) →
  (∀k' M' f' Ki,f' 0=.sl id 1 0 n→f' 3=.int .i64 k'→N2 id sp cap h Ki M'→wL L M' k' n→P (ret D 61 S .normal f' Ki)) →
  P (run D 61 (.block 2::S) (.loop Nq) f h'):=by
 intro j
 induction j with
 | zero =>
  intro p k M f h' R I hk hp h0 h3 h4 h5 hP
  have hpn:p=n:=by omega
  subst hpn
  rw[aO Nq.eq_1]
  simp[h0,h3,h4,h5]
  exact hP k M _ h' (by simp[h0]) (by simp[h3]) R I
 | succ j ih =>
  intro p k M f h' R I hk hp h0 h3 h4 h5 hP
  have hkp:=I.kp
  have hML:M.length=n:=by rw[I.len,hL]
  have hpn:p<n:=by omega
  have hx:∀i,i<n→(M.map dQ++sp)[i]?=some (.int .i64 (atL M i)):=fun i hi=>by
   rw[List.getElem?_append_left (by simp;omega),List.getElem?_map,List.getElem?_eq_getElem (by omega),lU (by omega)];rfl
  have Jf:=hx p hpn
  have Rg:=hx (p-1) (by omega)
  have hxk:=hx k (by omega)
  rw[I.tail p (by omega)]at Jf
  rw[I.tail (p-1) (by omega)]at Rg
  have g:=R.get
  have Qd:h'.lim≤id:=by rw[R.lim];exact hl
  have PF:=aB g
  have Vc:=R.wf
  have uJ:aS 1 (.sl id 1 k0 (n-k0)) (.int .i64 ((p-k0:Nat):Int))=some (.ptr id 1 p 0):=by
   have:p-k0<n-k0:=by omega
   simp[aS,asI,this];omega
  have Xh:IntKind.i64.wrap (((p-k0:Nat):Int)-1)=((p-k0-1:Nat):Int):=by rw[bK (by omega) (by omega)];omega
  have hw2:IntKind.i64.wrap (((p-k0:Nat):Int)+1)=((p+1-k0:Nat):Int):=by rw[bK (by omega) (by omega)];omega
  have WD:IntKind.i64.wrap ((k:Int)+1)=((k+1:Nat):Int):=by rw[bK (by omega) (by omega)];omega
  have G5:aS 1 (.sl id 1 k0 (n-k0)) (.int .i64 ((p-k0-1:Nat):Int))=some (.ptr id 1 (p-1) 0):=by
   have:p-k0-1<n-k0:=by omega
   simp[aS,asI,this];omega
  have BW:aS 1 (.sl id 1 0 n) (.int .i64 (k:Int))=some (.ptr id 1 k 0):=by
   have:k<n:=by omega
   simp[aS,asI,this]
  have aY:((p-k0:Nat):Int)<((n-k0:Nat):Int):=by omega
  have qH:p-k0<n-k0:=by omega
  rw[aO Nq.eq_1]
  by_cases hc:atL L p=atL L (p-1)
  ·simp[h0,h3,h4,h5,g,Jf,Rg,Qd,PF,Vc,Xh,hw2,WD,uJ,G5,BW,aY,qH,hc]
   generalize hF:upd _ 5 _=F
   exact ih (p+1) k M F h' R (I.same (by omega) hc) (by omega) (by omega) (by rw[←hF];simp[h0]) (by rw[←hF];simp[h3]) (by rw[←hF];simp[h4]) (by rw[←hF];simp) hP
  ·simp[h0,h3,h4,h5,g,Jf,Rg,Qd,PF,Vc,Xh,hw2,WD,uJ,G5,BW,aY,qH,hc,hxk]
   generalize hF:upd _ 5 _=F
   have eW:(M.map dQ++sp).set k (.int .i64 (atL L p))=(M.set k (atL L p)).map dQ++sp:=by
    rw[List.set_append_left _ _ (by simp;omega),List.map_set];rfl
   rw[eW]
   have R':N2 id sp cap h (h'.set id (.arr 3 1 ((M.set k (atL L p)).map dQ++sp) cap)) (M.set k (atL L p)) :=
    ⟨by rw[cM Vc PF,if_pos rfl],R.n,R.lim,Vc.set,fun i hi=>by rw[cM Vc PF,if_neg hi];exact R.oth i hi⟩
   exact ih (p+1) (k+1) _ F _ R' (I.more hs (by omega) hc) (by omega) (by omega) (by rw[←hF];simp[h0]) (by rw[←hF];simp) (by rw[←hF];simp[h4]) (by rw[←hF];simp) hP
def SB(id:Nat)(cap:Option Nat)(h:aA)(L:List Int)(r:Res):Prop :=
 ∃ N sp' Ki,fin [.t 2] r=some (.sl id 1 0 N.length,Ki)∧N2 id sp' cap h Ki N∧gI N∧(∀x,x∈N↔x∈L)∧N.length≤L.length
theorem w9(id n:Nat)(L:List Int)(sp:List DV)(cap:Option Nat)(h:aA)(hl:h.lim≤id)(hn:n≤1000000)(hs:L.Pairwise (·≤·))(hL:L.length=n)(g:h.get id=some (.arr 3 1 (L.map dQ++sp) cap))(wf:WF h) :
  ∀(j k:Nat) (f:eN),gI (L.take k)→1≤k→k+j=n→f 0=.sl id 1 0 n→f 3=.int .i64 k →
  SB id cap h L (run D 61 [.block 0,.seq Yj] (.loop Np) f h):=by
 have R:N2 id sp cap h h L:=⟨g,rfl,rfl,wf,fun _ _=>rfl⟩
 have PF:=aB g
 intro j
 induction j with
 | zero =>
  intro k f cS h1 hk h0 h3
  have Xj:k=n:=by omega
  subst Xj
  rw[aO Np.eq_1]
  simp[h0,h3,Yj]
  refine⟨L,sp,h,by rw[hL];rfl,R,by rw[←hL,List.take_length]at cS;exact cS,fun x=>Iff.rfl,Nat.le_refl _⟩
 | succ j ih =>
  intro k f cS h1 hk h0 h3
  have Xj:k<n:=by omega
  have hx:∀i,i<n→(L.map dQ++sp)[i]?=some (.int .i64 (atL L i)):=fun i hi=>by
   rw[List.getElem?_append_left (by simp;omega),List.getElem?_map,List.getElem?_eq_getElem (by omega),lU (by omega)];rfl
  have Jf:=hx k Xj
  have Rg:=hx (k-1) (by omega)
  have Xh:IntKind.i64.wrap ((k:Int)-1)=((k-1:Nat):Int):=by rw[bK (by omega) (by omega)];omega
  have WD:IntKind.i64.wrap ((k:Int)+1)=((k+1:Nat):Int):=by rw[bK (by omega) (by omega)];omega
  have BW:∀i:Nat,i<n→aS 1 (.sl id 1 0 n) (.int .i64 (i:Int))=some (.ptr id 1 i 0):=fun i hi=>by
   simp[aS,asI,hi]
  have uJ:=BW k Xj
  have G5:=BW (k-1) (by omega)
  rw[aO Np.eq_1]
  by_cases hc:atL L k=atL L (k-1)
  ·have F7:fC h 1 (.sl id 1 0 n) (some (.int .i64 (k:Int))) none=some (.sl id 1 k (n-k)):=by
    simp only[fC,g]
    rw[if_pos ⟨trivial,trivial,by simp;omega⟩]
    simp only[cF,asI]
    rw[if_pos ⟨by omega,by omega⟩]
    simp
   simp[h0,h3,g,Jf,Rg,hl,PF,wf,Xh,WD,uJ,G5,Xj,hc,F7]
   generalize hF:upd _ 5 _=F
   refine x6 _ (SB id cap h L) id n k L sp cap h hl hn hs hL (by omega) (n-(k+1)) (k+1) k L F h R (wL.start cS h1 (by omega) hc) (by omega) (by omega) (by rw[←hF];simp[h0]) (by rw[←hF];simp[h3]) (by rw[←hF];simp) (by rw[←hF];simp<;>omega) fun k' M f' Ki a0 a3 R' I=>?_
   have g':=R'.get
   have Qd:Ki.lim≤id:=by rw[R'.lim];exact hl
   have hkp:=I.kp
   have hML:M.length=n:=by rw[I.len,hL]
   have hsl1:fC Ki 1 (.sl id 1 0 n) (some (.int .i64 (k':Int))) none=some (.sl id 1 k' (n-k')):=by
    simp only[fC,g']
    rw[if_pos ⟨trivial,trivial,by simp;omega⟩]
    simp only[cF,asI]
    rw[if_pos ⟨by omega,by omega⟩]
    simp
   have tO:=xG (z:=.int .i64 0) (len:=n-k') (off:=k') g' (by simp;omega) Qd (by omega)
   have Vc:=R'.wf
   have hnn':=aB g'
   have eW:cB (M.map dQ++sp) (List.replicate (n-k') (.int .i64 0)) k'=(M.take k').map dQ++(List.replicate (n-k') (.int .i64 0)++sp):=by
    unfold cB
    have e1:(M.map dQ++sp).take k'=(M.take k').map dQ:=by
     rw[List.take_append_of_le_length (by simp;omega),List.map_take]
    have e2:(M.map dQ++sp).drop (k'+(n-k'))=sp:=by
     have:k'+(n-k')=(M.map dQ).length:=by simp;omega
     rw[this,List.drop_left]
    simp only[List.length_replicate]
    rw[e1,e2,List.append_assoc]
   obtain⟨X,hX⟩:∃ X,(M.take k').map dQ++(List.replicate (n-k') (.int .i64 0)++sp)=X:=⟨_,rfl⟩
   have hXl:n≤X.length:=by rw[←hX];simp;omega
   rw[eW,hX]at tO
   have hsl2:∀H:aA,∀xs c,H.get id=some (.arr 3 1 xs c)→n≤xs.length→fC H 1 (.sl id 1 0 n) none (some (.int .i64 (k':Int)))=some (.sl id 1 0 k'):=fun H xs c hg cC=>by
    simp only[fC,hg]
    rw[if_pos ⟨trivial,trivial,by omega⟩]
    simp only[cF,asI]
    rw[if_pos ⟨by omega,by omega⟩]
    simp
   have PO:(Ki.set id (.arr 3 1 (X) cap)).get id=some (.arr 3 1 (X) cap):=by
    rw[cM Vc hnn',if_pos rfl]
   have hs2:=hsl2 _ _ _ PO hXl
   simp[FM,a0,a3,hsl1,tO,Ak,hs2]
   refine⟨M.take k',List.replicate (n-k') (.int .i64 0)++sp,(Ki.set id (.arr 3 1 (X) cap)),?_,⟨by rw[hX];exact PO,R'.n,R'.lim,Vc.set,fun i hi=>by rw[cM Vc hnn',if_neg hi];exact R'.oth i hi⟩,I.strict,fun x=>?_,by simp;omega⟩
   ·have:(M.take k').length=k':=by simp;omega
    rw[this];rfl
   ·rw[I.mem,←hL,List.take_length]
  ·have aY:atL L (k-1)<atL L k:=by
    have:=List.pairwise_iff_getElem.1 hs (k-1) k (by omega) (by omega) (by omega)
    rw[←lU (by omega:k-1<L.length),←lU (by omega:k<L.length)]at this
    omega
   have hst':gI (L.take (k+1)):=by
    rw[rV (by omega)]
    refine Df cS fun a ha=>?_
    obtain⟨i,hi,rfl⟩:=List.mem_take_iff_getElem.1 ha
    have cD:L[i]≤atL L (k-1):=by
     rw[lU (by omega)]
     by_cases e:i=k-1
     ·subst e;exact Int.le_refl _
     ·exact List.pairwise_iff_getElem.1 hs i (k-1) (by omega) (by omega) (by omega)
    omega
   simp[h0,h3,g,Jf,Rg,hl,PF,wf,Xh,WD,uJ,G5,Xj,hc,FL]
   generalize hF:upd _ 3 _=F
   exact ih (k+1) F hst' (by omega) (by omega) (by rw[←hF];simp[h0]) (by rw[←hF];simp)
theorem q9(id:Nat)(L:List Int)(sp:List DV)(cap:Option Nat)(h:aA)(hl:h.lim≤id)(hn:L.length≤1000000)(hs:L.Pairwise (·≤·))(g:h.get id=some (.arr 3 1 (L.map dQ++sp) cap))(wf:WF h) :
  ∃ N sp' Ki,fc D 143 [.sl id 1 0 L.length] h=some (.sl id 1 0 N.length,Ki)∧N2 id sp' cap h Ki N∧gI N∧(∀x,x∈N↔x∈L)∧N.length≤L.length:=by
 rw[XB,aP _ _ _ _ (by simp[Nr])]
 simp[Nr]
 by_cases h2:L.length<2
 ·have PU:(L.length:Int)<2:=by omega
  simp[h2,PU]
  refine⟨L,sp,h,⟨rfl,rfl⟩,⟨g,rfl,rfl,wf,fun _ _=>rfl⟩,?_,fun x=>Iff.rfl,Nat.le_refl _⟩
  match L,h2 with
  | [],_=>exact List.Pairwise.nil
  | [a],_=>exact List.pairwise_singleton ..
 ·have PU:¬(L.length:Int)<2:=by omega
  simp[h2,PU]
  generalize hF:upd _ 3 _=F
  refine w9 id L.length L sp cap h hl hn hs rfl g wf (L.length-1) 1 F ?_ (Nat.le_refl _) (by omega) (by rw[←hF];simp) (by rw[←hF];simp)
  match L with
  | []=>simp[gI]
  | a::r=>simp[gI]
end Go.Dm.Tc
/-
AdvertsOrder: a new broker,whatever its neighbours.
-/
namespace Go.Dm.Tc
theorem KM(h:aA):fc D 143 [.nsl] h=some (.nsl,h):=by
 rw[XB,aP _ _ _ _ (by simp[Nr])]
 simp[Nr]
theorem s64(t:Bool)(me:Int)(bE:List Int)(hn:bE.length≤1000000):∃ nr,pcF D t64 [.int .i64 me,eL t 1 dQ bE]=some (aM .none ⟨me,nr,[],[],[],[]⟩)∧gI nr∧(∀x,x∈nr↔x∈bE)∧nr.length≤bE.length:=by
 unfold pcF
 rw[aP _ _ _ _ (by simp[t64])]
 simp[t64,e88]
 generalize hA:bW _ _ _ _ _=A
 obtain⟨v,K,rfl,o,x,_⟩:=xF (lo:=1) (ys:=bE.map dQ) (lQ ..) (by simp) (by simp) (by simp) (by simp;omega) (by decide) hA
 clear hA
 cases o with
 | nil hv hx =>
  subst hv
  have uL:bE=[]:=by simpa using hx
  subst uL
  have g0:=x.get 0 (by decide)
  simp at g0
  have kl:K.lim=0:=by rw[x.lim];simp
  have kw:=x.wf
  have kn:0<K.n:=aB g0
  refine⟨[],?_,List.Pairwise.nil,fun x=>Iff.rfl,Nat.le_refl _⟩
  simp[To,KM,turn,g0,kl,kw,kn,aT,aM,iJ.none,tW]
 | arr id hv hg bJ dY =>
  subst hv
  have g0:=x.get 0 (by decide)
  simp at g0
  have g1:K.get id=some (.arr 3 1 (bE.map dQ++[]) none):=by simpa using hg
  obtain⟨K2,h2,R2⟩:=s5 id [] none K bE g1 bJ x.wf (by omega)
  have F7:=(tK bE).length_eq
  have eF:=aB hg
  obtain⟨N,sp,K3,h3,R3,sN,mN,lN⟩:=q9 id (Md bE) [] none K2 (by rw[R2.lim];exact bJ) (by omega) (Aq bE) R2.get R2.wf
  rw[F7]at h3
  have k0:K3.get 0=some (.arr 37 6 [.agg [.int .i64 0,.nsl,.nsl,.nsl,.nsl,.nsl]] (some 1)):=by
   rw[R3.oth 0 (by omega),R2.oth 0 (by omega),g0]
  have kl:K3.lim=0:=by rw[R3.lim,R2.lim,x.lim];simp
  have kw:=R3.wf
  have kn:0<K3.n:=aB k0
  have kg:=R3.get
  refine⟨N,?_,sN,fun y=>by rw[mN,(tK bE).mem_iff],by omega⟩
  have i0:¬id=0:=by omega
  have i1:¬0=id:=by omega
  have w:OwnR 1 K3 (.sl id 1 0 N.length) 3 1 (N.map dQ):=.arr id sp none (by simp) kg (by omega) dY
  have hr:∀o,resolve false (K3.set 0 o) 199 (.sl id 1 0 N.length)=some (eL false 1 dQ N):=fun o =>
   OwnR.resolve (lo:=1) (h:=K3.set 0 o) (ety:=3) (sz:=1) (k:=20) (e:=dQ) (ys:=N) (v:=.sl id 1 0 N.length) false (.arr id sp none (by simp) (by rw[cM kw kn,if_neg i0];exact kg) (by show K3.lim≤id;omega) dY) (fun y _=>(fO y).1) (by decide)
  have ws:=w.aQ
  have we:=w.aF
  generalize (DV.sl id 1 0 N.length)=V at *
  simp[h2,h3,turn,k0,kl,kw,kn,hr,ws,we,aT,aM,iJ.none,tW]
end Go.Dm.Tc
/-
What functions compute,part 30: texts compared;the search among constraints;two constraints in one.
-/
namespace Go.Dm.Tc
theorem XY{a b:UInt8}(h1:¬a<b)(h2:¬b<a):a=b:=by
 rw[UInt8.lt_iff_toNat_lt]at h1 h2
 exact UInt8.toNat_inj.1 (by omega)
theorem S9:∀{a b:List UInt8},Go.Lib.compareBytes a b<0↔Go.Op.bytesLess a b=true
 | [],[]=>by simp[Go.Lib.compareBytes,Go.Op.bytesLess]
 | [],b::bs=>by simp[Go.Lib.compareBytes,Go.Op.bytesLess]
 | a::az,[]=>by simp[Go.Lib.compareBytes,Go.Op.bytesLess]
 | a::az,b::bz=>by
  have ih:=S9 (a:=az) (b:=bz)
  unfold Go.Lib.compareBytes Go.Op.bytesLess
  by_cases h1:a<b
  ·simp[h1]
  ·by_cases h2:b<a
   ·have:a≠b:=fun e=>by subst e;exact h1 h2
    simp[h1,h2,this]
   ·have:=XY h1 h2
    simp[h1,h2,this,ih]
def XI(s:List UInt8)(c:Xg):Int:=Go.Lib.compareBytes c.name s
end Go.Dm.Tc
/-
What functions compute,part 31: a predicate El of constraints.
-/
namespace Go.Dm.Tc
def LC(p:dZ):Prop:=(p.map (·.name)).Pairwise fun a b=>Go.Op.bytesLess a b=true
theorem LC.mono{p:dZ}(h:LC p)(s:List UInt8):∀i j (hi:i<p.length) (hj:j<p.length),i≤j→XI s p[j]<0→XI s p[i]<0:=by
 intro i j hi hj LQ hc
 unfold XI at *
 rw[S9]at *
 rcases Nat.lt_or_eq_of_le LQ with aY|rfl
 ·have:=List.pairwise_iff_getElem.1 h i j (by simpa using hi) (by simpa using hj) aY
  simp only[List.getElem_map]at this
  exact Iv this hc
 ·exact hc
end Go.Dm.Tc
/-
What functions compute,part 32: pred.Make.
-/
namespace Go.Dm.Tc
end Go.Dm.Tc
/-
What functions compute,part 33: rel.Sample,rel.Joint,rel.Meets.
-/
namespace Go.Dm.Tc
theorem Gl:∀{p:dZ} {n:Option (List UInt8)},uX n p=true→∀c∈p,uV c=true
 | [],_,_,c,h=>by cases h
 | x::r,n,h,c,hc=>by
  simp only[uX,Bool.and_eq_true]at h
  rcases List.mem_cons.1 hc with rfl|hc
  ·exact h.1.1
  ·exact Gl h.2 c hc
theorem kI.one{p:dZ}(h:kI p):∀c∈p,uV c=true∧c.name.length≤1000000:=by
 intro c hc
 have h1:=h.right
 unfold tB at h1
 simp only[Bool.and_eq_true]at h1
 exact⟨Gl h1.1 c hc,h.names.2 c hc⟩
end Go.Dm.Tc
/-
What the reference's functions compute,part 9: two constraints in one.
-/
namespace Go.Dm.Tc
end Go.Dm.Tc
/-
What the reference's functions compute,part 10: a predicate El of constraints.
-/
namespace Go.Dm.Tc
theorem _root_.Go.Dm.OwnR.mapId{lo:Nat}{h:aA}{v:DV}{ety sz:Nat}{xs:List DV}(w:OwnR lo h v ety sz xs):Dm.mapId v=none:=by
 cases w with
 | nil hv _=>subst hv;rfl
 | arr _ _ _ hv=>subst hv;rfl
end Go.Dm.Tc
/-
What the reference's functions compute,part 11: its predicate El of constraints;do two predicates meet?
-/
namespace Go.Dm.Tc
end Go.Dm.Tc
/-
What functions compute,part 34: messages put out;to all neighbours but one.
-/
namespace Go.Dm.Tc
structure mX where
 to:Int
 kind:Int
 tree:ID
 id:ID
 pred:dZ
 deriving DecidableEq,Inhabited
def gC(o:mX):DV:=.agg [.int .i64 o.to,.int .i64 o.kind,.int .i64 o.tree.bG,.int .i64 o.tree.seq,.int .i64 o.id.bG,.int .i64 o.id.seq,eX o.pred,.isl false 0 []]
def De(es:List DV)(os:List mX):Prop:=es.length=os.length∧∀(tag:Bool) (h:aA) (n:Nat),21≤n→es.mapM (resolve tag h n)=some (os.map gC)
theorem De.nil:De [] []:=⟨rfl,fun _ _ _ _=>rfl⟩
theorem De.append{a b:List DV}{x y:List mX}(h1:De a x)(h2:De b y):De (a++b) (x++y):=by
 refine⟨by simp[h1.1,h2.1],fun tag h n hn=>?_⟩
 rw[List.mapM_append,h1.2 tag h n hn,h2.2 tag h n hn]
 simp
def Zt(to k tc td ic id:Int)(pd ad:DV):DV:=.agg [.int .i64 to,.int .i64 k,.int .i64 tc,.int .i64 td,.int .i64 ic,.int .i64 id,pd,ad]
def Xd(pd:DV)(p:dZ):Prop:=pd=eX p∨(pd=.nsl∧p=[])
def LA(ad:DV):Prop:=ad=.nsl∨ad=.isl false 0 []
theorem Xd.res{pd:DV}{p:dZ}(h:Xd pd p)(tag:Bool)(hp:aA)(n:Nat)(hn:20≤n):resolve tag hp n pd=some (eX p):=by
 obtain⟨m,rfl⟩:∃ m,n=m+1:=⟨n-1,by omega⟩
 rcases h with rfl|⟨rfl,rfl⟩
 ·exact Tl ..
 ·rfl
theorem LA.res{ad:DV}(h:LA ad)(tag:Bool)(hp:aA)(n:Nat)(hn:20≤n):resolve tag hp n ad=some (.isl false 0 []):=by
 obtain⟨m,rfl⟩:∃ m,n=m+1:=⟨n-1,by omega⟩
 rcases h with rfl|rfl
 ·rfl
 ·rfl
theorem HB{to k tc td ic id:Int}{pd ad:DV}{p:dZ}(hp:Xd pd p)(ha:LA ad)(tag:Bool)(h:aA)(n:Nat)(hn:21≤n):resolve tag h n (Zt to k tc td ic id pd ad)=some (gC ⟨to,k,⟨tc,td⟩,⟨ic,id⟩,p⟩):=by
 obtain⟨m,rfl⟩:∃ m,n=m+1:=⟨n-1,by omega⟩
 obtain⟨q,rfl⟩:∃ q,m=q+1:=⟨m-1,by omega⟩
 have h1:=hp.res tag h (q+1) (by omega)
 have h2:=ha.res tag h (q+1) (by omega)
 unfold Zt gC
 rw[Q0]
 simp[h1,h2]
theorem De.one{to k tc td ic id:Int}{pd ad:DV}{p:dZ}(hp:Xd pd p)(ha:LA ad):De [Zt to k tc td ic id pd ad] [⟨to,k,⟨tc,td⟩,⟨ic,id⟩,p⟩] :=
 ⟨rfl,fun tag h n hn=>by simp only[List.mapM_cons,List.mapM_nil,HB hp ha tag h n hn];rfl⟩
theorem wU(o:mX):mZ 20 (gC o)∧Unl 22 (gC o):=⟨pY (by
  intro x hx
  simp only[List.mem_cons,List.not_mem_nil,or_false]at hx
  rcases hx with rfl|rfl|rfl|rfl|rfl|rfl|rfl|rfl
  all_goals first|exact gT _ _|exact kA false 5 sP o.pred|exact fun t h m hm=>by obtain⟨q,rfl,_⟩:=cJ hm;rfl),rU (by
  intro x hx
  simp only[List.mem_cons,List.not_mem_nil,or_false]at hx
  rcases hx with rfl|rfl|rfl|rfl|rfl|rfl|rfl|rfl
  all_goals first|exact(jH _ _).mono (by decide)|exact(rT o.pred).mono (by decide)|exact fun n hn=>by obtain⟨q,rfl,_⟩:=cJ (k:=20) hn;simp[aZ])⟩
theorem Q9{lo:Nat}{h:aA}{v:DV}{ety:Nat}{es:List DV}{os:List mX}(w:OwnR lo h v ety 8 es)(r:De es os)(tag:Bool){n:Nat}(hn:22≤n):resolve tag h n v=some (eL tag 8 gC os):=by
 obtain⟨m,rfl,hm⟩:=cJ (k:=21) hn
 cases w with
 | nil hv hx =>
  subst hv;subst hx
  have:os=[]:=List.length_eq_zero_iff.1 r.1.symm
  subst this;rfl
 | arr id sp cap hv hg hl hi =>
  subst hv
  have yU:=r.2 tag h m hm
  simp only[Dm.resolve,hg,true_and,Nat.zero_add,List.length_append,Nat.le_add_right,if_true,List.drop_zero,List.take_left,yU]
  rfl
def lZ(bE:List Int)(but k tc td ic id:Int)(p:dZ):List mX:=(bE.filter fun n=>!decide (n=but)).map fun n=>⟨n,k,⟨tc,td⟩,⟨ic,id⟩,p⟩
def nY(bE:List Int)(but k tc td ic id:Int)(pd ad:DV):List DV:=(bE.filter fun n=>!decide (n=but)).map fun n=>Zt n k tc td ic id pd ad
theorem yN{but k tc td ic id:Int}{pd ad:DV}{p:dZ}(hp:Xd pd p)(ha:LA ad):∀(bE:List Int),De (nY bE but k tc td ic id pd ad) (lZ bE but k tc td ic id p)
 | []=>De.nil
 | x::r=>by
  have ih:=yN (but:=but) (k:=k) (tc:=tc) (td:=td) (ic:=ic) (id:=id) hp ha r
  unfold nY lZ at *
  by_cases hx:x=but
  ·simp only[List.filter_cons,hx,decide_true,Bool.not_true,Bool.false_eq_true,if_false];exact ih
  ·simp only[List.filter_cons,hx,decide_false,Bool.not_false,if_true,List.map_cons]
   exact De.append (De.one (to:=x) hp ha) ih
theorem l175(t:iJ)(b:aK)(but k tc td ic id:Int)(pd ad:DV)(N:Nat)(ta tb:Nat)(hl:b.bE.length≤1000000)(h0:aA)(g0:h0.get N=some (.arr ta 6 [aM t b] (some 1)))(g1:h0.get (N+1)=some (.arr tb 7 [.agg [.int .i64 k,.int .i64 tc,.int .i64 td,.int .i64 ic,.int .i64 id,pd,ad]] (some 1)))(Qd:h0.lim≤N) :
  ∀(rest:List Int) (i:Nat) (es:List DV) (v:DV) (f:eN) (h:aA),b.bE.drop i=rest→es.length≤i→f 1=.int .i64 but→f 3=.ptr N 6 0 0→f 5=.ptr (N+1) 7 0 0→f 7=v→f 11=eL t.bE 1 dQ b.bE→f 12=.int .i64 b.bE.length→f 13=.int .i64 i→OwnR (N+2) h v 206 8 es→Ext (N+2) h0 h →
  ∃ v' h',fin [.t 6] (run D 28 [.block 0,.seq Yg] (.loop Nm) f h)=some (v',h')∧OwnR (N+2) h' v' 206 8 (es++nY rest but k tc td ic id pd ad)∧Ext (N+2) h0 h':=by
 intro rest
 induction rest with
 | nil =>
  intro i es v f h hd he h1 h3 h5 h7 Ji RY h13 ho x
  have hi:=lR hd
  have:¬(i<b.bE.length):=by omega
  rw[aO Nm.eq_1]
  simp[Yg,RY,h13,this,h7]
  first
   | exact⟨_,_,⟨rfl,rfl⟩,by simpa[nY]using ho,x⟩
   | exact⟨by simpa[nY]using ho,x⟩
 | cons y rest ih =>
  intro i es v f h hd he h1 h3 h5 h7 Ji RY h13 ho x
  obtain⟨hi,RW,tN⟩:=nG hd
  have a0:=(x.get N (by omega)).trans g0
  have a1:=(x.get (N+1) (by omega)).trans g1
  rw[aO Nm.eq_1]
  by_cases hy:y=but
  ·subst hy
   simp[h1,h3,h5,h7,Ji,RY,h13,hi,RW,dQ]
   rw[bK (by omega) (by omega)]
   generalize hF:upd _ 13 _=F
   have hr:nY (y::rest) y k tc td ic id pd ad=nY rest y k tc td ic id pd ad:=by simp[nY]
   rw[hr]
   refine ih (i+1) es v F h tN (by omega) ?_ ?_ ?_ ?_ ?_ ?_ ?_ ho x
   all_goals (rw[←hF];simp[h1,h3,h5,h7,Ji,RY])
  ·simp[h1,h3,h5,h7,Ji,RY,h13,hi,RW,hy,a1,dQ]
   generalize hA:bF _ _ _ _ _ _=A
   obtain⟨v',K,rfl,p',x',_⟩:=OwnR.append (ho.push) (by simp[x.wf]) (by have:=x.le;simp;omega) (by have:=x.le;have:=x.lim;simp;omega) hA (by simp;omega) (by decide)
   clear hA
   simp[h13]
   rw[bK (by omega) (by omega)]
   generalize hF:upd _ 13 _=F
   have hr:nY (y::rest) but k tc td ic id pd ad=Zt y k tc td ic id pd ad::nY rest but k tc td ic id pd ad:=by simp[nY,hy]
   obtain⟨v2,K2,k1,k2,k3⟩:=ih (i+1) (es++[Zt y k tc td ic id pd ad]) v' F K tN (by simp;omega) (by rw[←hF];simp[h1]) (by rw[←hF];simp[h3]) (by rw[←hF];simp[h5]) (by rw[←hF];simp) (by rw[←hF];simp[Ji]) (by rw[←hF];simp[RY]) (by rw[←hF];simp) (by simpa[Zt]using p') (x.push.trans x')
   exact⟨v2,K2,k1,by rw[hr];simpa using k2,k3⟩
theorem p9{h:aA}{A:Option (DV×aA)}{t:iJ}{b:aK}{but k tc td ic id:Int}{pd ad:DV}(hA:fc D 175 [aM t b,.int .i64 but,.agg [.int .i64 k,.int .i64 tc,.int .i64 td,.int .i64 ic,.int .i64 id,pd,ad]] h=A)(hl:b.bE.length≤1000000)(wf:WF h)(bJ:h.lim≤h.n) :
  ∃ v' h',A=some (v',h')∧OwnR h.n h' v' 206 8 (nY b.bE but k tc td ic id pd ad)∧Ext h.n h h':=by
 subst hA
 rw[e175,aP _ _ _ _ (by simp[FI])]
 simp[FI]
 generalize hF:upd _ 13 _=F
 generalize hH:aA.push _ _=H0
 have hn:h.n+2≤H0.n:=by rw[←hH];simp
 have g0:H0.get h.n=some (.arr 37 6 [aM t b] (some 1)):=by rw[←hH];simp
 have g1:H0.get (h.n+1)=some (.arr 49 7 [.agg [.int .i64 k,.int .i64 tc,.int .i64 td,.int .i64 ic,.int .i64 id,pd,ad]] (some 1)):=by rw[←hH];simp
 have hw:WF H0:=by rw[←hH];simp[wf]
 have hm:H0.lim≤h.n:=by rw[←hH];simpa using bJ
 obtain⟨v',h',k1,k2,k3⟩:=l175 t b but k tc td ic id pd ad h.n _ _ hl H0 g0 g1 hm b.bE 0 [] .nsl F H0 rfl (by simp) (by rw[←hF];simp) (by rw[←hF];simp) (by rw[←hF];simp) (by rw[←hF];simp) (by rw[←hF];simp) (by rw[←hF];simp) (by rw[←hF];simp) (.nil rfl rfl) (.refl hn hw)
 refine⟨v',h',k1,by simpa using k2.lower (by omega:h.n≤h.n+2),?_⟩
 have k4:=k3.lower (by omega:h.n≤h.n+2)
 refine⟨k4.le,by rw[k4.lim,←hH];simp,fun id eF=>?_,k4.wf⟩
 rw[k4.get id eF,←hH]
 have e1:¬id=h.n:=by omega
 have e2:¬id=h.n+1:=by omega
 simp[e1,e2]
end Go.Dm.Tc
/-
What functions compute,part 35: an advertisement comes by a link.
-/
namespace Go.Dm.Tc
structure ZL(b:aK)(k:Nat):Prop where
 bE:b.bE.length≤100000
 adv:b.bB.length≤100000
 seen:b.seen.length≤100000
 own:b.lI.length≤100000
 ent:b.entries.length+k≤100000
theorem ZL.less{b:aK}{k m:Nat}(h:ZL b k)(hm:m≤k):ZL b m:=⟨h.bE,h.adv,h.seen,h.own,by have:=h.ent;omega⟩
theorem DW(b:aK)(e:bL):(wI b e).1.bE=b.bE∧(wI b e).1.bB=b.bB∧(wI b e).1.seen=b.seen∧(wI b e).1.lI=b.lI∧(wI b e).1.me=b.me∧(wI b e).1.entries.length≤b.entries.length+1:=by
 unfold wI
 split
 ·exact⟨rfl,rfl,rfl,rfl,rfl,by simp only[Uz];omega⟩
 ·exact⟨rfl,rfl,rfl,rfl,rfl,by simp⟩
theorem ZL.add{b:aK}{k:Nat}(h:ZL b (k+1))(e:bL):ZL (wI b e).1 k:=by
 obtain⟨h1,h2,h3,h4,_,h5⟩:=DW b e
 have:=h.ent
 exact⟨by rw[h1];exact h.bE,by rw[h2];exact h.adv,by rw[h3];exact h.seen,by rw[h4];exact h.own,by omega⟩
end Go.Dm.Tc
/-
TreesTells: the plain law: a path is the same with more room;linked is linked both ways round.
-/
namespace Go.Dm.Tc
theorem yQ:∀{n:Nat} {l:List Int},l.Nodup→(∀x∈l,0≤x∧x<n)→l.length≤n
 | 0,[],_,_=>Nat.le_refl _
 | 0,a::l,_,h=>by have:=h a (List.mem_cons_self ..);omega
 | n+1,l,hd,h=>by
  have h1:(l.erase (n:Int)).length≤n:=yQ (hd.erase _) fun x hx=>by
   have hm:=(hd.mem_erase_iff).1 hx
   have:=h x hm.2
   have:=hm.1
   omega
  rw[List.length_erase]at h1
  split at h1<;>omega
def yW(m:Int)(l:Int×Int):Bool:=decide (0≤l.1∧l.1<m∧0≤l.2∧l.2<m∧l.1≠l.2)
def cP(m:Int)(L:List (Int×Int))(a b:Int):Bool:=L.any fun l=>yW m l && (decide (l.1=a∧l.2=b) || decide (l.1=b∧l.2=a))
theorem pX(m:Int)(L:List (Int×Int))(a b:Int):cP m L a b=cP m L b a:=by
 unfold cP;congr 1;funext l;rw[Bool.or_comm]
def fK(m:Int)(b:Int):List (Int×Int)→List Int
 | []=>[]
 | l::r=>if yW m l then(if l.1=b then l.2::fK m b r else if l.2=b then l.1::fK m b r else fK m b r)else fK m b r
theorem Ck(m:Int)(a b:Int):∀L:List (Int×Int),(b∈fK m a L↔cP m L a b=true)
 | []=>by simp[fK,cP]
 | l::r=>by
  have ih:=Ck m a b r
  have hl:cP m (l::r) a b=((yW m l && (decide (l.1=a∧l.2=b) || decide (l.1=b∧l.2=a))) || cP m r a b):=rfl
  rw[hl,fK]
  by_cases hm:yW m l=true
  ·have cK:l.1≠l.2:=by have:=of_decide_eq_true hm;exact this.2.2.2.2
   rw[if_pos hm]
   by_cases h1:l.1=a
   ·rw[if_pos h1]
    have h2:¬(l.1=b∧l.2=a):=fun e=>cK (h1.trans e.2.symm)
    simp[hm,h1,ih]
    constructor
    ·rintro(rfl|h)
     ·exact .inl (.inl rfl)
     ·exact .inr h
    ·rintro((rfl|⟨e1,e2⟩)|h)
     ·exact .inl rfl
     ·exact absurd (h1.trans e2.symm) cK
     ·exact .inr h
   ·rw[if_neg h1]
    by_cases h2:l.2=a
    ·rw[if_pos h2]
     simp[hm,h1,h2,ih]
     exact⟨fun h=>h.imp Eq.symm id,fun h=>h.imp Eq.symm id⟩
    ·rw[if_neg h2]
     simp[hm,h1,h2,ih]
  ·rw[if_neg hm]
   simp[hm,ih]
def GT(p:List Int):Int:=((p.filter fun x=>decide (x=-1)).length:Int)
end Go.Dm.Tc
/-
Graphs: whom a broker is bE;are two linked.
-/
namespace Go.Dm.Tc
def aW(l:Int×Int):DV:=.agg [.int .i64 l.1,.int .i64 l.2]
theorem mL(x:Int×Int):mZ 20 (aW x)∧Unl 22 (aW x):=lG ⟨x.1,x.2⟩
theorem Pu(id sz:Nat)(k:IntKind):jI 2 1 (.ptr id sz 0 0) (.int k 0)=some (.ptr id sz 0 0):=rfl
theorem Pt(id sz:Nat)(k:IntKind):jI 2 1 (.ptr id sz 0 0) (.int k 1)=some (.ptr id sz 0 1):=rfl
theorem s190(m b:Int)(x:DV):pcF D X4 [.agg [.int .i64 m,x],.int .i64 b]=some (.bool (decide (0≤b∧b<m))):=by
 unfold pcF
 rw[aP _ _ _ _ (by simp[X4])]
 by_cases h:0≤b<;>by_cases h':b<m<;>simp[X4,h,h']
theorem UT(t:Bool)(m:Int)(L:List (Int×Int))(l:Int×Int):pcF D Nt [.agg [.int .i64 m,eL t 2 aW L],aW l]=some (.bool (yW m l)):=by
 obtain⟨a,b⟩:=l
 have hf:∀h,resolve true h 199 (eL t 2 aW L)=some (eL t 2 aW L):=fun h=>kA _ _ _ _ true h 199 (by decide)
 unfold pcF
 rw[aP _ _ _ _ (by simp[Nt])]
 by_cases h1:0≤a∧a<m<;>by_cases h2:0≤b∧b<m<;>by_cases h3:a=b<;>simp[Nt,aW,e190,s190,yW,h1,h2,h3,hf,Pu,Pt]
theorem l76(P:Res→Prop)(t:Bool)(m b:Int)(L:List (Int×Int))(hL:L.length≤1000000)(h0:aA)(g0:h0.get 0=some (.arr 76 2 [.agg [.int .i64 m,eL t 2 aW L]] (some 1)))(bJ:h0.lim=0) :
  ∀(rest:List (Int×Int)) (wJ:List Int) (i:Nat) (f:eN) (h:aA),L.drop i=rest→wJ.length≤i→f 1=.int .i64 b→f 2=.ptr 0 2 0 0→f 9=eL t 2 aW L→f 10=.int .i64 L.length→f 11=.int .i64 i→OwnR 1 h (f 5) 3 1 (wJ.map dQ)→Ext 1 h0 h →
  (∀F H,OwnR 1 H (F 5) 3 1 ((wJ++fK m b rest).map dQ)→Ext 1 h0 H→P (run D 45 [] Rw F H)) →
  P (run D 45 [.block 0,.seq Rw] (.loop O1) f h):=by
 intro rest
 induction rest with
 | nil =>
  intro wJ i f h hd ha h1 h2 h9 sU Ji ho hx dW
  have hi:=lR hd
  have:¬(i<L.length):=by omega
  rw[aO O1.eq_1]
  simp[sU,Ji,this]
  exact dW _ _ (by simpa[fK]using ho) hx
 | cons l rest ih =>
  intro wJ i f h hd ha h1 h2 h9 sU Ji ho hx dW
  obtain⟨hi,he,tN⟩:=nG hd
  have hlH:h.lim=0:=hx.lim.trans bJ
  have Ri:=(hx.get 0 (by decide)).trans g0
  have hnh:=hx.le
  have n0:¬0=h.n:=by omega
  have hw:IntKind.i64.wrap ((i:Int)+1)=(i:Int)+1:=bK (by omega) (by omega)
  have hf:∀h,resolve true h 199 (eL t 2 aW L)=some (eL t 2 aW L):=fun h=>kA _ _ _ _ true h 199 (by decide)
  obtain⟨u,v⟩:=l
  have hm:pcF D Nt [.agg [.int .i64 m,eL t 2 aW L],.agg [.int .i64 u,.int .i64 v]]=some (.bool (yW m (u,v))):=UT t m L (u,v)
  rw[aO O1.eq_1]
  by_cases hc:yW m (u,v)=true
  ·by_cases hu:u=b
   ·have hN:fK m b ((u,v)::rest)=v::fK m b rest:=by rw[fK,if_pos hc,if_pos hu]
    rw[hN,List.append_cons]at dW
    subst hu
    simp[h1,h2,h9,sU,Ji,hi,he,hlH,Ri,n0,aW,CT,hm,hc,hf,Pu,Pt]
    generalize hA:bF _ _ _ _ _ _=A
    obtain⟨w',h',rfl,Pz,uL,_⟩:=ho.push.push.append hx.push.push.wf (hx.push.push.le) (by simp[hlH]) hA (by simp;omega) (by decide)
    clear hA
    simp[Ji,hw]
    generalize hF:upd _ 11 _=F
    refine ih (wJ++[v]) (i+1) F h' tN (by simp;omega) (by rw[←hF];simp[h1]) (by rw[←hF];simp[h2]) (by rw[←hF];simp[h9]) (by rw[←hF];simp[sU]) (by rw[←hF];simp) (by rw[←hF];simp;simpa[dQ]using Pz) (hx.push.push.trans uL) dW
   ·by_cases hv:v=b
    ·have hN:fK m b ((u,v)::rest)=u::fK m b rest:=by rw[fK,if_pos hc,if_neg hu,if_pos hv]
     rw[hN,List.append_cons]at dW
     subst hv
     simp[h1,h2,h9,sU,Ji,hi,he,hlH,Ri,n0,aW,CT,hm,hc,hf,Pu,Pt,hu]
     generalize hA:bF _ _ _ _ _ _=A
     obtain⟨w',h',rfl,Pz,uL,_⟩:=ho.push.push.append hx.push.push.wf (hx.push.push.le) (by simp[hlH]) hA (by simp;omega) (by decide)
     clear hA
     simp[Ji,hw]
     generalize hF:upd _ 11 _=F
     refine ih (wJ++[u]) (i+1) F h' tN (by simp;omega) (by rw[←hF];simp[h1]) (by rw[←hF];simp[h2]) (by rw[←hF];simp[h9]) (by rw[←hF];simp[sU]) (by rw[←hF];simp) (by rw[←hF];simp;simpa[dQ]using Pz) (hx.push.push.trans uL) dW
    ·have hN:fK m b ((u,v)::rest)=fK m b rest:=by rw[fK,if_pos hc,if_neg hu,if_neg hv]
     rw[hN]at dW
     simp[h1,h2,h9,sU,Ji,hi,he,hlH,Ri,n0,aW,CT,hm,hc,hf,Pu,Pt,hu,hv,hw]
     generalize hF:upd _ 11 _=F
     exact ih wJ (i+1) F _ tN (by omega) (by rw[←hF];simp[h1]) (by rw[←hF];simp[h2]) (by rw[←hF];simp[h9]) (by rw[←hF];simp[sU]) (by rw[←hF];simp) (by rw[←hF];simp;exact ho.push) hx.push dW
  ·have hN:fK m b ((u,v)::rest)=fK m b rest:=by rw[fK,if_neg hc]
   rw[hN]at dW
   simp[h1,h2,h9,sU,Ji,hi,he,hlH,Ri,n0,aW,CT,hm,hc,hf,hw]
   generalize hF:upd _ 11 _=F
   exact ih wJ (i+1) F _ tN (by omega) (by rw[←hF];simp[h1]) (by rw[←hF];simp[h2]) (by rw[←hF];simp[h9]) (by rw[←hF];simp[sU]) (by rw[←hF];simp) (by rw[←hF];simp;exact ho.push) hx.push dW
theorem HC(h:aA):fc D 143 [.nsl] h=some (.nsl,h):=by
 rw[XB,aP _ _ _ _ (by simp[Nr])]
 simp[Nr]
theorem s76(t:Bool)(m b:Int)(L:List (Int×Int))(hL:L.length≤1000000)(hn:(fK m b L).length≤12):∃ N,pcF D t76 [.agg [.int .i64 m,eL t 2 aW L],.int .i64 b]=some (eL false 1 dQ N)∧gI N∧(∀x,x∈N↔x∈fK m b L)∧N.length≤12:=by
 unfold pcF
 rw[aP _ _ _ _ (by simp[t76])]
 simp[t76]
 generalize hF:upd _ 11 _=F
 generalize hH:aA.push _ _=H
 refine l76 (fun r=>∃ N,oK (fin [.t 4] r)=some (eL false 1 dQ N)∧gI N∧(∀x,x∈N↔x∈fK m b L)∧N.length≤12) t m b L hL H (by rw[←hH];simp) (by rw[←hH];simp) L [] 0 F H rfl (Nat.zero_le _) (by rw[←hF];simp) (by rw[←hF];simp) (by rw[←hF];simp) (by rw[←hF];simp) (by rw[←hF];simp) (.nil (by rw[←hF];simp) rfl) (.refl (by rw[←hH];simp) (by rw[←hH];simp)) fun F K o x=>?_
 rw[List.nil_append]at o
 cases o with
 | nil hv hx =>
  have uL:fK m b L=[]:=by simpa using hx
  refine⟨[],?_,List.Pairwise.nil,fun y=>by rw[uL],by simp⟩
  simp[Rw,hv,To,HC,turn]
  rfl
 | arr id sp cap hv hg bJ dY =>
  obtain⟨K2,h2,R2⟩:=s5 id sp cap K (fK m b L) hg bJ x.wf (by omega)
  have F7:=(tK (fK m b L)).length_eq
  obtain⟨N,sp',K3,h3,R3,sN,mN,lN⟩:=q9 id (Md (fK m b L)) sp cap K2 (by rw[R2.lim];exact bJ) (by omega) (Aq _) R2.get R2.wf
  rw[F7]at h3
  rw[List.length_map]at hv
  refine⟨N,?_,sN,fun y=>by rw[mN,(tK _).mem_iff],by omega⟩
  have w:OwnR 1 K3 (.sl id 1 0 N.length) 3 1 (N.map dQ):=.arr id sp' cap (by simp) R3.get (by rw[R3.lim,R2.lim];exact bJ) dY
  have hout:=w.out (k:=22) (fun y _=>(fO y).1.mono (by decide)) (fun y _=>(fO y).2) (by decide)
  simp[Rw,hv,h2,h3,turn,-tG]
  exact hout
end Go.Dm.Tc
/-
A graph of numbers: right,seven brokers at most.
-/
namespace Go.Dm.Tc
def toID(l:Int×Int):ID:=⟨l.1,l.2⟩
structure cN(m:Int)(L:List (Int×Int)):Prop where
 rng:∀l∈L,0≤l.1∧l.1<m∧0≤l.2∧l.2<m∧l.1≠l.2
 nd:L.Pairwise fun x y=>x≠y∧x≠(y.2,y.1)
def s7(L:List (Int×Int))(a b:Int):List (Int×Int):=if a=b∨(a,b)∈L∨(b,a)∈L then L else L++[(a,b)]
theorem cN.nil(m:Int):cN m []:=⟨fun l h=>by simp at h,List.Pairwise.nil⟩
theorem cN.put{m:Int}{L:List (Int×Int)}(h:cN m L){a b:Int}(ha:0≤a∧a<m)(hb:0≤b∧b<m):cN m (s7 L a b):=by
 unfold s7
 split
 ·exact h
 ·rename_i hn
  have h1:a≠b:=fun e=>hn (.inl e)
  have h2:(a,b) ∉ L:=fun e=>hn (.inr (.inl e))
  have h3:(b,a) ∉ L:=fun e=>hn (.inr (.inr e))
  refine⟨fun l hl=>?_,?_⟩
  ·rcases List.mem_append.1 hl with hl|hl
   ·exact h.rng l hl
   ·rw[List.mem_singleton]at hl;subst hl;exact⟨ha.1,ha.2,hb.1,hb.2,h1⟩
  ·rw[List.pairwise_append]
   refine⟨h.nd,List.pairwise_singleton _ _,fun x hx y hy=>?_⟩
   rw[List.mem_singleton]at hy;subst hy
   exact⟨fun e=>h2 (e ▸ hx),fun e=>h3 (e ▸ hx)⟩
theorem Ct{m a:Int}{L:List (Int×Int)}{x:Int}(h:x∈fK m a L):((a,x)∈L∨(x,a)∈L)∧0≤x∧x<m:=by
 rw[Ck]at h
 unfold cP at h
 rw[List.any_eq_true]at h
 obtain⟨l,hl,h2⟩:=h
 obtain⟨u,v⟩:=l
 rw[Bool.and_eq_true,Bool.or_eq_true]at h2
 have hm:=of_decide_eq_true h2.1
 rcases h2.2 with h3|h3
 ·have:=of_decide_eq_true h3
  obtain⟨e1,e2⟩:=this
  simp only at e1 e2 hm
  subst e1;subst e2
  exact⟨.inl hl,hm.2.2.1,hm.2.2.2.1⟩
 ·have:=of_decide_eq_true h3
  obtain⟨e1,e2⟩:=this
  simp only at e1 e2 hm
  subst e1;subst e2
  exact⟨.inr hl,hm.1,hm.2.1⟩
theorem Dy{m a:Int}:∀{L:List (Int×Int)},(L.Pairwise fun x y=>x≠y∧x≠(y.2,y.1))→(fK m a L).Nodup
 | [],_=>List.nodup_nil
 | (u,v)::r,h=>by
  rw[List.pairwise_cons]at h
  have ih:=Dy (m:=m) (a:=a) h.2
  rw[fK]
  split
  ·split
   ·rename_i e
    simp only at e
    subst e
    rw[List.nodup_cons]
    refine⟨fun hm=>?_,ih⟩
    rcases(Ct hm).1 with h1|h1
    ·exact(h.1 _ h1).1 rfl
    ·exact(h.1 _ h1).2 rfl
   ·split
    ·rename_i e
     simp only at e
     subst e
     rw[List.nodup_cons]
     refine⟨fun hm=>?_,ih⟩
     rcases(Ct hm).1 with h1|h1
     ·exact(h.1 _ h1).2 rfl
     ·exact(h.1 _ h1).1 rfl
    ·exact ih
  ·exact ih
theorem cN.bE{m:Int}{L:List (Int×Int)}(h:cN m L)(h0:0≤m)(h7:m≤12)(a:Int):(fK m a L).length≤12:=by
 have:=yQ (n:=m.toNat) (Dy (m:=m) (a:=a) h.nd) fun x hx=>by have:=(Ct hx).2;omega
 omega
structure GraphH(x0 x1 x2:DV)(h:aA)(m:Int)(L:List (Int×Int)):Prop where
 g0:h.get 0=some (.arr 73 3 [.agg [x0,x1,x2]] (some 1))
 g1:h.get 1=some (.arr 76 2 [.agg [.int .i64 0,.nsl]] (some 1))
 g2:∃ v,h.get 2=some (.arr 76 2 [.agg [.int .i64 m,v]] (some 1))∧OwnR 5 h v 86 2 (L.map aW)
 g3:h.get 3=some (.mp (vZ (L.map toID)))
 g4:h.get 4=some (.arr 153 1 [.map 3] (some 1))
 lim:h.lim=0
 n:5≤h.n
 wf:WF h
end Go.Dm.Tc
/-
A graph of numbers: the function's walk.
-/
namespace Go.Dm.Tc
theorem Bu(n lo hi:Int)(h:lo≤hi):lo≤hJ n lo hi∧hJ n lo hi≤hi:=by
 have h1:0<hi-lo+1:=by omega
 have h2:=Int.tmod_lt_of_pos n h1
 have h3:=Int.lt_tmod_of_pos n h1
 unfold hJ
 split<;>omega
theorem ES(n:Nat)(xs:List (Int×Int)):aZ (n+23) (eL false 2 aW xs)=true:=kY (fun x _=>(mL x).2) _ (by omega)
structure GraphK where
 n:Int
 under:List Int
 more:List Int
end Go.Dm.Tc
/-
Maps by keys of whatever kind.
-/
namespace Go.Dm.Tc
section
variable {α:Type} [DecidableEq α] {q:EqT} {kE:α→DV} (hq:∀x y,eY q (kE x) (kE y)=some (decide (y=x)))
def fP(kE:α→DV)(ms:List (α×DV)):List (DV×DV):=ms.map fun p=>(kE p.1,p.2)
def kO(ms:List (α×DV))(x:α):Option DV:=(ms.find? fun p=>decide (p.1=x)).map (·.2)
def vA(x:α)(v:DV):List (α×DV)→List (α×DV)
 | []=>[(x,v)]
 | p::r=>if p.1=x then(x,v)::r else p::vA x v r
include hq in
theorem Mo(x:α):∀(ms:List (α×DV)) (i:Nat),(kO ms x=none∧eV q (kE x) (fP kE ms) i=some none∧∀w,fP kE (vA x w ms)=fP kE ms++[(kE x,w)]) ∨
  (∃ j v,kO ms x=some v∧eV q (kE x) (fP kE ms) i=some (some (i+j,v))∧∀w,(fP kE ms).set j (kE x,w)=fP kE (vA x w ms)):=by
 intro ms
 induction ms with
 | nil=>intro i;exact .inl ⟨rfl,rfl,fun w=>rfl⟩
 | cons p r ih =>
  intro i
  obtain⟨y,u⟩:=p
  by_cases h:y=x
  ·subst h
   refine .inr ⟨0,u,by simp[kO],?_,fun w=>by simp[fP,vA]⟩
   simp only[fP,List.map_cons,eV]
   rw[hq,decide_eq_true rfl]
   rfl
  ·have hf:eV q (kE x) (fP kE ((y,u)::r)) i=eV q (kE x) (fP kE r) (i+1):=by
    simp only[fP,List.map_cons,eV]
    rw[hq,decide_eq_false h]
   have hg:kO ((y,u)::r) x=kO r x:=by simp[kO,h]
   rw[hf,hg]
   rcases ih (i+1)with⟨h1,h2,h3⟩|⟨j,v,h1,h2,h3⟩
   ·exact .inl ⟨h1,h2,fun w=>by
     have:=h3 w
     simp only[vA,if_neg h]
     simp only[fP,List.map_cons,List.cons_append]at this ⊢
     rw[this]⟩
   ·exact .inr ⟨j+1,v,h1,by rw[h2,show i+1+j=i+(j+1) by omega],fun w=>by
     have:=h3 w
     simp only[vA,if_neg h]
     simp only[fP,List.map_cons,List.set_cons_succ]at this ⊢
     rw[this]⟩
include hq in
theorem Mh(x:α):∀(ms:List (α×DV)),(ms.map (·.1)).Nodup→pS q (kE x) (fP kE ms)=some (if x∈ms.map (·.1)then 1 else 0):=by
 intro ms
 induction ms with
 | nil=>intro _;rfl
 | cons p r ih =>
  intro hn
  obtain⟨y,u⟩:=p
  simp only[List.map_cons,List.nodup_cons]at hn
  have:=ih hn.2
  simp only[fP,List.map_cons,pS]at this ⊢
  rw[hq,this]
  by_cases h:y=x
  ·subst h
   simp[hn.1]
  ·have h':¬x=y:=fun e=>h e.symm
   by_cases h2:x∈r.map (·.1)
   ·simp[h,h2]
   ·simp[h,h',h2]
include hq in
theorem Dw{ms:List (α×DV)}(hn:(ms.map (·.1)).Nodup)(z:DV)(ok:Bool)(x:α):fY q z ok (kE x) (some (fP kE ms))=some (match kO ms x with|some v=>if ok then .tup [v,.bool true]else v|none=>if ok then .tup [z,.bool false]else z):=by
 have he:(eY q (kE x) (kE x)).isSome=true:=by rw[hq];rfl
 have hh:(if x∈ms.map (·.1)then 1 else 0)≤1:=by split<;>omega
 simp only[fY,he,if_true,lO,Mh hq x ms hn,if_pos hh]
 rcases Mo hq x ms 0 with⟨h1,h2,_⟩|⟨j,v,h1,h2,_⟩
 ·rw[h2,h1]
 ·rw[h2,h1]
include hq in
theorem Pr{ms:List (α×DV)}(hn:(ms.map (·.1)).Nodup)(z:DV)(x:α):fY q z false (kE x) (some (fP kE ms))=some ((kO ms x).getD z):=by
 rw[Dw hq hn];cases kO ms x<;>rfl
include hq in
theorem Rn{h:aA}{id:Nat}{ms:List (α×DV)}(hn:(ms.map (·.1)).Nodup)(hl:h.lim≤id)(x:α)(v:DV):Jj h q id (kE x) v (some (.mp (fP kE ms)))=some (h.set id (.mp (fP kE (vA x v ms)))):=by
 have he:(eY q (kE x) (kE x)).isSome=true:=by rw[hq];rfl
 have hh:(if x∈ms.map (·.1)then 1 else 0)≤1:=by split<;>omega
 simp only[Jj,he,hl,and_self,if_true,lO,Mh hq x ms hn,if_pos hh]
 rcases Mo hq x ms 0 with⟨_,h2,h3⟩|⟨j,u,_,h2,h3⟩
 ·rw[h2,h3]
 ·rw[h2]
  simp only[Nat.zero_add]
  rw[h3]
theorem Lz{ms:List (α×DV)}{x:α}:x∈ms.map (·.1)↔∃ v,kO ms x=some v:=by
 induction ms with
 | nil=>simp[kO]
 | cons p r ih =>
  obtain⟨y,u⟩:=p
  by_cases h:y=x
  ·subst h
   simp[kO]
  ·have h':¬x=y:=fun e=>h e.symm
   have e1:kO ((y,u)::r) x=kO r x:=by simp[kO,h]
   rw[e1,←ih]
   simp[h']
end
theorem Pw(x y:Int):eY (.prim 1) (.int .i64 x) (.int .i64 y)=some (decide (y=x)):=by
 simp only[eY,fH,and_self,if_true]
 congr 1
 rw[Bool.eq_iff_iff,beq_iff_eq,decide_eq_true_iff]
 exact eq_comm
end Go.Dm.Tc
/-
Networks,part 1: pairs looked for;maps by pairs;rows put together.
-/
namespace Go.Dm.Tc
theorem l328(t:Bool)(xs:List (Int×Int))(v:Int×Int)(h:aA)(hg:h.get 0=some (.arr 86 2 [aW v] (some 1)))(hl:xs.length≤1000000) :
  ∀(rest:List (Int×Int)) (i:Nat) (f:eN),xs.drop i=rest→f 0=eL t 2 aW xs→f 3=.ptr 0 2 0 0→f 7=.int .i64 xs.length→f 8=.int .i64 i →
  oK (fin [.t 4] (run D 19 [.block 0,.seq Xy] (.loop Ng) f h))=some (.int .i64 (qT ((rest.findIdx? fun x=>decide (v=x)).map (·+i)))):=by
 intro rest
 induction rest with
 | nil =>
  intro i f hd h0 h3 h7 h8
  have hi:=lR hd
  have:¬(i<xs.length):=by omega
  rw[aO Ng.eq_1]
  simp[Xy,h7,h8,this,qT]
 | cons e rest ih =>
  intro i f hd h0 h3 h7 h8
  obtain⟨hi,he,tN⟩:=nG hd
  have hq:(v.1 == e.1 && v.2 == e.2)=decide (v=e):=by
   obtain⟨a,b⟩:=v;obtain⟨c,d⟩:=e
   by_cases h1:a=c<;>by_cases h2:b=d<;>simp[h1,h2]
  rw[aO Ng.eq_1]
  by_cases hp:v=e
  ·rw[decide_eq_true hp]at hq
   simp[h0,h3,h7,h8,hi,he,aW,hg,hq,qT,List.findIdx?_cons,hp]
  ·rw[decide_eq_false hp]at hq
   simp[h0,h3,h7,h8,hi,he,aW,hg,hq]
   rw[bK (by omega) (by omega)]
   refine(ih (i+1) _ tN ?_ ?_ ?_ ?_).trans ?_<;>simp[h0,h3,h7,List.findIdx?_cons,hp]
   congr 2
   funext q
   simp
   omega
theorem s328(t:Bool)(xs:List (Int×Int))(v:Int×Int)(hl:xs.length≤1000000) :
  pcF D W2 [eL t 2 aW xs,aW v]=some (.int .i64 (qT (xs.findIdx? fun x=>decide (v=x)))):=by
 unfold pcF
 rw[aP _ _ _ _ (by simp[W2])]
 simp[W2,aW]
 refine(l328 t xs v _ (by simp[aW]) hl xs 0 _ rfl ?_ ?_ ?_ ?_).trans ?_<;>simp
theorem s298(t:Bool)(xs:List (Int×Int))(v:Int×Int)(hl:xs.length≤1000000) :
  pcF D W3 [eL t 2 aW xs,aW v]=some (.bool (decide (v∈xs))):=by
 have hi:=s328 t xs v hl
 have hc:decide (0≤qT (xs.findIdx? fun x=>decide (v=x)))=decide (v∈xs):=by
  rw[JF,Bool.eq_iff_iff,List.any_eq_true,decide_eq_true_iff]
  exact⟨fun⟨x,hx,h⟩=>by rw[of_decide_eq_true h];exact hx,fun h=>⟨v,h,by simp⟩⟩
 unfold pcF
 rw[aP _ _ _ _ (by simp[W3])]
 simp only[aW]at hi
 simp[W3,aW,e328,hi,hc]
def kID(x:ID):DV:=.agg [.int .i64 x.bG,.int .i64 x.seq]
def pZ(ms:List (ID×DV)):List (DV×DV):=ms.map fun p=>(kID p.1,p.2)
def rI(ms:List (ID×DV))(x:ID):Option DV:=(ms.find? fun p=>decide (p.1=x)).map (·.2)
def xM(x:ID)(v:DV):List (ID×DV)→List (ID×DV)
 | []=>[(x,v)]
 | p::r=>if p.1=x then(x,v)::r else p::xM x v r
theorem vV(x y:ID):eY (.agg [1,1]) (kID x) (kID y)=some (decide (y=x)):=by
 have:=tV x.bG x.seq y
 rw[kID,kID,this]
 congr 1
 exact decide_eq_decide.2 ⟨fun h=>h.symm,fun h=>h.symm⟩
theorem Vr(x:ID):∀(ms:List (ID×DV)) (i:Nat),(rI ms x=none∧eV (.agg [1,1]) (kID x) (pZ ms) i=some none∧∀w,pZ (xM x w ms)=pZ ms++[(kID x,w)]) ∨
  (∃ j v,rI ms x=some v∧eV (.agg [1,1]) (kID x) (pZ ms) i=some (some (i+j,v))∧∀w,(pZ ms).set j (kID x,w)=pZ (xM x w ms)):=by
 intro ms
 induction ms with
 | nil=>intro i;exact .inl ⟨rfl,rfl,fun w=>rfl⟩
 | cons p r ih =>
  intro i
  obtain⟨y,u⟩:=p
  by_cases h:y=x
  ·subst h
   refine .inr ⟨0,u,by simp[rI],?_,fun w=>by simp[pZ,xM]⟩
   simp only[pZ,List.map_cons,eV]
   rw[vV,decide_eq_true rfl]
   rfl
  ·have hf:eV (.agg [1,1]) (kID x) (pZ ((y,u)::r)) i=eV (.agg [1,1]) (kID x) (pZ r) (i+1):=by
    simp only[pZ,List.map_cons,eV]
    rw[vV,decide_eq_false h]
   have hg:rI ((y,u)::r) x=rI r x:=by simp[rI,h]
   rw[hf,hg]
   rcases ih (i+1)with⟨h1,h2,h3⟩|⟨j,v,h1,h2,h3⟩
   ·exact .inl ⟨h1,h2,fun w=>by
     have:=h3 w
     simp only[xM,if_neg h]
     simp only[pZ,List.map_cons,List.cons_append]at this ⊢
     rw[this]⟩
   ·exact .inr ⟨j+1,v,h1,by rw[h2,show i+1+j=i+(j+1) by omega],fun w=>by
     have:=h3 w
     simp only[xM,if_neg h]
     simp only[pZ,List.map_cons,List.set_cons_succ]at this ⊢
     rw[this]⟩
theorem Vf(x:ID):∀(ms:List (ID×DV)),(ms.map (·.1)).Nodup→pS (.agg [1,1]) (kID x) (pZ ms)=some (if x∈ms.map (·.1)then 1 else 0):=by
 intro ms
 induction ms with
 | nil=>intro _;rfl
 | cons p r ih =>
  intro hn
  obtain⟨y,u⟩:=p
  simp only[List.map_cons,List.nodup_cons]at hn
  have:=ih hn.2
  simp only[pZ,List.map_cons,pS]at this ⊢
  rw[vV,this]
  by_cases h:y=x
  ·subst h
   simp[hn.1]
  ·have h':¬x=y:=fun e=>h e.symm
   by_cases h2:x∈r.map (·.1)
   ·simp[h,h2]
   ·simp[h,h',h2]
theorem D9{ms:List (ID×DV)}(hn:(ms.map (·.1)).Nodup)(z:DV)(ok:Bool)(x:ID):fY (.agg [1,1]) z ok (kID x) (some (pZ ms))=some (match rI ms x with|some v=>if ok then .tup [v,.bool true]else v|none=>if ok then .tup [z,.bool false]else z):=by
 have he:(eY (.agg [1,1]) (kID x) (kID x)).isSome=true:=by rw[vV];rfl
 have hh:(if x∈ms.map (·.1)then 1 else 0)≤1:=by split<;>omega
 simp only[fY,he,if_true,lO,Vf x ms hn,if_pos hh]
 rcases Vr x ms 0 with⟨h1,h2,_⟩|⟨j,v,h1,h2,_⟩
 ·rw[h2,h1]
 ·rw[h2,h1]
theorem vD{ms:List (ID×DV)}(hn:(ms.map (·.1)).Nodup)(z:DV)(x:ID):fY (.agg [1,1]) z false (kID x) (some (pZ ms))=some ((rI ms x).getD z):=by
 rw[D9 hn];cases rI ms x<;>rfl
theorem N4{h:aA}{id:Nat}{ms:List (ID×DV)}(hn:(ms.map (·.1)).Nodup)(hl:h.lim≤id)(x:ID)(v:DV):Jj h (.agg [1,1]) id (kID x) v (some (.mp (pZ ms)))=some (h.set id (.mp (pZ (xM x v ms)))):=by
 have he:(eY (.agg [1,1]) (kID x) (kID x)).isSome=true:=by rw[vV];rfl
 have hh:(if x∈ms.map (·.1)then 1 else 0)≤1:=by split<;>omega
 simp only[Jj,he,hl,and_self,if_true,lO,Vf x ms hn,if_pos hh]
 rcases Vr x ms 0 with⟨_,h2,h3⟩|⟨j,u,_,h2,h3⟩
 ·rw[h2,h3]
 ·rw[h2]
  simp only[Nat.zero_add]
  rw[h3]
theorem IY(x:ID)(v:DV)(ms:List (ID×DV)):(xM x v ms).map (·.1)=if x∈ms.map (·.1)then ms.map (·.1)else ms.map (·.1)++[x]:=by
 induction ms with
 | nil=>rfl
 | cons p r ih =>
  obtain⟨y,u⟩:=p
  by_cases h:y=x
  ·subst h;simp[xM]
  ·have h':¬x=y:=fun e=>h e.symm
   simp only[xM,if_neg h,List.map_cons,ih,List.mem_cons,h',false_or]
   split<;>simp
theorem AY{x:ID}{v:DV}{ms:List (ID×DV)}(hn:(ms.map (·.1)).Nodup):((xM x v ms).map (·.1)).Nodup:=by
 rw[IY]
 split
 ·exact hn
 ·rename_i h
  exact List.nodup_append.2 ⟨hn,by simp,fun a ha b hb e=>h (by rw[List.mem_singleton.1 hb]at e;exact e ▸ ha)⟩
theorem PV(x y:ID)(v:DV)(ms:List (ID×DV)):rI (xM x v ms) y=if x=y then some v else rI ms y:=by
 induction ms with
 | nil =>
  by_cases h:x=y<;>simp[xM,rI,h]
 | cons p r ih =>
  obtain⟨z,u⟩:=p
  by_cases h:z=x
  ·subst h
   by_cases h2:z=y<;>simp[xM,rI,h2]
  ·simp only[xM,if_neg h]
   by_cases h2:z=y
   ·subst h2
    have:¬x=z:=fun e=>h e.symm
    simp[rI,this]
   ·have e1:∀l,rI ((z,u)::l) y=rI l y:=fun l=>by simp[rI,h2]
    rw[e1,e1];exact ih
theorem MF(a:Att):Unl 20 (JX a):=(Eu (k:=1) (by
  intro x hx;simp only[List.mem_cons,List.not_mem_nil,or_false]at hx
  rcases hx with rfl|rfl|rfl|rfl<;>first|exact jH _ _|exact N5 _|exact Ro _)).mono (by decide)
theorem Ls(m : Msg) : mZ 20 (gF m) ∧ Unl 22 (gF m) :=
  ⟨(vQ (k := 1) (by
    intro x hx; simp only[List.mem_cons, List.not_mem_nil, or_false]at hx
    rcases hx with rfl | rfl | rfl | rfl | rfl | rfl | rfl <;> first | exact gT _ _ | exact kA _ _ _ _)).mono (by decide),
   Eu (k := 21) (by
    intro x hx; simp only[List.mem_cons, List.not_mem_nil, or_false]at hx
    rcases hx with rfl | rfl | rfl | rfl | rfl | rfl | rfl
    · exact(jH _ _).mono (by decide)
    · exact(jH _ _).mono (by decide)
    · exact(jH _ _).mono (by decide)
    · exact(jH _ _).mono (by decide)
    · exact(jH _ _).mono (by decide)
    · exact rT _
    · exact kY (k := 20) fun x _ => MF x)⟩
def zL(v:DV)(l:List Msg):Prop:=(v=.nsl∧l=[])∨∃ sz,v=.isl false sz (l.map gF)∧(sz=7∨l=[])
theorem zL.res{v:DV}{l:List Msg}(r:zL v l)(tag:Bool)(h:aA)(n:Nat):resolve tag h (n+1) v=some (eL false 7 gF l):=by
 rcases r with⟨rfl,rfl⟩|⟨sz,rfl,hs⟩
 ·rfl
 ·cases l with
  | nil=>rfl
  | cons x r=>rcases hs with rfl|hs;rfl;cases hs
theorem zL.len{v:DV}{l:List Msg}(r:zL v l)(h:aA):lenV h 1 v=some (.int .i64 l.length):=by
 rcases r with⟨rfl,rfl⟩|⟨sz,rfl,hs⟩
 ·rfl
 ·simp[lenV]
theorem zL.one{v:DV}{l:List Msg}(r:zL v l):aQ 1 v=true:=by
 rcases r with⟨rfl,rfl⟩|⟨sz,rfl,hs⟩<;>rfl
theorem zL.ec{v:DV}{l:List Msg}(r:zL v l):aF 1 v=[v]:=by
 rcases r with⟨rfl,rfl⟩|⟨sz,rfl,hs⟩<;>rfl
theorem zL.eL(l:List Msg):zL (eL false 7 gF l) l:=by
 cases l with
 | nil=>exact .inr ⟨0,rfl,.inr rfl⟩
 | cons x r=>exact .inr ⟨7,rfl,.inl rfl⟩
end Go.Dm.Tc
/-
Networks,part 2: rows of messages put together;queues as they lie;a message pushed.
-/
namespace Go.Dm.Tc
theorem q299(n:Nat)(h:aA)(hn:0<n)(hb:n≤1000000) :
  fc D 299 [.nsl,.int .i64 n] h=some (.sl h.n 7 0 0,h.push (.arr 49 7 (List.replicate n (.agg [.int .i64 0,.int .i64 0,.int .i64 0,.int .i64 0,.int .i64 0,.nsl,.nsl])) none)):=by
 have h1:¬(n:Int)<0:=by omega
 have h2:(0:Int)<n:=by omega
 have h3:(n:Int)≤140737488355328:=by omega
 have hw:IntKind.i64.wrap (n:Int)=n:=bK (by omega) (by omega)
 have hc:L8 h .nsl=some (.int .i64 0):=rfl
 have hsn:fC h 7 .nsl none (some (.int .i64 0))=some .nsl:=rfl
 have hA:bF h 49 7 88 .nsl (List.replicate n (.agg [.int .i64 0,.int .i64 0,.int .i64 0,.int .i64 0,.int .i64 0,.nsl,.nsl]))=some (.sl h.n 7 0 n,h.push (.arr 49 7 (List.replicate n (.agg [.int .i64 0,.int .i64 0,.int .i64 0,.int .i64 0,.int .i64 0,.nsl,.nsl])) none)):=by
  have cK:(List.replicate n (DV.agg [.int .i64 0,.int .i64 0,.int .i64 0,.int .i64 0,.int .i64 0,.nsl,.nsl])).isEmpty=false:=by
   cases n with
   | zero=>omega
   | succ n=>rfl
  simp only[bF,cK,Bool.false_eq_true,if_false,List.length_replicate]
  rw[if_pos ⟨by omega,by omega⟩]
 rw[e299,aP _ _ _ _ (by simp[Xz])]
 simp[Xz,h1,hn,hw,hc,hsn,h3,hA]
theorem AK(h:aA):fc D 299 [.nsl,.int .i64 0] h=some (.nsl,h):=by
 have hc:L8 h .nsl=some (.int .i64 0):=rfl
 have hw:IntKind.i64.wrap (0:Int)=0:=rfl
 rw[e299,aP _ _ _ _ (by simp[Xz])]
 simp[Xz,hc,hw]
theorem Ei{h:aA}{id ety sz bytes k:Nat}{xs ys sp:List DV}(g:h.get id=some (.arr ety sz (xs++sp) none))(hl:h.lim≤id)(hk:k=xs.length)(hs:ys.length≤sp.length)(hb:(xs.length+sp.length)*bytes≤140737488355328)(hb2:xs.length+sp.length≤1000000000) :
  bF h ety sz bytes (.sl id sz 0 k) ys=some (.sl id sz 0 (k+ys.length),h.set id (.arr ety sz (xs++ys++sp.drop ys.length) none)):=by
 subst hk
 have hm:(xs.length+ys.length)*bytes≤(xs.length+sp.length)*bytes:=Nat.mul_le_mul_right _ (by omega)
 by_cases hy:ys=[]
 ·subst hy
  have sK:h.set id (.arr ety sz (xs++sp) none)=h:=by
   have aY:=aB g
   unfold aA.get at g
   rw[if_pos aY]at g
   unfold aA.set
   have:h.objs.set (h.n-1-id) (.arr ety sz (xs++sp) none)=h.objs:=by
    apply List.ext_getElem?
    intro j
    rw[List.getElem?_set]
    by_cases e:h.n-1-id=j
    ·subst e
     rw[if_pos rfl]
     split
     ·exact g.symm
     ·rename_i hh;rw[List.getElem?_eq_none (by omega)]
    ·rw[if_neg e]
   rw[this]
  simp[bF,sK]
 ·have Ke:ys.isEmpty=false:=by cases ys<;>simp_all
  simp only[bF,Ke,Bool.false_eq_true,if_false,g,true_and,Nat.zero_add]
  rw[if_pos ⟨by simp,by omega,by omega⟩,if_pos (by simp;omega),if_pos hl]
  simp[cB]
theorem s240(ta tb tc:Bool)(a b:List Msg)(ha:a.length≤400000)(hb:b.length≤400000) :
  pcF D W8 [.isl tc 1 [eL ta 7 gF a,eL tb 7 gF b]]=some (eL false 7 gF (a++b)):=by
 have i0:aS 1 (.isl tc 1 [eL ta 7 gF a,eL tb 7 gF b]) (.int .i64 0)=some (.iptr tc [eL ta 7 gF a] 0):=by simp[aS,asI,xE]
 have i1:aS 1 (.isl tc 1 [eL ta 7 gF a,eL tb 7 gF b]) (.int .i64 1)=some (.iptr tc [eL tb 7 gF b] 0):=by simp[aS,asI,xE]
 have w0:IntKind.i64.wrap ((a.length:Int))=a.length:=bK (by omega) (by omega)
 have w1:IntKind.i64.wrap ((a.length:Int)+b.length)=a.length+b.length:=bK (by omega) (by omega)
 have w2:IntKind.i64.wrap (1:Int)=1:=rfl
 have w3:IntKind.i64.wrap (2:Int)=2:=rfl
 have n0:¬(a.length:Int)<0:=by omega
 have n1:¬(a.length:Int)+b.length<0:=by omega
 unfold pcF
 rw[aP _ _ _ _ (by simp[W8])]
 simp[W8]
 rw[aO Nj.eq_1]
 simp[i0,w0,n0,w2]
 rw[aO Nj.eq_1]
 simp[i1,w1,n1,w3]
 rw[aO Nj.eq_1]
 by_cases hz:a.length+b.length=0
 ·have hA:a=[]:=List.length_eq_zero_iff.1 (by omega)
  have hB:b=[]:=List.length_eq_zero_iff.1 (by omega)
  subst hA;subst hB
  have hg:=AK
  have hn:∀h,bF h 49 7 88 .nsl []=some (.nsl,h):=fun h=>rfl
  simp[Yc,hg]
  rw[aO yG.eq_1]
  simp[i0,hn,w2]
  rw[aO yG.eq_1]
  simp[i1,hn,w3]
  rw[aO yG.eq_1]
  simp[Yd]
  rfl
 ·have hg:=fun h=>q299 (a.length+b.length) h (by omega) (by omega)
  simp only[Int.natCast_add]at hg
  simp[Yc,hg]
  rw[aO yG.eq_1]
  generalize hz0:DV.agg [.int .i64 0,.int .i64 0,.int .i64 0,.int .i64 0,.int .i64 0,.nsl,.nsl]=z0
  generalize hH:aA.push _ _=H
  have hHg:H.get 0=some (.arr 49 7 ([]++List.replicate (a.length+b.length) z0) none):=by rw[←hH];simp
  have hHl:H.lim=0:=by rw[←hH];simp
  have hHw:WF H:=by rw[←hH];simp
  have A1:=Ei (bytes:=88) (ys:=a.map gF) (k:=0) hHg (by omega) rfl (by simp) (by simp;omega) (by simp;omega)
  simp at A1
  simp[i0,A1,w2]
  rw[aO yG.eq_1]
  generalize hK:aA.set _ _ _=K
  have hKg:K.get 0=some (.arr 49 7 (a.map gF++List.replicate b.length z0) none):=by rw[←hK];simp[hHw,aB hHg]
  have hKl:K.lim=0:=by rw[←hK];simp[hHl]
  have hKw:WF K:=by rw[←hK];simp[hHw]
  have A2:=Ei (bytes:=88) (ys:=b.map gF) (k:=a.length) hKg (by omega) (by simp) (by simp) (by simp;omega) (by simp;omega)
  simp at A2
  simp[i1,A2,w3]
  rw[aO yG.eq_1]
  simp[Yd,-tG]
  have aY:=aB hKg
  have w:OwnR 0 (K.set 0 (.arr 49 7 (a.map gF++b.map gF) none)) (.sl 0 7 0 (a.length+b.length)) 49 7 ((a++b).map gF) :=
   .arr 0 [] none (by simp) (by rw[Hq hKw aY];simp) (by show K.lim≤0;omega) (Nat.le_refl _)
  exact w.out (fun y _=>(Ls y).1.mono (by decide)) (fun y _=>(Ls y).2) (k:=22) (by decide)
structure T8(ms:List (ID×DV))(W:ID→List Msg):Prop where
 nd:(ms.map (·.1)).Nodup
 row:∀x,zL ((rI ms x).getD .nsl) (W x)
def kX(W:ID→List Msg)(x:ID)(l:List Msg):ID→List Msg:=fun y=>if x=y then l else W y
theorem T8.put{ms:List (ID×DV)}{W:ID→List Msg}(r:T8 ms W)(x:ID){v:DV}{l:List Msg}(hv:zL v l):T8 (xM x v ms) (kX W x l):=by
 refine⟨AY r.nd,fun y=>?_⟩
 rw[PV,kX]
 by_cases h:x=y
 ·rw[if_pos h,if_pos h];exact hv
 ·rw[if_neg h,if_neg h];exact r.row y
def qO(ways:List (Int×Int))(wid:Nat):DO:=.arr 271 2 [.agg [eL false 2 aW ways,.map wid]] (some 1)
structure QAt(h:aA)(q wid:Nat)(ways:List (Int×Int))(W:ID→List Msg):Prop where
 gq:h.get q=some (qO ways wid)
 gw:∃ ms,h.get wid=some (.mp (pZ ms))∧T8 ms W
 lw:h.lim≤wid
 lq:h.lim≤q
structure Upd(h h':aA)(F F':List Nat):Prop where
 n:h.n≤h'.n
 lim:h'.lim=h.lim
 wf:WF h'
 old:∀i,i<h.n→i ∉ F→h'.get i=h.get i
 fp:∀i∈F',i∈F∨h.n≤i
theorem Upd.refl{h:aA}(w:WF h)(F:List Nat):Upd h h F F:=⟨Nat.le_refl _,rfl,w,fun _ _ _=>rfl,fun _ hi=>.inl hi⟩
theorem Upd.trans{a b c : aA}{F G H : List Nat}(x : Upd a b F G)(y : Upd b c G H) : Upd a c F H :=
  ⟨Nat.le_trans x.n y.n, y.lim.trans x.lim, y.wf, fun i hi hn => (y.old i (Nat.lt_of_lt_of_le hi x.n) (fun hg => (x.fp i hg).elim hn (fun h => by omega))).trans (x.old i hi hn),
   fun i hi => (y.fp i hi).elim (fun hg => x.fp i hg) (fun h => .inr (Nat.le_trans x.n h))⟩
theorem Upd.push{a b:aA}{F G:List Nat}(x:Upd a b F G)(o:DO):Upd a (b.push o) F G :=
 ⟨Nat.le_succ_of_le x.n,x.lim,x.wf.push,fun i hi hn=>by rw[aG (Nat.lt_of_lt_of_le hi x.n)];exact x.old i hi hn,x.fp⟩
theorem Upd.set{a b:aA}{F G:List Nat}(x:Upd a b F G){i:Nat}{o:DO}(hi:i∈F∨a.n≤i)(hb:i<b.n):Upd a (b.set i o) F G :=
 ⟨x.n,x.lim,x.wf.set,fun j hj hn=>by rw[aN hb (fun e=>hi.elim (fun h=>hn (by rw[e];exact h)) (fun h=>by omega))];exact x.old j hj hn,x.fp⟩
theorem Upd.mono{a b:aA}{F G:List Nat}(x:Upd a b F F)(h:∀i∈F,i∈G):Upd a b G G :=
 ⟨x.n,x.lim,x.wf,fun i hi hn=>x.old i hi (fun hf=>hn (h i hf)),fun _ hi=>.inl hi⟩
theorem QAt.old{h h':aA}{q wid:Nat}{ways:List (Int×Int)}{W:ID→List Msg}(Q:QAt h q wid ways W)(hl:h'.lim=h.lim)(h1:h'.get q=h.get q)(h2:h'.get wid=h.get wid):QAt h' q wid ways W :=
 ⟨by rw[h1];exact Q.gq,by rw[h2];exact Q.gw,by rw[hl];exact Q.lw,by rw[hl];exact Q.lq⟩
theorem QAt.ne{h:aA}{q wid:Nat}{ways:List (Int×Int)}{W:ID→List Msg}(Q:QAt h q wid ways W):q≠wid:=fun e=>by
 obtain⟨ms,g,_⟩:=Q.gw
 have:=Q.gq
 rw[e,g]at this
 cases this
theorem q239{h:aA}{q wid:Nat}{ways:List (Int×Int)}{W:ID→List Msg}(Q:QAt h q wid ways W)(hw:ways.length≤1000000)(u v:Int) :
  fc D 239 [.ptr q 2 0 0,.int .i64 u,.int .i64 v] h=some (.bool (decide ((u,v)∈ways)),h):=by
 have hc:=s298 false ways (u,v) hw
 simp only[aW]at hc
 have gq:=Q.gq
 simp only[qO]at gq
 rw[e239,aP _ _ _ _ (by simp[FF])]
 simp[FF,gq,e298,hc]
theorem o9{h:aA}{q wid mid:Nat}{ways:List (Int×Int)}{W:ID→List Msg}(Q:QAt h q wid ways W)(wf:WF h)(hw:ways.length≤1000000){u v:Int}(Qe:(u,v)∈ways){m:Msg}{e0:DV}{cap:Option Nat}(hm:h.get mid=some (.arr 49 7 [e0] cap))(he:∀n tag h,resolve tag h (n+2) e0=some (gF m))(hl:(W ⟨u,v⟩).length≤300000) :
  ∃ h',fc D 182 [.ptr q 2 0 0,.int .i64 u,.int .i64 v,.sl mid 7 0 1] h=some (.nili,h')∧QAt h' q wid ways (kX W ⟨u,v⟩ (W ⟨u,v⟩++[m]))∧Upd h h' [q,wid] [q,wid]:=by
 have hway:=q239 Q hw u v
 rw[decide_eq_true Qe]at hway
 obtain⟨ms,gw,r⟩:=Q.gw
 have gq:=Q.gq
 have hqw:=Q.ne
 have RN:=Q.lw
 simp only[qO]at gq
 have Qd:h.lim≤h.n:=by have:=Q.lq;have:=aB gq;omega
 have hlm1:h.lim≤h.n+1:=by omega
 have Ax:fY (.agg [1,1]) .nsl false (.agg [.int .i64 u,.int .i64 v]) (some (pZ ms))=_:=vD r.nd .nsl ⟨u,v⟩
 have F5:=fun(H:aA) (hl:H.lim≤wid) (x:DV)=>N4 (h:=H) (id:=wid) r.nd hl ⟨u,v⟩ x
 simp only[kID]at F5
 have eW:=r.row ⟨u,v⟩
 generalize (rI ms ⟨u,v⟩).getD .nsl=v0 at Ax eW
 have hC:=s240 false true true (W ⟨u,v⟩) [m] (by omega) (by simp)
 simp only[qY,List.map_nil]at hC
 have cS:=eW.one
 have hec:=eW.ec
 have BT:∀H n,resolve true H (n+1) v0=some (eL false 7 gF (W ⟨u,v⟩)):=fun H n=>eW.res true H n
 have lq:=aB gq
 have lw:=aB gw
 have lm:=aB hm
 have lw1:wid<h.n+1:=by omega
 have nq:¬q=h.n:=by omega
 have nw:¬wid=h.n:=by omega
 have nm:¬mid=h.n:=by omega
 have nq1:¬q=h.n+1:=by omega
 have nw1:¬wid=h.n+1:=by omega
 have nm1:¬mid=h.n+1:=by omega
 rw[e182,aP _ _ _ _ (by simp[FH])]
 simp[FH,hway,gq,gw,nq,nw,wf,turn,iE,kQ,Ax,cS,hec,Qd,hlm1,e240,BT,he,hm,nm,nm1,hC,nw1,nq1,nJ,F5,RN,lw,lw1,mkIsl]
 refine⟨⟨?_,⟨_,?_,r.put ⟨u,v⟩ (zL.eL _)⟩,RN,Q.lq⟩,(((Upd.refl wf _).set (.inl (by simp)) lw).push _).push _⟩
 ·have cK:¬q=wid:=hqw
  simp[qO,nq,nq1,cK,wf,lw,gq]
 ·simp[nw,nw1,wf,lw]
end Go.Dm.Tc
/-
Networks,part 3: the first message that waits;where something waits.
-/
namespace Go.Dm.Tc
theorem UK(H:aA)(t:Bool)(sz:Nat)(x:DV)(xs:List DV):fC H sz (.isl t sz (x::xs)) (some (.int .i64 1)) none=some (.isl t sz xs):=by
 simp only[fC,true_or,if_true,wF]
 have:cF (some (.int .i64 1)) 0 (x::xs).length=some 1:=by
  simp[cF,asI]
  omega
 rw[this]
 simp
theorem VY(t:Bool)(sz:Nat)(x:DV)(xs:List DV):aS sz (.isl t sz (x::xs)) (.int .i64 0)=some (.iptr t (aF sz x) 0):=by simp[aS,asI]
theorem q84{h:aA}{q wid:Nat}{ways:List (Int×Int)}{W:ID→List Msg}(Q:QAt h q wid ways W)(wf:WF h){u v:Int}{m:Msg}{r:List Msg}(hm:W ⟨u,v⟩=m::r) :
  ∃ h',fc D 84 [.ptr q 2 0 0,.int .i64 u,.int .i64 v] h=some (.tup [gF m,.nili],h')∧QAt h' q wid ways (kX W ⟨u,v⟩ r)∧Upd h h' [q,wid] [q,wid]:=by
 obtain⟨ms,gw,rr⟩:=Q.gw
 have gq:=Q.gq
 have hqw:=Q.ne
 have RN:=Q.lw
 simp only[qO]at gq
 have Qd:h.lim≤h.n:=by have:=Q.lq;have:=aB gq;omega
 have hlm1:h.lim≤h.n+1:=by omega
 have Ax:fY (.agg [1,1]) .nsl false (.agg [.int .i64 u,.int .i64 v]) (some (pZ ms))=_:=vD rr.nd .nsl ⟨u,v⟩
 have F5:=fun(H:aA) (hl:H.lim≤wid) (x:DV)=>N4 (h:=H) (id:=wid) rr.nd hl ⟨u,v⟩ x
 simp only[kID]at F5
 have eW:=rr.row ⟨u,v⟩
 rw[hm]at eW
 generalize (rI ms ⟨u,v⟩).getD .nsl=v0 at Ax eW
 obtain⟨sz,rfl,hs⟩:∃ sz,v0=.isl false sz ((m::r).map gF)∧sz=7:=by
  rcases eW with⟨_,h⟩|⟨sz,h1,h2⟩
  ·cases h
  ·exact⟨sz,h1,h2.resolve_right (by simp)⟩
 subst hs
 have lq:=aB gq
 have lw:=aB gw
 have nq:¬q=h.n:=by omega
 have nw:¬wid=h.n:=by omega
 have nq1:¬q=h.n+1:=by omega
 have nw1:¬wid=h.n+1:=by omega
 have lw1:wid<h.n+1:=by omega
 have hz:¬((r.length:Int)+1=0):=by omega
 rw[e84,aP _ _ _ _ (by simp[t84])]
 simp[t84,gq,gw,nq,nw,nq1,nw1,wf,turn,iE,kQ,Ax,Qd,hlm1,hz,nJ,F5,RN,lw,lw1,gF,UK,VY,aT]
 refine⟨⟨?_,⟨_,?_,rr.put ⟨u,v⟩ (.inr ⟨7,rfl,.inl rfl⟩)⟩,RN,Q.lq⟩,(((Upd.refl wf _).set (.inl (by simp)) lw).push _).push _⟩
 ·have cK:¬q=wid:=hqw
  simp[qO,nq,nq1,cK,wf,lw,gq]
 ·simp[nw,nw1,wf,lw]
def mD(W:ID→List Msg)(ways:List (Int×Int)):List (Int×Int):=ways.filter fun w=>!(W ⟨w.1,w.2⟩).isEmpty
theorem zL.lenV{v:DV}{l:List Msg}(r:zL v l)(h:aA):Dm.lenV h 1 v=some (.int .i64 l.length):=by
 rcases r with⟨rfl,rfl⟩|⟨sz,rfl,_⟩
 ·rfl
 ·simp[Dm.lenV]
theorem l82(P:Res→Prop){h0:aA}{q wid:Nat}{ways:List (Int×Int)}{W:ID→List Msg}(Q:QAt h0 q wid ways W)(hL:ways.length≤1000000) :
  ∀(rest wJ:List (Int×Int)) (i:Nat) (f:eN) (h:aA),ways.drop i=rest→wJ.length≤i→f 0=.ptr q 2 0 0→f 9=eL false 2 aW ways→f 10=.int .i64 ways.length→f 11=.int .i64 i→OwnR h0.n h (f 3) 86 2 (wJ.map aW)→Ext h0.n h0 h →
  (∀F H,OwnR h0.n H (F 3) 86 2 ((wJ++mD W rest).map aW)→Ext h0.n h0 H→P (run D 29 [] O0 F H)) →
  P (run D 29 [.block 0,.seq O0] (.loop N9) f h):=by
 intro rest
 induction rest with
 | nil =>
  intro wJ i f h hd ha WS h9 sU Ji ho hx dW
  have hi:=lR hd
  have:¬(i<ways.length):=by omega
  rw[aO N9.eq_1]
  simp[sU,Ji,this]
  exact dW _ _ (by simpa[mD]using ho) hx
 | cons l rest ih =>
  intro wJ i f h hd ha WS h9 sU Ji ho hx dW
  obtain⟨hi,he,tN⟩:=nG hd
  obtain⟨ms,gw,r⟩:=Q.gw
  have gq:=Q.gq
  have lq:=aB gq
  have lw:=aB gw
  have RT:=(hx.get q lq).trans gq
  have hgw:=(hx.get wid lw).trans gw
  have bJ:=hx.lim
  have hq:=Q.lq
  have hnh:=hx.le
  simp only[qO]at RT
  have nq:¬q=h.n:=by omega
  have nw:¬wid=h.n:=by omega
  have hw:IntKind.i64.wrap ((i:Int)+1)=(i:Int)+1:=bK (by omega) (by omega)
  obtain⟨u,v⟩:=l
  have Ax:fY (.agg [1,1]) .nsl false (.agg [.int .i64 u,.int .i64 v]) (some (pZ ms))=_:=vD r.nd .nsl ⟨u,v⟩
  have eW:=r.row ⟨u,v⟩
  generalize (rI ms ⟨u,v⟩).getD .nsl=v0 at Ax eW
  have cC:=fun h=>eW.lenV h
  have wfh:=hx.wf
  have Qd:h.lim≤h.n:=by omega
  rw[aO N9.eq_1]
  by_cases hc:W ⟨u,v⟩=[]
  ·have hB:mD W ((u,v)::rest)=mD W rest:=by simp[mD,hc]
   rw[hB]at dW
   rw[hc]at cC
   simp[WS,h9,sU,Ji,hi,he,aW,Qd,RT,hgw,nq,nw,wfh,turn,iE,kQ,Ax,cC,hw]
   generalize hF:upd _ 11 _=F
   exact ih wJ (i+1) F _ tN (by omega) (by rw[←hF];simp[WS]) (by rw[←hF];simp[h9]) (by rw[←hF];simp[sU]) (by rw[←hF];simp) (by rw[←hF];simp;exact ho.push) hx.push dW
  ·have hB:mD W ((u,v)::rest)=(u,v)::mD W rest:=by simp[mD,hc]
   have hp:0<(W ⟨u,v⟩).length:=List.length_pos_iff.2 hc
   rw[hB,List.append_cons]at dW
   simp[WS,h9,sU,Ji,hi,he,aW,Qd,RT,hgw,nq,nw,wfh,turn,iE,kQ,Ax,cC,hp]
   generalize hA:bF _ _ _ _ _ _=A
   obtain⟨w',h',rfl,Pz,uL,_⟩:=ho.push.push.append hx.push.push.wf (hx.push.push.le) (by simp[bJ];omega) hA (by simp;omega) (by decide)
   clear hA
   simp[Ji,hw]
   generalize hF:upd _ 11 _=F
   refine ih (wJ++[(u,v)]) (i+1) F h' tN (by simp;omega) (by rw[←hF];simp[WS]) (by rw[←hF];simp[h9]) (by rw[←hF];simp[sU]) (by rw[←hF];simp) (by rw[←hF];simp;simpa[aW]using Pz) (hx.push.push.trans uL) dW
theorem q82{h:aA}{q wid:Nat}{ways:List (Int×Int)}{W:ID→List Msg}(Q:QAt h q wid ways W)(wf:WF h)(hL:ways.length≤1000000) :
  ∃ v h',fc D 82 [.ptr q 2 0 0] h=some (v,h')∧OwnR h.n h' v 86 2 ((mD W ways).map aW)∧Ext h.n h h':=by
 have gq:=Q.gq
 have lq:=aB gq
 simp only[qO]at gq
 rw[e82,aP _ _ _ _ (by simp[t82])]
 simp[t82,gq]
 generalize hF:upd _ 11 _=F
 refine l82 (fun r=>∃ v h',fin [.t 2] r=some (v,h')∧OwnR h.n h' v 86 2 ((mD W ways).map aW)∧Ext h.n h h') Q hL ways [] 0 F h rfl (Nat.zero_le _) (by rw[←hF];simp) (by rw[←hF];simp) (by rw[←hF];simp) (by rw[←hF];simp) (by rw[←hF];simp;exact .start _ _ _ _) (.refl (Nat.le_refl _) wf) fun F K o x=>?_
 rw[List.nil_append]at o
 refine⟨F 3,K,?_,o,x⟩
 simp[O0]
end Go.Dm.Tc
/-
Networks,part 4: all ways of a graph,sorted.
-/
namespace Go.Dm.Tc
def rS:List (Int×Int)→List (Int×Int)
 | []=>[]
 | l::r=>l::(l.2,l.1)::rS r
def bA(L:List (Int×Int)):List (Int×Int):=fZ ltP (rS L)
theorem An{u v:Int}:∀{L:List (Int×Int)},(u,v)∈rS L↔(u,v)∈L∨(v,u)∈L
 | []=>by simp[rS]
 | l::r=>by
  obtain⟨a,b⟩:=l
  simp only[rS,List.mem_cons,An (L:=r),Prod.mk.injEq]
  constructor
  ·rintro(h|h|h|h)
   ·exact .inl (.inl h)
   ·exact .inr (.inl ⟨h.2,h.1⟩)
   ·exact .inl (.inr h)
   ·exact .inr (.inr h)
  ·rintro((h|h)|(h|h))
   ·exact .inl h
   ·exact .inr (.inr (.inl h))
   ·exact .inr (.inl ⟨h.2,h.1⟩)
   ·exact .inr (.inr (.inr h))
theorem Fp:∀L:List (Int×Int),(rS L).length=2*L.length
 | []=>rfl
 | l::r=>by simp[rS,Fp r];omega
theorem cN.tail{m:Int}{l:Int×Int}{r:List (Int×Int)}(h:cN m (l::r)):cN m r:=⟨fun x hx=>h.rng x (List.mem_cons_of_mem _ hx),(List.pairwise_cons.1 h.nd).2⟩
theorem cN.wayL_nd{m:Int}:∀{L:List (Int×Int)},cN m L→(rS L).Nodup
 | [],_=>List.nodup_nil
 | (a,b)::r,h=>by
  obtain⟨h1,_⟩:=List.pairwise_cons.1 h.nd
  have hr:=h.rng (a,b) (List.mem_cons_self ..)
  have n1:(a,b) ∉ rS r:=fun hm=>by
   rcases An.1 hm with hm|hm
   ·exact(h1 _ hm).1 rfl
   ·exact(h1 _ hm).2 rfl
  have n2:(b,a) ∉ rS r:=fun hm=>by
   rcases An.1 hm with hm|hm
   ·exact(h1 _ hm).2 rfl
   ·exact(h1 _ hm).1 rfl
  simp only[rS,List.nodup_cons,List.mem_cons,not_or]
  refine⟨⟨fun e=>hr.2.2.2.2 ?_,n1⟩,n2,h.tail.wayL_nd⟩
  cases e;rfl
theorem uP(L:List (Int×Int)):(bA L).Perm (rS L):=vH ltP _
theorem D4{u v:Int}{L:List (Int×Int)}:(u,v)∈bA L↔(u,v)∈L∨(v,u)∈L:=(uP L).mem_iff.trans An
theorem iR(L:List (Int×Int)):(bA L).length=2*L.length:=(uP L).length_eq.trans (Fp L)
theorem cN.waysOf_nd{m:Int}{L:List (Int×Int)}(h:cN m L):(bA L).Nodup:=(uP L).nodup_iff.2 h.wayL_nd
theorem l106(id n:Nat)(L:List (Int×Int))(sp:List DV)(cap:Option Nat)(h:aA)(hl:h.lim≤id)(hn:n≤1000000)(hs:L.Nodup)(hL:L.length=n)(g:h.get id=some (.arr 86 2 (L.map aW++sp) cap))(wf:WF h) :
  ∀(j k:Nat) (f:eN),1≤k→k+j=n→f 0=.sl id 2 0 n→f 3=.int .i64 k →
  fin [.t 2] (run D 61 [.block 0,.seq Yl] (.loop Ns) f h)=some (.sl id 2 0 n,h):=by
 have PF:=aB g
 intro j
 induction j with
 | zero =>
  intro k f h1 hk h0 h3
  have Xj:k=n:=by omega
  subst Xj
  rw[aO Ns.eq_1]
  simp[h0,h3,Yl]
 | succ j ih =>
  intro k f h1 hk h0 h3
  have Xj:k<n:=by omega
  have hx:∀i,(hi:i<n)→(L.map aW++sp)[i]?=some (.agg [.int .i64 (L[i]'(by omega)).1,.int .i64 (L[i]'(by omega)).2]):=fun i hi=>by
   rw[List.getElem?_append_left (by simp;omega),List.getElem?_map,List.getElem?_eq_getElem (by omega)];rfl
  have Jf:=hx k Xj
  have Rg:=hx (k-1) (by omega)
  have Xh:IntKind.i64.wrap ((k:Int)-1)=((k-1:Nat):Int):=by rw[bK (by omega) (by omega)];omega
  have WD:IntKind.i64.wrap ((k:Int)+1)=((k+1:Nat):Int):=by rw[bK (by omega) (by omega)];omega
  have BW:∀i:Nat,i<n→aS 2 (.sl id 2 0 n) (.int .i64 (i:Int))=some (.ptr id 2 i 0):=fun i hi=>by
   simp[aS,asI,hi]
  have uJ:=BW k Xj
  have G5:=BW (k-1) (by omega)
  have cK:¬((L[k]'(by omega)).1=(L[k-1]'(by omega)).1∧(L[k]'(by omega)).2=(L[k-1]'(by omega)).2):=fun e=>by
   have:L[k]'(by omega)=L[k-1]'(by omega):=Prod.ext e.1 e.2
   exact List.pairwise_iff_getElem.1 hs (k-1) k (by omega) (by omega) (by omega) this.symm
  have hq:((L[k]'(by omega)).1 == (L[k-1]'(by omega)).1 && (L[k]'(by omega)).2 == (L[k-1]'(by omega)).2)=false:=by
   rw[Bool.and_eq_false_iff]
   by_cases h1:(L[k]'(by omega)).1=(L[k-1]'(by omega)).1
   ·exact .inr (by simpa using fun h2=>cK ⟨h1,h2⟩)
   ·exact .inl (by simpa using h1)
  rw[aO Ns.eq_1]
  simp[h0,h3,g,Jf,Rg,PF,Xh,uJ,G5,Xj,hq,FN,WD]
  exact ih (k+1) _ (by omega) (by omega) (by simp[h0]) (by simp)
theorem q106(id:Nat)(L:List (Int×Int))(sp:List DV)(cap:Option Nat)(h:aA)(hl:h.lim≤id)(hn:L.length≤1000000)(hs:L.Nodup)(g:h.get id=some (.arr 86 2 (L.map aW++sp) cap))(wf:WF h) :
  fc D 106 [.sl id 2 0 L.length] h=some (.sl id 2 0 L.length,h):=by
 rw[e106,aP _ _ _ _ (by simp[Ry])]
 by_cases h2:L.length<2
 ·have PU:(L.length:Int)<2:=by omega
  simp[Ry,h2,PU]
 ·have PU:¬(L.length:Int)<2:=by omega
  simp[Ry,h2,PU]
  exact l106 id L.length L sp cap h hl hn hs rfl g wf (L.length-1) 1 _ (by omega) (by omega) (by simp) (by simp)
theorem HD(h:aA):fc D 106 [.nsl] h=some (.nsl,h):=by
 rw[e106,aP _ _ _ _ (by simp[Ry])]
 simp[Ry]
theorem q102(id:Nat)(sp:List DV)(cap:Option Nat)(h:aA)(L:List (Int×Int))(g:h.get id=some (.arr 86 2 (L.map aW++sp) cap))(hl:h.lim≤id)(hb:L.length≤1000000) :
  fc D 102 [.sl id 2 0 L.length,.func 103 []] h=some (.tup [],h.set id (.arr 86 2 ((fZ ltP L).map aW++sp) cap)) :=
 (e102 _ h).trans (Dn (un:=unP) (mk:=aW) (lt:=ltP) (fun _=>rfl) g hl hb)
theorem HE(h:aA):fc D 102 [.nsl,.func 103 []] h=some (.tup [],h):=e102 _ h
theorem l40(P:Res→Prop)(t:Bool)(m:Int)(L:List (Int×Int))(hm:∀l∈L,yW m l=true)(hL:L.length≤100000)(h0:aA)(g0:h0.get 0=some (.arr 76 2 [.agg [.int .i64 m,eL t 2 aW L]] (some 1)))(bJ:h0.lim=0) :
  ∀(rest wJ:List (Int×Int)) (i:Nat) (f:eN) (h:aA),L.drop i=rest→wJ.length≤2*i→f 1=.ptr 0 2 0 0→f 7=eL t 2 aW L→f 8=.int .i64 L.length→f 9=.int .i64 i→OwnR 1 h (f 3) 86 2 (wJ.map aW)→Ext 1 h0 h →
  (∀F H,OwnR 1 H (F 3) 86 2 ((wJ++rS rest).map aW)→Ext 1 h0 H→P (run D 30 [] Rx F H)) →
  P (run D 30 [.block 0,.seq Rx] (.loop O4) f h):=by
 intro rest
 induction rest with
 | nil =>
  intro wJ i f h hd ha h1 h7 h8 h9 ho hx dW
  have hi:=lR hd
  have:¬(i<L.length):=by omega
  rw[aO O4.eq_1]
  simp[h8,h9,this]
  exact dW _ _ (by simpa[rS]using ho) hx
 | cons l rest ih =>
  intro wJ i f h hd ha h1 h7 h8 h9 ho hx dW
  obtain⟨hi,he,tN⟩:=nG hd
  have hlH:h.lim=0:=hx.lim.trans bJ
  have Ri:=(hx.get 0 (by decide)).trans g0
  have hnh:=hx.le
  have n0:¬0=h.n:=by omega
  have hw:IntKind.i64.wrap ((i:Int)+1)=(i:Int)+1:=bK (by omega) (by omega)
  have hf:∀h,resolve true h 199 (eL t 2 aW L)=some (eL t 2 aW L):=fun h=>kA _ _ _ _ true h 199 (by decide)
  obtain⟨u,v⟩:=l
  have yU:pcF D Nt [.agg [.int .i64 m,eL t 2 aW L],.agg [.int .i64 u,.int .i64 v]]=some (.bool true):=by
   have:=UT t m L (u,v)
   rw[hm (u,v) (by rw[←List.take_append_drop i L,hd];simp)]at this
   exact this
  rw[aO O4.eq_1]
  rw[show wJ++rS ((u,v)::rest)=(wJ++[(u,v),(v,u)])++rS rest by simp[rS]]at dW
  simp[h1,h7,h8,h9,hi,he,hlH,Ri,n0,aW,CT,yU,hf,Pu,Pt]
  generalize hA:bF _ _ _ _ _ _=A
  obtain⟨w',h',rfl,Pz,uL,_⟩:=ho.push.push.append hx.push.push.wf (hx.push.push.le) (by simp[hlH]) hA (by simp;omega) (by decide)
  clear hA
  simp[h9,hw]
  generalize hF:upd _ 9 _=F
  refine ih (wJ++[(u,v),(v,u)]) (i+1) F h' tN (by simp;omega) (by rw[←hF];simp[h1]) (by rw[←hF];simp[h7]) (by rw[←hF];simp[h8]) (by rw[←hF];simp) (by rw[←hF];simp;simpa[aW]using Pz) (hx.push.push.trans uL) dW
theorem s40(t:Bool){m:Int}{L:List (Int×Int)}(ok:cN m L)(hL:L.length≤100000):pcF D t40 [.agg [.int .i64 m,eL t 2 aW L]]=some (eL false 2 aW (bA L)):=by
 have hm:∀l∈L,yW m l=true:=fun l hl=>decide_eq_true (ok.rng l hl)
 unfold pcF
 rw[aP _ _ _ _ (by simp[t40])]
 simp[t40]
 generalize hF:upd _ 9 _=F
 generalize hH:aA.push _ _=H
 refine l40 (fun r=>oK (fin [.t 2] r)=some (eL false 2 aW (bA L))) t m L hm hL H (by rw[←hH];simp) (by rw[←hH];simp) L [] 0 F H rfl (Nat.zero_le _) (by rw[←hF];simp) (by rw[←hF];simp) (by rw[←hF];simp) (by rw[←hF];simp) (.nil (by rw[←hF];simp) rfl) (.refl (by rw[←hH];simp) (by rw[←hH];simp)) fun F K o x=>?_
 rw[List.nil_append]at o
 have cC:=iR L
 have RN:=Fp L
 cases o with
 | nil hv hx =>
  have uL:L=[]:=List.length_eq_zero_iff.1 (by have:=congrArg List.length hx;rw[List.length_map]at this;simp only[List.length_nil]at this;omega)
  subst uL
  simp[Rx,hv,HE,HD,turn]
  rfl
 | arr id sp cap hv hg bJ dY =>
  have h2:=q102 id sp cap K (rS L) hg bJ (by omega)
  have RU:=aB hg
  have g2:(K.set id (.arr 86 2 ((bA L).map aW++sp) cap)).get id=some (.arr 86 2 ((bA L).map aW++sp) cap):=bV x.wf hg
  have h3:=q106 id (bA L) sp cap _ (by exact bJ) (by omega) ok.waysOf_nd g2 x.wf.set
  have e2:(bA L).length=(rS L).length:=by omega
  rw[List.length_map]at hv
  rw[e2]at h3
  have w:OwnR 1 (K.set id (.arr 86 2 ((bA L).map aW++sp) cap)) (.sl id 2 0 (rS L).length) 86 2 ((bA L).map aW):=.arr id sp cap (by rw[List.length_map,e2]) g2 bJ dY
  have hout:=w.out (k:=22) (fun y _=>(mL y).1.mono (by decide)) (fun y _=>(mL y).2) (by decide)
  unfold bA at h3 hout ⊢
  simp[Rx,hv,h2,h3,turn,-tG]
  exact hout
end Go.Dm.Tc
