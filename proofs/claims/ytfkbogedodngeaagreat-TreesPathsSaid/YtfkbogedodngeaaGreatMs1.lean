/- A part of the proof. -/
import Derived.Test.YtfkbogedodngeaaGreatMs0
set_option linter.all false
set_option maxRecDepth 100000
namespace Go.Dm.Tc
theorem GT{α:Type}(key:α→ID){l:List α}(h:dO (l.map key))(x:ID)(a:α):l.find? (fun b=>decide (key b=x))=some a↔a∈l∧key a=x:=by
 constructor
 ·intro hf
  exact⟨List.mem_of_find?_eq_some hf,by simpa using List.find?_some hf⟩
 ·rintro⟨hm,hk⟩
  cases hf:l.find? (fun b=>decide (key b=x))with
  | none=>exact absurd hk (by have:=List.find?_eq_none.1 hf a hm;simpa using this)
  | some b =>
   have hb:=List.mem_of_find?_eq_some hf
   have hkb:key b=x:=by simpa using List.find?_some hf
   have:b=a:=by
    by_cases e:b=a
    ·exact e
    ·exfalso
     unfold dO at h
     rw[List.pairwise_map]at h
     obtain⟨i,hi,rfl⟩:=List.mem_iff_getElem.1 hb
     obtain⟨j,hj,rfl⟩:=List.mem_iff_getElem.1 hm
     rcases Nat.lt_trichotomy i j with aZ|he|aZ
     ·have:=List.pairwise_iff_getElem.1 h i j hi hj aZ
      rw[hkb,hk,gV]at this;omega
     ·subst he;exact e rfl
     ·have:=List.pairwise_iff_getElem.1 h j i hj hi aZ
      rw[hkb,hk,gV]at this;omega
   rw[this]
theorem Ir{α:Type}(key:α→ID){l:List α}(x:ID):l.find? (fun b=>decide (key b=x))=none↔∀a∈l,key a≠x:=by
 rw[List.find?_eq_none]
 exact⟨fun h a ha=>by simpa using h a ha,fun h a ha=>by simpa using h a ha⟩
theorem sQ{b:aL}(h:dO (b.aW.map (·.id))){x:ID}{a:cP}:mR b x=some a↔a∈b.aW∧a.id=x:=GT (fun a:cP=>a.id) h x a
theorem D2{b:aL}{x:ID}:mR b x=none↔∀a∈b.aW,a.id≠x:=Ir (fun a:cP=>a.id) x
theorem iP(b:aL)(x:ID):gN b x=((mR b x).getD vU).eG:=rfl
theorem nM{l:List bL}{t:ID}{p:dY}:eJ l t p=true↔∃ e∈l,e.tree=t∧e.up=true∧M6 e.pred p=true:=by
 unfold eJ ofT
 rw[List.any_eq_true]
 constructor
 ·rintro⟨e,he,h⟩
  have:=List.mem_filter.1 he
  rw[Bool.and_eq_true]at h
  exact⟨e,this.1,by simpa using this.2,h.1,h.2⟩
 ·rintro⟨e,he,h1,h2,h3⟩
  exact⟨e,List.mem_filter.2 ⟨he,by simpa using h1⟩,by rw[h2,h3];rfl⟩
theorem tV{e x:bL}{l:List bL}:x∈Nt e l↔x=e∨x∈l:=by
 unfold Nt
 rw[List.mem_append,List.mem_cons]
 constructor
 ·rintro(h|h|h)
  ·exact .inr (List.mem_of_mem_take h)
  ·exact .inl h
  ·exact .inr (List.mem_of_mem_drop h)
 ·rintro(h|h)
  ·exact .inr (.inl h)
  ·rw[←List.take_append_drop (dQ (kQ e.tree e.sub) l) l,List.mem_append]at h
   exact h.elim .inl fun h=>.inr (.inr h)
theorem Sx(e:bL)(l:List bL):(Nt e l).length=l.length+1:=by
 unfold Nt
 rw[List.length_append,List.length_cons,List.length_take,List.length_drop]
 have:=vJ (kQ e.tree e.sub) l
 omega
theorem JP{t s:ID}{a:bL}(h1:¬kQ t s a<0)(h2:¬(a.tree=t∧a.sub=s))(e:bL)(he:e.tree=t)(he2:e.sub=s):kQ a.tree a.sub e<0:=by
 rw[Dc,jP,jP]at *
 rw[he,he2]
 rw[ID.ext',ID.ext']at h2
 rw[ID.ext']at *
 omega
theorem Sw{e:bL}{l:List bL}(h:jG l)(hn:∀x∈l,isE e.tree e.sub x=false):jG (Nt e l):=by
 unfold jG Nt
 rw[List.pairwise_append,List.pairwise_cons]
 generalize hk:dQ (kQ e.tree e.sub) l=k
 have Fq:∀b∈l.take k,kQ e.tree e.sub b<0:=by
  intro b hb
  obtain⟨i,hi,rfl⟩:=List.mem_iff_getElem.1 hb
  rw[List.getElem_take]
  rw[List.length_take]at hi
  have:=List.not_of_lt_findIdx (p:=fun x=>!decide (kQ e.tree e.sub x<0)) (xs:=l) (i:=i) (by unfold dQ at hk;omega)
  simpa using this
 have uA:∀b∈l.drop k,kQ b.tree b.sub e<0:=by
  intro b hb
  obtain⟨i,hi,rfl⟩:=List.mem_iff_getElem.1 hb
  rw[List.length_drop]at hi
  rw[List.getElem_drop]
  have OE:k<l.length:=by omega
  have h1:¬kQ e.tree e.sub l[k]<0:=by
   have:=List.findIdx_getElem (p:=fun x=>!decide (kQ e.tree e.sub x<0)) (xs:=l) (w:=by unfold dQ at hk;omega)
   have pG:List.findIdx (fun x=>!decide (kQ e.tree e.sub x<0)) l=k:=hk
   simp only[pG]at this
   simpa using this
  have h2:¬kQ e.tree e.sub l[k+i]<0:=fun hc=>h1 (WJ h _ _ k (k+i) OE (by omega) (by omega) hc)
  refine JP h2 ?_ e rfl rfl
  have:=hn l[k+i] (List.getElem_mem _)
  simpa[isE]using this
 refine⟨h.sublist (List.take_sublist ..),⟨fun b hb=>uA b hb,h.sublist (List.drop_sublist ..)⟩,?_⟩
 intro x hx y hy
 rcases List.mem_cons.1 hy with rfl|hy
 ·exact Fq x hx
 ·exact Eg (Fq x hx) (by have:=uA y hy;omega)
structure pH(b:aL):Prop where
 bD:jX (fun x y=>decide (x<y)) b.bD=true
 loc:∀x∈b.bD,0≤x
 ra:dO (b.aW.map (·.id))
 rs:dO b.seen
 ro:dO (b.jZ.map (·.id))
 re:jG b.entries
 sub:∀a∈b.aW,a.id∈b.seen
 par:∀a∈b.aW,tT b a.eG=true
 pa:∀a∈b.aW,mD a.pred
 po:∀o∈b.jZ,mD o.pred
 ent:∀e∈b.entries,kR b e=true
 pe:∀e∈b.entries,mD e.pred
 tight:Vx b=true
structure SzK(b:aL)(n:Nat):Prop where
 bD:b.bD.length≤1000
 adv:b.aW.length≤n
 seen:b.seen.length≤n
 own:b.jZ.length≤n
 ent:b.entries.length≤n*n
theorem SzK.mono{b:aL}{n m:Nat}(h:SzK b n)(hn:n≤m):SzK b m:=by
 have:=Nat.mul_le_mul hn hn
 obtain⟨h1,h2,h3,h4,h5⟩:=h
 exact⟨h1,by omega,by omega,by omega,by omega⟩
theorem pH.right{b:aL}(h:pH b):Mw b=true:=by
 unfold Mw Ak
 rw[h.bD,nS (key:=fun a:cP=>a.id) h.ra,nS (key:=fun a:Vc=>a.id) h.ro,Kb h.re,show jX (fun x y=>Ar x y) b.seen=true from nS (key:=fun a:ID=>a) (by simpa using h.rs)]
 have h1:(b.aW.any fun a=>!tI b a)=false:=by
  rw[List.any_eq_false]
  intro a ha
  simp[tI,h.sub a ha,h.par a ha,(h.pa a ha).right]
 have h2:(b.entries.any fun e=>!kR b e)=false:=by
  rw[List.any_eq_false]
  intro e he
  simp[h.ent e he]
 have h3:(b.jZ.any fun o=>!tG o.pred)=false:=by
  rw[List.any_eq_false]
  intro o ho
  simp[(h.po o ho).right]
 rw[h1,h2,h3]
 rfl
theorem hJ{b:aL}{e:bL}:kR b e=true↔∃ a,mR b e.tree=some a∧tT b e.lG=true∧(e.lG=a.eG→a.eG=-1)∧(e.up=true→a.eG≠-1)∧tG e.pred=true:=by
 unfold kR mR
 cases b.aW.find? (fun a=>a.id=e.tree)with
 | none=>simp
 | some a =>
  simp only[Option.some.injEq,exists_eq_left',Bool.and_eq_true,Bool.or_eq_true,Bool.not_eq_true',Bool.and_eq_false_iff,decide_eq_true_eq,decide_eq_false_iff_not]
  constructor
  ·rintro⟨⟨⟨h1,h2⟩,h3⟩,h4⟩
   exact⟨h1,fun q=>h2.resolve_left (fun hn=>hn q),fun q=>h3.resolve_left (by rw[q];decide),h4⟩
  ·rintro⟨h1,h2,h3,h4⟩
   refine⟨⟨⟨h1,?_⟩,?_⟩,h4⟩
   ·by_cases q:e.lG=a.eG
    ·exact .inr (h2 q)
    ·exact .inl q
   ·cases q:e.up with
    | false=>exact .inl rfl
    | true=>exact .inr (h3 q)
theorem jV{b:aL}:Vx b=true↔∀e∈b.entries,e.up=true∨gN b e.tree=-1∨eJ b.entries e.tree e.pred=true:=by
 unfold Vx
 rw[List.all_eq_true]
 simp only[CC,Bool.or_eq_true,decide_eq_true_eq,or_assoc]
theorem xE{b b':aL}(h:b'.bD=b.bD)(n:Int):tT b' n=tT b n:=by unfold tT;rw[h]
theorem qF{b b':aL}{e:bL}(h:b'.bD=b.bD)(ha:mR b' e.tree=mR b e.tree):kR b' e=kR b e:=by
 rw[Bool.eq_iff_iff,hJ,hJ,ha]
 simp only[xE h]
theorem pH.start{me:Int}{bD:List Int}(hn:jX (fun x y=>decide (x<y)) bD=true)(hl:∀x∈bD,0≤x):pH ⟨me,bD,[],[],[],[]⟩ :=
 ⟨hn,hl,.nil,.nil,.nil,.nil,fun a h=>(by cases h),fun a h=>(by cases h),fun a h=>(by cases h),fun a h=>(by cases h),fun a h=>(by cases h),fun a h=>(by cases h),rfl⟩
theorem SzK.start{me:Int}{bD:List Int}(hn:bD.length≤1000):SzK ⟨me,bD,[],[],[],[]⟩ 0:=⟨hn,Nat.le_refl _,Nat.le_refl _,Nat.le_refl _,Nat.le_refl _⟩
theorem Va{b:aL}(h:pH b)(a:cP)(hn:a.id ∉ b.seen)(x:ID):mR (dG b a).1 x=if a.id=x then some a else mR b x:=by
 have Oa:∀c∈b.aW,c.id≠a.id:=fun c hc e=>hn (by rw[←e];exact h.sub c hc)
 have hr:dO ((dG b a).1.aW.map (·.id)):=by
  unfold dG;rw[if_neg hn]
  exact oE (fun a:cP=>a.id) a h.ra Oa
 have hm:∀c,c∈(dG b a).1.aW↔c=a∨c∈b.aW:=by
  intro c
  unfold dG;rw[if_neg hn]
  exact pT (fun a:cP=>a.id) a b.aW c
 by_cases e:a.id=x
 ·rw[if_pos e,sQ hr,hm];exact⟨.inl rfl,e⟩
 ·rw[if_neg e]
  cases hq:mR b x with
  | none =>
   rw[D2]at hq ⊢
   intro c hc
   rcases(hm c).1 hc with rfl|hc
   ·exact e
   ·exact hq c hc
  | some c =>
   rw[sQ h.ra]at hq
   rw[sQ hr,hm]
   exact⟨.inr hq.1,hq.2⟩
theorem pH.learn{b:aL}(h:pH b){a:cP}(hp:tT b a.eG=true)(hr:mD a.pred):pH (dG b a).1:=by
 by_cases hn:a.id∈b.seen
 ·unfold dG;rw[if_pos hn];exact h
 ·have ho:=Va h a hn
  have hE:(dG b a).1.entries=b.entries:=by unfold dG;rw[if_neg hn]
  have hN:(dG b a).1.bD=b.bD:=by unfold dG;rw[if_neg hn]
  have hO:(dG b a).1.jZ=b.jZ:=by unfold dG;rw[if_neg hn]
  have hA:(dG b a).1.aW=sS (fun a=>a.id) a b.aW:=by unfold dG;rw[if_neg hn]
  have hS:(dG b a).1.seen=sS (fun x=>x) a.id b.seen:=by unfold dG;rw[if_neg hn]
  have hother:∀e∈b.entries,mR (dG b a).1 e.tree=mR b e.tree:=by
   intro e he
   rw[ho,if_neg]
   intro hc
   obtain⟨c,MH,_⟩:=hJ.1 (h.ent e he)
   rw[sQ h.ra]at MH
   exact hn (by rw[hc,←MH.2];exact h.sub c MH.1)
  refine⟨by rw[hN];exact h.bD,by rw[hN];exact h.loc,?_,?_,by rw[hO];exact h.ro,by rw[hE];exact h.re,?_,?_,?_,by rw[hO];exact h.po,?_,by rw[hE];exact h.pe,?_⟩
  ·rw[hA];exact oE (fun a:cP=>a.id) a h.ra fun c hc e=>hn (by rw[←e];exact h.sub c hc)
  ·rw[hS]
   have:=oE (fun x:ID=>x) a.id (l:=b.seen) (by simpa using h.rs) (fun c hc e=>hn (by rw[←e];exact hc))
   simpa using this
  ·intro c hc
   rw[hA,pT]at hc
   rw[hS,pT]
   rcases hc with rfl|hc
   ·exact .inl rfl
   ·exact .inr (h.sub c hc)
  ·intro c hc
   rw[xE hN]
   rw[hA,pT]at hc
   rcases hc with rfl|hc
   ·exact hp
   ·exact h.par c hc
  ·intro c hc
   rw[hA,pT]at hc
   rcases hc with rfl|hc
   ·exact hr
   ·exact h.pa c hc
  ·intro e he
   rw[hE]at he
   rw[qF hN (hother e he)];exact h.ent e he
  ·rw[jV,hE]
   intro e he
   rw[iP,hother e he,←iP]
   exact jV.1 h.tight e he
theorem SzK.learn{b:aL}{n:Nat}(h:SzK b n)(a:cP):SzK (dG b a).1 (n+1):=by
 have h':=h.mono (Nat.le_succ n)
 unfold dG
 split
 ·exact h'
 ·obtain⟨h1,h2,h3,h4,h5⟩:=h'
  exact⟨h1,by simp only[Df];have:=h.adv;omega,by simp only[Df];have:=h.seen;omega,h4,h5⟩
theorem Ys{b:aL}{e:bL}:Nr b e=true↔∃ a,mR b e.tree=some a∧(∀x∈b.entries,isE e.tree e.sub x=false)∧(e.lG=a.eG→a.eG=-1):=by
 unfold Nr mR
 cases b.aW.find? (fun a=>a.id=e.tree)with
 | none=>simp
 | some a =>
  simp only[Option.some.injEq,exists_eq_left',Bool.and_eq_true,Bool.not_eq_true',Bool.and_eq_false_iff,List.any_eq_false,Bool.not_eq_true,decide_eq_false_iff_not,Bool.not_eq_false',decide_eq_true_eq]
  refine and_congr Iff.rfl ⟨fun h q=>h.resolve_left (fun hn=>hn q),fun h=>?_⟩
  by_cases q:e.lG=a.eG
  ·exact .inr (h q)
  ·exact .inl q
theorem zO{l l':List bL}{t:ID}{p:dY}(h:∀e∈l,e∈l')(hc:eJ l t p=true):eJ l' t p=true:=by
 rw[nM]at *
 obtain⟨e,he,h2⟩:=hc
 exact⟨e,h e he,h2⟩
theorem pH.add{b:aL}(h:pH b){e:bL}(hl:tT b e.lG=true)(hp:mD e.pred):pH (uQ b e).1:=by
 by_cases hm:Nr b e=true
 ·obtain⟨a,ha,Nz,hfp⟩:=Ys.1 hm
  unfold uQ
  rw[if_pos hm]
  have Fm:gN b e.tree=a.eG:=by rw[iP,ha];rfl
  refine⟨h.bD,h.loc,h.ra,h.rs,h.ro,?_,h.sub,h.par,h.pa,h.po,?_,?_,?_⟩
  ·exact Sw (e:={e with up:=Vt b e}) h.re Nz
  ·intro x hx
   rw[tV]at hx
   have hs:∀y,kR {b with entries:=Nt {e with up:=Vt b e} b.entries} y=kR b y:=fun y=>qF rfl rfl
   rw[hs]
   rcases hx with rfl|hx
   ·rw[hJ]
    refine⟨a,ha,hl,hfp,?_,hp.right⟩
    intro hu hpp
    simp only[Vt,Fm,hpp]at hu
    simp at hu
   ·exact h.ent x hx
  ·intro x hx
   rw[tV]at hx
   rcases hx with rfl|hx
   ·exact hp
   ·exact h.pe x hx
  ·rw[jV]
   intro x hx
   have hs:∀y,gN {b with entries:=Nt {e with up:=Vt b e} b.entries} y=gN b y:=fun y=>rfl
   rw[hs]
   have oH:=hx
   rw[tV]at hx
   rcases hx with rfl|hx
   ·by_cases hpp:a.eG=-1
    ·exact .inr (.inl (by rw[Fm,hpp]))
    ·cases MF:eJ b.entries e.tree e.pred with
     | true=>exact .inr (.inr (zO (fun y hy=>tV.2 (.inr hy)) MF))
     | false=>left;simp[Vt,Fm,hpp,MF]
   ·rcases jV.1 h.tight x hx with h1|h1|h1
    ·exact .inl h1
    ·exact .inr (.inl h1)
    ·exact .inr (.inr (zO (fun y hy=>tV.2 (.inr hy)) h1))
 ·unfold uQ
  rw[if_neg hm];exact h
inductive eS(t:ID):List bL→List bL→Prop where
 | nil:eS t [] []
 | keep (e:bL) {l l':List bL} (h:eS t l l'):eS t (e::l) (e::l')
 | up (e:bL) {l l':List bL} (ht:e.tree=t) (hu:e.up=false) (h:eS t l l'):eS t (e::l) ({e with up:=true}::l')
theorem eS.refl(t:ID):∀l,eS t l l
 | []=>.nil
 | e::l=>.keep e (eS.refl t l)
theorem eS.append{t:ID}{a a' b b':List bL}(h:eS t a a')(k:eS t b b'):eS t (a++b) (a'++b'):=by
 induction h with
 | nil=>exact k
 | keep e _ ih=>exact .keep e ih
 | up e ht hu _ ih=>exact .up e ht hu ih
theorem eS.len{t:ID}{a a':List bL}(h:eS t a a'):a'.length=a.length:=by
 induction h with
 | nil=>rfl
 | keep e _ ih=>simp[ih]
 | up e ht hu _ ih=>simp[ih]
theorem eS.mem{t:ID}{a a':List bL}(h:eS t a a'){x:bL}(hx:x∈a'):x∈a∨∃ e∈a,e.tree=t∧e.up=false∧x={e with up:=true}:=by
 induction h with
 | nil=>cases hx
 | keep e _ ih =>
  rcases List.mem_cons.1 hx with rfl|hx
  ·exact .inl (List.mem_cons_self ..)
  ·rcases ih hx with h|⟨y,hy,h⟩
   ·exact .inl (List.mem_cons_of_mem _ h)
   ·exact .inr ⟨y,List.mem_cons_of_mem _ hy,h⟩
 | up e ht hu _ ih =>
  rcases List.mem_cons.1 hx with rfl|hx
  ·exact .inr ⟨e,List.mem_cons_self ..,ht,hu,rfl⟩
  ·rcases ih hx with h|⟨y,hy,h⟩
   ·exact .inl (List.mem_cons_of_mem _ h)
   ·exact .inr ⟨y,List.mem_cons_of_mem _ hy,h⟩
theorem eS.of_mem{t:ID}{a a':List bL}(h:eS t a a'){x:bL}(hx:x∈a):x∈a'∨(x.tree=t∧x.up=false∧{x with up:=true}∈a'):=by
 induction h with
 | nil=>cases hx
 | keep e _ ih =>
  rcases List.mem_cons.1 hx with rfl|hx
  ·exact .inl (List.mem_cons_self ..)
  ·rcases ih hx with h|⟨h1,h2,h3⟩
   ·exact .inl (List.mem_cons_of_mem _ h)
   ·exact .inr ⟨h1,h2,List.mem_cons_of_mem _ h3⟩
 | up e ht hu _ ih =>
  rcases List.mem_cons.1 hx with rfl|hx
  ·exact .inr ⟨ht,hu,List.mem_cons_self ..⟩
  ·rcases ih hx with h|⟨h1,h2,h3⟩
   ·exact .inl (List.mem_cons_of_mem _ h)
   ·exact .inr ⟨h1,h2,List.mem_cons_of_mem _ h3⟩
theorem eS.rising{t:ID}{a a':List bL}(h:eS t a a')(hr:jG a):jG a':=by
 induction h with
 | nil=>exact hr
 | keep e h ih =>
  unfold jG at *
  rw[List.pairwise_cons]at *
  refine⟨fun x hx=>?_,ih hr.2⟩
  rcases h.mem hx with hx|⟨y,hy,_,_,rfl⟩
  ·exact hr.1 x hx
  ·exact hr.1 y hy
 | up e ht hu h ih =>
  unfold jG at *
  rw[List.pairwise_cons]at *
  refine⟨fun x hx=>?_,ih hr.2⟩
  have:∀t s,kQ t s {e with up:=true}=kQ t s e:=fun t s=>rfl
  rw[this]
  rcases h.mem hx with hx|⟨y,hy,_,_,rfl⟩
  ·exact hr.1 x hx
  ·exact hr.1 y hy
theorem eS.covered{t:ID}{a a':List bL}(h:eS t a a'){t':ID}{p:dY}(hc:eJ a t' p=true):eJ a' t' p=true:=by
 rw[nM]at *
 obtain⟨e,he,h1,h2,h3⟩:=hc
 rcases h.of_mem he with hx|⟨_,hx,_⟩
 ·exact⟨e,hx,h1,h2,h3⟩
 ·rw[h2]at hx;cases hx
theorem Lr(t:ID):∀(rest done BK:List bL),∃ r',(yF t done rest BK).1=done++r'∧eS t rest r'∧(∀x∈r',x.tree=t→x.up=true∨eJ (done++r') t x.pred=true) ∧
  ∃ u',(yF t done rest BK).2=BK++u'∧∀x∈u',x∈r'∧x.tree=t∧x.up=true∧{x with up:=false}∈rest∧eJ (done++rest) t x.pred=false:=by
 intro rest
 induction rest with
 | nil=>intro done BK;exact⟨[],by simp[yF],.nil,(fun x hx=>by cases hx),[],by simp[yF],(fun x hx=>by cases hx)⟩
 | cons e rest ih =>
  intro done BK
  unfold yF
  by_cases hc:e.tree=t∧e.up=false∧eJ (done++e::rest) t e.pred=false
  ·rw[if_pos hc]
   obtain⟨r',h1,h2,h3,u',h4,h5⟩:=ih (done++[{e with up:=true}]) (BK++[{e with up:=true}])
   refine⟨{e with up:=true}::r',by rw[h1];simp,.up e hc.1 hc.2.1 h2,?_,{e with up:=true}::u',by rw[h4];simp,?_⟩
   ·intro x hx ht
    rcases List.mem_cons.1 hx with rfl|hx
    ·exact .inl rfl
    ·have:=h3 x hx ht
     simpa using this
   ·intro x hx
    rcases List.mem_cons.1 hx with rfl|hx
    ·have he:({{e with up:=true} with up:=false}:bL)=e:=by obtain⟨a1,a2,a3,a4,a5⟩:=e;simp only at hc;rw[hc.2.1]
     exact⟨List.mem_cons_self ..,hc.1,rfl,by rw[he];exact List.mem_cons_self ..,hc.2.2⟩
    ·obtain⟨k1,k2,k3,k4,k5⟩:=h5 x hx
     refine⟨List.mem_cons_of_mem _ k1,k2,k3,List.mem_cons_of_mem _ k4,?_⟩
     have hR:eS t (done++e::rest) (done++[{e with up:=true}]++rest):=by
      rw[List.append_assoc]
      exact(eS.refl t done).append (.up e hc.1 hc.2.1 (.refl t rest))
     cases hq:eJ (done++e::rest) t x.pred with
     | false=>rfl
     | true=>rw[hR.covered hq]at k5;cases k5
  ·rw[if_neg hc]
   obtain⟨r',h1,h2,h3,u',h4,h5⟩:=ih (done++[e]) BK
   refine⟨e::r',by rw[h1];simp,.keep e h2,?_,u',h4,?_⟩
   ·intro x hx ht
    rcases List.mem_cons.1 hx with rfl|hx
    ·cases hu:x.up with
     | true=>exact .inl rfl
     | false =>
      cases hq:eJ (done++x::rest) t x.pred with
      | true=>exact .inr (((eS.refl t done).append (.keep x h2)).covered hq)
      | false=>exact absurd ⟨ht,hu,hq⟩ hc
    ·have:=h3 x hx ht
     simpa using this
   ·intro x hx
    obtain⟨k1,k2,k3,k4,k5⟩:=h5 x hx
    exact⟨List.mem_cons_of_mem _ k1,k2,k3,List.mem_cons_of_mem _ k4,by simpa using k5⟩
theorem Dr{b:aL}(h:pH b)(t s:ID)(q:Int) :
  ((wF b t s q)=(b,[],false)∧∀e∈b.entries,isE t s e=true→e.lG≠q) ∨
  (∃ e∈b.entries,isE t s e=true∧e.lG=q∧e.up=false∧wF b t s q=({b with entries:=b.entries.filter fun x=>!isE t s x},[],false)) ∨
  (∃ e∈b.entries,isE t s e=true∧e.lG=q∧e.up=true∧∃ r' u',wF b t s q=({b with entries:=r'},u',true)∧eS t (b.entries.filter fun x=>!isE t s x) r' ∧
   (∀x∈r',x.tree=t→x.up=true∨eJ r' t x.pred=true)∧∀x∈u',x∈r'∧x.tree=t∧x.up=true∧{x with up:=false}∈b.entries.filter (fun x=>!isE t s x)∧eJ (b.entries.filter fun x=>!isE t s x) t x.pred=false):=by
 unfold wF
 cases hf:b.entries.find? (isE t s)with
 | none =>
  left
  refine⟨rfl,fun e he hi=>?_⟩
  have:=List.find?_eq_none.1 hf e he
  exact absurd hi this
 | some e =>
  have he:=List.mem_of_find?_eq_some hf
  have hi:=List.find?_some hf
  by_cases hq:e.lG=q
  ·simp only[if_pos hq]
   cases hu:e.up with
   | false =>
    right;left
    exact⟨e,he,hi,hq,hu,by simp⟩
   | true =>
    right;right
    obtain⟨r',h1,h2,h3,u',h4,h5⟩:=Lr t (b.entries.filter fun x=>!isE t s x) [] []
    refine⟨e,he,hi,hq,hu,r',u',by simp[h1,h4],h2,by simpa using h3,by simpa using h5⟩
  ·left
   refine⟨by simp only[if_neg hq],fun x hx wP=>?_⟩
   have hkey:x=e:=by
    by_cases hxe:x=e
    ·exact hxe
    ·exfalso
     have k1:x.tree=t∧x.sub=s:=by simpa[isE]using wP
     have k2:e.tree=t∧e.sub=s:=by simpa[isE]using hi
     obtain⟨i,sT,rfl⟩:=List.mem_iff_getElem.1 hx
     obtain⟨j,LZ,rfl⟩:=List.mem_iff_getElem.1 he
     rcases Nat.lt_trichotomy i j with aZ|he|aZ
     ·have:=List.pairwise_iff_getElem.1 h.re i j sT LZ aZ
      rw[k2.1,k2.2,yO.2 k1]at this;omega
     ·subst he;exact hxe rfl
     ·have:=List.pairwise_iff_getElem.1 h.re j i LZ sT aZ
      rw[k1.1,k1.2,yO.2 k2]at this;omega
   rw[hkey];exact hq
theorem pH.entries{b b':aL}(h:pH b)(hb:b'={b with entries:=b'.entries})(hre:jG b'.entries)(he:∀e∈b'.entries,∃ d∈b.entries,e.tree=d.tree∧e.pred=d.pred∧e.lG=d.lG∧(e.up=true→gN b e.tree≠-1))
  (ht:∀e∈b'.entries,e.up=true∨gN b e.tree=-1∨eJ b'.entries e.tree e.pred=true):pH b':=by
 have hA:b'.aW=b.aW:=by rw[hb]
 have hN:b'.bD=b.bD:=by rw[hb]
 have hS:b'.seen=b.seen:=by rw[hb]
 have hO:b'.jZ=b.jZ:=by rw[hb]
 have ho:∀x,mR b' x=mR b x:=fun x=>by unfold mR;rw[hA]
 refine⟨by rw[hN];exact h.bD,by rw[hN];exact h.loc,by rw[hA];exact h.ra,by rw[hS];exact h.rs,by rw[hO];exact h.ro,hre,by rw[hA,hS];exact h.sub,?_,by rw[hA];exact h.pa,by rw[hO];exact h.po,?_,?_,?_⟩
 ·intro a ha;rw[xE hN];rw[hA]at ha;exact h.par a ha
 ·intro e hm
  obtain⟨d,hd,k1,k2,k3,k4⟩:=he e hm
  rw[qF hN (ho _),hJ]
  obtain⟨a,a1,a2,a3,a4,a5⟩:=hJ.1 (h.ent d hd)
  refine⟨a,by rw[k1];exact a1,by rw[k3];exact a2,by rw[k3];exact a3,fun hu=>?_,by rw[k2];exact a5⟩
  have:=k4 hu
  rw[iP,k1,a1]at this
  exact this
 ·intro e hm
  obtain⟨d,hd,_,k2,_⟩:=he e hm
  rw[k2];exact h.pe d hd
 ·rw[jV]
  intro e hm
  have:gN b' e.tree=gN b e.tree:=by rw[iP,ho,←iP]
  rw[this]
  exact ht e hm
theorem pH.up{b:aL}(h:pH b){e:bL}(he:e∈b.entries)(hu:e.up=true):gN b e.tree≠-1:=by
 obtain⟨a,a1,_,_,a4,_⟩:=hJ.1 (h.ent e he)
 rw[iP,a1]
 exact a4 hu
theorem pH.take{b:aL}(h:pH b)(t s:ID)(q:Int):pH (wF b t s q).1:=by
 have zB:∀x∈b.entries.filter (fun x=>!isE t s x),x∈b.entries:=fun x hx=>(List.mem_filter.1 hx).1
 have hrf:jG (b.entries.filter fun x=>!isE t s x):=h.re.sublist (List.filter_sublist ..)
 rcases Dr h t s q with⟨hc,_⟩|⟨e,he,hi,_,hu,hc⟩|⟨e,he,hi,_,hu,r',u',hc,hR,htt,_⟩
 ·rw[hc];exact h
 ·rw[hc]
  refine h.entries rfl hrf ?_ ?_
  ·intro x hx
   exact⟨x,zB x hx,rfl,rfl,rfl,fun hux=>h.up (zB x hx) hux⟩
  ·intro x hx
   rcases jV.1 h.tight x (zB x hx)with h1|h1|h1
   ·exact .inl h1
   ·exact .inr (.inl h1)
   ·refine .inr (.inr ?_)
    rw[nM]at *
    obtain⟨d,hd,k1,k2,k3⟩:=h1
    refine⟨d,List.mem_filter.2 ⟨hd,?_⟩,k1,k2,k3⟩
    cases eF:isE t s d with
    | false=>rfl
    | true =>
     exfalso
     have q1:d.tree=t∧d.sub=s:=by simpa[isE]using eF
     have q2:e.tree=t∧e.sub=s:=by simpa[isE]using hi
     have:d=e:=by
      by_cases hde:d=e
      ·exact hde
      ·exfalso
       obtain⟨i,sT,rfl⟩:=List.mem_iff_getElem.1 hd
       obtain⟨j,LZ,rfl⟩:=List.mem_iff_getElem.1 he
       rcases Nat.lt_trichotomy i j with aZ|Tb|aZ
       ·have:=List.pairwise_iff_getElem.1 h.re i j sT LZ aZ
        rw[q2.1,q2.2,yO.2 q1]at this;omega
       ·subst Tb;exact hde rfl
       ·have:=List.pairwise_iff_getElem.1 h.re j i LZ sT aZ
        rw[q1.1,q1.2,yO.2 q2]at this;omega
     rw[this,hu]at k2;cases k2
 ·have hpt:gN b t≠-1:=by
   have:=h.up he hu
   have q2:e.tree=t∧e.sub=s:=by simpa[isE]using hi
   rw[q2.1]at this;exact this
  rw[hc]
  refine h.entries rfl (hR.rising hrf) ?_ ?_
  ·intro x hx
   rcases hR.mem hx with hx|⟨y,hy,h1,h2,rfl⟩
   ·exact⟨x,zB x hx,rfl,rfl,rfl,fun hux=>h.up (zB x hx) hux⟩
   ·exact⟨y,zB y hy,rfl,rfl,rfl,fun _=>by rw[h1];exact hpt⟩
  ·intro x hx
   by_cases hxt:x.tree=t
   ·rcases htt x hx hxt with k|k
    ·exact .inl k
    ·exact .inr (.inr (by rw[hxt];exact k))
   ·have oH:x∈b.entries.filter fun x=>!isE t s x:=by
     rcases hR.mem hx with hx|⟨y,hy,h1,h2,rfl⟩
     ·exact hx
     ·exact absurd h1 hxt
    rcases jV.1 h.tight x (zB x oH)with h1|h1|h1
    ·exact .inl h1
    ·exact .inr (.inl h1)
    ·refine .inr (.inr (hR.covered ?_))
     rw[nM]at *
     obtain⟨d,hd,k1,k2,k3⟩:=h1
     refine⟨d,List.mem_filter.2 ⟨hd,?_⟩,k1,k2,k3⟩
     have:¬(d.tree=t∧d.sub=s):=fun hh=>hxt (by rw[←k1];exact hh.1)
     simp[isE,this]
theorem CK{b:aL}(h:pH b)(t s:ID)(q:Int):(wF b t s q).1.entries.length≤b.entries.length:=by
 rcases Dr h t s q with⟨hc,_⟩|⟨e,_,_,_,_,hc⟩|⟨e,_,_,_,_,r',u',hc,hR,_⟩
 ·rw[hc];exact Nat.le_refl _
 ·rw[hc];exact List.length_filter_le ..
 ·rw[hc]
  show r'.length≤_
  rw[hR.len];exact List.length_filter_le ..
theorem O6(b:aL)(t s:ID)(q:Int):(wF b t s q).1={b with entries:=(wF b t s q).1.entries}:=by
 unfold wF
 split
 ·rfl
 ·split
  ·split<;>rfl
  ·rfl
theorem HU(b:aL)(e:bL):(uQ b e).1={b with entries:=(uQ b e).1.entries}:=by
 unfold uQ
 split<;>rfl
theorem NI(b:aL)(e:bL):(uQ b e).1.entries.length≤b.entries.length+1:=by
 unfold uQ
 split
 ·simp only[Sx];exact Nat.le_refl _
 ·exact Nat.le_succ _
theorem SzK.take{b:aL}{n:Nat}(h:SzK b n)(hi:pH b)(t s:ID)(q:Int):SzK (wF b t s q).1 n:=by
 have h1:=CK hi t s q
 rw[O6]at h1 ⊢
 obtain⟨a1,a2,a3,a4,a5⟩:=h
 exact⟨a1,a2,a3,a4,Nat.le_trans h1 a5⟩
theorem SzK.add{b:aL}{n:Nat}(h:SzK b n)(e:bL):SzK (uQ b e).1 (n+1):=by
 have h1:=NI b e
 rw[HU]at h1 ⊢
 obtain⟨a1,a2,a3,a4,a5⟩:=h
 have:(n+1)*(n+1)=n*n+n+n+1:=by rw[Nat.add_mul,Nat.mul_add];omega
 exact⟨a1,Nat.le_succ_of_le a2,Nat.le_succ_of_le a3,Nat.le_succ_of_le a4,by simp only at h1 ⊢;omega⟩
end Go.Dm.Tc
/-
Brokers as one datum: what the machine's steps do to it;what functions answer of a broker that calls Cr.
-/
namespace Go.Dm.Tc
theorem TJ(t:iD)(b:aL):DV.agg (eX t b)=aX t b:=_root_.id rfl
theorem AG(sz:Nat)(t:iD)(b:aL):aF sz (aX t b)=eX t b:=_root_.id rfl
theorem TH(t:iD)(b:aL):(eX t b).length=6:=_root_.id rfl
theorem NE(t:iD)(b:aL):(eX t b).take 6=eX t b:=_root_.id rfl
theorem t9(t:iD)(b:aL):(eX t b)[0]?=some (.int .i64 b.me):=_root_.id rfl
theorem t0(t:iD)(b:aL):(eX t b)[1]?=some (eL t.bD 1 bF b.bD):=_root_.id rfl
theorem s9(t:iD)(b:aL):(eX t b)[2]?=some (eL t.aW 4 aH b.aW):=_root_.id rfl
theorem q9(t:iD)(b:aL):(eX t b)[3]?=some (eL t.seen 2 eID b.seen):=_root_.id rfl
theorem p9(t:iD)(b:aL):(eX t b)[4]?=some (eL t.entries 7 bQ b.entries):=_root_.id rfl
theorem o9(t:iD)(b:aL):(eX t b)[5]?=some (eL t.jZ 3 oV b.jZ):=_root_.id rfl
theorem XE(t:iD)(b:aL)(h:0<(eX t b).length):(eX t b)[0]=.int .i64 b.me:=_root_.id rfl
theorem XD(t:iD)(b:aL)(h:1<(eX t b).length):(eX t b)[1]=eL t.bD 1 bF b.bD:=_root_.id rfl
theorem XC(t:iD)(b:aL)(h:2<(eX t b).length):(eX t b)[2]=eL t.aW 4 aH b.aW:=_root_.id rfl
theorem XB(t:iD)(b:aL)(h:3<(eX t b).length):(eX t b)[3]=eL t.seen 2 eID b.seen:=_root_.id rfl
theorem XA(t:iD)(b:aL)(h:4<(eX t b).length):(eX t b)[4]=eL t.entries 7 bQ b.entries:=_root_.id rfl
theorem WZ(t:iD)(b:aL)(h:5<(eX t b).length):(eX t b)[5]=eL t.jZ 3 oV b.jZ:=_root_.id rfl
theorem Qj(t:iD)(b:aL):aO 6 (aX t b)=true:=_root_.id rfl
theorem QW(tg:Bool)(h:aA)(n:Nat)(t:iD)(b:aL):resolve tg h (n+2) (aX t b)=some (aX t b):=by
 simp[aX]
theorem TN(n:Nat)(b:aL):bA (n+24) (aX .none b)=true:=by
 simp[aX,iD.none]
theorem SN(h:aA)(t:iD)(b:aL):fP h (aX t b)=some (aX t b,h):=by
 simp[aX,Ol,Aq,Fg,Zq,L7,xQ,xP,Bh]
theorem Z6(off:Nat)(n:Option Nat)(t:iD)(b:aL):Gg off n (aX t b)=cT n (eX t b) off:=_root_.id rfl
attribute [simp] TJ AG TH NE t9 t0 s9 q9 p9 o9 XE XD XC XB XA WZ Qj QW TN SN Z6 M2 Zr Tl L9 Ol Fg Aq Zq L8 GQ L7 L6 GR xQ xP Bh
section
variable {b:aL} (t:iD)
end
end Go.Dm.Tc
/-
What the laws' arguments are: numbers of which predicates,steps,brokers are Cr.
-/
namespace Go.Dm.Tc
structure PK where
 has:List Int
 vals:List Int
def PK.pred(p:PK):dY:=RM p.has p.vals
structure XI where
 kind:Int
 lG:Int
 tree:Int
 bJ:Int
 seq:Int
 has:List Int
 vals:List Int
structure BrokK where
 bD:Int
 steps:List XI
end Go.Dm.Tc
/-
More plain laws of brokers: one entry for a tree and a number;what covers itself;what comes of an entry taken out,of one added.
-/
namespace Go.Dm.Tc
end Go.Dm.Tc
/-
Numbers sorted,pairs too: the plain law,and the hook.
-/
namespace Go.Dm.Tc
def atL(L:List Int)(i:Nat):Int:=L.getD i 0
theorem kB{L:List Int}{i:Nat}(h:i<L.length):atL L i=L[i]:=by simp[atL,h]
theorem Kj{α:Type}(lt:α→α→Bool)(x:α)(l:List α):(Cs lt x l).Perm (x::l):=by
 induction l with
 | nil=>exact .refl _
 | cons y r ih =>
  simp only[Cs]
  split
  ·exact(List.Perm.cons y ih).trans (.swap _ _ _)
  ·exact .refl _
theorem tU{α:Type}(lt:α→α→Bool)(l:List α):(fY lt l).Perm l:=by
 induction l with
 | nil=>exact .refl _
 | cons x r ih=>exact(Kj lt x _).trans (.cons x ih)
def Kh(L:List Int):List Int:=fY ltZ L
theorem sB(L:List Int):(Kh L).Perm L:=tU ltZ L
theorem Sv{x:Int}:∀{l:List Int},l.Pairwise (·≤·)→(Cs ltZ x l).Pairwise (·≤·):=by
 intro l
 induction l with
 | nil=>intro _;exact List.pairwise_singleton _ _
 | cons y r ih =>
  intro h
  obtain⟨h1,h2⟩:=List.pairwise_cons.1 h
  simp only[Cs,ltZ,decide_eq_true_eq]
  split
  ·rename_i aZ
   refine List.pairwise_cons.2 ⟨fun z hz=>?_,ih h2⟩
   rcases List.mem_cons.1 ((Kj ltZ x r).mem_iff.1 hz)with rfl|hz
   ·omega
   ·exact h1 z hz
  ·rename_i aZ
   refine List.pairwise_cons.2 ⟨fun z hz=>?_,h⟩
   rcases List.mem_cons.1 hz with rfl|hz
   ·omega
   ·have:=h1 z hz;omega
theorem zA(L:List Int):(Kh L).Pairwise (·≤·):=by
 unfold Kh
 induction L with
 | nil=>exact List.Pairwise.nil
 | cons x r ih=>exact Sv ih
structure D5(id:Nat)(sp:List DV)(cap:Option Nat)(h h':aA)(L:List Int):Prop where
 get:h'.get id=some (.arr 3 1 (L.map bF++sp) cap)
 n:h'.n=h.n
 lim:h'.lim=h.lim
 wf:WF h'
 oth:∀k,k≠id→h'.get k=h.get k
theorem KZ{α:Type}{un:DV→Option α}{mk:α→DV}(hu:∀x,un (mk x)=some x):∀l:List α,(l.map mk).mapM un=some l:=by
 intro l
 induction l with
 | nil=>rfl
 | cons x r ih=>simp[hu,ih]
theorem Br{α:Type}{sz:Nat}{un:DV→Option α}{mk:α→DV}{lt:α→α→Bool}(hu:∀x,un (mk x)=some x){h:aA}{id ety:Nat}{sp:List DV}{cap:Option Nat}{L:List α}(g:h.get id=some (.arr ety sz (L.map mk++sp) cap))(hl:h.lim≤id)(hb:L.length≤1000000) :
  pL sz un mk lt h (.sl id sz 0 L.length)=some (.tup [],h.set id (.arr ety sz ((fY lt L).map mk++sp) cap)):=by
 have h1:(L.map mk++sp).take L.length=L.map mk:=by rw[List.take_append_of_le_length (by simp),List.take_of_length_le (by simp)]
 have hp:=(tU lt L).length_eq
 simp only[pL,g,List.drop_zero,h1,KZ hu]
 have hb2:L.length<4611686018427387904:=by omega
 rw[if_pos (by first|exact⟨trivial,trivial,hl,by simp,hb2⟩|exact⟨trivial,trivial,hl,by simp⟩)]
 simp only[cF,List.take_zero,List.nil_append,Nat.zero_add,List.length_map,hp]
 rw[List.drop_append_of_le_length (by simp),List.drop_of_length_le (by simp)]
 rfl
theorem q37(id:Nat)(sp:List DV)(cap:Option Nat)(h:aA)(L:List Int)(g:h.get id=some (.arr 3 1 (L.map bF++sp) cap))(hl:h.lim≤id)(wf:WF h)(hb:L.length≤1000000) :
  ∃ Pn,fc D 37 [.sl id 1 0 L.length] h=some (.tup [],Pn)∧D5 id sp cap h Pn (Kh L):=by
 have hs:=Br (un:=unI) (mk:=bF) (lt:=ltZ) (fun _=>rfl) g hl hb
 refine⟨_,(e37 _ h).trans hs,cN wf g,rfl,rfl,wf.set,fun k hk=>aT (aC g) hk⟩
theorem J5(h:aA):fc D 37 [.nsl] h=some (.tup [],h):=e37 _ h
end Go.Dm.Tc
/-
AdvertsOrder: numbers sorted,and the same ones struck: the walk.
-/
namespace Go.Dm.Tc
def gB(L:List Int):Prop:=L.Pairwise (·<·)
theorem Bk{A:List Int}{v:Int}(h:gB A)(hv:∀a∈A,a<v):gB (A++[v]):=by
 unfold gB at *
 rw[List.pairwise_append]
 exact⟨h,List.pairwise_singleton ..,fun a ha b hb=>by rw[List.mem_singleton.1 hb];exact hv a ha⟩
theorem qQ{L:List Int}{p:Nat}(h:p<L.length):L.take (p+1)=L.take p++[atL L p]:=by
 rw[List.take_succ,List.getElem?_eq_getElem h,kB h];rfl
theorem Jk{M:List Int}{k:Nat}(h:k<M.length)(v:Int):(M.set k v).take (k+1)=M.take k++[v]:=by
 rw[qQ (by simpa using h)]
 congr 1
 ·exact List.take_set_of_le (Nat.le_refl _)
 ·simp[atL,h]
structure uU(L M:List Int)(k p:Nat):Prop where
 len:M.length=L.length
 k1:1≤k
 kp:k<p
 pl:p≤L.length
 tail:∀i,p-1≤i→atL M i=atL L i
 strict:gB (M.take k)
 mem:∀x,x∈M.take k↔x∈L.take p
 last:atL M (k-1)=atL L (p-1)
theorem uU.start{L:List Int}{k:Nat}(hs:gB (L.take k))(h1:1≤k)(hk:k<L.length)(he:atL L k=atL L (k-1)):uU L L k (k+1):=by
 refine⟨rfl,h1,by omega,by omega,fun _ _=>rfl,hs,fun x=>?_,by simp[he]⟩
 rw[qQ hk,List.mem_append,List.mem_singleton]
 constructor
 ·exact .inl
 ·rintro(h|h)
  ·exact h
  ·rw[h,he]
   have:k-1<L.length:=by omega
   rw[kB this]
   exact List.mem_take_iff_getElem.2 ⟨k-1,by omega,rfl⟩
theorem uU.same{L M:List Int}{k p:Nat}(h:uU L M k p)(hp:p<L.length)(he:atL L p=atL L (p-1)):uU L M k (p+1):=by
 refine⟨h.len,h.k1,by have:=h.kp;omega,by omega,fun i hi=>h.tail i (by omega),h.strict,fun x=>?_,by rw[h.last];simp[he]⟩
 rw[h.mem,qQ hp,List.mem_append,List.mem_singleton]
 constructor
 ·exact .inl
 ·rintro(q|q)
  ·exact q
  ·rw[q,he]
   have hkp:=h.kp
   have:p-1<L.length:=by omega
   rw[kB this]
   exact List.mem_take_iff_getElem.2 ⟨p-1,by omega,rfl⟩
theorem uU.more{L M:List Int}{k p:Nat}(h:uU L M k p)(hs:L.Pairwise (·≤·))(hp:p<L.length)(he:atL L p≠atL L (p-1)):uU L (M.set k (atL L p)) (k+1) (p+1):=by
 have hkp:=h.kp
 have OF:=h.k1
 have hkM:k<M.length:=by rw[h.len];omega
 have aZ:atL L (p-1)<atL L p:=by
  have:=List.pairwise_iff_getElem.1 hs (p-1) p (by omega) hp (by omega)
  rw[←kB (by omega:p-1<L.length),←kB hp]at this
  omega
 refine⟨by simpa using h.len,by omega,by omega,by omega,?_,?_,?_,?_⟩
 ·intro i hi
  have:atL (M.set k (atL L p)) i=atL M i:=by
   unfold atL
   simp only[List.getD_eq_getElem?_getD,List.getElem?_set]
   rw[if_neg (by omega)]
  rw[this]
  exact h.tail i (by omega)
 ·rw[Jk hkM]
  refine Bk h.strict fun a ha=>?_
  have cD:a≤atL M (k-1):=by
   obtain⟨i,hi,rfl⟩:=List.mem_take_iff_getElem.1 ha
   by_cases e:i=k-1
   ·subst e;rw[kB (by omega)];exact Int.le_refl _
   ·have:=List.pairwise_iff_getElem.1 h.strict i (k-1) (by simp;omega) (by simp;omega) (by omega)
    simp only[List.getElem_take]at this
    rw[kB (by omega)];omega
  rw[h.last]at cD
  omega
 ·intro x
  rw[Jk hkM,qQ hp,List.mem_append,List.mem_append,h.mem]
 ·have:atL (M.set k (atL L p)) (k+1-1)=atL L p:=by simp[atL,hkM]
  rw[this];rfl
theorem YP(S:List Fr)(P:Res→Prop)(id n k0:Nat)(L:List Int)(sp:List DV)(cap:Option Nat)(h:aA)(hl:h.lim≤id)(hn:n≤1000000)(hs:L.Pairwise (·≤·))(hL:L.length=n)(Fu:k0≤n) :
  ∀(j p k:Nat) (M:List Int) (f:dV) (h':aA),D5 id sp cap h h' M→uU L M k p→k0<p→p+j=n→f 0=.sl id 1 0 n→f 3=.int .i64 k→f 4=.sl id 1 k0 (n-k0)→f 5=.int .i64 ((p-k0:Nat):Int) →
  (∀k' M' f' Pn,f' 0=.sl id 1 0 n→f' 3=.int .i64 k'→D5 id sp cap h Pn M'→uU L M' k' n→P (ret D 61 S .normal f' Pn)) →
  P (run D 61 (.block 2::S) (.loop F7) f h'):=by
 intro j
 induction j with
 | zero =>
  intro p k M f h' R I hk hp h0 h3 h4 h5 hP
  have hpn:p=n:=by omega
  subst hpn
  rw[aG F7.eq_1]
  simp[h0,h3,h4,h5]
  exact hP k M _ h' (by simp[h0]) (by simp[h3]) R I
 | succ j ih =>
  intro p k M f h' R I hk hp h0 h3 h4 h5 hP
  have hkp:=I.kp
  have hML:M.length=n:=by rw[I.len,hL]
  have hpn:p<n:=by omega
  have hx:∀i,i<n→(M.map bF++sp)[i]?=some (.int .i64 (atL M i)):=fun i hi=>by
   rw[List.getElem?_append_left (by simp;omega),List.getElem?_map,List.getElem?_eq_getElem (by omega),kB (by omega)];rfl
  have Hh:=hx p hpn
  have Kk:=hx (p-1) (by omega)
  have hxk:=hx k (by omega)
  rw[I.tail p (by omega)]at Hh
  rw[I.tail (p-1) (by omega)]at Kk
  have g:=R.get
  have Fs:h'.lim≤id:=by rw[R.lim];exact hl
  have LT:=aC g
  have BL:=R.wf
  have sT:aR 1 (.sl id 1 k0 (n-k0)) (.int .i64 ((p-k0:Nat):Int))=some (.ptr id 1 p 0):=by
   have:p-k0<n-k0:=by omega
   simp[aR,asI,this];omega
  have Vh:IntKind.i64.wrap (((p-k0:Nat):Int)-1)=((p-k0-1:Nat):Int):=by rw[bC (by omega) (by omega)];omega
  have hw2:IntKind.i64.wrap (((p-k0:Nat):Int)+1)=((p+1-k0:Nat):Int):=by rw[bC (by omega) (by omega)];omega
  have RY:IntKind.i64.wrap ((k:Int)+1)=((k+1:Nat):Int):=by rw[bC (by omega) (by omega)];omega
  have Zj:aR 1 (.sl id 1 k0 (n-k0)) (.int .i64 ((p-k0-1:Nat):Int))=some (.ptr id 1 (p-1) 0):=by
   have:p-k0-1<n-k0:=by omega
   simp[aR,asI,this];omega
  have Y1:aR 1 (.sl id 1 0 n) (.int .i64 (k:Int))=some (.ptr id 1 k 0):=by
   have:k<n:=by omega
   simp[aR,asI,this]
  have aZ:((p-k0:Nat):Int)<((n-k0:Nat):Int):=by omega
  have nI:p-k0<n-k0:=by omega
  rw[aG F7.eq_1]
  by_cases hc:atL L p=atL L (p-1)
  ·simp[h0,h3,h4,h5,g,Hh,Kk,Fs,LT,BL,Vh,hw2,RY,sT,Zj,Y1,aZ,nI,hc]
   generalize hF:upd _ 5 _=F
   exact ih (p+1) k M F h' R (I.same (by omega) hc) (by omega) (by omega) (by rw[←hF];simp[h0]) (by rw[←hF];simp[h3]) (by rw[←hF];simp[h4]) (by rw[←hF];simp) hP
  ·simp[h0,h3,h4,h5,g,Hh,Kk,Fs,LT,BL,Vh,hw2,RY,sT,Zj,Y1,aZ,nI,hc,hxk]
   generalize hF:upd _ 5 _=F
   have eW:(M.map bF++sp).set k (.int .i64 (atL L p))=(M.set k (atL L p)).map bF++sp:=by
    rw[List.set_append_left _ _ (by simp;omega),List.map_set];rfl
   rw[eW]
   have R':D5 id sp cap h (h'.set id (.arr 3 1 ((M.set k (atL L p)).map bF++sp) cap)) (M.set k (atL L p)) :=
    ⟨by rw[cO BL LT,if_pos rfl],R.n,R.lim,BL.set,fun i hi=>by rw[cO BL LT,if_neg hi];exact R.oth i hi⟩
   exact ih (p+1) (k+1) _ F _ R' (I.more hs (by omega) hc) (by omega) (by omega) (by rw[←hF];simp[h0]) (by rw[←hF];simp) (by rw[←hF];simp[h4]) (by rw[←hF];simp) hP
def OP(id:Nat)(cap:Option Nat)(h:aA)(L:List Int)(r:Res):Prop :=
 ∃ N sp' Pn,fin [.t 2] r=some (.sl id 1 0 N.length,Pn)∧D5 id sp' cap h Pn N∧gB N∧(∀x,x∈N↔x∈L)∧N.length≤L.length
theorem YO(id n:Nat)(L:List Int)(sp:List DV)(cap:Option Nat)(h:aA)(hl:h.lim≤id)(hn:n≤1000000)(hs:L.Pairwise (·≤·))(hL:L.length=n)(g:h.get id=some (.arr 3 1 (L.map bF++sp) cap))(wf:WF h) :
  ∀(j k:Nat) (f:dV),gB (L.take k)→1≤k→k+j=n→f 0=.sl id 1 0 n→f 3=.int .i64 k →
  OP id cap h L (run D 61 [.block 0,.seq CR] (.loop F6) f h):=by
 have R:D5 id sp cap h h L:=⟨g,rfl,rfl,wf,fun _ _=>rfl⟩
 have LT:=aC g
 intro j
 induction j with
 | zero =>
  intro k f cX h1 hk h0 h3
  have Vl:k=n:=by omega
  subst Vl
  rw[aG F6.eq_1]
  simp[h0,h3,CR]
  refine⟨L,sp,h,by rw[hL];rfl,R,by rw[←hL,List.take_length]at cX;exact cX,fun x=>Iff.rfl,Nat.le_refl _⟩
 | succ j ih =>
  intro k f cX h1 hk h0 h3
  have Vl:k<n:=by omega
  have hx:∀i,i<n→(L.map bF++sp)[i]?=some (.int .i64 (atL L i)):=fun i hi=>by
   rw[List.getElem?_append_left (by simp;omega),List.getElem?_map,List.getElem?_eq_getElem (by omega),kB (by omega)];rfl
  have Hh:=hx k Vl
  have Kk:=hx (k-1) (by omega)
  have Vh:IntKind.i64.wrap ((k:Int)-1)=((k-1:Nat):Int):=by rw[bC (by omega) (by omega)];omega
  have RY:IntKind.i64.wrap ((k:Int)+1)=((k+1:Nat):Int):=by rw[bC (by omega) (by omega)];omega
  have Y1:∀i:Nat,i<n→aR 1 (.sl id 1 0 n) (.int .i64 (i:Int))=some (.ptr id 1 i 0):=fun i hi=>by
   simp[aR,asI,hi]
  have sT:=Y1 k Vl
  have Zj:=Y1 (k-1) (by omega)
  rw[aG F6.eq_1]
  by_cases hc:atL L k=atL L (k-1)
  ·have Vi:fB h 1 (.sl id 1 0 n) (some (.int .i64 (k:Int))) none=some (.sl id 1 k (n-k)):=by
    simp only[fB,g]
    rw[if_pos ⟨trivial,trivial,by simp;omega⟩]
    simp only[cG,asI]
    rw[if_pos ⟨by omega,by omega⟩]
    simp
   simp[h0,h3,g,Hh,Kk,hl,LT,wf,Vh,RY,sT,Zj,Vl,hc,Vi]
   generalize hF:upd _ 5 _=F
   refine YP _ (OP id cap h L) id n k L sp cap h hl hn hs hL (by omega) (n-(k+1)) (k+1) k L F h R (uU.start cX h1 (by omega) hc) (by omega) (by omega) (by rw[←hF];simp[h0]) (by rw[←hF];simp[h3]) (by rw[←hF];simp) (by rw[←hF];simp<;>omega) fun k' M f' Pn a0 a3 R' I=>?_
   have g':=R'.get
   have Fs:Pn.lim≤id:=by rw[R'.lim];exact hl
   have hkp:=I.kp
   have hML:M.length=n:=by rw[I.len,hL]
   have hsl1:fB Pn 1 (.sl id 1 0 n) (some (.int .i64 (k':Int))) none=some (.sl id 1 k' (n-k')):=by
    simp only[fB,g']
    rw[if_pos ⟨trivial,trivial,by simp;omega⟩]
    simp only[cG,asI]
    rw[if_pos ⟨by omega,by omega⟩]
    simp
   have vM:=vR (z:=.int .i64 0) (len:=n-k') (off:=k') g' (by simp;omega) Fs (by omega)
   have BL:=R'.wf
   have hnn':=aC g'
   have eW:cF (M.map bF++sp) (List.replicate (n-k') (.int .i64 0)) k'=(M.take k').map bF++(List.replicate (n-k') (.int .i64 0)++sp):=by
    unfold cF
    have e1:(M.map bF++sp).take k'=(M.take k').map bF:=by
     rw[List.take_append_of_le_length (by simp;omega),List.map_take]
    have e2:(M.map bF++sp).drop (k'+(n-k'))=sp:=by
     have:k'+(n-k')=(M.map bF).length:=by simp;omega
     rw[this,List.drop_left]
    simp only[List.length_replicate]
    rw[e1,e2,List.append_assoc]
   obtain⟨X,hX⟩:∃ X,(M.take k').map bF++(List.replicate (n-k') (.int .i64 0)++sp)=X:=⟨_,rfl⟩
   have hXl:n≤X.length:=by rw[←hX];simp;omega
   rw[eW,hX]at vM
   have hsl2:∀H:aA,∀xs c,H.get id=some (.arr 3 1 xs c)→n≤xs.length→fB H 1 (.sl id 1 0 n) none (some (.int .i64 (k':Int)))=some (.sl id 1 0 k'):=fun H xs c hg bY=>by
    simp only[fB,hg]
    rw[if_pos ⟨trivial,trivial,by omega⟩]
    simp only[cG,asI]
    rw[if_pos ⟨by omega,by omega⟩]
    simp
   have hg2:(Pn.set id (.arr 3 1 (X) cap)).get id=some (.arr 3 1 (X) cap):=by
    rw[cO BL hnn',if_pos rfl]
   have hs2:=hsl2 _ _ _ hg2 hXl
   simp[NO,a0,a3,hsl1,vM,yW,hs2]
   refine⟨M.take k',List.replicate (n-k') (.int .i64 0)++sp,(Pn.set id (.arr 3 1 (X) cap)),?_,⟨by rw[hX];exact hg2,R'.n,R'.lim,BL.set,fun i hi=>by rw[cO BL hnn',if_neg hi];exact R'.oth i hi⟩,I.strict,fun x=>?_,by simp;omega⟩
   ·have:(M.take k').length=k':=by simp;omega
    rw[this];rfl
   ·rw[I.mem,←hL,List.take_length]
  ·have aZ:atL L (k-1)<atL L k:=by
    have:=List.pairwise_iff_getElem.1 hs (k-1) k (by omega) (by omega) (by omega)
    rw[←kB (by omega:k-1<L.length),←kB (by omega:k<L.length)]at this
    omega
   have hst':gB (L.take (k+1)):=by
    rw[qQ (by omega)]
    refine Bk cX fun a ha=>?_
    obtain⟨i,hi,rfl⟩:=List.mem_take_iff_getElem.1 ha
    have cD:L[i]≤atL L (k-1):=by
     rw[kB (by omega)]
     by_cases e:i=k-1
     ·subst e;exact Int.le_refl _
     ·exact List.pairwise_iff_getElem.1 hs i (k-1) (by omega) (by omega) (by omega)
    omega
   simp[h0,h3,g,Hh,Kk,hl,LT,wf,Vh,RY,sT,Zj,Vl,hc,NN]
   generalize hF:upd _ 3 _=F
   exact ih (k+1) F hst' (by omega) (by omega) (by rw[←hF];simp[h0]) (by rw[←hF];simp)
theorem q38(id:Nat)(L:List Int)(sp:List DV)(cap:Option Nat)(h:aA)(hl:h.lim≤id)(hn:L.length≤1000000)(hs:L.Pairwise (·≤·))(g:h.get id=some (.arr 3 1 (L.map bF++sp) cap))(wf:WF h) :
  ∃ N sp' Pn,fc D 38 [.sl id 1 0 L.length] h=some (.sl id 1 0 N.length,Pn)∧D5 id sp' cap h Pn N∧gB N∧(∀x,x∈N↔x∈L)∧N.length≤L.length:=by
 rw[e38,aM _ _ _ _ (by simp[t38])]
 simp[t38]
 by_cases h2:L.length<2
 ·have MK:(L.length:Int)<2:=by omega
  simp[h2,MK]
  refine⟨L,sp,h,⟨rfl,rfl⟩,⟨g,rfl,rfl,wf,fun _ _=>rfl⟩,?_,fun x=>Iff.rfl,Nat.le_refl _⟩
  match L,h2 with
  | [],_=>exact List.Pairwise.nil
  | [a],_=>exact List.pairwise_singleton ..
 ·have MK:¬(L.length:Int)<2:=by omega
  simp[h2,MK]
  generalize hF:upd _ 3 _=F
  refine YO id L.length L sp cap h hl hn hs rfl g wf (L.length-1) 1 F ?_ (Nat.le_refl _) (by omega) (by rw[←hF];simp) (by rw[←hF];simp)
  match L with
  | []=>simp[gB]
  | a::r=>simp[gB]
end Go.Dm.Tc
/-
AdvertsOrder: a new broker,whatever its neighbours.
-/
namespace Go.Dm.Tc
theorem NA(h:aA):fc D 38 [.nsl] h=some (.nsl,h):=by
 rw[e38,aM _ _ _ _ (by simp[t38])]
 simp[t38]
theorem s7(t:Bool)(me:Int)(bD:List Int)(hn:bD.length≤1000000):∃ nr,pcF D t7 [.int .i64 me,eL t 1 bF bD]=some (aX .none ⟨me,nr,[],[],[],[]⟩)∧gB nr∧(∀x,x∈nr↔x∈bD)∧nr.length≤bD.length:=by
 unfold pcF
 rw[aM _ _ _ _ (by simp[t7])]
 simp[t7,e36]
 generalize hA:bP _ _ _ _ _=A
 obtain⟨v,K,rfl,o,x,_⟩:=vQ (lo:=1) (ys:=bD.map bF) (fW ..) (by simp) (by simp) (by simp) (by simp;omega) (by decide) hA
 clear hA
 cases o with
 | nil hv hx =>
  subst hv
  have oH:bD=[]:=by simpa using hx
  subst oH
  have g0:=x.get 0 (by decide)
  simp at g0
  have kl:K.lim=0:=by rw[x.lim];simp
  have kw:=x.wf
  have kn:0<K.n:=aC g0
  refine⟨[],?_,List.Pairwise.nil,fun x=>Iff.rfl,Nat.le_refl _⟩
  simp[J5,NA,turn,g0,kl,kw,kn,aV,aX,iD.none,sK]
 | arr id hv hg bH eN =>
  subst hv
  have g0:=x.get 0 (by decide)
  simp at g0
  have g1:K.get id=some (.arr 3 1 (bD.map bF++[]) none):=by simpa using hg
  obtain⟨K2,h2,R2⟩:=q37 id [] none K bD g1 bH x.wf (by omega)
  have Vi:=(sB bD).length_eq
  have eF:=aC hg
  obtain⟨N,sp,K3,h3,R3,sN,mN,lN⟩:=q38 id (Kh bD) [] none K2 (by rw[R2.lim];exact bH) (by omega) (zA bD) R2.get R2.wf
  rw[Vi]at h3
  have k0:K3.get 0=some (.arr 31 6 [.agg [.int .i64 0,.nsl,.nsl,.nsl,.nsl,.nsl]] (some 1)):=by
   rw[R3.oth 0 (by omega),R2.oth 0 (by omega),g0]
  have kl:K3.lim=0:=by rw[R3.lim,R2.lim,x.lim];simp
  have kw:=R3.wf
  have kn:0<K3.n:=aC k0
  have kg:=R3.get
  refine⟨N,?_,sN,fun y=>by rw[mN,(sB bD).mem_iff],by omega⟩
  have i0:¬id=0:=by omega
  have i1:¬0=id:=by omega
  have w:OwnR 1 K3 (.sl id 1 0 N.length) 3 1 (N.map bF):=.arr id sp none (by simp) kg (by omega) eN
  have hr:∀o,resolve false (K3.set 0 o) 199 (.sl id 1 0 N.length)=some (eL false 1 bF N):=fun o =>
   OwnR.resolve (lo:=1) (h:=K3.set 0 o) (ety:=3) (sz:=1) (k:=20) (e:=bF) (ys:=N) (v:=.sl id 1 0 N.length) false (.arr id sp none (by simp) (by rw[cO kw kn,if_neg i0];exact kg) (by show K3.lim≤id;omega) eN) (fun y _=>(dD y).1) (by decide)
  have ws:=w.aO
  have we:=w.aF
  generalize (DV.sl id 1 0 N.length)=V at *
  simp[h2,h3,turn,k0,kl,kw,kn,hr,ws,we,aV,aX,iD.none,sK]
end Go.Dm.Tc
/-
What functions compute,part 30: texts compared;the search among constraints;two constraints in one.
-/
namespace Go.Dm.Tc
theorem TP{a b:UInt8}(h1:¬a<b)(h2:¬b<a):a=b:=by
 rw[UInt8.lt_iff_toNat_lt]at h1 h2
 exact UInt8.toNat_inj.1 (by omega)
theorem M8:∀{a b:List UInt8},Go.Lib.compareBytes a b<0↔Go.Op.bytesLess a b=true
 | [],[]=>by simp[Go.Lib.compareBytes,Go.Op.bytesLess]
 | [],b::bs=>by simp[Go.Lib.compareBytes,Go.Op.bytesLess]
 | a::az,[]=>by simp[Go.Lib.compareBytes,Go.Op.bytesLess]
 | a::az,b::bz=>by
  have ih:=M8 (a:=az) (b:=bz)
  unfold Go.Lib.compareBytes Go.Op.bytesLess
  by_cases h1:a<b
  ·simp[h1]
  ·by_cases h2:b<a
   ·have:a≠b:=fun e=>by subst e;exact h1 h2
    simp[h1,h2,this]
   ·have:=TP h1 h2
    simp[h1,h2,this,ih]
def SY(s:List UInt8)(c:Vg):Int:=Go.Lib.compareBytes c.name s
end Go.Dm.Tc
/-
What functions compute,part 31: a predicate Cr of constraints.
-/
namespace Go.Dm.Tc
def HX(p:dY):Prop:=(p.map (·.name)).Pairwise fun a b=>Go.Op.bytesLess a b=true
theorem HX.mono{p:dY}(h:HX p)(s:List UInt8):∀i j (hi:i<p.length) (hj:j<p.length),i≤j→SY s p[j]<0→SY s p[i]<0:=by
 intro i j hi hj IF hc
 unfold SY at *
 rw[M8]at *
 rcases Nat.lt_or_eq_of_le IF with aZ|rfl
 ·have:=List.pairwise_iff_getElem.1 h i j (by simpa using hi) (by simpa using hj) aZ
  simp only[List.getElem_map]at this
  exact Ur this hc
 ·exact hc
end Go.Dm.Tc
/-
What functions compute,part 32: pred.Make.
-/
namespace Go.Dm.Tc
end Go.Dm.Tc
/-
What functions compute,part 33: rel.Sample,rel.Joint,rel.Meets.
-/
namespace Go.Dm.Tc
theorem Ek:∀{p:dY} {n:Option (List UInt8)},Al n p=true→∀c∈p,tH c=true
 | [],_,_,c,h=>by cases h
 | x::r,n,h,c,hc=>by
  simp only[Al,Bool.and_eq_true]at h
  rcases List.mem_cons.1 hc with rfl|hc
  ·exact h.1.1
  ·exact Ek h.2 c hc
theorem mD.one{p:dY}(h:mD p):∀c∈p,tH c=true∧c.name.length≤1000000:=by
 intro c hc
 have h1:=h.right
 unfold tG at h1
 simp only[Bool.and_eq_true]at h1
 exact⟨Ek h1.1 c hc,h.names.2 c hc⟩
end Go.Dm.Tc
/-
What the reference's functions compute,part 9: two constraints in one.
-/
namespace Go.Dm.Tc
end Go.Dm.Tc
/-
What the reference's functions compute,part 10: a predicate Cr of constraints.
-/
namespace Go.Dm.Tc
theorem _root_.Go.Dm.OwnR.mapId{lo:Nat}{h:aA}{v:DV}{ety sz:Nat}{xs:List DV}(w:OwnR lo h v ety sz xs):Dm.mapId v=none:=by
 cases w with
 | nil hv _=>subst hv;rfl
 | arr _ _ _ hv=>subst hv;rfl
end Go.Dm.Tc
/-
What the reference's functions compute,part 11: its predicate Cr of constraints;do two predicates meet?
-/
namespace Go.Dm.Tc
end Go.Dm.Tc
/-
What functions compute,part 34: messages put out;to all neighbours but one.
-/
namespace Go.Dm.Tc
structure uS where
 to:Int
 kind:Int
 tree:ID
 id:ID
 pred:dY
 deriving DecidableEq,Inhabited
def nL(o:uS):DV:=.agg [.int .i64 o.to,.int .i64 o.kind,.int .i64 o.tree.bJ,.int .i64 o.tree.seq,.int .i64 o.id.bJ,.int .i64 o.id.seq,fG o.pred,.isl false 0 []]
def Bi(es:List DV)(os:List uS):Prop:=es.length=os.length∧∀(tag:Bool) (h:aA) (n:Nat),21≤n→es.mapM (resolve tag h n)=some (os.map nL)
theorem Bi.nil:Bi [] []:=⟨rfl,fun _ _ _ _=>rfl⟩
theorem Bi.append{a b:List DV}{x y:List uS}(h1:Bi a x)(h2:Bi b y):Bi (a++b) (x++y):=by
 refine⟨by simp[h1.1,h2.1],fun tag h n hn=>?_⟩
 rw[List.mapM_append,h1.2 tag h n hn,h2.2 tag h n hn]
 simp
def Xs(to k tc td ic id:Int)(pd ad:DV):DV:=.agg [.int .i64 to,.int .i64 k,.int .i64 tc,.int .i64 td,.int .i64 ic,.int .i64 id,pd,ad]
def Vd(pd:DV)(p:dY):Prop:=pd=fG p∨(pd=.nsl∧p=[])
def HW(ad:DV):Prop:=ad=.nsl∨ad=.isl false 0 []
theorem Vd.res{pd:DV}{p:dY}(h:Vd pd p)(tag:Bool)(hp:aA)(n:Nat)(hn:20≤n):resolve tag hp n pd=some (fG p):=by
 obtain⟨m,rfl⟩:∃ m,n=m+1:=⟨n-1,by omega⟩
 rcases h with rfl|⟨rfl,rfl⟩
 ·exact Rl ..
 ·rfl
theorem HW.res{ad:DV}(h:HW ad)(tag:Bool)(hp:aA)(n:Nat)(hn:20≤n):resolve tag hp n ad=some (.isl false 0 []):=by
 obtain⟨m,rfl⟩:∃ m,n=m+1:=⟨n-1,by omega⟩
 rcases h with rfl|rfl
 ·rfl
 ·rfl
theorem EO{to k tc td ic id:Int}{pd ad:DV}{p:dY}(hp:Vd pd p)(ha:HW ad)(tag:Bool)(h:aA)(n:Nat)(hn:21≤n):resolve tag h n (Xs to k tc td ic id pd ad)=some (nL ⟨to,k,⟨tc,td⟩,⟨ic,id⟩,p⟩):=by
 obtain⟨m,rfl⟩:∃ m,n=m+1:=⟨n-1,by omega⟩
 obtain⟨q,rfl⟩:∃ q,m=q+1:=⟨m-1,by omega⟩
 have h1:=hp.res tag h (q+1) (by omega)
 have h2:=ha.res tag h (q+1) (by omega)
 unfold Xs nL
 rw[J4]
 simp[h1,h2]
theorem Bi.one{to k tc td ic id:Int}{pd ad:DV}{p:dY}(hp:Vd pd p)(ha:HW ad):Bi [Xs to k tc td ic id pd ad] [⟨to,k,⟨tc,td⟩,⟨ic,id⟩,p⟩] :=
 ⟨rfl,fun tag h n hn=>by simp only[List.mapM_cons,List.mapM_nil,EO hp ha tag h n hn];rfl⟩
theorem vB(o:uS):kG 20 (nL o)∧Unl 22 (nL o):=⟨oU (by
  intro x hx
  simp only[List.mem_cons,List.not_mem_nil,or_false]at hx
  rcases hx with rfl|rfl|rfl|rfl|rfl|rfl|rfl|rfl
  all_goals first|exact gU _ _|exact dR false 5 wT o.pred|exact fun t h m hm=>by obtain⟨q,rfl,_⟩:=cL hm;rfl),qP (by
  intro x hx
  simp only[List.mem_cons,List.not_mem_nil,or_false]at hx
  rcases hx with rfl|rfl|rfl|rfl|rfl|rfl|rfl|rfl
  all_goals first|exact(iZ _ _).mono (by decide)|exact(qN o.pred).mono (by decide)|exact fun n hn=>by obtain⟨q,rfl,_⟩:=cL (k:=20) hn;simp[bA])⟩
theorem J7{lo:Nat}{h:aA}{v:DV}{ety:Nat}{es:List DV}{os:List uS}(w:OwnR lo h v ety 8 es)(r:Bi es os)(tag:Bool){n:Nat}(hn:22≤n):resolve tag h n v=some (eL tag 8 nL os):=by
 obtain⟨m,rfl,hm⟩:=cL (k:=21) hn
 cases w with
 | nil hv hx =>
  subst hv;subst hx
  have:os=[]:=List.length_eq_zero_iff.1 r.1.symm
  subst this;rfl
 | arr id sp cap hv hg hl hi =>
  subst hv
  have xF:=r.2 tag h m hm
  simp only[Dm.resolve,hg,true_and,Nat.zero_add,List.length_append,Nat.le_add_right,if_true,List.drop_zero,List.take_left,xF]
  rfl
def lJ(bD:List Int)(but k tc td ic id:Int)(p:dY):List uS:=(bD.filter fun n=>!decide (n=but)).map fun n=>⟨n,k,⟨tc,td⟩,⟨ic,id⟩,p⟩
def mV(bD:List Int)(but k tc td ic id:Int)(pd ad:DV):List DV:=(bD.filter fun n=>!decide (n=but)).map fun n=>Xs n k tc td ic id pd ad
theorem xA{but k tc td ic id:Int}{pd ad:DV}{p:dY}(hp:Vd pd p)(ha:HW ad):∀(bD:List Int),Bi (mV bD but k tc td ic id pd ad) (lJ bD but k tc td ic id p)
 | []=>Bi.nil
 | x::r=>by
  have ih:=xA (but:=but) (k:=k) (tc:=tc) (td:=td) (ic:=ic) (id:=id) hp ha r
  unfold mV lJ at *
  by_cases hx:x=but
  ·simp only[List.filter_cons,hx,decide_true,Bool.not_true,Bool.false_eq_true,if_false];exact ih
  ·simp only[List.filter_cons,hx,decide_false,Bool.not_false,if_true,List.map_cons]
   exact Bi.append (Bi.one (to:=x) hp ha) ih
theorem YX(t:iD)(b:aL)(but k tc td ic id:Int)(pd ad:DV)(N:Nat)(ta tb:Nat)(hl:b.bD.length≤1000000)(h0:aA)(g0:h0.get N=some (.arr ta 6 [aX t b] (some 1)))(g1:h0.get (N+1)=some (.arr tb 7 [.agg [.int .i64 k,.int .i64 tc,.int .i64 td,.int .i64 ic,.int .i64 id,pd,ad]] (some 1)))(Fs:h0.lim≤N) :
  ∀(rest:List Int) (i:Nat) (es:List DV) (v:DV) (f:dV) (h:aA),b.bD.drop i=rest→es.length≤i→f 1=.int .i64 but→f 3=.ptr N 6 0 0→f 5=.ptr (N+1) 7 0 0→f 7=v→f 11=eL t.bD 1 bF b.bD→f 12=.int .i64 b.bD.length→f 13=.int .i64 i→OwnR (N+2) h v 54 8 es→Ext (N+2) h0 h →
  ∃ v' h',fin [.t 6] (run D 28 [.block 0,.seq Wj] (.loop Ly) f h)=some (v',h')∧OwnR (N+2) h' v' 54 8 (es++mV rest but k tc td ic id pd ad)∧Ext (N+2) h0 h':=by
 intro rest
 induction rest with
 | nil =>
  intro i es v f h hd he h1 h3 h5 h7 Kv h12 h13 ho x
  have hi:=iB hd
  have:¬(i<b.bD.length):=by omega
  rw[aG Ly.eq_1]
  simp[Wj,h12,h13,this,h7]
  first
   | exact⟨_,_,⟨rfl,rfl⟩,by simpa[mV]using ho,x⟩
   | exact⟨by simpa[mV]using ho,x⟩
 | cons y rest ih =>
  intro i es v f h hd he h1 h3 h5 h7 Kv h12 h13 ho x
  obtain⟨hi,OJ,pE⟩:=jF hd
  have a0:=(x.get N (by omega)).trans g0
  have a1:=(x.get (N+1) (by omega)).trans g1
  rw[aG Ly.eq_1]
  by_cases hy:y=but
  ·subst hy
   simp[h1,h3,h5,h7,Kv,h12,h13,hi,OJ,bF]
   rw[bC (by omega) (by omega)]
   generalize hF:upd _ 13 _=F
   have hr:mV (y::rest) y k tc td ic id pd ad=mV rest y k tc td ic id pd ad:=by simp[mV]
   rw[hr]
   refine ih (i+1) es v F h pE (by omega) ?_ ?_ ?_ ?_ ?_ ?_ ?_ ho x
   all_goals (rw[←hF];simp[h1,h3,h5,h7,Kv,h12])
  ·simp[h1,h3,h5,h7,Kv,h12,h13,hi,OJ,hy,a1,bF]
   generalize hA:bB _ _ _ _ _ _=A
   obtain⟨v',K,rfl,p',x',_⟩:=OwnR.append (ho.push) (by simp[x.wf]) (by have:=x.le;simp;omega) (by have:=x.le;have:=x.lim;simp;omega) hA (by simp;omega) (by decide)
   clear hA
   simp[h13]
   rw[bC (by omega) (by omega)]
   generalize hF:upd _ 13 _=F
   have hr:mV (y::rest) but k tc td ic id pd ad=Xs y k tc td ic id pd ad::mV rest but k tc td ic id pd ad:=by simp[mV,hy]
   obtain⟨v2,K2,k1,k2,k3⟩:=ih (i+1) (es++[Xs y k tc td ic id pd ad]) v' F K pE (by simp;omega) (by rw[←hF];simp[h1]) (by rw[←hF];simp[h3]) (by rw[←hF];simp[h5]) (by rw[←hF];simp) (by rw[←hF];simp[Kv]) (by rw[←hF];simp[h12]) (by rw[←hF];simp) (by simpa[Xs]using p') (x.push.trans x')
   exact⟨v2,K2,k1,by rw[hr];simpa using k2,k3⟩
theorem WA{h:aA}{A:Option (DV×aA)}{t:iD}{b:aL}{but k tc td ic id:Int}{pd ad:DV}(hA:fc D 103 [aX t b,.int .i64 but,.agg [.int .i64 k,.int .i64 tc,.int .i64 td,.int .i64 ic,.int .i64 id,pd,ad]] h=A)(hl:b.bD.length≤1000000)(wf:WF h)(bH:h.lim≤h.n) :
  ∃ v' h',A=some (v',h')∧OwnR h.n h' v' 54 8 (mV b.bD but k tc td ic id pd ad)∧Ext h.n h h':=by
 subst hA
 rw[ZI,aM _ _ _ _ (by simp[CW])]
 simp[CW]
 generalize hF:upd _ 13 _=F
 generalize hH:aA.push _ _=H0
 have hn:h.n+2≤H0.n:=by rw[←hH];simp
 have g0:H0.get h.n=some (.arr 31 6 [aX t b] (some 1)):=by rw[←hH];simp
 have g1:H0.get (h.n+1)=some (.arr 52 7 [.agg [.int .i64 k,.int .i64 tc,.int .i64 td,.int .i64 ic,.int .i64 id,pd,ad]] (some 1)):=by rw[←hH];simp
 have hw:WF H0:=by rw[←hH];simp[wf]
 have hm:H0.lim≤h.n:=by rw[←hH];simpa using bH
 obtain⟨v',h',k1,k2,k3⟩:=YX t b but k tc td ic id pd ad h.n _ _ hl H0 g0 g1 hm b.bD 0 [] .nsl F H0 rfl (by simp) (by rw[←hF];simp) (by rw[←hF];simp) (by rw[←hF];simp) (by rw[←hF];simp) (by rw[←hF];simp) (by rw[←hF];simp) (by rw[←hF];simp) (.nil rfl rfl) (.refl hn hw)
 refine⟨v',h',k1,by simpa using k2.lower (by omega:h.n≤h.n+2),?_⟩
 have k4:=k3.lower (by omega:h.n≤h.n+2)
 refine⟨k4.le,by rw[k4.lim,←hH];simp,fun id eF=>?_,k4.wf⟩
 rw[k4.get id eF,←hH]
 have e1:¬id=h.n:=by omega
 have e2:¬id=h.n+1:=by omega
 simp[e1,e2]
end Go.Dm.Tc
/-
What functions compute,part 35: an advertisement comes by a link.
-/
namespace Go.Dm.Tc
structure ZL(b:aL)(k:Nat):Prop where
 bD:b.bD.length≤100000
 adv:b.aW.length≤100000
 seen:b.seen.length≤100000
 own:b.jZ.length≤100000
 ent:b.entries.length+k≤100000
theorem ZL.less{b:aL}{k m:Nat}(h:ZL b k)(hm:m≤k):ZL b m:=⟨h.bD,h.adv,h.seen,h.own,by have:=h.ent;omega⟩
theorem BH(b:aL)(e:bL):(uQ b e).1.bD=b.bD∧(uQ b e).1.aW=b.aW∧(uQ b e).1.seen=b.seen∧(uQ b e).1.jZ=b.jZ∧(uQ b e).1.me=b.me∧(uQ b e).1.entries.length≤b.entries.length+1:=by
 unfold uQ
 split
 ·exact⟨rfl,rfl,rfl,rfl,rfl,by simp only[Sx];omega⟩
 ·exact⟨rfl,rfl,rfl,rfl,rfl,by simp⟩
theorem ZL.add{b:aL}{k:Nat}(h:ZL b (k+1))(e:bL):ZL (uQ b e).1 k:=by
 obtain⟨h1,h2,h3,h4,_,h5⟩:=BH b e
 have:=h.ent
 exact⟨by rw[h1];exact h.bD,by rw[h2];exact h.adv,by rw[h3];exact h.seen,by rw[h4];exact h.own,by omega⟩
end Go.Dm.Tc
/-
TreesTells: the plain law: a path is the same with more room;linked is linked both ways round.
-/
namespace Go.Dm.Tc
def dZ(p:List Int):Nat→Int→Option (List Int)
 | 0,_=>none
 | n+1,b=>if 0≤b∧b<p.length then(if atL p b.toNat=-1 then some [b]else(dZ p n (atL p b.toNat)).map (b::·))else none
def pathP(p:List Int)(n:Nat)(b:Int):List Int:=(dZ p n b).getD []
theorem lU{p:List Int}:∀{n:Nat} {b:Int} {l:List Int},dZ p n b=some l→∀{m:Nat},n≤m→dZ p m b=some l
 | 0,b,l,h,m,hm=>by simp[dZ]at h
 | n+1,b,l,h,0,hm=>by omega
 | n+1,b,l,h,m+1,hm=>by
  rw[dZ]at h ⊢
  split at h
  ·rename_i hb
   rw[if_pos hb]
   split at h
   ·rename_i h1;rw[if_pos h1];exact h
   ·rename_i h1
    rw[if_neg h1]
    cases hr:dZ p n (atL p b.toNat)with
    | none=>rw[hr]at h;cases h
    | some r=>rw[hr]at h;rw[lU hr (show n≤m by omega)];exact h
  ·cases h
theorem Ye{p:List Int}{n m:Nat}{b:Int}{l k:List Int}(h:dZ p n b=some l)(g:dZ p m b=some k):l=k:=by
 have h1:=lU h (Nat.le_max_left n m)
 have h2:=lU g (Nat.le_max_right n m)
 rw[h1]at h2;exact Option.some.inj h2
theorem rU{p:List Int}{n:Nat}{b:Int}{l:List Int}(h:dZ p (n+1) b=some l):0≤b∧b<p.length∧((atL p b.toNat=-1∧l=[b])∨(atL p b.toNat≠-1∧∃ r,dZ p n (atL p b.toNat)=some r∧l=b::r)):=by
 rw[dZ]at h
 split at h
 ·rename_i hb
  refine⟨hb.1,hb.2,?_⟩
  split at h
  ·rename_i h1;left;exact⟨h1,(Option.some.inj h).symm⟩
  ·rename_i h1
   right
   refine⟨h1,?_⟩
   cases hr:dZ p n (atL p b.toNat)with
   | none=>rw[hr]at h;cases h
   | some r=>rw[hr]at h;exact⟨r,rfl,(Option.some.inj h).symm⟩
 ·cases h
theorem vD{p:List Int}:∀{n:Nat} {b:Int} {l:List Int},dZ p n b=some l→dZ p l.length b=some l∧l.length≤n∧l≠[]
 | 0,b,l,h=>by simp[dZ]at h
 | n+1,b,l,h=>by
  obtain⟨h0,h1,hs⟩:=rU h
  rcases hs with⟨e,rfl⟩|⟨e,r,hr,rfl⟩
  ·refine⟨?_,by simp,by simp⟩
   simp[dZ,h0,h1,e]
  ·obtain⟨i1,i2,_⟩:=vD hr
   refine⟨?_,by simp;omega,by simp⟩
   simp[dZ,h0,h1,e,i1]
theorem Jy{p:List Int}:∀{n:Nat} {b:Int} {l:List Int},dZ p n b=some l→∀x∈l,0≤x∧x<p.length
 | 0,b,l,h=>by simp[dZ]at h
 | n+1,b,l,h=>by
  obtain⟨h0,h1,hs⟩:=rU h
  rcases hs with⟨e,rfl⟩|⟨e,r,hr,rfl⟩
  ·intro x hx;rw[List.mem_singleton]at hx;subst hx;exact⟨h0,h1⟩
  ·intro x hx
   rcases List.mem_cons.1 hx with rfl|hx
   ·exact⟨h0,h1⟩
   ·exact Jy hr x hx
theorem Eu{p:List Int}:∀{n:Nat} {b:Int} {l:List Int},dZ p n b=some l→∀x∈l,∃ m k,dZ p m x=some k∧k.length≤l.length
 | 0,b,l,h=>by simp[dZ]at h
 | n+1,b,l,h=>by
  intro x hx
  obtain⟨h0,h1,hs⟩:=rU h
  rcases hs with⟨e,rfl⟩|⟨e,r,hr,rfl⟩
  ·rw[List.mem_singleton]at hx;subst hx;exact⟨_,_,h,Nat.le_refl _⟩
  ·rcases List.mem_cons.1 hx with rfl|hx
   ·exact⟨_,_,h,Nat.le_refl _⟩
   ·obtain⟨m,k,h2,h3⟩:=Eu hr x hx
    exact⟨m,k,h2,by simp;omega⟩
theorem Bz{p:List Int}:∀{n:Nat} {b:Int} {l:List Int},dZ p n b=some l→l.Nodup
 | 0,b,l,h=>by simp[dZ]at h
 | n+1,b,l,h=>by
  obtain⟨h0,h1,hs⟩:=rU h
  rcases hs with⟨e,rfl⟩|⟨e,r,hr,rfl⟩
  ·simp
  ·rw[List.nodup_cons]
   refine⟨fun hx=>?_,Bz hr⟩
   obtain⟨m,k,h2,h3⟩:=Eu hr b hx
   have:=Ye h h2
   subst this
   simp at h3
   omega
theorem rX:∀{n:Nat} {l:List Int},l.Nodup→(∀x∈l,0≤x∧x<n)→l.length≤n
 | 0,[],_,_=>Nat.le_refl _
 | 0,a::l,_,h=>by have:=h a (List.mem_cons_self ..);omega
 | n+1,l,hd,h=>by
  have h1:(l.erase (n:Int)).length≤n:=rX (hd.erase _) fun x hx=>by
   have hm:=(hd.mem_erase_iff).1 hx
   have:=h x hm.2
   have:=hm.1
   omega
  rw[List.length_erase]at h1
  split at h1<;>omega
theorem Yf{p:List Int}{m:Nat}(hm:p.length≤m)(b:Int):dZ p m b=dZ p p.length b:=by
 cases h:dZ p m b with
 | some l =>
  obtain⟨h1,h2,_⟩:=vD h
  exact(lU h1 (rX (Bz h) (Jy h))).symm
 | none =>
  cases g:dZ p p.length b with
  | none=>rfl
  | some l=>rw[lU g hm]at h;cases h
theorem vC(p:List Int)(n:Nat)(b:Int):(pathP p n b).length≤n:=by
 unfold pathP
 cases h:dZ p n b with
 | none=>exact Nat.zero_le _
 | some l=>exact(vD h).2.1
def mY(p:List Int)(x:Int):List Int:=((List.range p.length).filter fun v:Nat=>decide (x∈pathP p p.length v)).map (fun v:Nat=>(v:Int))
def xG(m:Int)(l:Int×Int):Bool:=decide (0≤l.1∧l.1<m∧0≤l.2∧l.2<m∧l.1≠l.2)
def cI(m:Int)(L:List (Int×Int))(a b:Int):Bool:=L.any fun l=>xG m l && (decide (l.1=a∧l.2=b) || decide (l.1=b∧l.2=a))
theorem xI(m:Int)(L:List (Int×Int))(a b:Int):cI m L a b=cI m L b a:=by
 unfold cI;congr 1;funext l;rw[Bool.or_comm]
def fF(m:Int)(b:Int):List (Int×Int)→List Int
 | []=>[]
 | l::r=>if xG m l then(if l.1=b then l.2::fF m b r else if l.2=b then l.1::fF m b r else fF m b r)else fF m b r
theorem vH(m:Int)(a b:Int):∀L:List (Int×Int),(b∈fF m a L↔cI m L a b=true)
 | []=>by simp[fF,cI]
 | l::r=>by
  have ih:=vH m a b r
  have hl:cI m (l::r) a b=((xG m l && (decide (l.1=a∧l.2=b) || decide (l.1=b∧l.2=a))) || cI m r a b):=rfl
  rw[hl,fF]
  by_cases hm:xG m l=true
  ·have cS:l.1≠l.2:=by have:=of_decide_eq_true hm;exact this.2.2.2.2
   rw[if_pos hm]
   by_cases h1:l.1=a
   ·rw[if_pos h1]
    have h2:¬(l.1=b∧l.2=a):=fun e=>cS (h1.trans e.2.symm)
    simp[hm,h1,ih]
    constructor
    ·rintro(rfl|h)
     ·exact .inl (.inl rfl)
     ·exact .inr h
    ·rintro((rfl|⟨e1,e2⟩)|h)
     ·exact .inl rfl
     ·exact absurd (h1.trans e2.symm) cS
     ·exact .inr h
   ·rw[if_neg h1]
    by_cases h2:l.2=a
    ·rw[if_pos h2]
     simp[hm,h1,h2,ih]
     exact⟨fun h=>h.imp Eq.symm id,fun h=>h.imp Eq.symm id⟩
    ·rw[if_neg h2]
     simp[hm,h1,h2,ih]
  ·rw[if_neg hm]
   simp[hm,ih]
def EF(p:List Int):Int:=((p.filter fun x=>decide (x=-1)).length:Int)
end Go.Dm.Tc
/-
Graphs: whom a broker is bD;are two linked.
-/
namespace Go.Dm.Tc
def aQ(l:Int×Int):DV:=.agg [.int .i64 l.1,.int .i64 l.2]
theorem rT(x:Int×Int):kG 20 (aQ x)∧Unl 22 (aQ x):=jO ⟨x.1,x.2⟩
theorem Ii(id sz:Nat)(k:IntKind):jB 2 1 (.ptr id sz 0 0) (.int k 0)=some (.ptr id sz 0 0):=rfl
theorem Ih(id sz:Nat)(k:IntKind):jB 2 1 (.ptr id sz 0 0) (.int k 1)=some (.ptr id sz 0 1):=rfl
theorem s70(m b:Int)(x:DV):pcF D t70 [.agg [.int .i64 m,x],.int .i64 b]=some (.bool (decide (0≤b∧b<m))):=by
 unfold pcF
 rw[aM _ _ _ _ (by simp[t70])]
 by_cases h:0≤b<;>by_cases h':b<m<;>simp[t70,h,h']
theorem s98(t:Bool)(m:Int)(L:List (Int×Int))(l:Int×Int):pcF D t98 [.agg [.int .i64 m,eL t 2 aQ L],aQ l]=some (.bool (xG m l)):=by
 obtain⟨a,b⟩:=l
 have hf:∀h,resolve true h 199 (eL t 2 aQ L)=some (eL t 2 aQ L):=fun h=>dR _ _ _ _ true h 199 (by decide)
 unfold pcF
 rw[aM _ _ _ _ (by simp[t98])]
 by_cases h1:0≤a∧a<m<;>by_cases h2:0≤b∧b<m<;>by_cases h3:a=b<;>simp[t98,aQ,e70,s70,xG,h1,h2,h3,hf,Ii,Ih]
theorem l55(P:Res→Prop)(t:Bool)(m b:Int)(L:List (Int×Int))(hL:L.length≤1000000)(h0:aA)(g0:h0.get 0=some (.arr 66 2 [.agg [.int .i64 m,eL t 2 aQ L]] (some 1)))(bH:h0.lim=0) :
  ∀(rest:List (Int×Int)) (mU:List Int) (i:Nat) (f:dV) (h:aA),L.drop i=rest→mU.length≤i→f 1=.int .i64 b→f 2=.ptr 0 2 0 0→f 9=eL t 2 aQ L→f 10=.int .i64 L.length→f 11=.int .i64 i→OwnR 1 h (f 5) 3 1 (mU.map bF)→Ext 1 h0 h →
  (∀F H,OwnR 1 H (F 5) 3 1 ((mU++fF m b rest).map bF)→Ext 1 h0 H→P (run D 45 [] Qb F H)) →
  P (run D 45 [.block 0,.seq Qb] (.loop E9) f h):=by
 intro rest
 induction rest with
 | nil =>
  intro mU i f h hd ha h1 h2 h9 wR Kv ho hx cQ
  have hi:=iB hd
  have:¬(i<L.length):=by omega
  rw[aG E9.eq_1]
  simp[wR,Kv,this]
  exact cQ _ _ (by simpa[fF]using ho) hx
 | cons l rest ih =>
  intro mU i f h hd ha h1 h2 h9 wR Kv ho hx cQ
  obtain⟨hi,he,pE⟩:=jF hd
  have hlH:h.lim=0:=hx.lim.trans bH
  have Pk:=(hx.get 0 (by decide)).trans g0
  have hnh:=hx.le
  have n0:¬0=h.n:=by omega
  have hw:IntKind.i64.wrap ((i:Int)+1)=(i:Int)+1:=bC (by omega) (by omega)
  have hf:∀h,resolve true h 199 (eL t 2 aQ L)=some (eL t 2 aQ L):=fun h=>dR _ _ _ _ true h 199 (by decide)
  obtain⟨u,v⟩:=l
  have hm:pcF D t98 [.agg [.int .i64 m,eL t 2 aQ L],.agg [.int .i64 u,.int .i64 v]]=some (.bool (xG m (u,v))):=s98 t m L (u,v)
  rw[aG E9.eq_1]
  by_cases hc:xG m (u,v)=true
  ·by_cases hu:u=b
   ·have hN:fF m b ((u,v)::rest)=v::fF m b rest:=by rw[fF,if_pos hc,if_pos hu]
    rw[hN,List.append_cons]at cQ
    subst hu
    simp[h1,h2,h9,wR,Kv,hi,he,hlH,Pk,n0,aQ,e98,hm,hc,hf,Ii,Ih]
    generalize hA:bB _ _ _ _ _ _=A
    obtain⟨w',h',rfl,zY,oH,_⟩:=ho.push.push.append hx.push.push.wf (hx.push.push.le) (by simp[hlH]) hA (by simp;omega) (by decide)
    clear hA
    simp[Kv,hw]
    generalize hF:upd _ 11 _=F
    refine ih (mU++[v]) (i+1) F h' pE (by simp;omega) (by rw[←hF];simp[h1]) (by rw[←hF];simp[h2]) (by rw[←hF];simp[h9]) (by rw[←hF];simp[wR]) (by rw[←hF];simp) (by rw[←hF];simp;simpa[bF]using zY) (hx.push.push.trans oH) cQ
   ·by_cases hv:v=b
    ·have hN:fF m b ((u,v)::rest)=u::fF m b rest:=by rw[fF,if_pos hc,if_neg hu,if_pos hv]
     rw[hN,List.append_cons]at cQ
     subst hv
     simp[h1,h2,h9,wR,Kv,hi,he,hlH,Pk,n0,aQ,e98,hm,hc,hf,Ii,Ih,hu]
     generalize hA:bB _ _ _ _ _ _=A
     obtain⟨w',h',rfl,zY,oH,_⟩:=ho.push.push.append hx.push.push.wf (hx.push.push.le) (by simp[hlH]) hA (by simp;omega) (by decide)
     clear hA
     simp[Kv,hw]
     generalize hF:upd _ 11 _=F
     refine ih (mU++[u]) (i+1) F h' pE (by simp;omega) (by rw[←hF];simp[h1]) (by rw[←hF];simp[h2]) (by rw[←hF];simp[h9]) (by rw[←hF];simp[wR]) (by rw[←hF];simp) (by rw[←hF];simp;simpa[bF]using zY) (hx.push.push.trans oH) cQ
    ·have hN:fF m b ((u,v)::rest)=fF m b rest:=by rw[fF,if_pos hc,if_neg hu,if_neg hv]
     rw[hN]at cQ
     simp[h1,h2,h9,wR,Kv,hi,he,hlH,Pk,n0,aQ,e98,hm,hc,hf,Ii,Ih,hu,hv,hw]
     generalize hF:upd _ 11 _=F
     exact ih mU (i+1) F _ pE (by omega) (by rw[←hF];simp[h1]) (by rw[←hF];simp[h2]) (by rw[←hF];simp[h9]) (by rw[←hF];simp[wR]) (by rw[←hF];simp) (by rw[←hF];simp;exact ho.push) hx.push cQ
  ·have hN:fF m b ((u,v)::rest)=fF m b rest:=by rw[fF,if_neg hc]
   rw[hN]at cQ
   simp[h1,h2,h9,wR,Kv,hi,he,hlH,Pk,n0,aQ,e98,hm,hc,hf,hw]
   generalize hF:upd _ 11 _=F
   exact ih mU (i+1) F _ pE (by omega) (by rw[←hF];simp[h1]) (by rw[←hF];simp[h2]) (by rw[←hF];simp[h9]) (by rw[←hF];simp[wR]) (by rw[←hF];simp) (by rw[←hF];simp;exact ho.push) hx.push cQ
theorem KL(h:aA):fc D 38 [.nsl] h=some (.nsl,h):=by
 rw[e38,aM _ _ _ _ (by simp[t38])]
 simp[t38]
theorem s55(t:Bool)(m b:Int)(L:List (Int×Int))(hL:L.length≤1000000)(hn:(fF m b L).length≤12):∃ N,pcF D t55 [.agg [.int .i64 m,eL t 2 aQ L],.int .i64 b]=some (eL false 1 bF N)∧gB N∧(∀x,x∈N↔x∈fF m b L)∧N.length≤12:=by
 unfold pcF
 rw[aM _ _ _ _ (by simp[t55])]
 simp[t55]
 generalize hF:upd _ 11 _=F
 generalize hH:aA.push _ _=H
 refine l55 (fun r=>∃ N,iK (fin [.t 4] r)=some (eL false 1 bF N)∧gB N∧(∀x,x∈N↔x∈fF m b L)∧N.length≤12) t m b L hL H (by rw[←hH];simp) (by rw[←hH];simp) L [] 0 F H rfl (Nat.zero_le _) (by rw[←hF];simp) (by rw[←hF];simp) (by rw[←hF];simp) (by rw[←hF];simp) (by rw[←hF];simp) (.nil (by rw[←hF];simp) rfl) (.refl (by rw[←hH];simp) (by rw[←hH];simp)) fun F K o x=>?_
 rw[List.nil_append]at o
 cases o with
 | nil hv hx =>
  have oH:fF m b L=[]:=by simpa using hx
  refine⟨[],?_,List.Pairwise.nil,fun y=>by rw[oH],by simp⟩
  simp[Qb,hv,J5,KL,turn]
  rfl
 | arr id sp cap hv hg bH eN =>
  obtain⟨K2,h2,R2⟩:=q37 id sp cap K (fF m b L) hg bH x.wf (by omega)
  have Vi:=(sB (fF m b L)).length_eq
  obtain⟨N,sp',K3,h3,R3,sN,mN,lN⟩:=q38 id (Kh (fF m b L)) sp cap K2 (by rw[R2.lim];exact bH) (by omega) (zA _) R2.get R2.wf
  rw[Vi]at h3
  rw[List.length_map]at hv
  refine⟨N,?_,sN,fun y=>by rw[mN,(sB _).mem_iff],by omega⟩
  have w:OwnR 1 K3 (.sl id 1 0 N.length) 3 1 (N.map bF):=.arr id sp' cap (by simp) R3.get (by rw[R3.lim,R2.lim];exact bH) eN
  have Nw:=w.out (k:=22) (fun y _=>(dD y).1.mono (by decide)) (fun y _=>(dD y).2) (by decide)
  simp[Qb,hv,h2,h3,turn,-fX]
  exact Nw
theorem s30(t:Bool)(m a b:Int)(L:List (Int×Int))(hL:L.length≤1000000)(hn:(fF m a L).length≤12):pcF D t30 [.agg [.int .i64 m,eL t 2 aQ L],.int .i64 a,.int .i64 b]=some (.bool (cI m L a b)):=by
 obtain⟨N,hN,_,mN,lN⟩:=s55 t m a L hL hn
 have hC:=s69 false N b (by omega)
 have hc:N.contains b=cI m L a b:=by
  rw[Bool.eq_iff_iff,List.contains_iff_mem,mN,vH]
 rw[hc]at hC
 have hf:∀h,resolve true h 199 (eL t 2 aQ L)=some (eL t 2 aQ L):=fun h=>dR _ _ _ _ true h 199 (by decide)
 unfold pcF
 rw[aM _ _ _ _ (by simp[t30])]
 simp[t30,e55,hN,hf,e69,hC]
end Go.Dm.Tc
/-
Trees: the path of a broker up to the root,its depth,who is dP;do parents span a graph.
-/
namespace Go.Dm.Tc
theorem TI{p:List Int}{b:Int}(h0:0≤b)(h1:b<p.length):∃ h:b.toNat<p.length,p[b.toNat]=atL p b.toNat:=⟨by omega,(kB (by omega)).symm⟩
theorem l27(t:Bool)(p:List Int)(hp:p.length≤1000000) :
  ∀(n:Nat) (mU:List Int) (b:Int) (f:dV) (h:aA),mU.length+n=p.length→f 0=eL t 1 bF p→f 1=.int .i64 b→OwnR 0 h (f 5) 3 1 (mU.map bF)→h.lim=0→WF h →
  iK (fin [.t 4] (run D 35 [.block 0,.seq Qc] (.loop F8) f h))=some (eL false 1 bF (match dZ p n b with|some l=>mU++l|none=>[])):=by
 intro n
 induction n with
 | zero =>
  intro mU b f h ha h0 h1 ho bH wf
  have bY:=ho.lenV
  have hae:mU.length=p.length:=by omega
  rw[aG F8.eq_1]
  by_cases hb:0≤b<;>by_cases Cw:b<p.length<;>simp[h0,h1,hb,Cw,bY,hae,dZ,Qc]
  all_goals rfl
 | succ n ih =>
  intro mU b f h ha h0 h1 ho bH wf
  have bY:=ho.lenV
  have hae:mU.length<p.length:=by omega
  rw[aG F8.eq_1]
  by_cases hb:0≤b∧b<p.length
  ·obtain⟨hi,hg⟩:=TI hb.1 hb.2
   rw[dZ,if_pos hb]
   obtain⟨OL,yB⟩:=hb
   simp[h0,h1,OL,yB,bY,hae]
   generalize hA:bB _ _ _ _ _ _=A
   obtain⟨w,K,rfl,zY,oH,_⟩:=ho.push.append (lo:=0) wf.push (Nat.zero_le _) (by simp[bH]) hA (by simp;omega) (by decide)
   clear hA
   have hKl:K.lim=0:=by rw[oH.lim];simp[bH]
   have hKw:=oH.wf
   have Y2:aR 1 (eL t 1 bF p) (.int .i64 b)=some (.iptr t (aF 1 (bF (atL p b.toNat))) 0):=by
    rw[oG t 1 bF p .i64 b OL,List.getElem?_eq_getElem hi,hg];rfl
   by_cases hr:atL p b.toNat=-1
   ·have ho'':OwnR 0 K w 3 1 ((mU++[b]).map bF):=by simpa[bF]using zY
    have Nw:=ho''.out (k:=22) (fun y _=>(dD y).1.mono (by decide)) (fun y _=>(dD y).2) (by decide)
    simp[h0,h1,Y2,hr,bF,-fX]
    exact Nw
   ·simp[h0,h1,Y2,hr,bF]
    generalize hF:upd _ 1 _=F
    rw[ih (mU++[b]) (atL p b.toNat) F K (by simp;omega) (by rw[←hF];simp[h0]) (by rw[←hF];simp) (by rw[←hF];simp;simpa[bF]using zY) hKl hKw]
    cases dZ p n (atL p b.toNat)<;>simp
  ·rw[dZ,if_neg hb]
   by_cases OL:0≤b
   ·have yB:¬b<p.length:=fun h=>hb ⟨OL,h⟩
    simp[h0,h1,OL,yB,bY,hae,Qc]
    rfl
   ·simp[h0,h1,OL,bY,hae,Qc]
    rfl
theorem s27(t:Bool)(p:List Int)(b:Int)(hp:p.length≤1000000):pcF D t27 [eL t 1 bF p,.int .i64 b]=some (eL false 1 bF (pathP p p.length b)):=by
 unfold pcF
 rw[aM _ _ _ _ (by simp[t27])]
 simp[t27,-fX]
 generalize hF:upd _ 5 _=F
 rw[l27 t p hp p.length [] b F _ (by simp) (by rw[←hF];simp) (by rw[←hF];simp) (.nil (by rw[←hF];simp) rfl) (by simp) (by simp)]
 unfold pathP
 cases dZ p p.length b<;>rfl
theorem s28(t:Bool)(p:List Int)(b:Int)(hp:p.length≤1000000):pcF D t28 [eL t 1 bF p,.int .i64 b]=some (.int .i64 ((pathP p p.length b).length-1)):=by
 have hl:=vC p p.length b
 have hw:IntKind.i64.wrap (((pathP p p.length b).length:Int)-1)=((pathP p p.length b).length:Int)-1:=bC (by omega) (by omega)
 have hf:∀h,resolve true h 199 (eL t 1 bF p)=some (eL t 1 bF p):=fun h=>dR _ _ _ _ true h 199 (by decide)
 unfold pcF
 rw[aM _ _ _ _ (by simp[t28])]
 simp[t28,e27,s27 t p b hp,hf,hw]
def mZ(p:List Int)(x:Int)(i:Nat):List Int:=((List.range i).filter fun v:Nat=>decide (x∈pathP p p.length v)).map (fun v:Nat=>(v:Int))
theorem Cm(p:List Int)(x:Int)(i:Nat):mZ p x (i+1)=if x∈pathP p p.length i then mZ p x i++[(i:Int)]else mZ p x i:=by
 unfold mZ
 rw[List.range_succ,List.filter_append,List.map_append]
 by_cases h:x∈pathP p p.length i<;>simp[h]
theorem xV(p:List Int)(x:Int)(i:Nat):(mZ p x i).length≤i:=by
 unfold mZ
 rw[List.length_map]
 exact Nat.le_trans (List.length_filter_le ..) (by simp)
theorem l26(t:Bool)(p:List Int)(x:Int)(hp:p.length≤1000000) :
  ∀(n i:Nat) (f:dV) (h:aA),i+n=p.length→f 0=eL t 1 bF p→f 1=.int .i64 x→f 8=.int .i64 p.length→f 9=.int .i64 i→OwnR 0 h (f 5) 3 1 ((mZ p x i).map bF)→h.lim=0→WF h →
  iK (fin [.t 4] (run D 23 [.block 0,.seq CS] (.loop F9) f h))=some (eL false 1 bF (mY p x)):=by
 intro n
 induction n with
 | zero =>
  intro i f h hi h0 h1 h8 h9 ho bH wf
  have e1:i=p.length:=by omega
  subst e1
  rw[aG F9.eq_1]
  have Nw:=ho.out (k:=22) (fun y _=>(dD y).1.mono (by decide)) (fun y _=>(dD y).2) (by decide)
  simp[h8,h9,CS,-fX]
  exact Nw
 | succ n ih =>
  intro i f h hi h0 h1 h8 h9 ho bH wf
  have e1:i<p.length:=by omega
  have hl:=vC p p.length i
  have hC:=s69 false (pathP p p.length i) x (by omega)
  have hP:=s27 t p i hp
  have hw:IntKind.i64.wrap ((i:Int)+1)=(i:Int)+1:=bC (by omega) (by omega)
  have hs:=Cm p x i
  have Oh:=xV p x i
  rw[aG F9.eq_1]
  by_cases hc:x∈pathP p p.length i
  ·rw[if_pos hc]at hs
   simp[h0,h1,h8,h9,e1,e27,hP,e69,hC,hc]
   generalize hA:bB _ _ _ _ _ _=A
   obtain⟨w,K,rfl,zY,oH,_⟩:=ho.push.append (lo:=0) wf.push (Nat.zero_le _) (by simp[bH]) hA (by simp;omega) (by decide)
   clear hA
   have hKl:K.lim=0:=by rw[oH.lim];simp[bH]
   simp[h9,hw]
   generalize hF:upd _ 9 _=F
   exact ih (i+1) F K (by omega) (by rw[←hF];simp[h0]) (by rw[←hF];simp[h1]) (by rw[←hF];simp[h8]) (by rw[←hF];simp) (by rw[←hF,hs];simp;simpa[bF]using zY) hKl oH.wf
  ·rw[if_neg hc]at hs
   simp[h0,h1,h8,h9,e1,e27,hP,e69,hC,hc,hw]
   generalize hF:upd _ 9 _=F
   exact ih (i+1) F h (by omega) (by rw[←hF];simp[h0]) (by rw[←hF];simp[h1]) (by rw[←hF];simp[h8]) (by rw[←hF];simp) (by rw[←hF,hs];simp;exact ho) bH wf
theorem s26(t:Bool)(p:List Int)(x:Int)(hp:p.length≤1000000):pcF D t26 [eL t 1 bF p,.int .i64 x]=some (eL false 1 bF (mY p x)):=by
 unfold pcF
 rw[aM _ _ _ _ (by simp[t26])]
 simp[t26,-fX]
 generalize hF:upd _ 9 _=F
 exact l26 t p x hp p.length 0 F _ (by simp) (by rw[←hF];simp) (by rw[←hF];simp) (by rw[←hF];simp) (by rw[←hF];simp) (.nil (by rw[←hF];simp) rfl) (by simp) (by simp)
end Go.Dm.Tc
/-
A graph of numbers: right,seven brokers at most.
-/
namespace Go.Dm.Tc
def Vw(l:Int×Int):ID:=⟨l.1,l.2⟩
theorem Fd{L:List (Int×Int)}{a b:Int}:(⟨a,b⟩:ID)∈L.map Vw↔(a,b)∈L:=by
 rw[List.mem_map]
 constructor
 ·rintro⟨⟨u,v⟩,h,e⟩
  cases e;exact h
 ·exact fun h=>⟨_,h,rfl⟩
structure bN(m:Int)(L:List (Int×Int)):Prop where
 rng:∀l∈L,0≤l.1∧l.1<m∧0≤l.2∧l.2<m∧l.1≠l.2
 nd:L.Pairwise fun x y=>x≠y∧x≠(y.2,y.1)
def qU(L:List (Int×Int))(a b:Int):List (Int×Int):=if a=b∨(a,b)∈L∨(b,a)∈L then L else L++[(a,b)]
theorem bN.nil(m:Int):bN m []:=⟨fun l h=>by simp at h,List.Pairwise.nil⟩
theorem bN.put{m:Int}{L:List (Int×Int)}(h:bN m L){a b:Int}(ha:0≤a∧a<m)(hb:0≤b∧b<m):bN m (qU L a b):=by
 unfold qU
 split
 ·exact h
 ·rename_i hn
  have h1:a≠b:=fun e=>hn (.inl e)
  have h2:(a,b) ∉ L:=fun e=>hn (.inr (.inl e))
  have h3:(b,a) ∉ L:=fun e=>hn (.inr (.inr e))
  refine⟨fun l hl=>?_,?_⟩
  ·rcases List.mem_append.1 hl with hl|hl
   ·exact h.rng l hl
   ·rw[List.mem_singleton]at hl;subst hl;exact⟨ha.1,ha.2,hb.1,hb.2,h1⟩
  ·rw[List.pairwise_append]
   refine⟨h.nd,List.pairwise_singleton _ _,fun x hx y hy=>?_⟩
   rw[List.mem_singleton]at hy;subst hy
   exact⟨fun e=>h2 (e ▸ hx),fun e=>h3 (e ▸ hx)⟩
theorem Eo(L:List (Int×Int))(a b:Int):(qU L a b).length≤L.length+1:=by
 unfold qU;split<;>simp
theorem bN.toID_nd{m:Int}{L:List (Int×Int)}(h:bN m L):(L.map Vw).Nodup:=by
 rw[List.nodup_iff_pairwise_ne,List.pairwise_map]
 refine h.nd.imp fun {x y} hxy e=>hxy.1 ?_
 obtain⟨a,b⟩:=x;obtain⟨c,d⟩:=y
 cases e;rfl
theorem Ax{m a:Int}{L:List (Int×Int)}{x:Int}(h:x∈fF m a L):((a,x)∈L∨(x,a)∈L)∧0≤x∧x<m:=by
 rw[vH]at h
 unfold cI at h
 rw[List.any_eq_true]at h
 obtain⟨l,hl,h2⟩:=h
 obtain⟨u,v⟩:=l
 rw[Bool.and_eq_true,Bool.or_eq_true]at h2
 have hm:=of_decide_eq_true h2.1
 rcases h2.2 with h3|h3
 ·have:=of_decide_eq_true h3
  obtain⟨e1,e2⟩:=this
  simp only at e1 e2 hm
  subst e1;subst e2
  exact⟨.inl hl,hm.2.2.1,hm.2.2.2.1⟩
 ·have:=of_decide_eq_true h3
  obtain⟨e1,e2⟩:=this
  simp only at e1 e2 hm
  subst e1;subst e2
  exact⟨.inr hl,hm.1,hm.2.1⟩
theorem Cc{m a:Int}:∀{L:List (Int×Int)},(L.Pairwise fun x y=>x≠y∧x≠(y.2,y.1))→(fF m a L).Nodup
 | [],_=>List.nodup_nil
 | (u,v)::r,h=>by
  rw[List.pairwise_cons]at h
  have ih:=Cc (m:=m) (a:=a) h.2
  rw[fF]
  split
  ·split
   ·rename_i e
    simp only at e
    subst e
    rw[List.nodup_cons]
    refine⟨fun hm=>?_,ih⟩
    rcases(Ax hm).1 with h1|h1
    ·exact(h.1 _ h1).1 rfl
    ·exact(h.1 _ h1).2 rfl
   ·split
    ·rename_i e
     simp only at e
     subst e
     rw[List.nodup_cons]
     refine⟨fun hm=>?_,ih⟩
     rcases(Ax hm).1 with h1|h1
     ·exact(h.1 _ h1).2 rfl
     ·exact(h.1 _ h1).1 rfl
    ·exact ih
  ·exact ih
theorem bN.bD{m:Int}{L:List (Int×Int)}(h:bN m L)(h0:0≤m)(h7:m≤12)(a:Int):(fF m a L).length≤12:=by
 have:=rX (n:=m.toNat) (Cc (m:=m) (a:=a) h.nd) fun x hx=>by have:=(Ax hx).2;omega
 omega
structure Bj(x0 x1 x2:DV)(h:aA)(m:Int)(L:List (Int×Int)):Prop where
 g0:h.get 0=some (.arr 63 3 [.agg [x0,x1,x2]] (some 1))
 g1:h.get 1=some (.arr 66 2 [.agg [.int .i64 0,.nsl]] (some 1))
 g2:∃ v,h.get 2=some (.arr 66 2 [.agg [.int .i64 m,v]] (some 1))∧OwnR 5 h v 76 2 (L.map aQ)
 g3:h.get 3=some (.mp (sV (L.map Vw)))
 g4:h.get 4=some (.arr 110 1 [.map 3] (some 1))
 lim:h.lim=0
 n:5≤h.n
 wf:WF h
theorem q50{x0 x1 x2:DV}{h:aA}{m:Int}{L:List (Int×Int)}(g:Bj x0 x1 x2 h m L)(ok:bN m L)(hl:L.length≤1000)(a b:Int) :
  ∃ h',fc D 50 [.int .i64 a,.int .i64 b,.ptr 4 1 0 0,.ptr 2 2 0 0] h=some (.tup [],h')∧Bj x0 x1 x2 h' m (qU L a b):=by
 obtain⟨g0,g1,⟨v,g2,ho⟩,g3,g4,lim,hn,wf⟩:=g
 have nd:=ok.toID_nd
 have l1:=xD nd a b
 have l2:=xD nd b a
 have Pj:=fun(H:aA) (hl:H.lim≤3)=>D7 (h:=H) (id:=3) nd hl a b
 have e1:((⟨a,b⟩:ID)∈L.map Vw)=((a,b)∈L):=propext Fd
 have e2:((⟨b,a⟩:ID)∈L.map Vw)=((b,a)∈L):=propext Fd
 simp only[e1]at l1
 simp only[e2]at l2
 rw[e50,aM _ _ _ _ (by simp[t50])]
 by_cases h1:a=b
 ·have hp:qU L a b=L:=by rw[qU,if_pos (.inl h1)]
  rw[hp]
  refine⟨h,?_,⟨g0,g1,⟨v,g2,ho⟩,g3,g4,lim,hn,wf⟩⟩
  simp[t50,h1]
  rfl
 ·by_cases h2:(a,b)∈L
  ·have hp:qU L a b=L:=by rw[qU,if_pos (.inr (.inl h2))]
   rw[hp]
   refine⟨h,?_,⟨g0,g1,⟨v,g2,ho⟩,g3,g4,lim,hn,wf⟩⟩
   rw[decide_eq_true h2]at l1
   simp[t50,h1,g0,g1,g2,g3,g4,eI,fT,l1]
   rfl
  ·by_cases h3:(b,a)∈L
   ·have hp:qU L a b=L:=by rw[qU,if_pos (.inr (.inr h3))]
    rw[hp]
    refine⟨h,?_,⟨g0,g1,⟨v,g2,ho⟩,g3,g4,lim,hn,wf⟩⟩
    rw[decide_eq_false h2]at l1
    rw[decide_eq_true h3]at l2
    simp[t50,h1,g0,g1,g2,g3,g4,eI,fT,l1,l2]
    rfl
   ·have hp:qU L a b=L++[(a,b)]:=by rw[qU,if_neg (fun hh=>hh.elim h1 fun hh=>hh.elim h2 h3)]
    rw[hp]
    rw[decide_eq_false h2]at l1
    rw[decide_eq_false h3]at l2
    have Zm:xX ⟨a,b⟩ (L.map Vw)=(L++[(a,b)]).map Vw:=by
     rw[xX,if_neg (fun hm=>h2 (Fd.1 hm)),List.map_append];rfl
    rw[Zm]at Pj
    have l3:3<h.n:=by omega
    have l4:2<h.n:=by omega
    simp[t50,h1,g0,g1,g2,g3,g4,eI,fT,l1,l2,kI,Pj,lim,wf,l3]
    generalize hA:bB _ _ _ _ _ _=A
    obtain⟨v',K,rfl,o',x',_,_⟩:=Pb ((ho.aS wf (by decide) l3).push) (by simp[wf]) (by simp;omega) (by simp[lim]) hA (by simp;omega) (by decide)
    clear hA
    have G0:=x'.get 0 (by decide)
    have G1:=x'.get 1 (by decide)
    have G2:=x'.get 2 (by decide)
    have G3:=x'.get 3 (by decide)
    have G4:=x'.get 4 (by decide)
    have Kl:=x'.lim
    have Kw:=x'.wf
    have Kn:=x'.le
    have i0:¬0=h.n:=by omega
    have i1:¬1=h.n:=by omega
    have i2:¬2=h.n:=by omega
    have i3:¬3=h.n:=by omega
    have i4:¬4=h.n:=by omega
    simp[i0,i1,i2,i3,i4,g0,g1,g2,g3,g4,lim,wf,l3]at G0 G1 G2 G3 G4 Kl
    have k2:2<K.n:=by omega
    have ws:=o'.aO
    have we:=o'.aF
    simp[G2,Kl,Kw,k2,ws,we,turn]
    refine⟨_,rfl,⟨?_,?_,⟨v',?_,?_⟩,?_,?_,?_,?_,?_⟩⟩
    ·simp[Kw,k2,G0]
    ·simp[Kw,k2,G1]
    ·simp[Kw,k2]
    ·have o'':OwnR 5 K v' 76 2 ((L++[(a,b)]).map aQ):=by simpa[aQ]using o'
     exact o''.aS Kw (by decide) k2
    ·simp[Kw,k2,G3]
    ·simp[Kw,k2,G4]
    ·simp[Kl]
    ·simp;omega
    ·simp[Kw]
end Go.Dm.Tc
/-
A graph of numbers: the function's walk.
-/
namespace Go.Dm.Tc
def sR(under:List Int):Nat→List (Int×Int)
 | 0=>[]
 | n+1=>qU (sR under n) ((n:Int)+1) (cY (pO under (n+1)) 0 n)
def tO(m:Int):List Int→List (Int×Int)→List (Int×Int)
 | [],L=>L
 | x::r,L=>tO m r (qU L (cY x 0 (m-1)) (cY (IntKind.i64.wrap (x.tdiv 8)) 0 (m-1)))
def sE(m:Int)(under more:List Int):List (Int×Int):=tO m (more.take 8) (sR under (m-1).toNat)
theorem uX(under:List Int):∀n,(sR under n).length≤n
 | 0=>Nat.le_refl _
 | n+1=>by have:=Eo (sR under n) ((n:Int)+1) (cY (pO under (n+1)) 0 n);have:=uX under n;rw[sR];omega
theorem Kd(m:Int):∀(r:List Int) (L:List (Int×Int)),(tO m r L).length≤L.length+r.length
 | [],L=>by simp[tO]
 | x::r,L=>by
  rw[tO]
  have:=Kd m r (qU L (cY x 0 (m-1)) (cY (IntKind.i64.wrap (x.tdiv 8)) 0 (m-1)))
  have:=Eo L (cY x 0 (m-1)) (cY (IntKind.i64.wrap (x.tdiv 8)) 0 (m-1))
  simp;omega
theorem gJ(n lo hi:Int)(h:lo≤hi):lo≤cY n lo hi∧cY n lo hi≤hi:=by
 have h1:0<hi-lo+1:=by omega
 have h2:=Int.tmod_lt_of_pos n h1
 have h3:=Int.lt_tmod_of_pos n h1
 unfold cY
 split<;>omega
theorem yE{m:Int}(under:List Int):∀n:Nat,(n:Int)+1≤m→bN m (sR under n)
 | 0,_=>bN.nil m
 | n+1,h=>by
  have:=gJ (pO under (n+1)) 0 n (by omega)
  exact(yE under n (by omega)).put ⟨by omega,by omega⟩ ⟨by omega,by omega⟩
theorem Sh{m:Int}(h1:1≤m):∀(r:List Int) (L:List (Int×Int)),bN m L→bN m (tO m r L)
 | [],L,h=>h
 | x::r,L,h=>by
  have e1:=gJ x 0 (m-1) (by omega)
  have e2:=gJ (IntKind.i64.wrap (x.tdiv 8)) 0 (m-1) (by omega)
  exact Sh h1 r _ (h.put ⟨by omega,by omega⟩ ⟨by omega,by omega⟩)
theorem Y7{m:Int}(h1:1≤m)(under more:List Int):bN m (sE m under more):=Sh h1 _ _ (yE under _ (by omega))
theorem Zo{m:Int}(h7:m≤7)(under more:List Int):(sE m under more).length≤14:=by
 have:=Kd m (more.take 8) (sR under (m-1).toNat)
 have:=uX under (m-1).toNat
 have:(more.take 8).length≤8:=by simp;omega
 unfold sE;omega
theorem YS(S:List Fr)(P:Res→Prop)(x0 x2:DV)(tu:Bool)(under:List Int)(m:Int)(hm:1≤m∧m≤7) :
  ∀(k i:Nat) (f:dV) (h:aA),(i:Int)+k+1=m→Bj x0 (eL tu 1 bF under) x2 h m (sR under i)→f 1=.ptr 0 3 0 0→f 2=.ptr 1 2 0 0→f 3=.ptr 2 2 0 0→f 5=.func 50 [.ptr 4 1 0 0,.ptr 2 2 0 0]→f 6=.int .i64 ((i:Int)+1) →
  (∀F H,Bj x0 (eL tu 1 bF under) x2 H m (sR under (m-1).toNat)→F 1=.ptr 0 3 0 0→F 2=.ptr 1 2 0 0→F 3=.ptr 2 2 0 0→F 5=.func 50 [.ptr 4 1 0 0,.ptr 2 2 0 0]→P (run D 63 S H6 F H)) →
  P (run D 63 (.block 0::.seq H6::S) (.loop H5) f h):=by
 intro k
 induction k with
 | zero =>
  intro i f h hi g h1 h2 h3 h5 h6 cQ
  obtain⟨v,g2,ho⟩:=g.g2
  have e1:i=(m-1).toNat:=by omega
  have e2:¬(i:Int)+1<m:=by omega
  rw[aG H5.eq_1]
  simp[h3,h6,g2,e2]
  exact cQ _ _ (by rw[←e1];exact g) (by simp[h1]) (by simp[h2]) (by simp[h3]) (by simp[h5])
 | succ k ih =>
  intro i f h hi g h1 h2 h3 h5 h6 cQ
  obtain⟨v,g2,ho⟩:=g.g2
  have g0:=g.g0
  have e2:(i:Int)+1<m:=by omega
  have hl:=uX under i
  obtain⟨h',hq,g'⟩:=q50 g (yE under i (by omega)) (by omega) ((i:Int)+1) (cY (pO under (i+1)) 0 i)
  have hp:=s41 tu under (i+1)
  have LR:pcF D t41 [eL tu 1 bF under,.int .i64 ((i:Int)+1)]=some (.int .i64 (pO under (i+1))):=by simpa using hp
  have hw:=s8 (pO under (i+1)) 0 i (by omega) (by decide) (by omega)
  have w1:IntKind.i64.wrap (i:Int)=i:=bC (by omega) (by omega)
  have w2:IntKind.i64.wrap ((i:Int)+1+1)=(i:Int)+1+1:=bC (by omega) (by omega)
  rw[aG H5.eq_1]
  simp[h1,h3,h5,h6,g0,g2,e2,e41,LR,e8,hw,w1,w2,hq]
  generalize hF:upd _ 6 _=F
  exact ih (i+1) F h' (by omega) g' (by rw[←hF];simp[h1]) (by rw[←hF];simp[h2]) (by rw[←hF];simp[h3]) (by rw[←hF];simp[h5]) (by rw[←hF];simp) cQ
theorem YR(S:List Fr)(P:Res→Prop)(x0 x1:DV)(tm:Bool)(more:List Int)(m:Int)(hm:1≤m∧m≤7) :
  ∀(k i:Nat) (f:dV) (h:aA) (L:List (Int×Int)),i+k=8→L.length≤6+i→bN m L→Bj x0 x1 (eL tm 1 bF more) h m L→f 1=.ptr 0 3 0 0→f 2=.ptr 1 2 0 0→f 3=.ptr 2 2 0 0→f 5=.func 50 [.ptr 4 1 0 0,.ptr 2 2 0 0]→f 7=.int .i64 i →
  (∀F H,Bj x0 x1 (eL tm 1 bF more) H m (tO m ((more.take 8).drop i) L)→F 2=.ptr 1 2 0 0→F 3=.ptr 2 2 0 0→P (run D 63 S H7 F H)) →
  P (run D 63 (.block 2::.seq H7::S) (.loop G9) f h):=by
 intro k
 induction k with
 | zero =>
  intro i f h L hi hl ok g h1 h2 h3 h5 h7 cQ
  have g0:=g.g0
  have e1:i=8:=by omega
  subst e1
  have hd:(more.take 8).drop 8=[]:=by simp
  rw[hd,tO]at cQ
  rw[aG G9.eq_1]
  by_cases a1:8<more.length
  ·have a1':(8:Int)<more.length:=by omega
   simp[h1,h7,g0,a1,a1']
   exact cQ _ _ g (by simp[h2]) (by simp[h3])
  ·have a1':¬(8:Int)<more.length:=by omega
   simp[h1,h7,g0,a1,a1']
   exact cQ _ _ g (by simp[h2]) (by simp[h3])
 | succ k ih =>
  intro i f h L hi hl ok g h1 h2 h3 h5 h7 cQ
  obtain⟨v,g2,ho⟩:=g.g2
  have g0:=g.g0
  have lim:=g.lim
  have gn:=g.n
  have a8:i<8:=by omega
  have a8':(i:Int)<8:=by omega
  rw[aG G9.eq_1]
  by_cases a1:i<more.length
  ·have a1':(i:Int)<more.length:=by omega
   obtain⟨cv,MF⟩:∃ cv,more[i]=cv:=⟨_,rfl⟩
   have hdr:(more.take 8).drop i=cv::(more.take 8).drop (i+1):=by
    rw[List.drop_eq_getElem_cons (by simp;omega)]
    congr 1
    rw[List.getElem_take];exact MF
   rw[hdr,tO]at cQ
   have hsv:bV .quo (.int .i64 cv) (.int .i64 8)=some (.int .i64 (IntKind.i64.wrap (cv.tdiv 8))):=rfl
   have w1:=s8 cv 0 (m-1) (by omega) (by decide) (by omega)
   have w2:=s8 (IntKind.i64.wrap (cv.tdiv 8)) 0 (m-1) (by omega) (by decide) (by omega)
   have hw:IntKind.i64.wrap ((i:Int)+1)=(i:Int)+1:=bC (by omega) (by omega)
   have RX:IntKind.i64.wrap (m-1)=m-1:=bC (by omega) (by omega)
   obtain⟨h',hq,g'⟩:=q50 g ok (by omega) (cY cv 0 (m-1)) (cY (IntKind.i64.wrap (cv.tdiv 8)) 0 (m-1))
   have e1:=gJ cv 0 (m-1) (by omega)
   have e2:=gJ (IntKind.i64.wrap (cv.tdiv 8)) 0 (m-1) (by omega)
   have ok':=ok.put (a:=cY cv 0 (m-1)) (b:=cY (IntKind.i64.wrap (cv.tdiv 8)) 0 (m-1)) ⟨by omega,by omega⟩ ⟨by omega,by omega⟩
   have Vk:=Eo L (cY cv 0 (m-1)) (cY (IntKind.i64.wrap (cv.tdiv 8)) 0 (m-1))
   simp[h1,h3,h5,h7,g0,g2,a1,a1',a8,a8',MF,bF,hsv,e8,w1,w2,RX,lim,hq,hw]
   generalize hF:upd _ 7 _=F
   exact ih (i+1) F h' _ (by omega) (by omega) ok' g' (by rw[←hF];simp[h1]) (by rw[←hF];simp[h2]) (by rw[←hF];simp[h3]) (by rw[←hF];simp[h5]) (by rw[←hF];simp) cQ
  ·have a1':¬(i:Int)<more.length:=by omega
   have hd:(more.take 8).drop i=[]:=by rw[List.drop_eq_nil_iff];simp;omega
   rw[hd,tO]at cQ
   simp[h1,h7,g0,a1,a1']
   exact cQ _ _ g (by simp[h2]) (by simp[h3])
theorem Pu(n:Nat)(xs:List (Int×Int)):bA (n+23) (eL false 2 aQ xs)=true:=kP (fun x _=>(rT x).2) _ (by omega)
theorem Ty:aF 1 .nmap=[.nmap]:=rfl
theorem s17(tu tm:Bool)(n:Int)(under more:List Int):pcF D t17 [.agg [.int .i64 n,eL tu 1 bF under,eL tm 1 bF more]]=some (.agg [.int .i64 (cY n 1 7),eL false 2 aQ (sE (cY n 1 7) under more)]):=by
 obtain⟨m,hm⟩:∃ m,cY n 1 7=m:=⟨_,rfl⟩
 have LV:=gJ n 1 7 (by decide)
 have hw:=s8 n 1 7 (by decide) (by decide) (by decide)
 rw[hm]at LV hw ⊢
 unfold pcF
 rw[aM _ _ _ _ (by simp[t17])]
 simp[t17,e8,hw,turn,Ty,-fX]
 generalize hF:upd _ 6 _=F
 generalize hH:aA.push _ _=H
 refine YS [] (fun r=>iK (fin [.cell 2 (some 2)] r)=_) (.int .i64 n) (eL tm 1 bF more) tu under m LV (m-1).toNat 0 F H (by omega) ⟨?_,?_,⟨.nsl,?_,.nil rfl rfl⟩,?_,?_,?_,?_,?_⟩ (by rw[←hF];simp) (by rw[←hF];simp) (by rw[←hF];simp) (by rw[←hF];simp) (by rw[←hF];simp) fun F1 H1 g1 a1 a2 a3 a5=>?_
 ·rw[←hH];simp
 ·rw[←hH];simp
 ·rw[←hH];simp[sR]
 ·rw[←hH];simp[sR,sV]
 ·rw[←hH];simp
 ·rw[←hH];simp
 ·rw[←hH];simp
 ·rw[←hH];simp
 have tl:=uX under (m-1).toNat
 simp[H6,-fX]
 generalize hF2:upd _ 7 _=F2
 refine YR [] (fun r=>iK (fin [.cell 2 (some 2)] r)=_) (.int .i64 n) (eL tu 1 bF under) tm more m LV 8 0 F2 H1 _ (by omega) (by omega) (yE under _ (by omega)) g1 (by rw[←hF2];simp[a1]) (by rw[←hF2];simp[a2]) (by rw[←hF2];simp[a3]) (by rw[←hF2];simp[a5]) (by rw[←hF2];simp) fun F3 H3 g3 b2 b3=>?_
 obtain⟨v,g2,ho⟩:=g3.g2
 have gg1:=g3.g1
 have lim:=g3.lim
 have wf:=g3.wf
 have gn:=g3.n
 have k1:1<H3.n:=by omega
 have ws:=ho.aO
 have we:=ho.aF
 have hr:∀o,resolve false (H3.set 1 o) 199 v=some (eL false 2 aQ (sE m under more)):=fun o =>
  (ho.aS wf (by decide) k1).resolve false (fun y _=>(rT y).1) (by decide)
 simp[H7,b2,b3,g2,gg1,lim,wf,k1,ws,we,turn,hr,aV,Pu]
structure Ph where
 n:Int
 under:List Int
 more:List Int
def vP(k:Ph):DV:=.agg [.int .i64 k.n,eL false 1 bF k.under,eL false 1 bF k.more]
end Go.Dm.Tc
/-
Maps by keys of whatever kind.
-/
namespace Go.Dm.Tc
section
variable {α:Type} [DecidableEq α] {q:EqT} {kE:α→DV} (hq:∀x y,eY q (kE x) (kE y)=some (decide (y=x)))
def fN(kE:α→DV)(ms:List (α×DV)):List (DV×DV):=ms.map fun p=>(kE p.1,p.2)
def kK(ms:List (α×DV))(x:α):Option DV:=(ms.find? fun p=>decide (p.1=x)).map (·.2)
def tL(x:α)(v:DV):List (α×DV)→List (α×DV)
 | []=>[(x,v)]
 | p::r=>if p.1=x then(x,v)::r else p::tL x v r
include hq in
theorem Lb(x:α):∀(ms:List (α×DV)) (i:Nat),(kK ms x=none∧eU q (kE x) (fN kE ms) i=some none∧∀w,fN kE (tL x w ms)=fN kE ms++[(kE x,w)]) ∨
  (∃ j v,kK ms x=some v∧eU q (kE x) (fN kE ms) i=some (some (i+j,v))∧∀w,(fN kE ms).set j (kE x,w)=fN kE (tL x w ms)):=by
 intro ms
 induction ms with
 | nil=>intro i;exact .inl ⟨rfl,rfl,fun w=>rfl⟩
 | cons p r ih =>
  intro i
  obtain⟨y,u⟩:=p
  by_cases h:y=x
  ·subst h
   refine .inr ⟨0,u,by simp[kK],?_,fun w=>by simp[fN,tL]⟩
   simp only[fN,List.map_cons,eU]
   rw[hq,decide_eq_true rfl]
   rfl
  ·have hf:eU q (kE x) (fN kE ((y,u)::r)) i=eU q (kE x) (fN kE r) (i+1):=by
    simp only[fN,List.map_cons,eU]
    rw[hq,decide_eq_false h]
   have hg:kK ((y,u)::r) x=kK r x:=by simp[kK,h]
   rw[hf,hg]
   rcases ih (i+1)with⟨h1,h2,h3⟩|⟨j,v,h1,h2,h3⟩
   ·exact .inl ⟨h1,h2,fun w=>by
     have:=h3 w
     simp only[tL,if_neg h]
     simp only[fN,List.map_cons,List.cons_append]at this ⊢
     rw[this]⟩
   ·exact .inr ⟨j+1,v,h1,by rw[h2,show i+1+j=i+(j+1) by omega],fun w=>by
     have:=h3 w
     simp only[tL,if_neg h]
     simp only[fN,List.map_cons,List.set_cons_succ]at this ⊢
     rw[this]⟩
include hq in
theorem Kq(x:α):∀(ms:List (α×DV)),(ms.map (·.1)).Nodup→oK q (kE x) (fN kE ms)=some (if x∈ms.map (·.1)then 1 else 0):=by
 intro ms
 induction ms with
 | nil=>intro _;rfl
 | cons p r ih =>
  intro hn
  obtain⟨y,u⟩:=p
  simp only[List.map_cons,List.nodup_cons]at hn
  have:=ih hn.2
  simp only[fN,List.map_cons,oK]at this ⊢
  rw[hq,this]
  by_cases h:y=x
  ·subst h
   simp[hn.1]
  ·have h':¬x=y:=fun e=>h e.symm
   by_cases h2:x∈r.map (·.1)
   ·simp[h,h2]
   ·simp[h,h',h2]
include hq in
theorem tP{ms:List (α×DV)}(hn:(ms.map (·.1)).Nodup)(z:DV)(ok:Bool)(x:α):fO q z ok (kE x) (some (fN kE ms))=some (match kK ms x with|some v=>if ok then .tup [v,.bool true]else v|none=>if ok then .tup [z,.bool false]else z):=by
 have he:(eY q (kE x) (kE x)).isSome=true:=by rw[hq];rfl
 have hh:(if x∈ms.map (·.1)then 1 else 0)≤1:=by split<;>omega
 simp only[fO,he,if_true,kZ,Kq hq x ms hn,if_pos hh]
 rcases Lb hq x ms 0 with⟨h1,h2,_⟩|⟨j,v,h1,h2,_⟩
 ·rw[h2,h1]
 ·rw[h2,h1]
include hq in
theorem Ns{ms:List (α×DV)}(hn:(ms.map (·.1)).Nodup)(z:DV)(x:α):fO q z false (kE x) (some (fN kE ms))=some ((kK ms x).getD z):=by
 rw[tP hq hn];cases kK ms x<;>rfl
include hq in
theorem Ps{h:aA}{id:Nat}{ms:List (α×DV)}(hn:(ms.map (·.1)).Nodup)(hl:h.lim≤id)(x:α)(v:DV):Hk h q id (kE x) v (some (.mp (fN kE ms)))=some (h.set id (.mp (fN kE (tL x v ms)))):=by
 have he:(eY q (kE x) (kE x)).isSome=true:=by rw[hq];rfl
 have hh:(if x∈ms.map (·.1)then 1 else 0)≤1:=by split<;>omega
 simp only[Hk,he,hl,and_self,if_true,kZ,Kq hq x ms hn,if_pos hh]
 rcases Lb hq x ms 0 with⟨_,h2,h3⟩|⟨j,u,_,h2,h3⟩
 ·rw[h2,h3]
 ·rw[h2]
  simp only[Nat.zero_add]
  rw[h3]
theorem Ke{ms:List (α×DV)}{x:α}:x∈ms.map (·.1)↔∃ v,kK ms x=some v:=by
 induction ms with
 | nil=>simp[kK]
 | cons p r ih =>
  obtain⟨y,u⟩:=p
  by_cases h:y=x
  ·subst h
   simp[kK]
  ·have h':¬x=y:=fun e=>h e.symm
   have e1:kK ((y,u)::r) x=kK r x:=by simp[kK,h]
   rw[e1,←ih]
   simp[h']
end
theorem Fl(x y:Int):eY (.prim 1) (.int .i64 x) (.int .i64 y)=some (decide (y=x)):=by
 simp only[eY,fH,and_self,if_true]
 congr 1
 rw[Bool.eq_iff_iff,beq_iff_eq,decide_eq_true_iff]
 exact eq_comm
end Go.Dm.Tc
/-
Networks,part 1: pairs looked for;maps by pairs;rows put together.
-/
namespace Go.Dm.Tc
theorem YQ(t:Bool)(xs:List (Int×Int))(v:Int×Int)(h:aA)(hg:h.get 0=some (.arr 76 2 [aQ v] (some 1)))(hl:xs.length≤1000000) :
  ∀(rest:List (Int×Int)) (i:Nat) (f:dV),xs.drop i=rest→f 0=eL t 2 aQ xs→f 3=.ptr 0 2 0 0→f 7=.int .i64 xs.length→f 8=.int .i64 i →
  iK (fin [.t 4] (run D 19 [.block 0,.seq Wb] (.loop Ls) f h))=some (.int .i64 (lL ((rest.findIdx? fun x=>decide (v=x)).map (·+i)))):=by
 intro rest
 induction rest with
 | nil =>
  intro i f hd h0 h3 h7 h8
  have hi:=iB hd
  have:¬(i<xs.length):=by omega
  rw[aG Ls.eq_1]
  simp[Wb,h7,h8,this,lL]
 | cons e rest ih =>
  intro i f hd h0 h3 h7 h8
  obtain⟨hi,he,pE⟩:=jF hd
  have hq:(v.1 == e.1 && v.2 == e.2)=decide (v=e):=by
   obtain⟨a,b⟩:=v;obtain⟨c,d⟩:=e
   by_cases h1:a=c<;>by_cases h2:b=d<;>simp[h1,h2]
  rw[aG Ls.eq_1]
  by_cases hp:v=e
  ·rw[decide_eq_true hp]at hq
   simp[h0,h3,h7,h8,hi,he,aQ,hg,hq,lL,List.findIdx?_cons,hp]
  ·rw[decide_eq_false hp]at hq
   simp[h0,h3,h7,h8,hi,he,aQ,hg,hq]
   rw[bC (by omega) (by omega)]
   refine(ih (i+1) _ pE ?_ ?_ ?_ ?_).trans ?_<;>simp[h0,h3,h7,List.findIdx?_cons,hp]
   congr 2
   funext q
   simp
   omega
theorem XN(t:Bool)(xs:List (Int×Int))(v:Int×Int)(hl:xs.length≤1000000) :
  pcF D P0 [eL t 2 aQ xs,aQ v]=some (.int .i64 (lL (xs.findIdx? fun x=>decide (v=x)))):=by
 unfold pcF
 rw[aM _ _ _ _ (by simp[P0])]
 simp[P0,aQ]
 refine(YQ t xs v _ (by simp[aQ]) hl xs 0 _ rfl ?_ ?_ ?_ ?_).trans ?_<;>simp
theorem XO(t:Bool)(xs:List (Int×Int))(v:Int×Int)(hl:xs.length≤1000000) :
  pcF D P1 [eL t 2 aQ xs,aQ v]=some (.bool (decide (v∈xs))):=by
 have hi:=XN t xs v hl
 have hc:decide (0≤lL (xs.findIdx? fun x=>decide (v=x)))=decide (v∈xs):=by
  rw[Sy,Bool.eq_iff_iff,List.any_eq_true,decide_eq_true_iff]
  exact⟨fun⟨x,hx,h⟩=>by rw[of_decide_eq_true h];exact hx,fun h=>⟨v,h,by simp⟩⟩
 unfold pcF
 rw[aM _ _ _ _ (by simp[P1])]
 simp only[aQ]at hi
 simp[P1,aQ,ZA,hi,hc]
def kID(x:ID):DV:=.agg [.int .i64 x.bJ,.int .i64 x.seq]
def oY(ms:List (ID×DV)):List (DV×DV):=ms.map fun p=>(kID p.1,p.2)
def qG(ms:List (ID×DV))(x:ID):Option DV:=(ms.find? fun p=>decide (p.1=x)).map (·.2)
def vZ(x:ID)(v:DV):List (ID×DV)→List (ID×DV)
 | []=>[(x,v)]
 | p::r=>if p.1=x then(x,v)::r else p::vZ x v r
theorem uG(x y:ID):eY (.agg [1,1]) (kID x) (kID y)=some (decide (y=x)):=by
 have:=sJ x.bJ x.seq y
 rw[kID,kID,this]
 congr 1
 exact decide_eq_decide.2 ⟨fun h=>h.symm,fun h=>h.symm⟩
theorem Tn(x:ID):∀(ms:List (ID×DV)) (i:Nat),(qG ms x=none∧eU (.agg [1,1]) (kID x) (oY ms) i=some none∧∀w,oY (vZ x w ms)=oY ms++[(kID x,w)]) ∨
  (∃ j v,qG ms x=some v∧eU (.agg [1,1]) (kID x) (oY ms) i=some (some (i+j,v))∧∀w,(oY ms).set j (kID x,w)=oY (vZ x w ms)):=by
 intro ms
 induction ms with
 | nil=>intro i;exact .inl ⟨rfl,rfl,fun w=>rfl⟩
 | cons p r ih =>
  intro i
  obtain⟨y,u⟩:=p
  by_cases h:y=x
  ·subst h
   refine .inr ⟨0,u,by simp[qG],?_,fun w=>by simp[oY,vZ]⟩
   simp only[oY,List.map_cons,eU]
   rw[uG,decide_eq_true rfl]
   rfl
  ·have hf:eU (.agg [1,1]) (kID x) (oY ((y,u)::r)) i=eU (.agg [1,1]) (kID x) (oY r) (i+1):=by
    simp only[oY,List.map_cons,eU]
    rw[uG,decide_eq_false h]
   have hg:qG ((y,u)::r) x=qG r x:=by simp[qG,h]
   rw[hf,hg]
   rcases ih (i+1)with⟨h1,h2,h3⟩|⟨j,v,h1,h2,h3⟩
   ·exact .inl ⟨h1,h2,fun w=>by
     have:=h3 w
     simp only[vZ,if_neg h]
     simp only[oY,List.map_cons,List.cons_append]at this ⊢
     rw[this]⟩
   ·exact .inr ⟨j+1,v,h1,by rw[h2,show i+1+j=i+(j+1) by omega],fun w=>by
     have:=h3 w
     simp only[vZ,if_neg h]
     simp only[oY,List.map_cons,List.set_cons_succ]at this ⊢
     rw[this]⟩
theorem Ta(x:ID):∀(ms:List (ID×DV)),(ms.map (·.1)).Nodup→oK (.agg [1,1]) (kID x) (oY ms)=some (if x∈ms.map (·.1)then 1 else 0):=by
 intro ms
 induction ms with
 | nil=>intro _;rfl
 | cons p r ih =>
  intro hn
  obtain⟨y,u⟩:=p
  simp only[List.map_cons,List.nodup_cons]at hn
  have:=ih hn.2
  simp only[oY,List.map_cons,oK]at this ⊢
  rw[uG,this]
  by_cases h:y=x
  ·subst h
   simp[hn.1]
  ·have h':¬x=y:=fun e=>h e.symm
   by_cases h2:x∈r.map (·.1)
   ·simp[h,h2]
   ·simp[h,h',h2]
theorem Yv{ms:List (ID×DV)}(hn:(ms.map (·.1)).Nodup)(z:DV)(ok:Bool)(x:ID):fO (.agg [1,1]) z ok (kID x) (some (oY ms))=some (match qG ms x with|some v=>if ok then .tup [v,.bool true]else v|none=>if ok then .tup [z,.bool false]else z):=by
 have he:(eY (.agg [1,1]) (kID x) (kID x)).isSome=true:=by rw[uG];rfl
 have hh:(if x∈ms.map (·.1)then 1 else 0)≤1:=by split<;>omega
 simp only[fO,he,if_true,kZ,Ta x ms hn,if_pos hh]
 rcases Tn x ms 0 with⟨h1,h2,_⟩|⟨j,v,h1,h2,_⟩
 ·rw[h2,h1]
 ·rw[h2,h1]
theorem tQ{ms:List (ID×DV)}(hn:(ms.map (·.1)).Nodup)(z:DV)(x:ID):fO (.agg [1,1]) z false (kID x) (some (oY ms))=some ((qG ms x).getD z):=by
 rw[Yv hn];cases qG ms x<;>rfl
theorem D8{h:aA}{id:Nat}{ms:List (ID×DV)}(hn:(ms.map (·.1)).Nodup)(hl:h.lim≤id)(x:ID)(v:DV):Hk h (.agg [1,1]) id (kID x) v (some (.mp (oY ms)))=some (h.set id (.mp (oY (vZ x v ms)))):=by
 have he:(eY (.agg [1,1]) (kID x) (kID x)).isSome=true:=by rw[uG];rfl
 have hh:(if x∈ms.map (·.1)then 1 else 0)≤1:=by split<;>omega
 simp only[Hk,he,hl,and_self,if_true,kZ,Ta x ms hn,if_pos hh]
 rcases Tn x ms 0 with⟨_,h2,h3⟩|⟨j,u,_,h2,h3⟩
 ·rw[h2,h3]
 ·rw[h2]
  simp only[Nat.zero_add]
  rw[h3]
theorem GF(x:ID)(v:DV)(ms:List (ID×DV)):(vZ x v ms).map (·.1)=if x∈ms.map (·.1)then ms.map (·.1)else ms.map (·.1)++[x]:=by
 induction ms with
 | nil=>rfl
 | cons p r ih =>
  obtain⟨y,u⟩:=p
  by_cases h:y=x
  ·subst h;simp[vZ]
  ·have h':¬x=y:=fun e=>h e.symm
   simp only[vZ,if_neg h,List.map_cons,ih,List.mem_cons,h',false_or]
   split<;>simp
theorem V1{x:ID}{v:DV}{ms:List (ID×DV)}(hn:(ms.map (·.1)).Nodup):((vZ x v ms).map (·.1)).Nodup:=by
 rw[GF]
 split
 ·exact hn
 ·rename_i h
  exact List.nodup_append.2 ⟨hn,by simp,fun a ha b hb e=>h (by rw[List.mem_singleton.1 hb]at e;exact e ▸ ha)⟩
theorem ML(x y:ID)(v:DV)(ms:List (ID×DV)):qG (vZ x v ms) y=if x=y then some v else qG ms y:=by
 induction ms with
 | nil =>
  by_cases h:x=y<;>simp[vZ,qG,h]
 | cons p r ih =>
  obtain⟨z,u⟩:=p
  by_cases h:z=x
  ·subst h
   by_cases h2:z=y<;>simp[vZ,qG,h2]
  ·simp only[vZ,if_neg h]
   by_cases h2:z=y
   ·subst h2
    have:¬x=z:=fun e=>h e.symm
    simp[qG,this]
   ·have e1:∀l,qG ((z,u)::l) y=qG l y:=fun l=>by simp[qG,h2]
    rw[e1,e1];exact ih
theorem IQ(a:Att):Unl 20 (MW a):=(Db (k:=1) (by
  intro x hx;simp only[List.mem_cons,List.not_mem_nil,or_false]at hx
  rcases hx with rfl|rfl|rfl|rfl<;>first|exact iZ _ _|exact D9 _|exact Pt _)).mono (by decide)
theorem Jw(m : Msg) : kG 20 (kA m) ∧ Unl 22 (kA m) :=
  ⟨(uB (k := 1) (by
    intro x hx; simp only[List.mem_cons, List.not_mem_nil, or_false]at hx
    rcases hx with rfl | rfl | rfl | rfl | rfl | rfl | rfl <;> first | exact gU _ _ | exact dR _ _ _ _)).mono (by decide),
   Db (k := 21) (by
    intro x hx; simp only[List.mem_cons, List.not_mem_nil, or_false]at hx
    rcases hx with rfl | rfl | rfl | rfl | rfl | rfl | rfl
    · exact(iZ _ _).mono (by decide)
    · exact(iZ _ _).mono (by decide)
    · exact(iZ _ _).mono (by decide)
    · exact(iZ _ _).mono (by decide)
    · exact(iZ _ _).mono (by decide)
    · exact qN _
    · exact kP (k := 20) fun x _ => IQ x)⟩
def xZ(v:DV)(l:List Msg):Prop:=(v=.nsl∧l=[])∨∃ sz,v=.isl false sz (l.map kA)∧(sz=7∨l=[])
theorem xZ.res{v:DV}{l:List Msg}(r:xZ v l)(tag:Bool)(h:aA)(n:Nat):resolve tag h (n+1) v=some (eL false 7 kA l):=by
 rcases r with⟨rfl,rfl⟩|⟨sz,rfl,hs⟩
 ·rfl
 ·cases l with
  | nil=>rfl
  | cons x r=>rcases hs with rfl|hs;rfl;cases hs
theorem xZ.len{v:DV}{l:List Msg}(r:xZ v l)(h:aA):lenV h 1 v=some (.int .i64 l.length):=by
 rcases r with⟨rfl,rfl⟩|⟨sz,rfl,hs⟩
 ·rfl
 ·simp[lenV]
theorem xZ.one{v:DV}{l:List Msg}(r:xZ v l):aO 1 v=true:=by
 rcases r with⟨rfl,rfl⟩|⟨sz,rfl,hs⟩<;>rfl
theorem xZ.ec{v:DV}{l:List Msg}(r:xZ v l):aF 1 v=[v]:=by
 rcases r with⟨rfl,rfl⟩|⟨sz,rfl,hs⟩<;>rfl
theorem xZ.eL(l:List Msg):xZ (eL false 7 kA l) l:=by
 cases l with
 | nil=>exact .inr ⟨0,rfl,.inr rfl⟩
 | cons x r=>exact .inr ⟨7,rfl,.inl rfl⟩
end Go.Dm.Tc
/-
Networks,part 2: rows of messages put together;queues as they lie;a message pushed.
-/
namespace Go.Dm.Tc
theorem XW(n:Nat)(h:aA)(hn:0<n)(hb:n≤1000000) :
  fc D 169 [.nsl,.int .i64 n] h=some (.sl h.n 7 0 0,h.push (.arr 52 7 (List.replicate n (.agg [.int .i64 0,.int .i64 0,.int .i64 0,.int .i64 0,.int .i64 0,.nsl,.nsl])) none)):=by
 have h1:¬(n:Int)<0:=by omega
 have h2:(0:Int)<n:=by omega
 have h3:(n:Int)≤140737488355328:=by omega
 have hw:IntKind.i64.wrap (n:Int)=n:=bC (by omega) (by omega)
 have hc:B7 h .nsl=some (.int .i64 0):=rfl
 have hsn:fB h 7 .nsl none (some (.int .i64 0))=some .nsl:=rfl
 have hA:bB h 52 7 88 .nsl (List.replicate n (.agg [.int .i64 0,.int .i64 0,.int .i64 0,.int .i64 0,.int .i64 0,.nsl,.nsl]))=some (.sl h.n 7 0 n,h.push (.arr 52 7 (List.replicate n (.agg [.int .i64 0,.int .i64 0,.int .i64 0,.int .i64 0,.int .i64 0,.nsl,.nsl])) none)):=by
  have cS:(List.replicate n (DV.agg [.int .i64 0,.int .i64 0,.int .i64 0,.int .i64 0,.int .i64 0,.nsl,.nsl])).isEmpty=false:=by
   cases n with
   | zero=>omega
   | succ n=>rfl
  simp only[bB,cS,Bool.false_eq_true,if_false,List.length_replicate]
  rw[if_pos ⟨by omega,by omega⟩]
 rw[WO,aM _ _ _ _ (by simp[Wc])]
 simp[Wc,h1,hn,hw,hc,hsn,h3,hA]
theorem T4(h:aA):fc D 169 [.nsl,.int .i64 0] h=some (.nsl,h):=by
 have hc:B7 h .nsl=some (.int .i64 0):=rfl
 have hw:IntKind.i64.wrap (0:Int)=0:=rfl
 rw[WO,aM _ _ _ _ (by simp[Wc])]
 simp[Wc,hc,hw]
theorem Cn{h:aA}{id ety sz bytes k:Nat}{xs ys sp:List DV}(g:h.get id=some (.arr ety sz (xs++sp) none))(hl:h.lim≤id)(hk:k=xs.length)(hs:ys.length≤sp.length)(hb:(xs.length+sp.length)*bytes≤140737488355328)(hb2:xs.length+sp.length≤1000000000) :
  bB h ety sz bytes (.sl id sz 0 k) ys=some (.sl id sz 0 (k+ys.length),h.set id (.arr ety sz (xs++ys++sp.drop ys.length) none)):=by
 subst hk
 have hm:(xs.length+ys.length)*bytes≤(xs.length+sp.length)*bytes:=Nat.mul_le_mul_right _ (by omega)
 by_cases hy:ys=[]
 ·subst hy
  have wA:h.set id (.arr ety sz (xs++sp) none)=h:=by
   have aZ:=aC g
   unfold aA.get at g
   rw[if_pos aZ]at g
   unfold aA.set
   have:h.objs.set (h.n-1-id) (.arr ety sz (xs++sp) none)=h.objs:=by
    apply List.ext_getElem?
    intro j
    rw[List.getElem?_set]
    by_cases e:h.n-1-id=j
    ·subst e
     rw[if_pos rfl]
     split
     ·exact g.symm
     ·rename_i hh;rw[List.getElem?_eq_none (by omega)]
    ·rw[if_neg e]
   rw[this]
  simp[bB,wA]
 ·have Ij:ys.isEmpty=false:=by cases ys<;>simp_all
  simp only[bB,Ij,Bool.false_eq_true,if_false,g,true_and,Nat.zero_add]
  rw[if_pos ⟨by simp,by omega,by omega⟩,if_pos (by simp;omega),if_pos hl]
  simp[cF]
theorem XQ(ta tb tc:Bool)(a b:List Msg)(ha:a.length≤400000)(hb:b.length≤400000) :
  pcF D P3 [.isl tc 1 [eL ta 7 kA a,eL tb 7 kA b]]=some (eL false 7 kA (a++b)):=by
 have i0:aR 1 (.isl tc 1 [eL ta 7 kA a,eL tb 7 kA b]) (.int .i64 0)=some (.iptr tc [eL ta 7 kA a] 0):=by simp[aR,asI,vO]
 have i1:aR 1 (.isl tc 1 [eL ta 7 kA a,eL tb 7 kA b]) (.int .i64 1)=some (.iptr tc [eL tb 7 kA b] 0):=by simp[aR,asI,vO]
 have w0:IntKind.i64.wrap ((a.length:Int))=a.length:=bC (by omega) (by omega)
 have w1:IntKind.i64.wrap ((a.length:Int)+b.length)=a.length+b.length:=bC (by omega) (by omega)
 have w2:IntKind.i64.wrap (1:Int)=1:=rfl
 have w3:IntKind.i64.wrap (2:Int)=2:=rfl
 have n0:¬(a.length:Int)<0:=by omega
 have n1:¬(a.length:Int)+b.length<0:=by omega
 unfold pcF
 rw[aM _ _ _ _ (by simp[P3])]
 simp[P3]
 rw[aG Lu.eq_1]
 simp[i0,w0,n0,w2]
 rw[aG Lu.eq_1]
 simp[i1,w1,n1,w3]
 rw[aG Lu.eq_1]
 by_cases hz:a.length+b.length=0
 ·have hA:a=[]:=List.length_eq_zero_iff.1 (by omega)
  have hB:b=[]:=List.length_eq_zero_iff.1 (by omega)
  subst hA;subst hB
  have hg:=T4
  have hn:∀h,bB h 52 7 88 .nsl []=some (.nsl,h):=fun h=>rfl
  simp[We,hg]
  rw[aG wX.eq_1]
  simp[i0,hn,w2]
  rw[aG wX.eq_1]
  simp[i1,hn,w3]
  rw[aG wX.eq_1]
  simp[Wf]
  rfl
 ·have hg:=fun h=>XW (a.length+b.length) h (by omega) (by omega)
  simp only[Int.natCast_add]at hg
  simp[We,hg]
  rw[aG wX.eq_1]
  generalize RV:DV.agg [.int .i64 0,.int .i64 0,.int .i64 0,.int .i64 0,.int .i64 0,.nsl,.nsl]=z0
  generalize hH:aA.push _ _=H
  have hHg:H.get 0=some (.arr 52 7 ([]++List.replicate (a.length+b.length) z0) none):=by rw[←hH];simp
  have hHl:H.lim=0:=by rw[←hH];simp
  have hHw:WF H:=by rw[←hH];simp
  have A1:=Cn (bytes:=88) (ys:=a.map kA) (k:=0) hHg (by omega) rfl (by simp) (by simp;omega) (by simp;omega)
  simp at A1
  simp[i0,A1,w2]
  rw[aG wX.eq_1]
  generalize hK:aA.set _ _ _=K
  have hKg:K.get 0=some (.arr 52 7 (a.map kA++List.replicate b.length z0) none):=by rw[←hK];simp[hHw,aC hHg]
  have hKl:K.lim=0:=by rw[←hK];simp[hHl]
  have hKw:WF K:=by rw[←hK];simp[hHw]
  have A2:=Cn (bytes:=88) (ys:=b.map kA) (k:=a.length) hKg (by omega) (by simp) (by simp) (by simp;omega) (by simp;omega)
  simp at A2
  simp[i1,A2,w3]
  rw[aG wX.eq_1]
  simp[Wf,-fX]
  have aZ:=aC hKg
  have w:OwnR 0 (K.set 0 (.arr 52 7 (a.map kA++b.map kA) none)) (.sl 0 7 0 (a.length+b.length)) 52 7 ((a++b).map kA) :=
   .arr 0 [] none (by simp) (by rw[Fy hKw aZ];simp) (by show K.lim≤0;omega) (Nat.le_refl _)
  exact w.out (fun y _=>(Jw y).1.mono (by decide)) (fun y _=>(Jw y).2) (k:=22) (by decide)
structure N4(ms:List (ID×DV))(W:ID→List Msg):Prop where
 nd:(ms.map (·.1)).Nodup
 row:∀x,xZ ((qG ms x).getD .nsl) (W x)
def vY(W:ID→List Msg)(x:ID)(l:List Msg):ID→List Msg:=fun y=>if x=y then l else W y
theorem N4.put{ms:List (ID×DV)}{W:ID→List Msg}(r:N4 ms W)(x:ID){v:DV}{l:List Msg}(hv:xZ v l):N4 (vZ x v ms) (vY W x l):=by
 refine⟨V1 r.nd,fun y=>?_⟩
 rw[ML,vY]
 by_cases h:x=y
 ·rw[if_pos h,if_pos h];exact hv
 ·rw[if_neg h,if_neg h];exact r.row y
def qO(ways:List (Int×Int))(wid:Nat):DO:=.arr 179 2 [.agg [eL false 2 aQ ways,.map wid]] (some 1)
structure QAt(h:aA)(q wid:Nat)(ways:List (Int×Int))(W:ID→List Msg):Prop where
 gq:h.get q=some (qO ways wid)
 gw:∃ ms,h.get wid=some (.mp (oY ms))∧N4 ms W
 lw:h.lim≤wid
 lq:h.lim≤q
structure Upd(h h':aA)(F F':List Nat):Prop where
 n:h.n≤h'.n
 lim:h'.lim=h.lim
 wf:WF h'
 old:∀i,i<h.n→i ∉ F→h'.get i=h.get i
 fp:∀i∈F',i∈F∨h.n≤i
theorem Upd.refl{h:aA}(w:WF h)(F:List Nat):Upd h h F F:=⟨Nat.le_refl _,rfl,w,fun _ _ _=>rfl,fun _ hi=>.inl hi⟩
theorem Upd.trans{a b c : aA}{F G H : List Nat}(x : Upd a b F G)(y : Upd b c G H) : Upd a c F H :=
  ⟨Nat.le_trans x.n y.n, y.lim.trans x.lim, y.wf, fun i hi hn => (y.old i (Nat.lt_of_lt_of_le hi x.n) (fun hg => (x.fp i hg).elim hn (fun h => by omega))).trans (x.old i hi hn),
   fun i hi => (y.fp i hi).elim (fun hg => x.fp i hg) (fun h => .inr (Nat.le_trans x.n h))⟩
theorem Upd.push{a b:aA}{F G:List Nat}(x:Upd a b F G)(o:DO):Upd a (b.push o) F G :=
 ⟨Nat.le_succ_of_le x.n,x.lim,x.wf.push,fun i hi hn=>by rw[aN (Nat.lt_of_lt_of_le hi x.n)];exact x.old i hi hn,x.fp⟩
theorem Upd.set{a b:aA}{F G:List Nat}(x:Upd a b F G){i:Nat}{o:DO}(hi:i∈F∨a.n≤i)(hb:i<b.n):Upd a (b.set i o) F G :=
 ⟨x.n,x.lim,x.wf.set,fun j hj hn=>by rw[aT hb (fun e=>hi.elim (fun h=>hn (by rw[e];exact h)) (fun h=>by omega))];exact x.old j hj hn,x.fp⟩
theorem Upd.mono{a b:aA}{F G:List Nat}(x:Upd a b F F)(h:∀i∈F,i∈G):Upd a b G G :=
 ⟨x.n,x.lim,x.wf,fun i hi hn=>x.old i hi (fun hf=>hn (h i hf)),fun _ hi=>.inl hi⟩
theorem QAt.old{h h':aA}{q wid:Nat}{ways:List (Int×Int)}{W:ID→List Msg}(Q:QAt h q wid ways W)(hl:h'.lim=h.lim)(h1:h'.get q=h.get q)(h2:h'.get wid=h.get wid):QAt h' q wid ways W :=
 ⟨by rw[h1];exact Q.gq,by rw[h2];exact Q.gw,by rw[hl];exact Q.lw,by rw[hl];exact Q.lq⟩
theorem QAt.ne{h:aA}{q wid:Nat}{ways:List (Int×Int)}{W:ID→List Msg}(Q:QAt h q wid ways W):q≠wid:=fun e=>by
 obtain⟨ms,g,_⟩:=Q.gw
 have:=Q.gq
 rw[e,g]at this
 cases this
theorem XX{h:aA}{q wid:Nat}{ways:List (Int×Int)}{W:ID→List Msg}(Q:QAt h q wid ways W)(hw:ways.length≤1000000)(u v:Int) :
  fc D 140 [.ptr q 2 0 0,.int .i64 u,.int .i64 v] h=some (.bool (decide ((u,v)∈ways)),h):=by
 have hc:=XO false ways (u,v) hw
 simp only[aQ]at hc
 have gq:=Q.gq
 simp only[qO]at gq
 rw[ZD,aM _ _ _ _ (by simp[CT])]
 simp[CT,gq,ZB,hc]
theorem YA{h:aA}{q wid mid:Nat}{ways:List (Int×Int)}{W:ID→List Msg}(Q:QAt h q wid ways W)(wf:WF h)(hw:ways.length≤1000000){u v:Int}(Fw:(u,v)∈ways){m:Msg}{e0:DV}{cap:Option Nat}(hm:h.get mid=some (.arr 52 7 [e0] cap))(he:∀n tag h,resolve tag h (n+2) e0=some (kA m))(hl:(W ⟨u,v⟩).length≤300000) :
  ∃ h',fc D 107 [.ptr q 2 0 0,.int .i64 u,.int .i64 v,.sl mid 7 0 1] h=some (.nili,h')∧QAt h' q wid ways (vY W ⟨u,v⟩ (W ⟨u,v⟩++[m]))∧Upd h h' [q,wid] [q,wid]:=by
 have hway:=XX Q hw u v
 rw[decide_eq_true Fw]at hway
 obtain⟨ms,gw,r⟩:=Q.gw
 have gq:=Q.gq
 have hqw:=Q.ne
 have OD:=Q.lw
 simp only[qO]at gq
 have Fs:h.lim≤h.n:=by have:=Q.lq;have:=aC gq;omega
 have hlm1:h.lim≤h.n+1:=by omega
 have zF:fO (.agg [1,1]) .nsl false (.agg [.int .i64 u,.int .i64 v]) (some (oY ms))=_:=tQ r.nd .nsl ⟨u,v⟩
 have Pj:=fun(H:aA) (hl:H.lim≤wid) (x:DV)=>D8 (h:=H) (id:=wid) r.nd hl ⟨u,v⟩ x
 simp only[kID]at Pj
 have eW:=r.row ⟨u,v⟩
 generalize (qG ms ⟨u,v⟩).getD .nsl=v0 at zF eW
 have hC:=XQ false true true (W ⟨u,v⟩) [m] (by omega) (by simp)
 simp only[pY,List.map_nil]at hC
 have cX:=eW.one
 have hec:=eW.ec
 have X6:∀H n,resolve true H (n+1) v0=some (eL false 7 kA (W ⟨u,v⟩)):=fun H n=>eW.res true H n
 have lq:=aC gq
 have lw:=aC gw
 have lm:=aC hm
 have lw1:wid<h.n+1:=by omega
 have nq:¬q=h.n:=by omega
 have nw:¬wid=h.n:=by omega
 have nm:¬mid=h.n:=by omega
 have nq1:¬q=h.n+1:=by omega
 have nw1:¬wid=h.n+1:=by omega
 have nm1:¬mid=h.n+1:=by omega
 rw[ZH,aM _ _ _ _ (by simp[CV])]
 simp[CV,hway,gq,gw,nq,nw,wf,turn,eI,fT,zF,cX,hec,Fs,hlm1,ZC,X6,he,hm,nm,nm1,hC,nw1,nq1,kI,Pj,OD,lw,lw1,mkIsl]
 refine⟨⟨?_,⟨_,?_,r.put ⟨u,v⟩ (xZ.eL _)⟩,OD,Q.lq⟩,(((Upd.refl wf _).set (.inl (by simp)) lw).push _).push _⟩
 ·have cS:¬q=wid:=hqw
  simp[qO,nq,nq1,cS,wf,lw,gq]
 ·simp[nw,nw1,wf,lw]
end Go.Dm.Tc
/-
Networks,part 3: the first message that waits;where something waits.
-/
namespace Go.Dm.Tc
theorem QN(H:aA)(t:Bool)(sz:Nat)(x:DV)(xs:List DV):fB H sz (.isl t sz (x::xs)) (some (.int .i64 1)) none=some (.isl t sz xs):=by
 simp only[fB,true_or,if_true,uO]
 have:cG (some (.int .i64 1)) 0 (x::xs).length=some 1:=by
  simp[cG,asI]
  omega
 rw[this]
 simp
theorem RR(t:Bool)(sz:Nat)(x:DV)(xs:List DV):aR sz (.isl t sz (x::xs)) (.int .i64 0)=some (.iptr t (aF sz x) 0):=by simp[aR,asI]
theorem q62{h:aA}{q wid:Nat}{ways:List (Int×Int)}{W:ID→List Msg}(Q:QAt h q wid ways W)(wf:WF h){u v:Int}{m:Msg}{r:List Msg}(hm:W ⟨u,v⟩=m::r) :
  ∃ h',fc D 62 [.ptr q 2 0 0,.int .i64 u,.int .i64 v] h=some (.tup [kA m,.nili],h')∧QAt h' q wid ways (vY W ⟨u,v⟩ r)∧Upd h h' [q,wid] [q,wid]:=by
 obtain⟨ms,gw,rr⟩:=Q.gw
 have gq:=Q.gq
 have hqw:=Q.ne
 have OD:=Q.lw
 simp only[qO]at gq
 have Fs:h.lim≤h.n:=by have:=Q.lq;have:=aC gq;omega
 have hlm1:h.lim≤h.n+1:=by omega
 have zF:fO (.agg [1,1]) .nsl false (.agg [.int .i64 u,.int .i64 v]) (some (oY ms))=_:=tQ rr.nd .nsl ⟨u,v⟩
 have Pj:=fun(H:aA) (hl:H.lim≤wid) (x:DV)=>D8 (h:=H) (id:=wid) rr.nd hl ⟨u,v⟩ x
 simp only[kID]at Pj
 have eW:=rr.row ⟨u,v⟩
 rw[hm]at eW
 generalize (qG ms ⟨u,v⟩).getD .nsl=v0 at zF eW
 obtain⟨sz,rfl,hs⟩:∃ sz,v0=.isl false sz ((m::r).map kA)∧sz=7:=by
  rcases eW with⟨_,h⟩|⟨sz,h1,h2⟩
  ·cases h
  ·exact⟨sz,h1,h2.resolve_right (by simp)⟩
 subst hs
 have lq:=aC gq
 have lw:=aC gw
 have nq:¬q=h.n:=by omega
 have nw:¬wid=h.n:=by omega
 have nq1:¬q=h.n+1:=by omega
 have nw1:¬wid=h.n+1:=by omega
 have lw1:wid<h.n+1:=by omega
 have hz:¬((r.length:Int)+1=0):=by omega
 rw[e62,aM _ _ _ _ (by simp[t62])]
 simp[t62,gq,gw,nq,nw,nq1,nw1,wf,turn,eI,fT,zF,Fs,hlm1,hz,kI,Pj,OD,lw,lw1,kA,QN,RR,aV]
 refine⟨⟨?_,⟨_,?_,rr.put ⟨u,v⟩ (.inr ⟨7,rfl,.inl rfl⟩)⟩,OD,Q.lq⟩,(((Upd.refl wf _).set (.inl (by simp)) lw).push _).push _⟩
 ·have cS:¬q=wid:=hqw
  simp[qO,nq,nq1,cS,wf,lw,gq]
 ·simp[nw,nw1,wf,lw]
def iU(W:ID→List Msg)(ways:List (Int×Int)):List (Int×Int):=ways.filter fun w=>!(W ⟨w.1,w.2⟩).isEmpty
theorem xZ.lenV{v:DV}{l:List Msg}(r:xZ v l)(h:aA):Dm.lenV h 1 v=some (.int .i64 l.length):=by
 rcases r with⟨rfl,rfl⟩|⟨sz,rfl,_⟩
 ·rfl
 ·simp[Dm.lenV]
theorem l59(P:Res→Prop){h0:aA}{q wid:Nat}{ways:List (Int×Int)}{W:ID→List Msg}(Q:QAt h0 q wid ways W)(hL:ways.length≤1000000) :
  ∀(rest mU:List (Int×Int)) (i:Nat) (f:dV) (h:aA),ways.drop i=rest→mU.length≤i→f 0=.ptr q 2 0 0→f 9=eL false 2 aQ ways→f 10=.int .i64 ways.length→f 11=.int .i64 i→OwnR h0.n h (f 3) 76 2 (mU.map aQ)→Ext h0.n h0 h →
  (∀F H,OwnR h0.n H (F 3) 76 2 ((mU++iU W rest).map aQ)→Ext h0.n h0 H→P (run D 29 [] E8 F H)) →
  P (run D 29 [.block 0,.seq E8] (.loop E7) f h):=by
 intro rest
 induction rest with
 | nil =>
  intro mU i f h hd ha SL h9 wR Kv ho hx cQ
  have hi:=iB hd
  have:¬(i<ways.length):=by omega
  rw[aG E7.eq_1]
  simp[wR,Kv,this]
  exact cQ _ _ (by simpa[iU]using ho) hx
 | cons l rest ih =>
  intro mU i f h hd ha SL h9 wR Kv ho hx cQ
  obtain⟨hi,he,pE⟩:=jF hd
  obtain⟨ms,gw,r⟩:=Q.gw
  have gq:=Q.gq
  have lq:=aC gq
  have lw:=aC gw
  have OH:=(hx.get q lq).trans gq
  have hgw:=(hx.get wid lw).trans gw
  have bH:=hx.lim
  have hq:=Q.lq
  have hnh:=hx.le
  simp only[qO]at OH
  have nq:¬q=h.n:=by omega
  have nw:¬wid=h.n:=by omega
  have hw:IntKind.i64.wrap ((i:Int)+1)=(i:Int)+1:=bC (by omega) (by omega)
  obtain⟨u,v⟩:=l
  have zF:fO (.agg [1,1]) .nsl false (.agg [.int .i64 u,.int .i64 v]) (some (oY ms))=_:=tQ r.nd .nsl ⟨u,v⟩
  have eW:=r.row ⟨u,v⟩
  generalize (qG ms ⟨u,v⟩).getD .nsl=v0 at zF eW
  have bY:=fun h=>eW.lenV h
  have wfh:=hx.wf
  have Fs:h.lim≤h.n:=by omega
  rw[aG E7.eq_1]
  by_cases hc:W ⟨u,v⟩=[]
  ·have hB:iU W ((u,v)::rest)=iU W rest:=by simp[iU,hc]
   rw[hB]at cQ
   rw[hc]at bY
   simp[SL,h9,wR,Kv,hi,he,aQ,Fs,OH,hgw,nq,nw,wfh,turn,eI,fT,zF,bY,hw]
   generalize hF:upd _ 11 _=F
   exact ih mU (i+1) F _ pE (by omega) (by rw[←hF];simp[SL]) (by rw[←hF];simp[h9]) (by rw[←hF];simp[wR]) (by rw[←hF];simp) (by rw[←hF];simp;exact ho.push) hx.push cQ
  ·have hB:iU W ((u,v)::rest)=(u,v)::iU W rest:=by simp[iU,hc]
   have hp:0<(W ⟨u,v⟩).length:=List.length_pos_iff.2 hc
   rw[hB,List.append_cons]at cQ
   simp[SL,h9,wR,Kv,hi,he,aQ,Fs,OH,hgw,nq,nw,wfh,turn,eI,fT,zF,bY,hp]
   generalize hA:bB _ _ _ _ _ _=A
   obtain⟨w',h',rfl,zY,oH,_⟩:=ho.push.push.append hx.push.push.wf (hx.push.push.le) (by simp[bH];omega) hA (by simp;omega) (by decide)
   clear hA
   simp[Kv,hw]
   generalize hF:upd _ 11 _=F
   refine ih (mU++[(u,v)]) (i+1) F h' pE (by simp;omega) (by rw[←hF];simp[SL]) (by rw[←hF];simp[h9]) (by rw[←hF];simp[wR]) (by rw[←hF];simp) (by rw[←hF];simp;simpa[aQ]using zY) (hx.push.push.trans oH) cQ
theorem q59{h:aA}{q wid:Nat}{ways:List (Int×Int)}{W:ID→List Msg}(Q:QAt h q wid ways W)(wf:WF h)(hL:ways.length≤1000000) :
  ∃ v h',fc D 59 [.ptr q 2 0 0] h=some (v,h')∧OwnR h.n h' v 76 2 ((iU W ways).map aQ)∧Ext h.n h h':=by
 have gq:=Q.gq
 have lq:=aC gq
 simp only[qO]at gq
 rw[e59,aM _ _ _ _ (by simp[t59])]
 simp[t59,gq]
 generalize hF:upd _ 11 _=F
 refine l59 (fun r=>∃ v h',fin [.t 2] r=some (v,h')∧OwnR h.n h' v 76 2 ((iU W ways).map aQ)∧Ext h.n h h') Q hL ways [] 0 F h rfl (Nat.zero_le _) (by rw[←hF];simp) (by rw[←hF];simp) (by rw[←hF];simp) (by rw[←hF];simp) (by rw[←hF];simp;exact .start _ _ _ _) (.refl (Nat.le_refl _) wf) fun F K o x=>?_
 rw[List.nil_append]at o
 refine⟨F 3,K,?_,o,x⟩
 simp[E8]
end Go.Dm.Tc
