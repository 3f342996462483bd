/- A part of the proof. -/
import Derived.Test.YtfkbogedodngeaaGreatDoorMs1
set_option linter.all false
set_option maxRecDepth 100000
namespace Go.Dm.Tc
def eJ(m:Int)(L:List (Int×Int))(b:Int):List Int:=((List.range m.toNat).map fun i:Nat=>(i:Int)).filter fun x=>cU m L b x
theorem sW(m:Int)(L:List (Int×Int))(b:Int):gI (eJ m L b):=by
 unfold eJ gI
 refine List.Pairwise.filter _ ?_
 rw[List.pairwise_map]
 exact List.pairwise_lt_range.imp fun h=>by omega
theorem dP{m:Int}{L:List (Int×Int)}{a b:Int}(h:cU m L a b=true):(0≤a∧a<m)∧(0≤b∧b<m)∧a≠b:=by
 unfold cU at h
 rw[List.any_eq_true]at h
 obtain⟨l,_,h2⟩:=h
 rw[Bool.and_eq_true,Bool.or_eq_true]at h2
 have hm:=of_decide_eq_true h2.1
 rcases h2.2 with h3|h3<;>(have h4:=of_decide_eq_true h3;obtain⟨e1,e2⟩:=h4;refine⟨⟨?_,?_⟩,⟨?_,?_⟩,?_⟩<;>omega)
theorem pC{m:Int}{L:List (Int×Int)}{b x:Int}:x∈eJ m L b↔cU m L b x=true:=by
 unfold eJ
 rw[List.mem_filter]
 constructor
 ·exact fun h=>h.2
 ·intro h
  have hr:=dP h
  refine⟨List.mem_map.2 ⟨x.toNat,List.mem_range.2 (by omega),by omega⟩,h⟩
theorem Bh:∀{l k:List Int},gI l→gI k→(∀x,x∈l↔x∈k)→l=k
 | [],[],_,_,_=>rfl
 | [],y::k,_,_,h=>by have:=(h y).2 (List.mem_cons_self ..);cases this
 | x::l,[],_,_,h=>by have:=(h x).1 (List.mem_cons_self ..);cases this
 | x::l,y::k,hl,hk,h=>by
  obtain⟨h1,h2⟩:=List.pairwise_cons.1 hl
  obtain⟨g1,g2⟩:=List.pairwise_cons.1 hk
  have e:x=y:=by
   rcases List.mem_cons.1 ((h x).1 (List.mem_cons_self ..))with e|hx
   ·exact e
   ·rcases List.mem_cons.1 ((h y).2 (List.mem_cons_self ..))with e|hy
    ·exact e.symm
    ·have:=h1 y hy;have:=g1 x hx;omega
  subst e
  rw[Bh h2 g2 fun z=>?_]
  constructor
  ·intro hz
   rcases List.mem_cons.1 ((h z).1 (List.mem_cons_of_mem _ hz))with rfl|hz'
   ·have:=h1 z hz;omega
   ·exact hz'
  ·intro hz
   rcases List.mem_cons.1 ((h z).2 (List.mem_cons_of_mem _ hz))with rfl|hz'
   ·have:=g1 z hz;omega
   ·exact hz'
theorem RG(t:Bool){m:Int}(b:Int){L:List (Int×Int)}(ok:bR m L)(h0:0≤m)(h7:m≤12)(hL:L.length≤1000000):pcF D t76 [.agg [.int .i64 m,eL t 2 aV L],.int .i64 b]=some (eL false 1 bW (eJ m L b)):=by
 obtain⟨N,h1,h2,h3,_⟩:=s76 t m b L hL (ok.bB h0 h7 b)
 rw[h1,Bh h2 (sW m L b) fun x=>by rw[h3,Bs,pC]]
def nW(d:Int):List Int→List (Int×Int)→List (Int×Int)
 | [],K=>K
 | b::r,K=>if b∈K.map (·.1)then nW d r K else nW d r (K++[(b,d+1)])
def bfs(N:Int→List Int):Nat→Nat→List (Int×Int)→List (Int×Int)
 | 0,_,K=>K
 | n+1,i,K=>match K[i]? with
  | some p=>bfs N n (i+1) (nW p.2 (N p.1) K)
  | none=>K
theorem Im(d:Int):∀(l:List Int) (K:List (Int×Int)),∃ R,nW d l K=K++R∧(∀p∈R,p.2=d+1∧p.1∈l)∧(∀b∈l,b∈(nW d l K).map (·.1))
 | [],K=>⟨[],by simp[nW],by simp,by simp⟩
 | b::r,K=>by
  unfold nW
  split
  ·rename_i hb
   obtain⟨R,h1,h2,h3⟩:=Im d r K
   refine⟨R,h1,fun p hp=>⟨(h2 p hp).1,List.mem_cons_of_mem _ (h2 p hp).2⟩,fun x hx=>?_⟩
   rcases List.mem_cons.1 hx with rfl|hx
   ·rw[h1,List.map_append];exact List.mem_append_left _ hb
   ·exact h3 x hx
  ·rename_i hb
   obtain⟨R,h1,h2,h3⟩:=Im d r (K++[(b,d+1)])
   refine⟨(b,d+1)::R,by rw[h1];simp,fun p hp=>?_,fun x hx=>?_⟩
   ·rcases List.mem_cons.1 hp with rfl|hp
    ·exact⟨rfl,List.mem_cons_self ..⟩
    ·exact⟨(h2 p hp).1,List.mem_cons_of_mem _ (h2 p hp).2⟩
   ·rcases List.mem_cons.1 hx with rfl|hx
    ·rw[h1];simp
    ·exact h3 x hx
theorem yW(d:Int):∀(l:List Int) (K:List (Int×Int)),(K.map (·.1)).Nodup→((nW d l K).map (·.1)).Nodup
 | [],K,h=>h
 | b::r,K,h=>by
  unfold nW
  split
  ·exact yW d r K h
  ·rename_i hb
   refine yW d r _ ?_
   rw[List.map_append]
   exact List.nodup_append.2 ⟨h,by simp,fun a ha c hc e=>hb (by simp at hc;rw[hc]at e;exact e ▸ ha)⟩
structure rH(N:Int→List Int)(a:Int)(K:List (Int×Int))(i:Nat):Prop where
 nd:(K.map (·.1)).Nodup
 st:K[0]?=some (a,0)
 le:i≤K.length
 mono:K.Pairwise fun p q=>p.2≤q.2
 top:∀(p:Int×Int),K[i]?=some p→∀q∈K,q.2≤p.2+1
 cl:∀(j:Nat) (p:Int×Int),j<i→K[j]?=some p→∀b∈N p.1,∃ q∈K,q.1=b∧q.2≤p.2+1
 rng:∀p∈K,p.1=a∨∃ c,p.1∈N c
 pos:∀p∈K,0≤p.2
 idx:∀(j:Nat) (p:Int×Int),K[j]?=some p→p.2≤j
theorem rH.start(N:Int→List Int)(a:Int):rH N a [(a,0)] 0 :=
 ⟨by simp,rfl,Nat.zero_le _,List.pairwise_singleton _ _,fun p hp q hq=>by simp at hp hq;rw[←hp,hq];show(0:Int)≤0+1;decide,fun j _ hj=>absurd hj (Nat.not_lt_zero _),fun p hp=>by simp at hp;rw[hp];exact .inl rfl,fun p hp=>by simp at hp;rw[hp];exact Int.le_refl _,fun j p hp=>by
  rcases j with _|j
  ·simp at hp;rw[←hp];exact Int.le_refl _
  ·simp at hp⟩
theorem rH.step{N:Int→List Int}{a:Int}{K:List (Int×Int)}{i:Nat}(I:rH N a K i){p:Int×Int}(hp:K[i]?=some p):rH N a (nW p.2 (N p.1) K) (i+1):=by
 obtain⟨R,h1,h2,h3⟩:=Im p.2 (N p.1) K
 have hi:=(List.getElem?_eq_some_iff.1 hp).1
 have hpm:p∈K:=List.mem_of_getElem? hp
 have hmono:(nW p.2 (N p.1) K).Pairwise fun p q=>p.2≤q.2:=by
  rw[h1,List.pairwise_append]
  refine⟨I.mono,?_,fun x hx y hy=>?_⟩
  ·rw[List.pairwise_iff_getElem]
   intro u v hu hv _
   rw[(h2 _ (List.getElem_mem hu)).1,(h2 _ (List.getElem_mem hv)).1]
   exact Int.le_refl _
  ·rw[(h2 y hy).1];exact I.top p hp x hx
 refine⟨yW _ _ _ I.nd,?_,by rw[h1,List.length_append];omega,hmono,fun q hq x hx=>?_,fun j q hj hq b hb=>?_,fun q hq=>?_,fun q hq=>?_,fun j q hq=>?_⟩
 ·rw[h1,List.getElem?_append_left (by omega)];exact I.st
 ·have Mb:p.2≤q.2:=by
   have aZ:=(List.getElem?_eq_some_iff.1 hq).1
   have:=List.pairwise_iff_getElem.1 hmono i (i+1) (by omega) aZ (by omega)
   have e1:(nW p.2 (N p.1) K)[i]'(by omega)=p:=by
    have:(nW p.2 (N p.1) K)[i]?=some p:=by rw[h1,List.getElem?_append_left hi];exact hp
    exact(List.getElem?_eq_some_iff.1 this).2
   have e2:(nW p.2 (N p.1) K)[i+1]'(aZ)=q:=(List.getElem?_eq_some_iff.1 hq).2
   rw[e1,e2]at this
   exact this
  rw[h1]at hx
  rcases List.mem_append.1 hx with hx|hx
  ·have:=I.top p hp x hx;omega
  ·have:=(h2 x hx).1;omega
 ·by_cases hji:j<i
  ·have Px:j<K.length:=by omega
   rw[h1,List.getElem?_append_left Px]at hq
   obtain⟨c,hc,e1,e2⟩:=I.cl j q hji hq b hb
   exact⟨c,by rw[h1];exact List.mem_append_left _ hc,e1,e2⟩
  ·have hje:j=i:=by omega
   subst hje
   rw[h1,List.getElem?_append_left hi,hp]at hq
   cases hq
   obtain⟨c,hc,e1⟩:=List.mem_map.1 (h3 b hb)
   refine⟨c,hc,e1,?_⟩
   rw[h1]at hc
   rcases List.mem_append.1 hc with hc|hc
   ·exact I.top p hp c hc
   ·rw[(h2 c hc).1];exact Int.le_refl _
 ·rw[h1]at hq
  rcases List.mem_append.1 hq with hq|hq
  ·exact I.rng q hq
  ·exact .inr ⟨p.1,(h2 q hq).2⟩
 ·rw[h1]at hq
  rcases List.mem_append.1 hq with hq|hq
  ·exact I.pos q hq
  ·have:=I.pos p hpm;rw[(h2 q hq).1];omega
 ·rw[h1]at hq
  by_cases hj:j<K.length
  ·rw[List.getElem?_append_left hj]at hq;exact I.idx j q hq
  ·rw[List.getElem?_append_right (by omega)]at hq
   have:=(h2 q (List.mem_of_getElem? hq)).1
   have:=I.idx i p hp
   omega
theorem rH.walk{N:Int→List Int}{a:Int}:∀(n i:Nat) (K:List (Int×Int)),rH N a K i→rH N a (bfs N n i K) (bfs N n i K).length∨∃ j,i+n≤j∧rH N a (bfs N n i K) j
 | 0,i,K,I=>.inr ⟨i,Nat.le_refl _,I⟩
 | n+1,i,K,I=>by
  unfold bfs
  cases hp:K[i]? with
  | none =>
   have:K.length≤i:=List.getElem?_eq_none_iff.1 hp
   have e:i=K.length:=Nat.le_antisymm I.le this
   exact .inl (e ▸ I)
  | some p =>
   rcases rH.walk n (i+1) _ (I.step hp)with h|⟨j,h1,h2⟩
   ·exact .inl h
   ·exact .inr ⟨j,by omega,h2⟩
theorem Lr{n:Nat}{l:List Int}(hd:l.Nodup)(h:∀x∈l,0≤x∧x<n):l.length≤n:=yB hd h
theorem rH.done{N:Int→List Int}{a:Int}{m:Nat}(hN:∀c b,b∈N c→0≤b∧b<m)(ha:0≤a∧a<m){n:Nat}(hn:m+1≤n):rH N a (bfs N n 0 [(a,0)]) (bfs N n 0 [(a,0)]).length∧(bfs N n 0 [(a,0)]).length≤m:=by
 have key:∀{K i},rH N a K i→K.length≤m:=fun {K i} I=>by
  have:=Lr (n:=m) I.nd fun x hx=>by
   obtain⟨p,hp,rfl⟩:=List.mem_map.1 hx
   rcases I.rng p hp with e|⟨c,hc⟩
   ·rw[e];exact ha
   ·exact hN c _ hc
  simpa using this
 rcases rH.walk n 0 _ (rH.start N a)with h|⟨j,h1,h2⟩
 ·exact⟨h,key h⟩
 ·have:=key h2
  have:=h2.le
  omega
def eZ(x:Int):DV:=.int .i64 x
def lX(K:List (Int×Int)):List (Int×DV):=K.map fun p=>(p.1,.int .i64 p.2)
theorem Ba(K:List (Int×Int)):(lX K).map (·.1)=K.map (·.1):=by simp[lX]
theorem EA{K:List (Int×Int)}(hn:(K.map (·.1)).Nodup){p:Int×Int}(hp:p∈K):lB (lX K) p.1=some (.int .i64 p.2):=by
 induction K with
 | nil=>cases hp
 | cons q r ih =>
  simp only[List.map_cons,List.nodup_cons]at hn
  by_cases h:q.1=p.1
  ·rcases List.mem_cons.1 hp with rfl|hp
   ·simp[lX,lB]
   ·exact absurd (List.mem_map.2 ⟨p,hp,rfl⟩) (h ▸ hn.1)
  ·rcases List.mem_cons.1 hp with rfl|hp
   ·exact absurd rfl h
   ·have:=ih hn.2 hp
    simp only[lX,lB,List.map_cons]at this ⊢
    rw[List.find?_cons,decide_eq_false h]
    exact this
theorem T9{K:List (Int×Int)}{b:Int}(hb:b ∉ K.map (·.1)):lB (lX K) b=none:=by
 cases h:lB (lX K) b with
 | none=>rfl
 | some v=>exact absurd (Ba K ▸ (Lt (ms:=lX K) (x:=b)).2 ⟨v,h⟩) hb
theorem DZ{K:List (Int×Int)}{b d:Int}(hb:b ∉ K.map (·.1)):uQ b (.int .i64 d) (lX K)=lX (K++[(b,d)]):=by
 induction K with
 | nil=>rfl
 | cons q r ih =>
  simp only[List.map_cons,List.mem_cons,not_or]at hb
  have h:¬q.1=b:=fun e=>hb.1 e.symm
  simp only[lX,List.map_cons,List.cons_append,uQ,if_neg h]
  rw[show(r.map fun p:Int×Int=>(p.1,DV.int .i64 p.2))=lX r from rfl,ih hb.2]
  rfl
structure RowO(H:aA)(v:DV)(id:Nat)(xs:List Int):Prop where
 at_:∃ off pre cap,v=.sl id 1 off xs.length∧H.get id=some (.arr 3 1 (pre++xs.map bW) cap)∧pre.length=off
structure RS(lo:Nat)(H:aA)(g mo id:Nat)(go:DO)(v:DV)(K:List (Int×Int))(xs:List Int):Prop where
 wf:WF H
 lim:H.lim=lo
 hn:lo≤H.n
 lm:lo≤mo
 li:lo≤id
 gg:H.get g=some go
 gm:H.get mo=some (.mp (fR eZ (lX K)))
 row:RowO H v id xs
 ng:id≠g
 nm:id≠mo
 gm':g≠mo
theorem RS.push{lo:Nat}{H:aA}{g mo id:Nat}{go:DO}{v:DV}{K:List (Int×Int)}{xs:List Int}(s:RS lo H g mo id go v K xs)(o:DO):RS lo (H.push o) g mo id go v K xs:=by
 have h1:=aC s.gg
 have h2:=aC s.gm
 obtain⟨off,pre,cap,e1,e2,e3⟩:=s.row.at_
 have h3:=aC e2
 exact⟨s.wf.push,s.lim,by have:=s.hn;simp;omega,s.lm,s.li,by rw[aN h1];exact s.gg,by rw[aN h2];exact s.gm,⟨off,pre,cap,e1,by rw[aN h3];exact e2,e3⟩,s.ng,s.nm,s.gm'⟩
theorem RS.key{lo:Nat}{H:aA}{g mo id:Nat}{go:DO}{v:DV}{K:List (Int×Int)}{xs:List Int}(s:RS lo H g mo id go v K xs){b d:Int}(hb:b ∉ K.map (·.1)):RS lo (H.set mo (.mp (fR eZ (uQ b (.int .i64 d) (lX K))))) g mo id go v (K++[(b,d)]) xs:=by
 have h2:=aC s.gm
 obtain⟨off,pre,cap,e1,e2,e3⟩:=s.row.at_
 exact⟨s.wf.set,s.lim,s.hn,s.lm,s.li,by rw[aS h2 s.gm'];exact s.gg,by rw[cN s.wf s.gm,DZ hb],⟨off,pre,cap,e1,by rw[aS h2 s.nm];exact e2,e3⟩,s.ng,s.nm,s.gm'⟩
theorem RS.more{lo:Nat}{H:aA}{g mo id:Nat}{go:DO}{v:DV}{K:List (Int×Int)}{xs:List Int}{A:Option (DV×aA)}(s:RS lo H g mo id go v K xs){b:Int}(hl:xs.length≤1000000)(hA:bF H 3 1 8 v [.int .i64 b]=A) :
  ∃ v' H' id',A=some (v',H')∧RS lo H' g mo id' go v' K (xs++[b]):=by
 obtain⟨off,pre,cap,rfl,e2,rfl⟩:=s.row.at_
 have h1:=aC s.gg
 have h2:=aC s.gm
 have h3:=aC e2
 have hd:((pre++xs.map bW).drop pre.length).take xs.length=xs.map bW:=by
  rw[List.drop_left' rfl,List.take_of_length_le (by simp)]
 have Pw:=s.lim
 subst hA
 have cT:([DV.int .i64 b]:List DV).isEmpty=false:=rfl
 simp only[bF,cT,Bool.false_eq_true,if_false,e2]
 rw[if_pos ⟨trivial,trivial,trivial,by simp,by simp;omega,by simp;omega⟩,if_neg (by simp),hd]
 cases cap with
 | some c =>
  refine⟨_,_,H.n,rfl,s.wf.push,s.lim,by have:=s.hn;simp;omega,s.lm,s.hn,by rw[aN h1];exact s.gg,by rw[aN h2];exact s.gm,⟨0,[],none,by simp,by simp[bW],rfl⟩,by omega,by omega,s.gm'⟩
 | none =>
  rw[if_pos (by rw[Pw];exact s.li)]
  refine⟨_,_,H.n,rfl,s.wf.set.push,s.lim,by have:=s.hn;simp;omega,s.lm,s.hn,?_,?_,⟨0,[],none,by simp,by simp[bW],rfl⟩,by omega,by omega,s.gm'⟩
  ·rw[aN (by exact h1),aS h3 s.ng.symm];exact s.gg
  ·rw[aN (by exact h2),aS h3 s.nm.symm];exact s.gm
theorem RS.head{lo:Nat}{H:aA}{g mo id:Nat}{go:DO}{v:DV}{K:List (Int×Int)}{x:Int}{xs:List Int}(s:RS lo H g mo id go v K (x::xs)):∃ off pre cap,v=.sl id 1 off (xs.length+1)∧H.get id=some (.arr 3 1 (pre++.int .i64 x::xs.map bW) cap)∧pre.length=off∧aQ 1 v (.int .i64 0)=some (.ptr id 1 off 0)∧(pre++.int .i64 x::xs.map bW)[off]?=some (.int .i64 x):=by
 obtain⟨off,pre,cap,rfl,e2,rfl⟩:=s.row.at_
 exact⟨_,pre,cap,rfl,e2,rfl,by simp[aQ,asI],by simp⟩
theorem RS.pop{lo:Nat}{H:aA}{g mo id:Nat}{go:DO}{v:DV}{K:List (Int×Int)}{x:Int}{xs:List Int}(s:RS lo H g mo id go v K (x::xs)):∃ v',fC H 1 v (some (.int .i64 1)) none=some v'∧RS lo H g mo id go v' K xs:=by
 obtain⟨off,pre,cap,rfl,e2,rfl⟩:=s.row.at_
 refine⟨.sl id 1 (pre.length+1) xs.length,?_,s.wf,s.lim,s.hn,s.lm,s.li,s.gg,s.gm,⟨pre.length+1,pre++[.int .i64 x],cap,rfl,by rw[e2];simp[bW],by simp⟩,s.ng,s.nm,s.gm'⟩
 have h1:cH none (x::xs).length ((pre++(x::xs).map bW).length-pre.length)=some (x::xs).length:=vR _ _
 have h2:cH (some (.int .i64 1)) 0 (x::xs).length=some 1:=by simp[cH,asI];omega
 simp only[fC,e2]
 rw[if_pos ⟨trivial,trivial,by simp⟩,h1]
 simp only[h2]
 simp
theorem l8(P:Res→Prop)(S:List Fr)(lo g mo:Nat)(go:DO)(N:List Int)(hN:N.length≤1000)(x d:Int)(hd:0≤d∧d≤100000) :
  ∀(rest:List Int) (K:List (Int×Int)) (ys:List Int) (i id:Nat) (f:eI) (h:aA),N.drop i=rest→K.length+rest.length≤100000→ys.length+rest.length≤100000→(K.map (·.1)).Nodup→(x,d)∈K→f 5=.map mo→f 25=eL false 1 bW N→f 26=.int .i64 N.length→f 27=.int .i64 i→RS lo h g mo id go (f 6) K (x::ys) →
  (∀F H id' ys',F 5=.map mo→F 2=f 2→RS lo H g mo id' go (F 6) (nW d rest K) (x::ys')→(∃ R,nW d rest K=K++R∧ys'=ys++R.map (·.1))→P (ret D 53 S (.normal) F H)) →
  P (run D 53 (.block 2::S) (.loop Nj) f h):=by
 intro rest
 induction rest with
 | nil =>
  intro K ys i id f h hdr hk hy hn hx h5 h25 h26 WA s dO
  have hi:=iD hdr
  have:¬(i<N.length):=by omega
  rw[aJ Nj.eq_1]
  simp[h26,WA,this]
  exact dO _ _ id ys (by simp[h5]) (by simp) (by simpa[nW]using s) ⟨[],by simp[nW],by simp⟩
 | cons b rest ih =>
  intro K ys i id f h hdr hk hy hn hx h5 h25 h26 WA s dO
  obtain⟨hi,he,pV⟩:=jO hdr
  have hw:IntKind.i64.wrap ((i:Int)+1)=(i:Int)+1:=bG (by omega) (by omega)
  have hwd:IntKind.i64.wrap (d+1)=d+1:=bG (by omega) (by omega)
  have gm:=s.gm
  have hnz:((lX K).map (·.1)).Nodup:=by rw[Ba];exact hn
  have BL:fP (.prim 1) (.int .i64 0) true (.int .i64 b) (some (fR eZ (lX K)))=_:=Dk (kE:=eZ) Pp hnz (.int .i64 0) true b
  rw[aJ Nj.eq_1]
  by_cases hb:b∈K.map (·.1)
  ·obtain⟨v,hv⟩:=(Lt (ms:=lX K) (x:=b)).1 (by rw[Ba];exact hb)
   rw[hv]at BL
   simp only[if_true]at BL
   have E4:nW d (b::rest) K=nW d rest K:=by rw[nW,if_pos hb]
   rw[E4]at dO
   simp[h5,h25,h26,WA,hi,he,gm,eF,fV,BL,hw,bW]
   generalize hF:upd _ 27 _=F
   refine ih K ys (i+1) id F h pV (by simp at hk;omega) (by simp at hy;omega) hn hx (by rw[←hF];simp[h5]) (by rw[←hF];simp[h25]) (by rw[←hF];simp[h26]) (by rw[←hF];simp) (by rw[←hF];simpa using s) ?_
   intro F2 H2 id2 ys2 a1 a2 a3 a4
   exact dO F2 H2 id2 ys2 a1 (by rw[a2,←hF];simp) a3 a4
  ·rw[T9 hb]at BL
   simp only[if_true]at BL
   have hlx:fP (.prim 1) (.int .i64 0) false (.int .i64 x) (some (fR eZ (lX K)))=_:=Pm (kE:=eZ) Pp hnz (.int .i64 0) x
   rw[EA hn hx]at hlx
   simp only[Option.getD_some]at hlx
   obtain⟨off,pre,cap,hv6,hg6,hpre,xI,nG⟩:=s.head
   have Re:Iz h (.prim 1) mo (.int .i64 b) (.int .i64 (d+1)) (some (.mp (fR eZ (lX K))))=_:=Rl (kE:=eZ) Pp (h:=h) (id:=mo) hnz (by rw[s.lim];exact s.lm) b (.int .i64 (d+1))
   have s2:=s.key (d:=d+1) hb
   have E4:nW d (b::rest) K=nW d rest (K++[(b,d+1)]):=by rw[nW,if_neg hb]
   rw[E4]at dO
   simp[h5,h25,h26,WA,hi,he,gm,eF,fV,BL,bW,xI,hg6,nG,hlx,hwd,kX,Re]
   generalize hH:h.set mo _=H at *
   generalize hA:bF _ _ _ _ _ _=A
   obtain⟨v',H',id',rfl,s3⟩:=(s2.push _).more (by simp at hy ⊢;omega) hA
   clear hA
   simp[WA,hw]
   generalize hF:upd _ 27 _=F
   refine ih (K++[(b,d+1)]) (ys++[b]) (i+1) id' F H' pV (by simp at hk ⊢;omega) (by simp at hy ⊢;omega) ?_ (List.mem_append_left _ hx) (by rw[←hF];simp[h5]) (by rw[←hF];simp[h25]) (by rw[←hF];simp[h26]) (by rw[←hF];simp) (by rw[←hF];simpa using s3) ?_
   ·rw[List.map_append]
    exact List.nodup_append.2 ⟨hn,by simp,fun a ha c hc e=>hb (by simp at hc;rw[hc]at e;exact e ▸ ha)⟩
   ·intro F2 H2 id2 ys2 a1 a2 a3 a4
    refine dO F2 H2 id2 ys2 a1 (by rw[a2,←hF];simp) a3 ?_
    obtain⟨R,r1,r2⟩:=a4
    exact⟨(b,d+1)::R,by rw[r1];simp,by rw[r2];simp⟩
theorem Kf{K:List (Int×Int)}{i:Nat}{p:Int×Int}(hp:K[i]?=some p):(K.drop i).map (·.1)=p.1::(K.drop (i+1)).map (·.1):=by
 obtain⟨hi,rfl⟩:=List.getElem?_eq_some_iff.1 hp
 rw[List.drop_eq_getElem_cons hi];rfl
theorem l7(P:Res→Prop)(S:List Fr)(lo g mo:Nat)(t:Bool){m:Int}{L:List (Int×Int)}(ok:bR m L)(h0:0≤m)(h7:m≤12)(hL:L.length≤1000000)(a:Int)(ha:0≤a∧a<m) :
  ∀(n i:Nat) (K:List (Int×Int)) (id:Nat) (f:eI) (h:aA),(i+n:Nat)=m.toNat+1→rH (eJ m L) a K i→f 2=.ptr g 2 0 0→f 5=.map mo→RS lo h g mo id (.arr 76 2 [.agg [.int .i64 m,eL t 2 aV L]] (some 1)) (f 6) K ((K.drop i).map (·.1)) →
  (∀F H id',F 5=.map mo→rH (eJ m L) a (bfs (eJ m L) n i K) (bfs (eJ m L) n i K).length→RS lo H g mo id' (.arr 76 2 [.agg [.int .i64 m,eL t 2 aV L]] (some 1)) (F 6) (bfs (eJ m L) n i K) []→P (run D 53 S Nk F H)) →
  P (run D 53 (.block 0::.seq Nk::S) (.loop Yd) f h):=by
 have hrng:∀c b,b∈eJ m L c→0≤b∧b<m:=fun c b hb=>(dP (pC.1 hb)).2.1
 have bZ:∀{K i},rH (eJ m L) a K i→K.length≤m.toNat:=fun {K i} I=>by
  have:=Lr (n:=m.toNat) I.nd fun x hx=>by
   obtain⟨p,hp,rfl⟩:=List.mem_map.1 hx
   rcases I.rng p hp with e|⟨c,hc⟩
   ·rw[e];omega
   ·have:=hrng c _ hc;omega
  simpa using this
 have hnl:∀x,(eJ m L x).length≤12:=fun x=>by
  unfold eJ
  have:=List.length_filter_le (fun y=>cU m L x y) ((List.range m.toNat).map fun i:Nat=>(i:Int))
  simp at this
  omega
 intro n
 induction n with
 | zero =>
  intro i K id f h hi I
  have:=bZ I
  have:=I.le
  omega
 | succ n ih =>
  intro i K id f h hi I f2 f5 s dO
  have hk:=bZ I
  have gg:=s.gg
  have lim:=s.lim
  rw[aJ Yd.eq_1]
  cases hp:K[i]? with
  | none =>
   have VY:K.length≤i:=List.getElem?_eq_none_iff.1 hp
   have hd:K.drop i=[]:=List.drop_eq_nil_iff.2 VY
   have hb:bfs (eJ m L) (n+1) i K=K:=by unfold bfs;rw[hp]
   rw[hb]at dO
   rw[hd]at s
   obtain⟨off,pre,cap,hv,hg,hpre⟩:=s.row.at_
   have e:i=K.length:=Nat.le_antisymm I.le VY
   simp[hv]
   exact dO _ _ id (by simp[f5]) (e ▸ I) (by simpa[hv]using s)
  | some p =>
   obtain⟨x,d⟩:=p
   have Ee:(x,d)∈K:=List.mem_of_getElem? hp
   have hb:bfs (eJ m L) (n+1) i K=bfs (eJ m L) n (i+1) (nW d (eJ m L x) K):=by rw[bfs,hp]
   rw[hb]at dO
   rw[Kf hp]at s
   obtain⟨ys,wK⟩:∃ ys,(K.drop (i+1)).map (·.1)=ys:=⟨_,rfl⟩
   have RH:ys.length≤12:=by rw[←wK];simp;omega
   rw[wK]at s
   have hd:=I.idx i _ hp
   have hd0:=I.pos _ Ee
   simp only at hd hd0
   have hil:=(List.getElem?_eq_some_iff.1 hp).1
   obtain⟨off,pre,cap,hv,hg,hpre,xI,nG⟩:=s.head
   have hN:=RG t x ok h0 h7 hL
   have hf:∀h,resolve true h 199 (eL t 2 aV L)=some (eL t 2 aV L):=fun h=>eX _ _ _ _ true h 199 (by decide)
   have hnx:=hnl x
   simp only[hv]at xI
   simp[f2,f5,hv,xI,gg,hg,nG,e76,hN,hf]
   generalize hF:upd _ 27 _=F
   refine l8 P _ lo g mo _ (eJ m L x) (by omega) x d ⟨hd0,by omega⟩ (eJ m L x) K ys 0 id F h rfl (by omega) (by omega) I.nd Ee (by rw[←hF];simp[f5]) (by rw[←hF];simp) (by rw[←hF];simp) (by rw[←hF];simp) (by rw[←hF];simpa[hv]using s) ?_
   intro F2 H2 id2 ys' a5 a2 s2 ⟨R,r1,r2⟩
   obtain⟨v',D5,s3⟩:=s2.pop
   simp[FG,D5]
   generalize hF3:upd _ 6 _=F3
   refine ih (i+1) _ id2 F3 H2 (by omega) (I.step hp) (by rw[←hF3];simp[a2,←hF,f2]) (by rw[←hF3];simp[a5]) ?_ dO
   rw[r1]at s3 ⊢
   rw[List.drop_append_of_le_length (by omega),List.map_append,wK,←r2]
   rw[←hF3]
   simpa using s3
def yL(m:Int)(L:List (Int×Int))(a:Int):List (Int×Int):=bfs (eJ m L) (m.toNat+1) 0 [(a,0)]
theorem Ch{m:Int}{L:List (Int×Int)}{a:Int}(ha:0≤a∧a<m):rH (eJ m L) a (yL m L a) (yL m L a).length∧(yL m L a).length≤m.toNat:=by
 refine rH.done (m:=m.toNat) (fun c b hb=>?_) (by omega) (Nat.le_refl _)
 have:=(dP (pC.1 hb)).2.1
 omega
theorem q172(t:Bool){m:Int}{L:List (Int×Int)}(ok:bR m L)(h0:0≤m)(h7:m≤12)(hL:L.length≤1000000){a:Int}(ha:0≤a∧a<m){h:aA}(wf:WF h)(bI:h.lim≤h.n) :
  ∃ mo h',fc D 172 [.agg [.int .i64 m,eL t 2 aV L],.int .i64 a] h=some (.map mo,h')∧h'.get mo=some (.mp (fR eZ (lX (yL m L a))))∧h'.lim=h.lim∧WF h':=by
 have Re:Iz (h.push (.arr 76 2 [.agg [.int .i64 m,eL t 2 aV L]] (some 1)) |>.push (.mp [])) (.prim 1) (h.n+1) (.int .i64 a) (.int .i64 0) (some (.mp (fR eZ (lX []))))=_:=Rl (kE:=eZ) Pp (ms:=lX []) (by simp[lX]) (by simp;omega) a (.int .i64 0)
 have hz:lX []=[]:=rfl
 have he:fR eZ []=[]:=rfl
 rw[hz,he]at Re
 have hp1:uQ a (DV.int .i64 0) []=lX [(a,0)]:=rfl
 rw[hp1]at Re
 rw[e172,aM _ _ _ _ (by simp[FH])]
 simp[FH,kX,Re,wf]
 generalize hF:upd _ 6 _=F
 generalize hH:aA.push _ _=H
 refine l7 (fun r=>∃ mo h',fin [.t 4] r=some (.map mo,h')∧h'.get mo=some (.mp (fR eZ (lX (yL m L a))))∧h'.lim=h.lim∧WF h') [] h.lim h.n (h.n+1) t ok h0 h7 hL a ha (m.toNat+1) 0 [(a,0)] (h.n+2) F H (by omega) (rH.start _ _) (by rw[←hF];simp) (by rw[←hF];simp) ?_ ?_
 ·have Rf:h.n<h.n+1:=by omega
  refine⟨by rw[←hH];simp[wf],by rw[←hH];simp,by rw[←hH];simp;omega,by omega,by omega,?_,?_,⟨0,[],some 1,?_,?_,rfl⟩,by omega,by omega,by omega⟩
  ·rw[←hH];simp[wf]
  ·rw[←hH];simp[wf]
  ·rw[←hF];simp
  ·rw[←hH];simp[wf,bW]
 ·intro F2 H2 id2 a5 _ s
  refine⟨h.n+1,H2,?_,s.gm,s.lim,s.wf⟩
  simp[Nk,a5]
end Go.Dm.Tc
/-
Graphs: may one be? One of numbers may.
-/
namespace Go.Dm.Tc
def nC(l:Int×Int):Int×Int:=if l.1≤l.2 then l else(l.2,l.1)
theorem s171(a b:Int):pcF D Ye [.agg [.int .i64 a,.int .i64 b]]=some (.agg [.int .i64 (nC (a,b)).1,.int .i64 (nC (a,b)).2]):=by
 unfold pcF
 rw[aM _ _ _ _ (by simp[Ye])]
 by_cases h:a≤b
 ·simp[Ye,Jw,Jv,nC,h]
  omega
 ·simp[Ye,Jw,Jv,nC,h]
  omega
theorem IX{l k:Int×Int}(h:nC l=nC k):l=k∨l=(k.2,k.1):=by
 obtain⟨a,b⟩:=l
 obtain⟨c,d⟩:=k
 unfold nC at h
 by_cases h1:a≤b<;>by_cases h2:c≤d<;>simp[h1,h2]at h<;>simp<;>omega
def lO(l:Int×Int):ID:=⟨(nC l).1,(nC l).2⟩
theorem bR.joined{m:Int}{L:List (Int×Int)}(h:bR m L):(L.map lO).Nodup:=by
 rw[List.nodup_iff_pairwise_ne,List.pairwise_map]
 refine h.nd.imp fun {x y} LI e=>?_
 have hj:nC x=nC y:=by
  unfold lO at e
  injection e with e1 e2
  exact Prod.ext e1 e2
 rcases IX hj with h1|h1
 ·exact LI.1 h1
 ·exact LI.2 h1
theorem rX{α:Type}[DecidableEq α]:∀{A B:List α},A.Nodup→(∀x∈A,x∈B)→A.length≤B.length
 | [],_,_,_=>Nat.zero_le _
 | a::A,B,hn,h=>by
  obtain⟨h1,h2⟩:=List.nodup_cons.1 hn
  have ha:=h a (List.mem_cons_self ..)
  have ih:=rX (A:=A) (B:=B.erase a) h2 fun x hx=>(List.mem_erase_of_ne (fun e=>h1 (by rw[←e];exact hx))).2 (h x (List.mem_cons_of_mem _ hx))
  rw[List.length_erase_of_mem ha]at ih
  have:=List.length_pos_of_mem ha
  simp only[List.length_cons]
  omega
def DP(m:Int)(L:List (Int×Int)):Prop:=∀b,0≤b→b<m→∃ d,(b,d)∈yL m L 0
theorem DP.len{m:Int}{L:List (Int×Int)}(h1:1≤m)(h:DP m L):(yL m L 0).length=m.toNat:=by
 obtain⟨I,cB⟩:=Ch (m:=m) (L:=L) (a:=0) ⟨by decide,by omega⟩
 refine Nat.le_antisymm cB ?_
 have Ab:∀x∈(List.range m.toNat).map (fun i:Nat=>(i:Int)),x∈(yL m L 0).map (·.1):=fun x hx=>by
  obtain⟨i,hi,rfl⟩:=List.mem_map.1 hx
  have:=List.mem_range.1 hi
  obtain⟨d,hd⟩:=h i (by omega) (by omega)
  exact List.mem_map.2 ⟨_,hd,rfl⟩
 have LM:((List.range m.toNat).map (fun i:Nat=>(i:Int))).Nodup:=by
  rw[List.nodup_iff_pairwise_ne,List.pairwise_map]
  exact List.pairwise_lt_range.imp fun aZ e=>by omega
 have:=rX LM Ab
 simpa using this
theorem l73(P:Res→Prop)(t:Bool){m:Int}{L:List (Int×Int)}(ok:bR m L)(hL:L.length≤200)(h0:aA)(g0:h0.get 0=some (.arr 76 2 [.agg [.int .i64 m,eL t 2 aV L]] (some 1)))(bI:h0.lim=0) :
  ∀(rest:List (Int×Int)) (i:Nat) (f:eI) (h:aA),L.drop i=rest→f 1=.ptr 0 2 0 0→f 3=.map 1→f 8=eL t 2 aV L→f 9=.int .i64 L.length→f 10=.int .i64 i→h.get 1=some (.mp (uB ((L.take i).map lO)))→Ext 1 h0 h→2≤h.n →
  (∀F H,F 1=.ptr 0 2 0 0→Ext 1 h0 H→P (run D 56 [] N3 F H)) →
  P (run D 56 [.block 0,.seq N3] (.loop N2) f h):=by
 intro rest
 induction rest with
 | nil =>
  intro i f h hd f1 f3 f8 f9 f10 gm x hn dO
  have hi:=iD hd
  have:¬(i<L.length):=by omega
  rw[aJ N2.eq_1]
  simp[f9,f10,this]
  exact dO _ _ (by simp[f1]) x
 | cons l rest ih =>
  intro i f h hd f1 f3 f8 f9 f10 gm x hn dO
  obtain⟨hi,he,pV⟩:=jO hd
  have hxi:L[i]?=some l:=by have:=congrArg List.head? hd;simpa[List.head?_drop]using this
  have hlH:h.lim=0:=x.lim.trans bI
  have Hg:=(x.get 0 (by decide)).trans g0
  have n0:¬0=h.n:=by omega
  have n1:¬1=h.n:=by omega
  have hw:IntKind.i64.wrap ((i:Int)+1)=(i:Int)+1:=bG (by omega) (by omega)
  have hf:∀h,resolve true h 199 (eL t 2 aV L)=some (eL t 2 aV L):=fun h=>eX _ _ _ _ true h 199 (by decide)
  have hm:pcF D Np [.agg [.int .i64 m,eL t 2 aV L],.agg [.int .i64 l.1,.int .i64 l.2]]=some (.bool true):=by
   have:=UM t m L l
   rw[show yH m l=true from decide_eq_true (ok.rng l (List.mem_of_getElem? hxi))]at this
   exact this
  have hj:=s171 l.1 l.2
  have LM:((L.take i).map lO).Nodup:=(List.Sublist.map lO (List.take_sublist i L)).nodup ok.joined
  have hnotin:lO l ∉ (L.take i).map lO:=by
   have:=ok.joined
   rw[show L=L.take i++l::rest by rw[←hd,List.take_append_drop],List.map_append]at this
   have:=(List.nodup_append.1 this).2.2
   intro Ee
   exact this _ Ee (lO l) (by simp) rfl
  have BL:=yC LM (nC (l.1,l.2)).1 (nC (l.1,l.2)).2
  have hjj:(⟨(nC (l.1,l.2)).1,(nC (l.1,l.2)).2⟩:ID)=lO l:=rfl
  rw[hjj,decide_eq_false hnotin]at BL
  have Re:=fun(H:aA) (hl:H.lim≤1)=>M2 (h:=H) (id:=1) LM hl (nC (l.1,l.2)).1 (nC (l.1,l.2)).2
  rw[hjj]at Re
  have E4:yV (lO l) ((L.take i).map lO)=(L.take (i+1)).map lO:=by
   rw[yV,if_neg hnotin,List.take_add_one,hxi,List.map_append];rfl
  rw[E4]at Re
  have ih':=ih (i+1)
  have Iw:1<h.n:=by omega
  have DR:=x.wf
  generalize (L.take (i+1)).map lO=ks' at *
  generalize (L.take i).map lO=ks at *
  rw[aJ N2.eq_1]
  simp[f1,f3,f8,f9,f10,hi,he,hlH,Hg,n0,n1,aV,CK,hm,hf,e171,hj,gm,eF,fV,BL,kX,Re,Iw,DR]
  generalize hF:upd _ 10 _=F
  refine ih' F _ pV (by rw[←hF];simp[f1]) (by rw[←hF];simp[f3]) (by rw[←hF];simp[f8]) (by rw[←hF];simp[f9]) (by rw[←hF];simp[hw]) ?_ ?_ (by simp;omega) dO
  ·simp[DR,Iw,n1]
  ·exact(x.set (Nat.le_refl _) Iw).push
theorem s73(t:Bool){m:Int}{L:List (Int×Int)}(ok:bR m L)(h1:1≤m)(h7:m≤12)(hL:L.length≤200)(gC:DP m L):pcF D t73 [.agg [.int .i64 m,eL t 2 aV L]]=some .nili:=by
 have hf:∀h,resolve true h 199 (eL t 2 aV L)=some (eL t 2 aV L):=fun h=>eX _ _ _ _ true h 199 (by decide)
 have bZ:=gC.len h1
 have Pw:((yL m L 0).length:Int)=m:=by rw[bZ];omega
 unfold pcF
 rw[aM _ _ _ _ (by simp[t73])]
 simp[t73]
 generalize hF:upd _ 10 _=F
 generalize hH:aA.push _ _=H
 refine l73 (fun r=>jS (fin [.t 2] r)=some .nili) t ok hL H (by rw[←hH];simp) (by rw[←hH];simp) L 0 F H rfl (by rw[←hF];simp) (by rw[←hF];simp) (by rw[←hF];simp) (by rw[←hF];simp) (by rw[←hF];simp) (by rw[←hH];simp;rfl) (.refl (by rw[←hH];simp) (by rw[←hH];simp)) (by rw[←hH];simp) fun F2 K f1 x=>?_
 have Hg:=(x.get 0 (by decide)).trans (show H.get 0=some (.arr 76 2 [.agg [.int .i64 m,eL t 2 aV L]] (some 1)) by rw[←hH];simp)
 have hlK:K.lim=0:=x.lim.trans (by rw[←hH];simp)
 have a1:¬m<1:=by omega
 have a2:¬64<m:=by omega
 have a3:¬(200:Int)<L.length:=by omega
 have a3':¬200<L.length:=by omega
 have hr:=fun(h:aA) wf hl=>q172 t ok (by omega) h7 (by omega) (a:=0) ⟨by decide,by omega⟩ (h:=h) wf hl
 obtain⟨mo,K2,hr1,hr2,hr3,hr4⟩:=hr (wl K K.n) (by simpa using x.wf) (Nat.le_refl _)
 have nG:(fR eZ (lX (yL m L 0))).length=(yL m L 0).length:=by simp[fR,lX]
 simp[N3,f1,Hg,a1,a2,a3,a3',hf,hlK,hr1,hr2,hr3,IU,fV,nG,Pw]
theorem Vq{m:Int}{L:List (Int×Int)}{a:Int}(ha:0≤a∧a<m){b c d:Int}(hb:(b,d)∈yL m L a)(hl:cU m L b c=true):∃ e,(c,e)∈yL m L a∧e≤d+1:=by
 obtain⟨I,_⟩:=Ch (L:=L) ha
 obtain⟨j,hj,e⟩:=List.mem_iff_getElem.1 hb
 obtain⟨q,hq,e1,e2⟩:=I.cl j (b,d) hj (by rw[List.getElem?_eq_getElem hj,e]) c (pC.2 hl)
 exact⟨q.2,by rw[←e1];exact hq,e2⟩
theorem G5{m:Int}{L:List (Int×Int)}{a:Int}(ha:0≤a∧a<m):(a,0)∈yL m L a:=by
 obtain⟨I,_⟩:=Ch (L:=L) ha
 exact List.mem_of_getElem? I.st
theorem Cc{m:Int}{L L':List (Int×Int)}(h:∀l∈L,l∈L'){a b:Int}(hl:cU m L a b=true):cU m L' a b=true:=by
 unfold cU at hl ⊢
 rw[List.any_eq_true]at hl ⊢
 obtain⟨l,h1,h2⟩:=hl
 exact⟨l,h l h1,h2⟩
theorem Tn(L:List (Int×Int))(a b:Int):∀l∈L,l∈rR L a b:=fun l hl=>by
 unfold rR;split
 ·exact hl
 ·exact List.mem_append_left _ hl
theorem Bq(m:Int):∀(r:List Int) (L:List (Int×Int)),∀l∈L,l∈uT m r L
 | [],L=>fun l hl=>hl
 | x::r,L=>fun l hl=>Bq m r _ l (Tn _ _ _ l hl)
theorem BR{m:Int}{L:List (Int×Int)}{a b:Int}(ha:0≤a∧a<m)(hb:0≤b∧b<m)(cT:a≠b):cU m (rR L a b) a b=true:=by
 have PE:yH m (a,b)=true:=decide_eq_true ⟨ha.1,ha.2,hb.1,hb.2,cT⟩
 have DX:yH m (b,a)=true:=decide_eq_true ⟨hb.1,hb.2,ha.1,ha.2,cT.symm⟩
 unfold cU
 rw[List.any_eq_true]
 unfold rR
 split
 ·rename_i h
  rcases h with h|h|h
  ·exact absurd h cT
  ·exact⟨(a,b),h,by simp[PE]⟩
  ·exact⟨(b,a),h,by simp[DX]⟩
 ·exact⟨(a,b),by simp,by simp[PE]⟩
theorem Fg{m:Int}(under:List Int)(n:Nat):(n:Int)+1≤m→∀b:Nat,1≤b→b≤n→∃ u:Nat,u<b∧cU m (tU under n) u b=true:=by
 induction n with
 | zero=>intro _ b h1 h2;omega
 | succ n ih =>
  intro hm b h1 h2
  by_cases hb:b≤n
  ·obtain⟨u,hu,hl⟩:=ih (by omega) b h1 hb
   exact⟨u,hu,Cc (Tn _ _ _) hl⟩
  ·have Dn:b=n+1:=by omega
   subst Dn
   have hw:=iF (nA under (n+1)) 0 (n:Int) (show(0:Int)≤(n:Int) by omega)
   refine⟨(bY (nA under (n+1)) 0 n).toNat,by omega,?_⟩
   rw[yI]
   have e:(((bY (nA under (n+1)) 0 n).toNat:Nat):Int)=bY (nA under (n+1)) 0 n:=by omega
   rw[e]
   have e2:((n+1:Nat):Int)=(n:Int)+1:=by omega
   rw[e2]
   exact BR ⟨by omega,by omega⟩ ⟨by omega,by omega⟩ (by omega)
theorem E7{m:Int}(h1:1≤m)(under more:List Int):DP m (tH m under more):=by
 have key:∀b:Nat,(b:Int)<m→∃ d,((b:Int),d)∈yL m (tH m under more) 0:=by
  intro b
  induction b using Nat.strongRecOn with
  | _ b ih =>
   intro hb
   by_cases h0:b=0
   ·subst h0
    exact⟨0,G5 ⟨by decide,by omega⟩⟩
   ·obtain⟨u,hu,hl⟩:=Fg (m:=m) under (m-1).toNat (by omega) b (by omega) (by omega)
    obtain⟨d,hd⟩:=ih u hu (by omega)
    obtain⟨e,he,_⟩:=Vq ⟨by decide,by omega⟩ hd (Cc (Bq m _ _) hl)
    exact⟨e,he⟩
 intro b hb hm
 obtain⟨d,hd⟩:=key b.toNat (by omega)
 have e:((b.toNat:Nat):Int)=b:=by omega
 rw[e]at hd
 exact⟨d,hd⟩
end Go.Dm.Tc
/-
Faults: a chain of them,down to an error number;what is told of one.
-/
namespace Go.Dm.Tc
theorem zX:rY 4 .nili .nili=some true:=rfl
end Go.Dm.Tc
/-
Networks,part 7: a network as it lies;a new one.
-/
namespace Go.Dm.Tc
theorem IY{l:List Int}(h:gI l):∀{k:List Int},gI k→(∀x,x∈k↔x∈l)→k=l:=fun hk hm=>Bh hk h hm
theorem b8(t:Bool)(me:Int){bB:List Int}(hs:gI bB)(hn:bB.length≤1000000):pcF D t64 [.int .i64 me,eL t 1 bW bB]=some (aW .none ⟨me,bB,[],[],[],[]⟩):=by
 obtain⟨nr,h1,h2,h3,_⟩:=s64 t me bB hn
 rw[h1,IY hs h2 h3]
structure kW where
 lW:Int
 to:Int
 pub:ID
def JY(x:kW):DV:=.agg [.int .i64 x.lW,.int .i64 x.to,.int .i64 x.pub.bK,.int .i64 x.pub.seq]
def Gq(m:Int)(L:List (Int×Int))(bid nb q:Nat)(cr:DV):DO:=.arr 162 5 [.agg [.int .i64 m,eL false 2 aV L,.sl bid 6 0 nb,.ptr q 2 0 0,cr]] (some 1)
structure eV(h:aA)(nid bid q wid:Nat)(cr:DV)(m:Int)(L:List (Int×Int))(B:List aL)(W:ID→List Msg)(X:List kW):Prop where
 gn:h.get nid=some (Gq m L bid B.length q cr)
 gb:∃ sp cap,h.get bid=some (.arr 37 6 (B.map (aW .none)++sp) cap)
 Q:QAt h q wid (bD L) W
 ln:h.lim≤nid
 lb:h.lim≤bid
 cx:OwnR h.lim h cr 180 4 (X.map JY)
def Jr(m:Int)(L:List (Int×Int))(n:Nat):List aL:=(List.range n).map fun i:Nat=>⟨(i:Int),eJ m L i,[],[],[],[]⟩
theorem Gp(m:Int)(L:List (Int×Int))(n:Nat):(Jr m L n).length=n:=by simp[Jr]
theorem AR(m:Int)(L:List (Int×Int))(n:Nat):Jr m L (n+1)=Jr m L n++[⟨(n:Int),eJ m L n,[],[],[],[]⟩]:=by
 simp[Jr,List.range_succ]
theorem wG(m:Int)(L:List (Int×Int))(h:m≤12)(b:Int):(eJ m L b).length≤12:=by
 unfold eJ
 have:=List.length_filter_le (fun y=>cU m L b y) ((List.range m.toNat).map fun i:Nat=>(i:Int))
 simp at this
 omega
theorem Q6(ety sz bytes:Nat)(h:aA){α:Type}(t:Bool)(e:α→DV):jI ety sz bytes h [eL t sz e []]=some (.nsl,h.push .dead):=by
 have he:elems h sz (eL t sz e [])=some []:=fY ..
 simp[jI,bJ,he,gF]
theorem Ux{ety sz bytes:Nat}{h:aA}{α:Type}{t:Bool}{e:α→DV}{xs:List α}(cT:xs≠[])(hb:∀x,dL 200 0 (e x)=true)(hl:xs.length*bytes≤140737488355328)(h2:xs.length≤1000000)(wf:WF h)(bI:h.lim≤h.n) :
  ∃ K,jI ety sz bytes h [eL t sz e xs]=some (eL false sz e xs,K)∧Ext h.n h K:=by
 have he:elems h sz (eL t sz e xs)=some (xs.map e):=fY ..
 have hi:(xs.map e).isEmpty=false:=by cases xs<;>simp_all
 have gC:(xs.map e).all (dL 200 0)=true:=by
  rw[List.all_eq_true]
  intro y hy
  obtain⟨x,_,rfl⟩:=List.mem_map.1 hy
  exact hb x
 have hg:((h.push (.arr ety sz [] (some 0))).push (.arr ety sz (xs.map e) none)).get (h.n+1)=some (.arr ety sz (xs.map e) none):=by simp
 refine⟨((h.push (.arr ety sz [] (some 0))).push (.arr ety sz (xs.map e) none)).set (h.n+1) .dead,?_,(((Ext.refl (Nat.le_refl _) wf).push).push).set (Nat.le_succ _) (by simp)⟩
 simp only[jI,bJ,he,hi,List.length_map]
 rw[if_neg (by simp),if_pos ⟨hl,by omega⟩]
 simp only[gF,hg]
 have Pw:((h.push (.arr ety sz [] (some 0))).push (.arr ety sz (xs.map e) none)).lim≤h.n+1:=by simp;omega
 rw[if_pos ⟨trivial,Pw,by simp,by rw[List.drop_zero,List.take_of_length_le (by simp)];exact gC⟩]
 have RN:mkIsl false sz (((xs.map e).drop 0).take xs.length)=eL false sz e xs:=by
  rw[List.drop_zero,List.take_of_length_le (by simp)]
  cases xs with
  | nil=>exact absurd rfl cT
  | cons x r=>rfl
 rw[RN]
theorem J9(x:Int×Int):dL 200 0 (aV x)=true:=rfl
theorem s74(t:Bool)(m:Int)(L:List (Int×Int))(hL:L.length≤1000000):pcF D t74 [.agg [.int .i64 m,eL t 2 aV L]]=some (.agg [.int .i64 m,eL false 2 aV L]):=by
 unfold pcF
 rw[aM _ _ _ _ (by simp[t74])]
 by_cases cT:L=[]
 ·subst cT
  have hc:=fun h=>Q6 86 2 16 h t aV
  simp[t74,s9]
  rw[Q6 86 2 16]
  simp[turn,aU]
  rfl
 ·simp[t74,s9]
  obtain⟨K,h1,x⟩:=Ux (ety:=86) (bytes:=16) (h:=(tY.push (.arr 76 2 [.agg [.int .i64 m,eL t 2 aV L]] (some 1))).push (.arr 76 2 [.agg [.int .i64 0,.nsl]] (some 1))) (t:=t) cT J9 (by omega) (by omega) (by simp) (by simp)
  rw[h1]
  have g0:=x.get 0 (by simp)
  have g1:=x.get 1 (by simp)
  have lim:=x.lim
  have wf:=x.wf
  have hn:=x.le
  simp at g0 g1 lim hn
  have n1:1<K.n:=by omega
  have n0:0<K.n:=by omega
  simp[g0,g1,lim,wf,n0,n1,turn,aU]
  exact Rn 176 L
theorem q75(t:Bool){m:Int}{L:List (Int×Int)}(ok:bR m L)(hL:L.length≤100000)(h:aA)(wf:WF h)(bI:h.lim≤h.n) :
  ∃ h',fc D 75 [.agg [.int .i64 m,eL t 2 aV L]] h=some (.ptr (h.n+2) 2 0 0,h')∧QAt h' (h.n+2) (h.n+1) (bD L) (fun _=>[])∧Ext h.n h h'∧h'.n=h.n+3:=by
 have hW:=s40 t ok hL
 have hf:∀h,resolve true h 199 (eL t 2 aV L)=some (eL t 2 aV L):=fun h=>eX _ _ _ _ true h 199 (by decide)
 rw[e75,aM _ _ _ _ (by simp[t75])]
 simp[t75,e40,hW,hf]
 refine⟨⟨?_,⟨[],?_,⟨by simp,fun x=>.inl ⟨rfl,rfl⟩⟩⟩,?_,?_⟩,?_⟩
 ·simp[qO,wf]
 ·simp[wf];rfl
 ·simp;omega
 ·simp;omega
 ·exact(((Ext.refl (Nat.le_refl _) wf).push).push).push
theorem l24(P:Res→Prop)(t:Bool){m:Int}{L:List (Int×Int)}(ok:bR m L)(h0:0≤m)(h7:m≤12)(hL:L.length≤100000)(h:aA)(bI:h.lim≤h.n)(gid q wid nid:Nat)(Ef:gid=h.n)(hnid:nid=h.n+4) :
  ∀(k i:Nat) (f:eI) (K:aA),(i+k:Nat)=m.toNat→f 1=.ptr gid 2 0 0→f 5=.ptr nid 5 0 0→f 20=.int .i64 m→f 21=.int .i64 i→h.n+5≤K.n→Ext h.n h K→K.get gid=some (.arr 76 2 [.agg [.int .i64 m,eL t 2 aV L]] (some 1))→QAt K q wid (bD L) (fun _=>[])→q<h.n+4→wid<h.n+4 →
  (∃ v,K.get nid=some (.arr 162 5 [.agg [.int .i64 m,eL false 2 aV L,v,.ptr q 2 0 0,.nsl]] (some 1))∧OwnR (h.n+5) K v 37 6 ((Jr m L i).map (aW .none))) →
  (∀F H,F 5=.ptr nid 5 0 0→Ext h.n h H→QAt H q wid (bD L) (fun _=>[])→(∃ v,H.get nid=some (.arr 162 5 [.agg [.int .i64 m,eL false 2 aV L,v,.ptr q 2 0 0,.nsl]] (some 1))∧OwnR (h.n+5) H v 37 6 ((Jr m L m.toNat).map (aW .none)))→P (run D 40 [] N8 F H)) →
  P (run D 40 [.block 0,.seq N8] (.loop N7) f K):=by
 intro k
 induction k with
 | zero =>
  intro i f K hi f1 f5 f20 f21 hn x gg Q hq hw hv dO
  have him:i=m.toNat:=by omega
  have:¬((i:Int)<m):=by omega
  rw[aJ N7.eq_1]
  simp[f20,f21,this]
  subst him
  exact dO _ _ (by simp[f5]) x Q hv
 | succ k ih =>
  intro i f K hi f1 f5 f20 f21 hn x gg Q hq hw hv dO
  obtain⟨v,gn,ow⟩:=hv
  have aZ:(i:Int)<m:=by omega
  have RJ:IntKind.i64.wrap ((i:Int)+1)=(i:Int)+1:=bG (by omega) (by omega)
  have hN:=RG t (i:Int) ok h0 h7 (by omega:L.length≤1000000)
  have hA':=b8 false (i:Int) (sW m L i) (by have:=wG m L h7 i;omega)
  have hf:∀h,resolve true h 199 (eL t 2 aV L)=some (eL t 2 aV L):=fun h=>eX _ _ _ _ true h 199 (by decide)
  have Pw:K.lim≤h.n:=by rw[x.lim];exact bI
  have wf:=x.wf
  have n1:¬nid=K.n:=by omega
  have n2:¬gid=K.n:=by omega
  have nK:nid<K.n:=by omega
  have st:=ow.aO
  have ec:=ow.aF
  have hnear:(eJ m L (i:Int)).length≤12:=wG m L h7 i
  rw[aJ N7.eq_1]
  simp[f1,f5,f20,f21,aZ,gg,gn,ec,e76,hN,hf,e64,hA',n1,n2]
  generalize hA:bF _ _ _ _ _ _=A
  obtain⟨v',K',rfl,Jy,tA,_⟩:=ow.push.append wf.push (by simp;omega) (by simp;omega) hA (by simp[Gp];omega) (by decide)
  clear hA
  have gn':K'.get nid=some (.arr 162 5 [.agg [.int .i64 m,eL false 2 aV L,v,.ptr q 2 0 0,.nsl]] (some 1)):=by
   rw[tA.get nid (by omega),aN nK];exact gn
  have wf':=tA.wf
  have xt:Ext h.n h K':=(x.push).trans (tA.lower (by omega))
  have lm':K'.lim≤h.n:=by rw[xt.lim];exact bI
  have st':=Jy.aO
  have ec':=Jy.aF
  have nK':nid<K'.n:=aC gn'
  have lm2:K'.lim≤nid:=by omega
  have gg':K'.get gid=some (.arr 76 2 [.agg [.int .i64 m,eL t 2 aV L]] (some 1)):=by
   rw[tA.get gid (by omega),aN (aC gg)];exact gg
  have Q':QAt K' q wid (bD L) (fun _=>[]):=by
   have qq:=Q.gq
   obtain⟨ms,qw,_⟩:=Q.gw
   exact Q.old (xt.lim.trans x.lim.symm) (by rw[tA.get q (by omega),aN (aC qq)]) (by rw[tA.get wid (by omega),aN (aC qw)])
  simp[f5,gn',st',ec',lm2,turn,f21,RJ]
  generalize hF:upd _ 21 _=F
  refine ih (i+1) F _ (by omega) (by rw[←hF];simp[f1]) (by rw[←hF];simp[f5]) (by rw[←hF];simp[f20]) (by rw[←hF];simp) (by have:=tA.le;simp;omega) (xt.set (by omega) nK') ?_ ?_ hq hw ⟨v',cN wf' gn',?_⟩ dO
  ·rw[aS nK' (by omega)];exact gg'
  ·exact Q'.old rfl (aS nK' (by omega)) (aS nK' (by omega))
  ·have:=Jy.aR (o:=.arr 162 5 [.agg [.int .i64 m,eL false 2 aV L,v',.ptr q 2 0 0,.nsl]] (some 1)) wf' (show nid<h.n+5 by omega) nK'
   rw[AR,List.map_append]
   exact this
theorem q24(t:Bool){m:Int}{L:List (Int×Int)}(ok:bR m L)(h1:1≤m)(h7:m≤12)(hL:L.length≤200)(gC:DP m L)(h:aA)(wf:WF h)(bI:h.lim≤h.n) :
  ∃ bid h',fc D 24 [.agg [.int .i64 m,eL t 2 aV L]] h=some (.tup [.ptr (h.n+4) 5 0 0,.nili],h')∧eV h' (h.n+4) bid (h.n+3) (h.n+2) .nsl m L (Jr m L m.toNat) (fun _=>[]) []∧Ext h.n h h'∧h.n≤bid:=by
 have hC:=s73 t ok h1 h7 hL gC
 have hcp:=s74 t m L (by omega)
 have hf:∀h,resolve true h 199 (eL t 2 aV L)=some (eL t 2 aV L):=fun h=>eX _ _ _ _ true h 199 (by decide)
 obtain⟨K,hq,Q,xq,nq⟩:=q75 t ok (by omega) (h.push (.arr 76 2 [.agg [.int .i64 m,eL t 2 aV L]] (some 1))) wf.push (by simp;omega)
 simp at hq Q xq nq
 have gg:=(xq.get h.n (by omega)).trans (show(h.push (.arr 76 2 [.agg [.int .i64 m,eL t 2 aV L]] (some 1))).get h.n=some (.arr 76 2 [.agg [.int .i64 m,eL t 2 aV L]] (some 1)) by simp)
 have xh:Ext h.n h K:=((Ext.refl (Nat.le_refl _) wf).push).trans (xq.lower (by omega))
 rw[e24,aM _ _ _ _ (by simp[t24])]
 have ng:¬h.n=K.n:=by omega
 simp[t24,e73,hC,hf,zX,e74,hcp,hq,gg,ng,nq]
 have e2:h.n+1+2=h.n+3:=rfl
 have e3:h.n+1+3=h.n+4:=rfl
 have e1:h.n+1+1=h.n+2:=rfl
 rw[e1,e2]at Q
 rw[e2,e3]
 generalize hF:upd _ 21 _=F
 have gg2:(K.push (.arr 162 5 [.agg [.int .i64 m,eL false 2 aV L,.nsl,.ptr (h.n+3) 2 0 0,.nsl]] (some 1))).get h.n=some (.arr 76 2 [.agg [.int .i64 m,eL t 2 aV L]] (some 1)):=by
  rw[aN (by omega)];exact gg
 have nK:K.n=h.n+4:=by omega
 have gnn:(K.push (.arr 162 5 [.agg [.int .i64 m,eL false 2 aV L,.nsl,.ptr (h.n+3) 2 0 0,.nsl]] (some 1))).get (h.n+4)=some (.arr 162 5 [.agg [.int .i64 m,eL false 2 aV L,.nsl,.ptr (h.n+3) 2 0 0,.nsl]] (some 1)):=by
  rw[←nK];simp
 have QP:QAt (K.push (.arr 162 5 [.agg [.int .i64 m,eL false 2 aV L,.nsl,.ptr (h.n+3) 2 0 0,.nsl]] (some 1))) (h.n+3) (h.n+2) (bD L) (fun _=>[]):=by
  have qq:=Q.gq
  obtain⟨ms,qw,_⟩:=Q.gw
  exact Q.old rfl (aN (aC qq)) (aN (aC qw))
 refine l24 (fun r=>∃ bid h',fin [.t 2,.t 3] r=some (.tup [.ptr (h.n+4) 5 0 0,.nili],h')∧eV h' (h.n+4) bid (h.n+3) (h.n+2) .nsl m L (Jr m L m.toNat) (fun _=>[]) []∧Ext h.n h h'∧h.n≤bid) t ok (by omega) h7 (by omega) h bI h.n (h.n+3) (h.n+2) (h.n+4) rfl rfl m.toNat 0 F _ (by omega) (by rw[←hF];simp) (by rw[←hF];simp) (by rw[←hF];simp) (by rw[←hF];simp) (by simp;omega) xh.push gg2 QP (by omega) (by omega) ⟨.nsl,gnn,.nil rfl rfl⟩ ?_
 intro F2 H f5 x2 Q2 ⟨v,gn,ow⟩
 cases ow with
 | nil hv hx =>
  exfalso
  have:=congrArg List.length hx
  rw[List.length_map,Gp]at this
  simp only[List.length_nil]at this
  omega
 | arr bid sp cap hv hg hl eN =>
  have hlh:H.lim≤h.n:=by rw[x2.lim];exact bI
  refine⟨bid,H,by simp[N8,f5,aU],⟨?_,⟨sp,cap,hg⟩,Q2,by omega,hl,.nil rfl rfl⟩,x2,by omega⟩
  rw[gn,hv,List.length_map]
  rfl
end Go.Dm.Tc
/-
Networks,part 8: a broker asked for.
-/
namespace Go.Dm.Tc
variable {h:aA} {nid bid q wid:Nat} {cr:DV} {m:Int} {L:List (Int×Int)} {B:List aL} {W:ID→List Msg} {X:List kW}
structure DN(h:aA)(nid bid q:Nat)(cr:DV)(m:Int)(L:List (Int×Int))(B:List aL):Prop where
 gn:h.get nid=some (Gq m L bid B.length q cr)
 gb:∃ sp cap,h.get bid=some (.arr 37 6 (B.map (aW .none)++sp) cap)
theorem eV.R(A:eV h nid bid q wid cr m L B W X):DN h nid bid q cr m L B:=⟨A.gn,A.gb⟩
theorem DN.push(A:DN h nid bid q cr m L B)(o:DO):DN (h.push o) nid bid q cr m L B:=by
 obtain⟨sp,cap,gb⟩:=A.gb
 exact⟨by rw[aN (aC A.gn)];exact A.gn,sp,cap,by rw[aN (aC gb)];exact gb⟩
theorem q87(A:DN h nid bid q cr m L B)(b:Int):fc D 87 [.ptr nid 5 0 0,.int .i64 b] h=some (.bool (decide (0≤b∧b<B.length)),h):=by
 have gn:=A.gn
 simp only[Gq]at gn
 rw[e87,aM _ _ _ _ (by simp[t87])]
 by_cases h1:0≤b<;>by_cases h2:b<B.length<;>simp[t87,gn,h1,h2]
theorem Aw{lo:Nat}{h:aA}{v:DV}{ety sz:Nat}{xs:List DV}(w:Own lo h v ety sz xs):OwnR lo h v ety sz xs:=w.toR
structure Mr(lo:Nat)(h:aA)(v1 v2 v3 v4 v5:DV)(b:aL):Prop where
 r1:OwnR lo h v1 3 1 (b.bB.map bW)
 r2:OwnR lo h v2 68 4 (b.aY.map aG)
 r3:OwnR lo h v3 45 2 (b.seen.map eID)
 r4:OwnR lo h v4 70 7 (b.entries.map bO)
 r5:OwnR lo h v5 134 3 (b.kR.map pQ)
theorem Mr.ext{lo:Nat}{h h':aA}{v1 v2 v3 v4 v5:DV}{b:aL}(s:Mr lo h v1 v2 v3 v4 v5 b)(x:Ext h.n h h'):Mr lo h' v1 v2 v3 v4 v5 b:=⟨s.r1.ext x,s.r2.ext x,s.r3.ext x,s.r4.ext x,s.r5.ext x⟩
def XP:iE:=⟨true,true,true,true,true⟩
theorem Mr.res{lo:Nat}{h:aA}{v1 v2 v3 v4 v5:DV}{b:aL}(s:Mr lo h v1 v2 v3 v4 v5 b)(n:Nat):resolve true h (n+23) (.agg [.int .i64 b.me,v1,v2,v3,v4,v5])=some (aW XP b):=by
 have q1:=s.r1.resolve (n:=n+22) true (fun y _=>(fD y).1) (by omega)
 have q2:=s.r2.resolve (n:=n+22) true (fun y _=>(fI y).1) (by omega)
 have q3:=s.r3.resolve (n:=n+22) true (fun y _=>(kD y).1) (by omega)
 have q4:=s.r4.resolve (n:=n+22) true (fun y _=>(fK y).1) (by omega)
 have q5:=s.r5.resolve (n:=n+22) true (fun y _=>(jH y).1) (by omega)
 show(match([.int .i64 b.me,v1,v2,v3,v4,v5]:List DV).mapM (resolve true h (n+22))with|some c=>some (DV.agg c)|none=>none)=_
 simp only[List.mapM_cons,List.mapM_nil,q1,q2,q3,q4,q5]
 rfl
set_option maxHeartbeats 4000000 in
theorem q31(A:DN h nid bid q cr m L B)(wf:WF h)(bI:h.lim≤h.n)(k:Nat){b:aL}(hb:B[k]?=some b)(z:Wz b) :
  ∃ v1 v2 v3 v4 v5 h',fc D 31 [.ptr nid 5 0 0,.int .i64 k] h=some (.agg [.int .i64 b.me,v1,v2,v3,v4,v5],h')∧Mr h.n h' v1 v2 v3 v4 v5 b∧Ext h.n h h':=by
 have hk:=(List.getElem?_eq_some_iff.1 hb).1
 have gn:=A.gn
 obtain⟨sp,cap,gb⟩:=A.gb
 simp only[Gq]at gn
 have hT:=q87 (A.push (.arr 37 6 [.agg [.int .i64 0,.nsl,.nsl,.nsl,.nsl,.nsl]] (some 1))) (k:Int)
 rw[decide_eq_true ⟨by omega,by omega⟩]at hT
 have xI:aQ 6 (.sl bid 6 0 B.length) (.int .i64 (k:Int))=some (.ptr bid 6 k 0):=by simp[aQ,asI,hk]
 have nG:(B.map (aW .none)++sp)[k]?=some (aW .none b):=by rw[List.getElem?_append_left (by simp;exact hk),List.getElem?_map,hb];rfl
 have ln:=aC gn
 have lb:=aC gb
 have n1:¬nid=h.n:=by omega
 have n2:¬bid=h.n:=by omega
 obtain⟨z1,z2,z3,z4,z5⟩:=z
 rw[e31,aM _ _ _ _ (by simp[t31])]
 have hm:max (h.n+1+1) h.lim=h.n+2:=by omega
 have hlm1:h.lim≤h.n+1:=by omega
 obtain⟨me,bB,adv,seen,ent,own⟩:=b
 simp only at z1 z2 z3 z4 z5
 simp[t31,hT,gn,gb,n1,n2,xI,nG,hlm1,aW,eY,e88,hm]
 generalize hA:bJ _ _ _ _ _=A
 obtain⟨v1,H1,rfl,o1,x1,y1⟩:=nM (lo:=h.n+2) hA (fY ..) wf.push.push (by simp) (by simp) (by simp;omega) (by simp;omega) (by decide)
 have Ma:Ext h.n h ((h.push (.arr 37 6 [.agg [.int .i64 0,.nsl,.nsl,.nsl,.nsl,.nsl]] (some 1))).push (.arr 37 6 [.agg (eY .none ⟨me,bB,adv,seen,ent,own⟩)] (some 1))):=(Ext.refl (Nat.le_refl _) wf).push.push
 have z1:=Ma.trans (x1.lower (by omega:h.n≤h.n+2))
 clear hA
 simp at x1 y1 z1 o1
 generalize hK1:wl H1 _=K1 at *
 have a1:=x1.get h.n (by omega)
 have b1:=x1.get (h.n+1) (by omega)
 have q1:=x1.lim
 have w1:=x1.wf
 have n1:=x1.le
 simp at a1 b1 q1
 simp[hK1,a1,q1,hm,e89]
 generalize hA:bJ _ _ _ _ _=A
 obtain⟨v2,H2,rfl,o2,x2,y2⟩:=nM (lo:=h.n+2) hA (fY ..) w1 n1 n1 (by omega) (by simp;omega) (by decide)
 rw[q1]at o2 x2 y2
 have z2:=z1.trans (x2.lower (by omega:h.n≤h.n+2))
 replace o1:=o1.ext y2
 clear hA
 generalize hK2:wl H2 _=K2 at *
 have a2:=x2.get h.n (by omega)
 have b2:=x2.get (h.n+1) (by omega)
 have q2:=x2.lim
 have w2:=x2.wf
 have n2:=x2.le
 rw[a1]at a2
 rw[b1]at b2
 rw[q1]at q2
 simp[hK2,a2,q1,q2,hm,e90]
 generalize hA:bJ _ _ _ _ _=A
 obtain⟨v3,H3,rfl,o3,x3,y3⟩:=nM (lo:=h.n+2) hA (fY ..) w2 n2 n2 (by omega) (by simp;omega) (by decide)
 rw[q2]at o3 x3 y3
 have z3:=z2.trans (x3.lower (by omega:h.n≤h.n+2))
 replace o1:=o1.ext y3
 replace o2:=o2.ext y3
 clear hA
 generalize hK3:wl H3 _=K3 at *
 have a3:=x3.get h.n (by omega)
 have b3:=x3.get (h.n+1) (by omega)
 have q3:=x3.lim
 have w3:=x3.wf
 have n3:=x3.le
 rw[a2]at a3
 rw[b2]at b3
 rw[q2]at q3
 simp[hK3,a3,q2,q3,hm,e91]
 generalize hA:bJ _ _ _ _ _=A
 obtain⟨v4,H4,rfl,o4,x4,y4⟩:=nM (lo:=h.n+2) hA (fY ..) w3 n3 n3 (by omega) (by simp;omega) (by decide)
 rw[q3]at o4 x4 y4
 have z4:=z3.trans (x4.lower (by omega:h.n≤h.n+2))
 replace o1:=o1.ext y4
 replace o2:=o2.ext y4
 replace o3:=o3.ext y4
 clear hA
 generalize hK4:wl H4 _=K4 at *
 have a4:=x4.get h.n (by omega)
 have b4:=x4.get (h.n+1) (by omega)
 have q4:=x4.lim
 have w4:=x4.wf
 have n4:=x4.le
 rw[a3]at a4
 rw[b3]at b4
 rw[q3]at q4
 simp[hK4,a4,q3,q4,hm,e92]
 generalize hA:bJ _ _ _ _ _=A
 obtain⟨v5,K5,rfl,o5,x5,y5⟩:=sF (lo:=h.n+2) (fY ..) w4 n4 (by omega) (by simp;omega) (by decide) hA
 have z5:=z4.trans (x5.lower (by omega:h.n≤h.n+2))
 replace o1:=o1.ext y5
 replace o2:=o2.ext y5
 replace o3:=o3.ext y5
 replace o4:=o4.ext y5
 clear hA
 have a5:=x5.get h.n (by omega)
 have b5:=x5.get (h.n+1) (by omega)
 have q5:=x5.lim
 have w5:=x5.wf
 have n5:=x5.le
 rw[a4]at a5
 rw[b4]at b5
 rw[q4]at q5
 have c5:h.n<K5.n:=by omega
 have d5:h.n+1<K5.n:=by omega
 have f5:h.lim≤h.n+1:=by omega
 simp[a5,b5,q5,w5,c5,d5,f5,bI,o1.aO,o2.aO,o3.aO,o4.aO,o5.aO,o1.aF,o2.aF,o3.aF,o4.aF,o5.aF,turn]
 refine⟨v1,v2,v3,v4,v5,_,⟨⟨rfl,rfl,rfl,rfl,rfl⟩,rfl⟩,⟨Aw ?_,Aw ?_,Aw ?_,Aw ?_,Aw ?_⟩,?_⟩
 ·exact((o1.aR w5 (by omega) d5).aR w5.set (by omega) c5).lower (by omega)
 ·exact((o2.aR w5 (by omega) d5).aR w5.set (by omega) c5).lower (by omega)
 ·exact((o3.aR w5 (by omega) d5).aR w5.set (by omega) c5).lower (by omega)
 ·exact((o4.aR w5 (by omega) d5).aR w5.set (by omega) c5).lower (by omega)
 ·exact((o5.aR w5 (by omega) d5).aR w5.set (by omega) c5).lower (by omega)
 ·exact(z5.set (by omega) d5).set (by omega) c5
end Go.Dm.Tc
/-
Networks,part 9: messages sent.
-/
namespace Go.Dm.Tc
variable {h:aA} {nid bid q wid:Nat} {cr:DV} {m:Int} {L:List (Int×Int)} {B:List aL} {W:ID→List Msg} {X:List kW}
def HW(o:vV):Msg:=⟨o.kind,o.tree,o.id,o.pred,[]⟩
def rQ(u:Int)(W:ID→List Msg):List vV→ID→List Msg
 | []=>W
 | o::r=>rQ u (wU W ⟨u,o.to⟩ (W ⟨u,o.to⟩++[HW o])) r
theorem FY(W:ID→List Msg)(x:ID)(mm:Msg)(y:ID):(wU W x (W x++[mm]) y).length≤(W y).length+1:=by
 simp only[wU];split
 ·subst_vars;simp
 ·omega
theorem eV.key(A:eV h nid bid q wid cr m L B W X){i ety sz:Nat}{xs:List DV}{cap:Option Nat}(g:h.get i=some (.arr ety sz xs cap))(hs:sz≠2):i ∉ [q,wid]:=by
 have gq:=A.Q.gq
 obtain⟨ms,gw,_⟩:=A.Q.gw
 intro hm;simp only[List.mem_cons,List.not_mem_nil,or_false]at hm
 rcases hm with rfl|rfl
 ·rw[gq]at g;simp[qO]at g;exact hs g.2.1.symm
 ·rw[gw]at g;cases g
theorem eV.nq(A:eV h nid bid q wid cr m L B W X):nid ∉ [q,wid]:=A.key A.gn (by decide)
theorem eV.upd(A:eV h nid bid q wid cr m L B W X){H:aA}{W':ID→List Msg}(U:Upd h H [q,wid] [q,wid])(Q:QAt H q wid (bD L) W'):eV H nid bid q wid cr m L B W' X:=by
 have key:∀{i ety sz:Nat} {xs:List DV} {cap:Option Nat},h.get i=some (.arr ety sz xs cap)→sz≠2→H.get i=some (.arr ety sz xs cap):=fun g hs=>by
  rw[U.old _ (aC g) (A.key g hs)];exact g
 obtain⟨sp,cap,gb⟩:=A.gb
 have gn:=A.gn
 refine⟨key gn (by decide),⟨sp,cap,key gb (by decide)⟩,Q,by rw[U.lim];exact A.ln,by rw[U.lim];exact A.lb,?_⟩
 rw[U.lim]
 cases A.cx with
 | nil hv hx=>exact .nil hv hx
 | arr id sp cap hv hg hl hi=>exact .arr id sp cap hv (key hg (by decide)) (by rw[U.lim];exact hl) hi
theorem l85(P:Res→Prop)(t:Bool)(u:Int)(gK:List vV)(hw:(bD L).length≤1000000)(ho:∀o∈gK,(u,o.to)∈bD L∧o.kind≠5)(eN:gK.length≤1000000) :
  ∀(k i:Nat) (f:eI) (K:aA) (W:ID→List Msg),i+k=gK.length→f 0=.ptr nid 5 0 0→f 1=.int .i64 u→f 8=eL t 8 oJ gK→f 9=.int .i64 gK.length→f 10=.int .i64 i→eV K nid bid q wid cr m L B W X→WF K→K.lim≤K.n→(∀x,(W x).length+k≤300000) →
  (∀F H,eV H nid bid q wid cr m L B (rQ u W (gK.drop i)) X→Upd K H [q,wid] [q,wid]→P (.ok .normal (Dm.tab 46 F) H)) →
  P (run D 46 [.block 0] (.loop M8) f K):=by
 intro k
 induction k with
 | zero =>
  intro i f K W hi f0 f1 f8 f9 f10 A wf hl hW dO
  have:¬((i:Int)<gK.length):=by omega
  rw[aJ M8.eq_1]
  simp[f9,f10,this]
  have hd:gK.drop i=[]:=List.drop_eq_nil_iff.2 (by omega)
  rw[hd]at dO
  exact dO _ _ A (Upd.refl wf _)
 | succ k ih =>
  intro i f K W hi f0 f1 f8 f9 f10 A wf hl hW dO
  have aZ:(i:Int)<gK.length:=by omega
  have RJ:IntKind.i64.wrap ((i:Int)+1)=(i:Int)+1:=bG (by omega) (by omega)
  obtain⟨o,JH⟩:∃ o,gK[i]?=some o:=⟨_,List.getElem?_eq_getElem (by omega)⟩
  have Ee:=ho o (List.mem_of_getElem? JH)
  have gn:=A.gn
  simp only[Gq]at gn
  have nK:nid<K.n:=aC gn
  have n3:¬nid=K.n:=by omega
  have n4:¬nid=K.n+1:=by omega
  rw[aJ M8.eq_1]
  simp[f0,f1,f8,f9,f10,aZ,gn,JH,n3,n4,hl,oJ,dY,turn]
  have gq:=A.Q.gq
  obtain⟨ms,gw,_⟩:=A.Q.gw
  have nq:q<K.n:=aC gq
  have nw:wid<K.n:=aC gw
  have hW1:=hW ⟨u,o.to⟩
  have A2:QAt ((K.push (.arr 206 8 [.agg [.int .i64 o.to,.int .i64 o.kind,.int .i64 o.tree.bK,.int .i64 o.tree.seq,.int .i64 o.id.bK,.int .i64 o.id.seq,eL false 5 fZ o.pred,.isl false 0 []]] (some 1))).push (.arr 49 7 [.agg [.int .i64 o.kind,.int .i64 o.tree.bK,.int .i64 o.tree.seq,.int .i64 o.id.bK,.int .i64 o.id.seq,eL false 5 fZ o.pred,.isl false 0 []]] (some 1))) q wid (bD L) W:=by
   refine A.Q.old rfl ?_ ?_
   ·rw[aN (by simp;omega),aN nq]
   ·rw[aN (by simp;omega),aN nw]
  obtain⟨H,e,Q',U⟩:=q182 A2 wf.push.push hw Ee.1 (m:=HW o) (mid:=K.n+1) (e0:=.agg [.int .i64 o.kind,.int .i64 o.tree.bK,.int .i64 o.tree.seq,.int .i64 o.id.bK,.int .i64 o.id.seq,eL false 5 fZ o.pred,.isl false 0 []]) (cap:=some 1) (by simp[wf.push]) (by
   intro n tag h
   have hF:kJ 2 (jN (HW o)):=sB (k:=1) (by
    intro x hx;simp only[List.mem_cons,List.not_mem_nil,or_false]at hx
    rcases hx with rfl|rfl|rfl|rfl|rfl|rfl|rfl<;>first|exact gU _ _|exact eX _ _ _ _)
   exact hF tag h (n+2) (by omega)) (by omega)
  rw[e]
  have o1:=U.old K.n (by simp;omega) (by simp;omega)
  have o2:=U.old nid (by simp;omega) (by simpa using A.nq)
  have k5:¬o.kind=5:=Ee.2
  simp[o1,o2,aN,wf,nK,gn,n3,k5,f10,RJ,turn]
  have U1:=(((Upd.refl wf [q,wid]).push _).push _).trans U
  have hd:gK.drop i=o::gK.drop (i+1):=by
   rw[List.drop_eq_getElem_cons (by omega)]
   congr 1
   exact(List.getElem?_eq_some_iff.1 JH).2
  rw[hd]at dO
  generalize hF:upd _ 10 _=F
  refine ih (i+1) F H _ (by omega) (by rw[←hF];simp[f0]) (by rw[←hF];simp[f1]) (by rw[←hF];simp[f8]) (by rw[←hF];simp[f9]) (by rw[←hF];simp) (A.upd U1 Q') U.wf (by rw[U1.lim];have:=U1.n;omega) (fun x=>?_) fun F' H' A' U'=>dO F' H' A' (U1.trans U')
  have h1:=FY W ⟨u,o.to⟩ (HW o) x
  have h2:=hW x
  omega
theorem q85(A:eV h nid bid q wid cr m L B W X)(wf:WF h)(hl:h.lim≤h.n)(t:Bool)(u:Int)(gK:List vV)(hw:(bD L).length≤1000000)(ho:∀o∈gK,(u,o.to)∈bD L∧o.kind≠5)(eN:gK.length≤1000000)(hW:∀x,(W x).length+gK.length≤300000) :
  ∃ H,fc D 85 [.ptr nid 5 0 0,.int .i64 u,eL t 8 oJ gK] h=some (.tup [],H)∧eV H nid bid q wid cr m L B (rQ u W gK) X∧Upd h H [q,wid] [q,wid]:=by
 rw[e85,aM _ _ _ _ (by simp[t85])]
 simp[t85]
 refine l85 (fun r=>∃ H,fin [] r=some (.tup [],H)∧eV H nid bid q wid cr m L B (rQ u W gK) X∧Upd h H [q,wid] [q,wid]) t u gK hw ho eN gK.length 0 _ h W (by simp) (by simp) (by simp) (by simp) (by simp) (by simp) A wf hl hW fun F H A' U=>?_
 exact⟨H,by simp[BW,aU],A',U⟩
end Go.Dm.Tc
/-
What functions compute,part 36: an advertisement taken back;a broker's side.
-/
namespace Go.Dm.Tc
theorem _root_.Go.Dm.OwnR.wl{lo:Nat}{h:aA}{v:DV}{ety sz:Nat}{xs:List DV}(w:OwnR lo h v ety sz xs){m:Nat}(hm:m≤lo):OwnR lo (Dm.wl h m) v ety sz xs:=by
 cases w with
 | nil hv hx=>exact .nil hv hx
 | arr id sp cap hv hg hl hi=>exact .arr id sp cap hv hg (Nat.le_trans hm hi) hi
end Go.Dm.Tc
/-
Networks,part 10: a broker turned.
-/
namespace Go.Dm.Tc
variable {h:aA} {nid bid q wid:Nat} {cr:DV} {m:Int} {L:List (Int×Int)} {B:List aL} {W:ID→List Msg} {X:List kW}
theorem eV.ext(A:eV h nid bid q wid cr m L B W X){H:aA}(x:Ext h.n h H):eV H nid bid q wid cr m L B W X:=by
 obtain⟨sp,cap,gb⟩:=A.gb
 have gn:=A.gn
 have gq:=A.Q.gq
 obtain⟨ms,gw,_⟩:=A.Q.gw
 refine⟨by rw[x.get _ (aC gn)];exact gn,⟨sp,cap,by rw[x.get _ (aC gb)];exact gb⟩,A.Q.old x.lim (x.get _ (aC gq)) (x.get _ (aC gw)),by rw[x.lim];exact A.ln,by rw[x.lim];exact A.lb,?_⟩
 rw[x.lim];exact A.cx.ext x
theorem q77(A:eV h nid bid q wid cr m L B W X)(wf:WF h)(hl:h.lim≤h.n)(k:Nat){b b':aL}(hb:B[k]?=some b)(f:FuncId)(caps:List DV)(gK:List vV)
  {h1:aA} (fO:fc D f (aW .none b::caps) h=some (.tup [aW .none b',eL false 8 oJ gK],h1)) (x:Ext h.n h h1)
  (hw:(bD L).length≤1000000) (ho:∀o∈gK,((k:Int),o.to)∈bD L∧o.kind≠5) (eN:gK.length≤1000000) (hW:∀x,(W x).length+gK.length≤300000) :
  ∃ H,fc D 77 [.ptr nid 5 0 0,.int .i64 k,.func f caps] h=some (.nili,H)∧eV H nid bid q wid cr m L (B.set k b') (rQ k W gK) X∧Upd h H [bid,q,wid] [bid,q,wid]:=by
 have hT:=q87 A.R (k:Int)
 have hk:=(List.getElem?_eq_some_iff.1 hb).1
 rw[decide_eq_true ⟨by omega,by omega⟩]at hT
 have gn:=A.gn
 obtain⟨sp,cap,gb⟩:=A.gb
 simp only[Gq]at gn
 have xI:aQ 6 (.sl bid 6 0 B.length) (.int .i64 (k:Int))=some (.ptr bid 6 k 0):=by simp[aQ,asI,hk]
 have nG:(B.map (aW .none)++sp)[k]?=some (aW .none b):=by rw[List.getElem?_append_left (by simp;exact hk),List.getElem?_map,hb];rfl
 have ln:=aC gn
 have lb:=aC gb
 have xl:=x.lim
 have xn:=x.le
 have A1:=A.ext x
 have gn1:=A1.gn
 simp only[Gq]at gn1
 have gb1:=(x.get _ lb).trans gb
 have n1:¬nid=h1.n:=by omega
 have n2:¬bid=h1.n:=by omega
 have wf1:=x.wf
 have lb1:=aC gb1
 have Iw:h1.lim≤h1.n:=by omega
 rw[e77,aM _ _ _ _ (by simp[t77])]
 have nb:¬nid=bid:=by rintro rfl;rw[gb1]at gn1;simp at gn1
 have bn:¬bid=nid:=fun e=>nb e.symm
 have llb:=A1.lb
 have n5:¬h1.n=bid:=fun e=>n2 e.symm
 have key:∀{i:Nat} {o:DO},h1.get i=some o→i≠bid→∀(o1 o2:DO),((h1.set bid o1).push o2).get i=some o:=fun g cT o1 o2=>by
  have:=aC g
  rw[aN (by simp;omega),aS lb1 cT];exact g
 have A2:eV ((h1.set bid (.arr 37 6 ((B.map (aW .none)++sp).set k (aW .none b')) cap)).push (.arr 37 6 [aW .none b'] (some 1))) nid bid q wid cr m L (B.set k b') W X:=by
  have qq:=A1.Q.gq
  obtain⟨ms,qw,_⟩:=A1.Q.gw
  have hqb:q≠bid:=by rintro rfl;rw[gb1]at qq;simp[qO]at qq
  have hwb:wid≠bid:=by rintro rfl;rw[gb1]at qw;simp at qw
  refine⟨?_,⟨sp,cap,?_⟩,A1.Q.old rfl ?_ ?_,A1.ln,A1.lb,?_⟩
  ·simp only[List.length_set];exact key A1.gn nb _ _
  ·rw[aN (by simp;omega),cN wf1 gb1,List.set_append_left _ _ (by simp;exact hk),List.map_set]
  ·rw[key qq hqb,qq]
  ·rw[key qw hwb,qw]
  ·cases A1.cx with
   | nil hv hx=>exact .nil hv hx
   | arr id sp2 cap2 hv hg Rf hi=>exact .arr id sp2 cap2 hv (key hg (by rintro rfl;rw[gb1]at hg;simp at hg) _ _) Rf hi
 obtain⟨H,e,A3,U⟩:=q85 A2 (wf1.set.push) (by simp;omega) false (k:Int) gK hw ho eN hW
 simp[t77,hT,gn,gb,n1,n2,xI,nG,fO,gn1,gb1,Iw,llb,lb1,nb,bn,n5,e]
 refine⟨A3,⟨by have:=U.n;simp at this;omega,by rw[U.lim];simpa using xl,U.wf,fun i hi hn=>?_,fun i hi=>.inl hi⟩⟩
 simp only[List.mem_cons,List.not_mem_nil,or_false,not_or]at hn
 rw[U.old i (by simp;omega) (by simp;exact hn.2),aN (by simp;omega),aS lb1 hn.1,x.get i hi]
end Go.Dm.Tc
/-
Networks,part 11: an advertisement Eb at a broker.
-/
namespace Go.Dm.Tc
variable {h:aA} {nid bid q wid:Nat} {cr:DV} {m:Int} {L:List (Int×Int)} {B:List aL} {W:ID→List Msg} {X:List kW}
end Go.Dm.Tc
/-
Networks,part 12: an advertisement taken back at a broker.
-/
namespace Go.Dm.Tc
variable {h:aA} {nid bid q wid:Nat} {cr:DV} {m:Int} {L:List (Int×Int)} {B:List aL} {W:ID→List Msg} {X:List kW}
end Go.Dm.Tc
/-
Networks,part 13: a link picked.
-/
namespace Go.Dm.Tc
variable {h:aA} {nid bid q wid:Nat} {cr:DV} {m:Int} {L:List (Int×Int)} {B:List aL} {W:ID→List Msg} {X:List kW}
theorem q29(A:eV h nid bid q wid cr m L B W X)(wf:WF h)(hl:h.lim≤h.n)(u:Int)(k:Nat){b b':aL}(hb:B[k]?=some b){ms:Msg}{r:List Msg}(hm:W ⟨u,k⟩=ms::r)(gK:List vV)
  (hs:pcF D t52 [aW .none b,.int .i64 u,jN ms]=some (.tup [aW .none b',eL false 8 oJ gK,.isl false 0 []]))
  (hw:(bD L).length≤1000000) (ho:∀o∈gK,((k:Int),o.to)∈bD L∧o.kind≠5) (eN:gK.length≤1000000) (hW:∀x,(W x).length+gK.length≤300000) :
  ∃ H,fc D 29 [.ptr nid 5 0 0,.int .i64 u,.int .i64 k] h=some (.tup [.isl false 0 [],.nili],H)∧eV H nid bid q wid cr m L (B.set k b') (rQ k (wU W ⟨u,k⟩ r) gK) X∧Upd h H [bid,q,wid] [bid,q,wid]:=by
 obtain⟨h1,e1,Q1,U1⟩:=q84 A.Q wf hm
 have A1:=A.upd U1 Q1
 have hk:=(List.getElem?_eq_some_iff.1 hb).1
 have gn:=A.gn
 have gn1:=A1.gn
 obtain⟨sp,cap,gb1⟩:=A1.gb
 simp only[Gq]at gn gn1
 have xI:aQ 6 (.sl bid 6 0 B.length) (.int .i64 (k:Int))=some (.ptr bid 6 k 0):=by simp[aQ,asI,hk]
 have nG:(B.map (aW .none)++sp)[k]?=some (aW .none b):=by rw[List.getElem?_append_left (by simp;exact hk),List.getElem?_map,hb];rfl
 have ln1:=aC gn1
 have lb1:=aC gb1
 have n1:¬nid=h1.n:=by omega
 have n2:¬bid=h1.n:=by omega
 have n3:¬nid=h1.n+1:=by omega
 have n4:¬bid=h1.n+1:=by omega
 have Iw:h1.lim≤h1.n:=by rw[U1.lim];have:=U1.n;omega
 simp only[jN]at e1 hs
 have Rf:h1.lim≤h1.n+1:=by omega
 have llb:=A1.lb
 have nb:¬nid=bid:=by rintro rfl;rw[gb1]at gn1;simp at gn1
 have lb2:bid<h1.n+1:=by omega
 have wf1:=U1.wf
 have key:∀{i:Nat} {o:DO},h1.get i=some o→i≠bid→∀(o1 o2 o3:DO),(((h1.set bid o1).push o2).push o3).get i=some o:=fun g cT o1 o2 o3=>by
  have:=aC g
  rw[aN (by simp;omega),aN (by simp;omega),aS lb1 cT];exact g
 have A2:eV (((h1.set bid (.arr 37 6 ((B.map (aW .none)++sp).set k (aW .none b')) cap)).push (.arr 49 7 [.agg [.int .i64 ms.kind,.int .i64 ms.tree.bK,.int .i64 ms.tree.seq,.int .i64 ms.id.bK,.int .i64 ms.id.seq,dY ms.pred,eL false 4 QI ms.KQ]] (some 1))).push (.arr 37 6 [aW .none b'] (some 1))) nid bid q wid cr m L (B.set k b') (wU W ⟨u,k⟩ r) X:=by
  have qq:=A1.Q.gq
  obtain⟨mm,qw,_⟩:=A1.Q.gw
  have hqb:q≠bid:=by rintro rfl;rw[gb1]at qq;simp[qO]at qq
  have hwb:wid≠bid:=by rintro rfl;rw[gb1]at qw;simp at qw
  refine⟨?_,⟨sp,cap,?_⟩,A1.Q.old rfl ?_ ?_,A1.ln,A1.lb,?_⟩
  ·simp only[List.length_set];exact key A1.gn nb _ _ _
  ·rw[aN (by simp;omega),aN (by simp;omega),cN wf1 gb1,List.set_append_left _ _ (by simp;exact hk),List.map_set]
  ·rw[key qq hqb,qq]
  ·rw[key qw hwb,qw]
  ·cases A1.cx with
   | nil hv hx=>exact .nil hv hx
   | arr id sp2 cap2 hv hg Rf hi=>exact .arr id sp2 cap2 hv (key hg (by rintro rfl;rw[gb1]at hg;simp at hg) _ _ _) Rf hi
 obtain⟨H,e,A3,U⟩:=q85 A2 (wf1.set.push.push) (by simp;omega) false (k:Int) gK hw ho eN (fun x=>by
  have:=hW x
  simp only[wU];split
  ·rename_i hx;subst hx;rw[hm]at this;simp at this;omega
  ·exact this)
 rw[e29,aM _ _ _ _ (by simp[t29])]
 simp[t29,gn,e1,gn1,gb1,n1,n2,n3,n4,xI,nG,e52,hs,Iw,Rf,llb,lb1,lb2,nb,e,aU,turn,rY,Aj]
 refine⟨A3,⟨by have:=U.n;have:=U1.n;simp at *;omega,by rw[U.lim];simpa using U1.lim,U.wf,fun i hi hn=>?_,fun i hi=>.inl hi⟩⟩
 simp only[List.mem_cons,List.not_mem_nil,or_false,not_or]at hn
 have:=U1.n
 rw[U.old i (by simp;omega) (by simp;exact hn.2),aN (by simp;omega),aN (by simp;omega),aS lb1 hn.1,U1.old i hi (by simp;exact hn.2)]
end Go.Dm.Tc
/-
Networks,part 14: where something waits;the graph.
-/
namespace Go.Dm.Tc
variable {h:aA} {nid bid q wid:Nat} {cr:DV} {m:Int} {L:List (Int×Int)} {B:List aL} {W:ID→List Msg} {X:List kW}
theorem GZ(A:eV h nid bid q wid cr m L B W X){v:DV}{H:aA}(hq:fc D 82 [.ptr q 2 0 0] h=some (v,H)):fc D 27 [.ptr nid 5 0 0] h=some (v,H):=by
 have gn:=A.gn
 simp only[Gq]at gn
 rw[e27,aM _ _ _ _ (by simp[t27])]
 simp[t27,gn,hq,turn,aU]
end Go.Dm.Tc
/-
Floods at a broker vX own subscriptions: an advertisement comes,or its end;what a link's message does then;asked of the network.
-/
namespace Go.Dm.Tc
theorem _root_.Go.Dm.OwnR.wl0{lo:Nat}{h:aA}{v:DV}{ety sz:Nat}{xs:List DV}(w:OwnR lo h v ety sz xs){m:Nat}(hm:m≤lo):OwnR lo (Dm.wl h m) v ety sz xs:=by
 cases w with
 | nil hv hx=>exact .nil hv hx
 | arr id sp cap hv hg hl hi=>exact .arr id sp cap hv hg (Nat.le_trans hm hi) hi
structure It(b:aL):Prop where
 z:Wz b
 ra:eC (b.aY.map (·.id))
 rs:eC b.seen
 own:b.kR=[]
def mF(b:aL)(lW:Int)(x:ID)(p:dR):aL×List vV :=
 if x∈b.seen then(b,[])else((dF b ⟨x,p,lW⟩).1,lZ b.bB lW 1 x.bK x.seq 0 0 p)
def qQ(b:aL)(lW:Int)(x:ID):aL×List vV :=
 if(fJ b x lW).2=true then((fJ b x lW).1,lZ b.bB lW 2 x.bK x.seq 0 0 [])else(b,[])
theorem RF(b:aL)(xc xd lW:Int)(p:dR)(g:It b) :
  pcF D t79 [aW .none b,.int .i64 lW,.agg [.int .i64 xc,.int .i64 xd],dY p]=some (.tup [aW .none (mF b lW ⟨xc,xd⟩ p).1,eL false 8 oJ (mF b lW ⟨xc,xd⟩ p).2]):=by
 have hlearn:=s174 .none b xc xd p lW g.z g.ra g.rs
 unfold pcF
 rw[aM _ _ _ _ (by simp[t79])]
 by_cases hq:(⟨xc,xd⟩:ID)∈b.seen
 ·have hb:dF b ⟨⟨xc,xd⟩,p,lW⟩=(b,false):=by simp[dF,hq]
  rw[hb]at hlearn
  simp[t79,s8,hlearn,turn,aU,tM,mF,hq]
 ·have hb:(dF b ⟨⟨xc,xd⟩,p,lW⟩).2=true:=by simp[dF,hq]
  have hnear:(dF b ⟨⟨xc,xd⟩,p,lW⟩).1.bB=b.bB:=by unfold dF;split<;>rfl
  have howns:b.kR=[]:=g.own
  rw[hb]at hlearn
  simp[t79,s8,hlearn,turn,mF,hq]
  generalize hA:fc D _ _ _=A
  obtain⟨v1,K,rfl,o1,x1⟩:=i5 hA (by have:=g.z.bB;first|omega|(rw[hnear];omega)) (by simp) (by simp)
  clear hA
  have a0:=x1.get 0 (by simp)
  have a1:=x1.get 1 (by simp)
  have a2:=x1.get 2 (by simp)
  have a3:=x1.get 3 (by simp)
  have al:=x1.lim
  simp at a0 a1 a2 a3 al o1
  try simp only[hnear]at o1
  have eD:=xX (but:=lW) (k:=1) (tc:=xc) (td:=xd) (ic:=0) (id:=0) (pd:=dY p) (ad:=.nsl) (.inl rfl) (.inl rfl) b.bB
  have hn:=x1.le
  simp at hn
  have l2:2<K.n:=by omega
  have r1:∀o,resolve false (K.set 2 o) 199 v1=some (eL false 8 oJ (lZ b.bB lW 1 xc xd 0 0 p)):=fun o=>P7 (o1.aR (o:=o) x1.wf (by decide) l2) eD false (by decide)
  have hu:bA 199 (eL false 8 oJ (lZ b.bB lW 1 xc xd 0 0 p))=true:=lG (fun y _=>(wD y).2) 199 (by decide)
  simp[a0,a3,howns]
  rw[aJ QY.eq_1]
  simp[QZ,a2,a3,al,l2,x1.wf,turn,aU,r1,hu,howns]
theorem UJ(b:aL)(xc xd lW:Int)(g:It b) :
  pcF D Yg [aW .none b,.int .i64 lW,.agg [.int .i64 xc,.int .i64 xd]]=some (.tup [aW .none (qQ b lW ⟨xc,xd⟩).1,eL false 8 oJ (qQ b lW ⟨xc,xd⟩).2]):=by
 have hf:=s213 .none b xc xd lW g.z g.ra
 have hnear:(fJ b ⟨xc,xd⟩ lW).1.bB=b.bB:=by
  unfold fJ
  repeat' split
  all_goals rfl
 unfold pcF
 rw[aM _ _ _ _ (by simp[Yg])]
 cases hq:(fJ b ⟨xc,xd⟩ lW).2 with
 | false =>
  have ha:qQ b lW ⟨xc,xd⟩=(b,[]):=by simp[qQ,hq]
  have hb:(fJ b ⟨xc,xd⟩ lW).1=b:=by
   unfold fJ at hq ⊢
   split
   ·rfl
   ·rename_i a he
    rw[he]at hq
    simp only at hq
    split
    ·rename_i hs;rw[if_pos hs]at hq;cases hq
    ·rfl
  rw[hq,hb]at hf
  rw[ha]
  simp[Yg,s6,hf,turn,aU,tM]
 | true =>
  have ha:qQ b lW ⟨xc,xd⟩=((fJ b ⟨xc,xd⟩ lW).1,lZ b.bB lW 2 xc xd 0 0 []):=by simp[qQ,hq]
  rw[hq]at hf
  rw[ha]
  simp[Yg,s6,hf,turn,aU]
  generalize hA:fc D _ _ _=A
  obtain⟨v1,K,rfl,o1,x1⟩:=i5 hA (by have:=g.z.bB;first|omega|(rw[hnear];omega)) (by simp) (by simp)
  clear hA
  have a0:=x1.get 0 (by simp)
  have a1:=x1.get 1 (by simp)
  have a2:=x1.get 2 (by simp)
  have al:=x1.lim
  simp at a0 a1 a2 al o1
  try simp only[hnear]at o1
  have eD:=xX (but:=lW) (k:=2) (tc:=xc) (td:=xd) (ic:=0) (id:=0) (pd:=.nsl) (ad:=.nsl) (p:=[]) (.inr ⟨rfl,rfl⟩) (.inl rfl) b.bB
  have hn:=x1.le
  simp at hn
  have l2:2<K.n:=by omega
  have r1:∀o,resolve false (Dm.wl (K.set 2 o) 0) 199 v1=some (eL false 8 oJ (lZ b.bB lW 2 xc xd 0 0 [])):=fun o=>P7 ((o1.aR (o:=o) x1.wf (by decide) l2).wl0 (Nat.zero_le _)) eD false (by decide)
  have hu:bA 199 (eL false 8 oJ (lZ b.bB lW 2 xc xd 0 0 []))=true:=lG (fun y _=>(wD y).2) 199 (by decide)
  simp[a0,a1,a2,al,l2,x1.wf,turn,aU,r1,hu]
theorem NK(b:aL)(q tc td sc sd:Int)(p:dR)(g:It b) :
  pcF D t52 [aW .none b,.int .i64 q,.agg [.int .i64 1,.int .i64 tc,.int .i64 td,.int .i64 sc,.int .i64 sd,dY p,.isl false 0 []]]=some (.tup [aW .none (mF b q ⟨tc,td⟩ p).1,eL false 8 oJ (mF b q ⟨tc,td⟩ p).2,.isl false 0 []]):=by
 have h1:=RF b tc td q p g
 have hu2:∀os:List vV,bA 199 (eL false 8 oJ os)=true:=fun os=>lG (fun y _=>(wD y).2) 199 (by decide)
 unfold pcF
 rw[aM _ _ _ _ (by simp[t52])]
 simp[t52,e79,h1,turn,aU,hu2]
theorem NJ(b:aL)(q tc td sc sd:Int)(p:dR)(g:It b) :
  pcF D t52 [aW .none b,.int .i64 q,.agg [.int .i64 2,.int .i64 tc,.int .i64 td,.int .i64 sc,.int .i64 sd,dY p,.isl false 0 []]]=some (.tup [aW .none (qQ b q ⟨tc,td⟩).1,eL false 8 oJ (qQ b q ⟨tc,td⟩).2,.isl false 0 []]):=by
 have h2:=UJ b tc td q g
 have hu2:∀os:List vV,bA 199 (eL false 8 oJ os)=true:=fun os=>lG (fun y _=>(wD y).2) 199 (by decide)
 unfold pcF
 rw[aM _ _ _ _ (by simp[t52])]
 simp[t52,e134,h2,turn,aU,hu2]
variable {h:aA} {nid bid q wid:Nat} {cr:DV} {m:Int} {L:List (Int×Int)} {B:List aL} {W:ID→List Msg} {X:List kW}
theorem Vl(h:aA):fQ h .nsl=some (.nsl,h):=_root_.id rfl
def L9(pv:DV)(p:dR):Prop:=(pv=.nsl∧p=[])∨pv=eL false 5 fZ p
theorem d7(b:aL)(xc xd:Int){pv:DV}{p:dR}(hv:L9 pv p)(g:It b)(h:aA)(i1 i2:Nat)(wf:WF h)(hl:h.lim≤h.n)(e1 e2:Nat)
  (g1:h.get i1=some (.arr e1 2 [.agg [.int .i64 xc,.int .i64 xd]] (some 1))) (g2:h.get i2=some (.arr e2 1 [pv] (some 1))) :
  ∃ H,fc D 78 [aW .none b,.ptr i1 2 0 0,.ptr i2 1 0 0] h=some (.tup [aW .none (mF b (-1) ⟨xc,xd⟩ p).1,eL false 8 oJ (mF b (-1) ⟨xc,xd⟩ p).2],H)∧Ext h.n h H:=by
 have hF:=RF b xc xd (-1) p g
 have l1:=aC g1
 have l2:=aC g2
 have m1:¬i1=h.n:=by omega
 have m2:¬i2=h.n:=by omega
 have m3:¬i1=h.n+1:=by omega
 have m4:¬i2=h.n+1:=by omega
 rw[e78,aM _ _ _ _ (by simp[t78])]
 simp only[dY]at hF
 have Iw:h.lim≤h.n+1:=by omega
 rcases hv with⟨rfl,rfl⟩|rfl
 ·rw[show eL false 5 fZ ([]:dR)=DV.isl false 0 []from rfl]at hF
  simp[t78,g1,g2,m1,m2,m3,m4,e79,hF,hl,Iw,wf,turn,Vl,aU]
  exact((Ext.refl (Nat.le_refl _) wf).push).push
 ·simp[t78,g1,g2,m1,m2,m3,m4,e79,hF,hl,Iw,wf,turn,Vl,aU]
  exact((Ext.refl (Nat.le_refl _) wf).push).push
theorem d8(A:eV h nid bid q wid cr m L B W X)(wf:WF h)(hl:h.lim≤h.n)(k:Nat){b:aL}(hb:B[k]?=some b)(xc xd:Int){pv:DV}{p:dR}(hv:L9 pv p)(g:It b)
  (hw:(bD L).length≤1000000) (ho:∀o∈(mF b (-1) ⟨xc,xd⟩ p).2,((k:Int),o.to)∈bD L∧o.kind≠5) (eN:(mF b (-1) ⟨xc,xd⟩ p).2.length≤1000000) (hW:∀x,(W x).length+(mF b (-1) ⟨xc,xd⟩ p).2.length≤300000) :
  ∃ H,fc D 25 [.ptr nid 5 0 0,.int .i64 k,.agg [.int .i64 xc,.int .i64 xd],pv] h=some (.nili,H)∧eV H nid bid q wid cr m L (B.set k (mF b (-1) ⟨xc,xd⟩ p).1) (rQ k W (mF b (-1) ⟨xc,xd⟩ p).2) X∧Upd h H [bid,q,wid] [bid,q,wid]:=by
 have st:aO 1 pv=true:=by rcases hv with⟨rfl,rfl⟩|rfl<;>simp
 have ec:aF 1 pv=[pv]:=by rcases hv with⟨rfl,rfl⟩|rfl<;>simp
 have x:Ext h.n h ((h.push (.arr 45 2 [.agg [.int .i64 xc,.int .i64 xd]] (some 1))).push (.arr 46 1 [pv] (some 1))):=((Ext.refl (Nat.le_refl _) wf).push).push
 obtain⟨h1,e1,x1⟩:=d7 b xc xd hv g _ h.n (h.n+1) x.wf (by have:=x.lim;have:=x.le;simp;omega) 45 46 (by simp[wf]) (by simp[wf])
 obtain⟨H,e2,A2,U⟩:=q77 (A.ext x) x.wf (by have:=x.lim;simp;omega) k hb _ _ _ e1 x1 hw ho eN hW
 rw[e25,aM _ _ _ _ (by simp[t25])]
 simp[t25,st,ec,e2,turn,aU]
 exact⟨A2,(((Upd.refl wf _).push _).push _).trans U⟩
end Go.Dm.Tc
/-
Networks,part 16: what waits on a link;what crossed.
-/
namespace Go.Dm.Tc
variable {h:aA} {nid bid q wid:Nat} {cr:DV} {m:Int} {L:List (Int×Int)} {B:List aL} {W:ID→List Msg} {X:List kW}
theorem CS(x:Msg):dL 200 0 (jN x)=true:=by
 obtain⟨k,t,i,p,a⟩:=x
 cases p<;>cases a<;>rfl
theorem OV{ety:Nat}{h:aA}{v0:DV}{l:List Msg}(r:sH v0 l)(hl:l.length≤1000000)(wf:WF h)(bI:h.lim≤h.n) :
  ∃ v K,jI ety 7 88 h [v0]=some (v,K)∧sH v l∧Ext h.n h K:=by
 by_cases cT:l=[]
 ·subst cT
  have he:elems h 7 v0=some []:=by
   rcases r with⟨rfl,_⟩|⟨sz,rfl,_⟩
   ·rfl
   ·simp[elems]
  exact⟨.nsl,h.push .dead,by simp[jI,bJ,he,gF],.inl ⟨rfl,rfl⟩,(Ext.refl (Nat.le_refl _) wf).push⟩
 ·rcases r with⟨_,h1⟩|⟨sz,rfl,h2⟩
  ·exact absurd h1 cT
  ·have hs:sz=7:=h2.resolve_right cT
   subst hs
   have hv:DV.isl false 7 (l.map jN)=Dm.eL false 7 jN l:=by
    cases l with
    | nil=>exact absurd rfl cT
    | cons x r=>rfl
   rw[hv]
   obtain⟨K,h1,x⟩:=Ux (ety:=ety) (sz:=7) (bytes:=88) (h:=h) (t:=false) cT CS (by omega) hl wf bI
   exact⟨_,K,h1,sH.eL l,x⟩
theorem q83{h:aA}{q wid:Nat}{ways:List (Int×Int)}{W:ID→List Msg}(Q:QAt h q wid ways W)(wf:WF h)(hl:h.lim≤h.n)(u v:Int)(hw:(W ⟨u,v⟩).length≤1000000) :
  ∃ w H,fc D 83 [.ptr q 2 0 0,.int .i64 u,.int .i64 v] h=some (w,H)∧sH w (W ⟨u,v⟩)∧Ext h.n h H:=by
 have gq:=Q.gq
 simp only[qO]at gq
 obtain⟨ms,gw,r⟩:=Q.gw
 have tW:fP (.agg [1,1]) .nsl false (.agg [.int .i64 u,.int .i64 v]) (some (oK ms))=_:=qJ r.nd .nsl ⟨u,v⟩
 have eD:=r.row ⟨u,v⟩
 generalize (pY ms ⟨u,v⟩).getD .nsl=v0 at tW eD
 obtain⟨w,K,h1,h2,x⟩:=OV (ety:=49) eD hw wf hl
 rw[e83,aM _ _ _ _ (by simp[t83])]
 simp[t83,gq,gw,eF,fV,tW,e180,h1,turn,aU]
 exact⟨_,_,⟨rfl,rfl⟩,h2,x⟩
theorem q28(A:eV h nid bid q wid cr m L B W X)(wf:WF h)(hl:h.lim≤h.n)(u v:Int)(hw:(W ⟨u,v⟩).length≤1000000) :
  ∃ w H,fc D 28 [.ptr nid 5 0 0,.int .i64 u,.int .i64 v] h=some (w,H)∧sH w (W ⟨u,v⟩)∧Ext h.n h H:=by
 obtain⟨w,H,h1,h2,x⟩:=q83 A.Q wf hl u v hw
 have gn:=A.gn
 simp only[Gq]at gn
 rw[e28,aM _ _ _ _ (by simp[t28])]
 simp[t28,gn,h1,turn,aU]
 exact⟨_,_,⟨rfl,rfl⟩,h2,x⟩
theorem q33(A:eV h nid bid q wid cr m L B W X)(wf:WF h)(hl:h.lim≤h.n)(hX:X.length≤1000000) :
  ∃ w H,fc D 33 [.ptr nid 5 0 0] h=some (w,H)∧OwnR h.n H w 180 4 (X.map JY)∧Ext h.n h H:=by
 have gn:=A.gn
 simp only[Gq]at gn
 obtain⟨w,K,e1,o,x,_⟩:=sF (lo:=h.n) (ety:=180) (bytes:=32) A.cx.elems wf (Nat.le_refl _) hl (by simp;omega) (by decide) rfl
 rw[e33,aM _ _ _ _ (by simp[t33])]
 simp[t33,gn,e93,e1,turn,aU]
 exact⟨_,_,⟨rfl,rfl⟩,o.toR,x⟩
end Go.Dm.Tc
/-
Floods,plain: what waits and what is known while one advertisement spreads and is taken back.
-/
namespace Go.Dm.Tc
inductive FS where
 | fresh
 | has (q:Int)
 | gone (q:Int)
 deriving DecidableEq
def FS.sent:FS→Int→List Bool
 | .fresh,_=>[]
 | .has q,v=>if v=q then[]else[true]
 | .gone q,v=>if v=q then[]else[true,false]
structure FlI(m:Int)(L:List (Int×Int))(r:Int)(s:Int→FS)(W:Int→Int→List Bool)(con:Int→Int→Nat)(d:Int→Nat):Prop where
 root:s r=.has (-1)∨s r=.gone (-1)
 rng:∀v,s v≠.fresh→0≤v∧v<m
 par:∀v q,(s v=.has q∨s v=.gone q)→(q=-1∧v=r)∨(cU m L q v=true∧s q≠.fresh∧d q<d v)
 now:∀v q,s v=.has q→q≠-1→con q v=1
 wt:∀u v,W u v=if cU m L u v=true then((s u).sent v).drop (con u v)else[]
 cl:∀u v,con u v≤if cU m L u v=true then((s u).sent v).length else 0
 got:∀u v,1≤con u v→s v≠.fresh
def eO(s:Int→FS)(v:Int)(x:FS):Int→FS:=fun y=>if y=v then x else s y
def lY(con:Int→Int→Nat)(u v:Int):Int→Int→Nat:=fun a b=>if a=u∧b=v then con a b+1 else con a b
def z6(m:Int)(L:List (Int×Int))(W W':Int→Int→List Bool)(u v:Int)(rest:List Bool)(tell:Int→List Bool):Prop :=
 ∀a b,W' a b=(if a=u∧b=v then rest else W a b)++(if a=v∧cU m L v b=true∧b≠u then tell b else[])
variable {m:Int} {L:List (Int×Int)} {r:Int} {s:Int→FS} {W W':Int→Int→List Bool} {con:Int→Int→Nat} {d:Int→Nat}
theorem Vj{a b:Int}(h:cU m L a b=true):a≠b:=(dP h).2.2
theorem FlI.start(hr:0≤r∧r<m):FlI m L r (eO (fun _=>.fresh) r (.has (-1))) (fun u v=>if u=r∧cU m L r v=true then[true]else[]) (fun _ _=>0) (fun _=>0):=by
 refine⟨.inl (by simp[eO]),fun v h=>?_,fun v q h=>?_,fun v q h hq=>?_,fun u v=>?_,fun u v=>Nat.zero_le _,fun u v h=>absurd h (by decide)⟩
 ·by_cases e:v=r
  ·rw[e];exact hr
  ·simp[eO,e]at h
 ·by_cases e:v=r
  ·simp[eO,e]at h;exact .inl ⟨h.symm,e⟩
  ·simp[eO,e]at h
 ·by_cases e:v=r
  ·simp[eO,e]at h;exact absurd h.symm hq
  ·simp[eO,e]at h
 ·by_cases e:u=r
  ·subst e
   by_cases hl:cU m L u v=true
   ·have:=(dP hl).2.1
    have hv:¬v=-1:=by omega
    simp[eO,hl,FS.sent,hv]
   ·simp[hl]
  ·simp[eO,e,FS.sent]
theorem FlI.head(I:FlI m L r s W con d){u v:Int}{k:Bool}{rest:List Bool}(h:W u v=k::rest) :
  cU m L u v=true∧rest=((s u).sent v).drop (con u v+1)∧((k=true∧con u v=0∧s u≠.fresh)∨(k=false∧con u v=1∧rest=[]∧∃ q,s u=.gone q∧v≠q)):=by
 have hw:=I.wt u v
 rw[h]at hw
 split at hw
 ·rename_i hl
  have hd:rest=((s u).sent v).drop (con u v+1):=by
   rw[←List.drop_drop,←hw];rfl
  refine⟨hl,hd,?_⟩
  cases hs:s u with
  | fresh=>rw[hs]at hw;simp[FS.sent]at hw
  | has q =>
   rw[hs]at hw
   by_cases hv:v=q
   ·simp[FS.sent,hv]at hw
   ·simp only[FS.sent,if_neg hv]at hw
    have hc:con u v=0:=by
     rcases Nat.eq_zero_or_pos (con u v)with h0|h0
     ·exact h0
     ·obtain⟨j,hj⟩:∃ j,con u v=j+1:=⟨con u v-1,by omega⟩
      rw[hj]at hw;simp at hw
    rw[hc]at hw
    simp only[List.drop_zero,List.cons.injEq]at hw
    exact .inl ⟨hw.1,hc,by simp⟩
  | gone q =>
   rw[hs]at hw
   by_cases hv:v=q
   ·simp[FS.sent,hv]at hw
   ·simp only[FS.sent,if_neg hv]at hw
    rcases Nat.eq_zero_or_pos (con u v)with h0|h0
    ·rw[h0]at hw
     simp only[List.drop_zero,List.cons.injEq]at hw
     exact .inl ⟨hw.1,h0,by simp⟩
    ·obtain⟨j,hj⟩:∃ j,con u v=j+1:=⟨con u v-1,by omega⟩
     rw[hj]at hw
     rcases Nat.eq_zero_or_pos j with h1|h1
     ·subst h1
      simp at hw
      exact .inr ⟨hw.1,by omega,hw.2,q,rfl,hv⟩
     ·obtain⟨i,hi⟩:∃ i,j=i+1:=⟨j-1,by omega⟩
      subst hi;simp at hw
 ·cases hw
theorem FlI.up(I:FlI m L r s W con d){v q:Int}(h:s v=.has q∨s v=.gone q):s q≠.has v∧s q≠.gone v:=by
 have key:¬(s q=.has v∨s q=.gone v):=fun h2=>by
  rcases I.par v q h with⟨e1,e2⟩|⟨l1,_,d1⟩
  ·have:=I.rng q (by rcases h2 with h2|h2<;>rw[h2]<;>simp)
   omega
  ·rcases I.par q v h2 with⟨e1,e2⟩|⟨_,_,d2⟩
   ·have:=(dP l1).2.1;omega
   ·omega
 exact⟨fun e=>key (.inl e),fun e=>key (.inr e)⟩
theorem FlI.skip(I:FlI m L r s W con d){u v:Int}{k:Bool}{rest:List Bool}(h:W u v=k::rest)(h1:k=true→s v≠.fresh)(h2:k=false→s v≠.has u)
  (hW:∀a b,W' a b=if a=u∧b=v then rest else W a b):FlI m L r s W' (lY con u v) d:=by
 obtain⟨hl,hd,hc⟩:=I.head h
 refine⟨I.root,I.rng,I.par,fun w q hs hq=>?_,fun a b=>?_,fun a b=>?_,fun a b hb=>?_⟩
 ·by_cases e:q=u∧w=v
  ·obtain⟨rfl,rfl⟩:=e
   have:=I.now w q hs hq
   rcases hc with⟨_,h0,_⟩|⟨hk,_⟩
   ·omega
   ·exact absurd hs (h2 hk)
  ·simp only[lY,if_neg e];exact I.now w q hs hq
 ·rw[hW]
  by_cases e:a=u∧b=v
  ·obtain⟨rfl,rfl⟩:=e
   simp[lY,hl,hd]
  ·simp only[lY,if_neg e];exact I.wt a b
 ·by_cases e:a=u∧b=v
  ·obtain⟨rfl,rfl⟩:=e
   have hw:=I.wt a b
   rw[h,if_pos hl]at hw
   have:=congrArg List.length hw
   simp[List.length_drop]at this
   simp[lY,hl]
   omega
  ·simp only[lY,if_neg e];exact I.cl a b
 ·by_cases e:a=u∧b=v
  ·obtain⟨rfl,rfl⟩:=e
   rcases hc with⟨hk,_,_⟩|⟨_,WB,_⟩
   ·exact h1 hk
   ·exact I.got a b (by omega)
  ·simp only[lY,if_neg e]at hb;exact I.got a b hb
theorem FlI.learn(I:FlI m L r s W con d){u v:Int}{rest:List Bool}(h:W u v=true::rest)(hf:s v=.fresh)
  (hW:z6 m L W W' u v rest (fun _=>[true])):FlI m L r (eO s v (.has u)) W' (lY con u v) (fun y=>if y=v then d u+1 else d y):=by
 obtain⟨hl,hd,hc⟩:=I.head h
 have hc0:con u v=0∧s u≠.fresh:=by
  rcases hc with⟨_,h0,h1⟩|⟨hk,_⟩
  ·exact⟨h0,h1⟩
  ·cases hk
 have huv:=Vj hl
 have OZ:r≠v:=by
  rintro rfl
  rcases I.root with e|e<;>(rw[e]at hf;cases hf)
 have cT:∀q,s q≠.fresh→q≠v:=fun q hq e=>hq (e ▸ hf)
 refine⟨?_,fun w hw=>?_,fun w q hs=>?_,fun w q hs hq=>?_,fun a b=>?_,fun a b=>?_,fun a b hb=>?_⟩
 ·simp only[eO,if_neg OZ];exact I.root
 ·by_cases e:w=v
  ·rw[e];exact(dP hl).2.1
  ·simp only[eO,if_neg e]at hw;exact I.rng w hw
 ·by_cases e:w=v
  ·subst e
   have hq:q=u:=by simpa[eO,eq_comm]using hs
   subst hq
   exact .inr ⟨hl,by simp only[eO,if_neg huv];exact hc0.2,by simp[huv]⟩
  ·simp only[eO,if_neg e]at hs
   rcases I.par w q hs with h1|⟨h1,h2,h3⟩
   ·exact .inl h1
   ·have:=cT q h2
    exact .inr ⟨h1,by simp only[eO,if_neg this];exact h2,by simp[this,e,h3]⟩
 ·by_cases e:w=v
  ·subst e
   have Az:q=u:=by simpa[eO,eq_comm]using hs
   subst Az
   simp[lY,hc0.1]
  ·simp only[eO,if_neg e]at hs
   have:¬(q=u∧w=v):=fun x=>e x.2
   simp only[lY,if_neg this];exact I.now w q hs hq
 ·rw[hW]
  by_cases e:a=v
  ·subst e
   have n1:¬(a=u∧b=a):=fun x=>huv x.1.symm
   have hw:=I.wt a b
   have wN:=I.cl a b
   rw[hf]at hw wN
   have hw0:W a b=[]:=by rw[hw];simp[FS.sent]
   have hcl0:con a b=0:=by
    by_cases hx:cU m L a b=true<;>simpa[hx,FS.sent]using wN
   simp only[if_neg n1,hw0,lY,hcl0,eO,if_true,List.drop_zero,List.nil_append,FS.sent,true_and]
   by_cases hx:cU m L a b=true<;>by_cases hy:b=u<;>simp[hx,hy]
  ·have n1:¬(a=v∧cU m L v b=true∧b≠u):=fun x=>e x.1
   rw[if_neg n1,List.append_nil]
   simp only[eO,if_neg e]
   by_cases e2:a=u∧b=v
   ·obtain⟨rfl,rfl⟩:=e2
    simp[lY,hl,hd]
   ·simp only[lY,if_neg e2];exact I.wt a b
 ·by_cases e:a=v
  ·subst e
   have n1:¬(a=u∧b=a):=fun x=>huv x.1.symm
   have wN:=I.cl a b
   rw[hf]at wN
   have hcl0:con a b=0:=by
    by_cases hx:cU m L a b=true<;>simpa[hx,FS.sent]using wN
   simp[lY,n1,hcl0]
  ·simp only[eO,if_neg e]
   by_cases e2:a=u∧b=v
   ·obtain⟨rfl,rfl⟩:=e2
    have hw:=I.wt a b
    rw[h,if_pos hl]at hw
    have:=congrArg List.length hw
    simp[List.length_drop]at this
    simp[lY,hl]
    omega
   ·simp only[lY,if_neg e2];exact I.cl a b
 ·by_cases e:b=v
  ·simp[eO,e]
  ·have n1:¬(a=u∧b=v):=fun x=>e x.2
   simp only[lY,if_neg n1]at hb
   simp only[eO,if_neg e];exact I.got a b hb
theorem FlI.off(I:FlI m L r s W con d){v q:Int}{con':Int→Int→Nat}(hs:s v=.has q)
  (hc:∀a b,con' a b=if a=q∧b=v∧q≠-1 then con a b+1 else con a b) (hg:q≠-1→W q v=[false])
  (hW:∀a b,W' a b=(if a=q∧b=v∧q≠-1 then[]else W a b)++(if a=v∧cU m L v b=true∧b≠q then[false]else[])) :
  FlI m L r (eO s v (.gone q)) W' con' d:=by
 have hvq:v≠q:=fun e=>by
  rcases I.par v q (.inl hs)with⟨h1,h2⟩|⟨h1,_,_⟩
  ·have:=I.rng v (by rw[hs];simp);omega
  ·exact Vj h1 e.symm
 have hh:q≠-1→cU m L q v=true∧con q v=1∧[]=((s q).sent v).drop (con q v+1):=fun hq=>by
  obtain⟨h1,h2,h3⟩:=I.head (hg hq)
  rcases h3 with⟨hk,_⟩|⟨_,h4,_⟩
  ·cases hk
  ·exact⟨h1,h4,h2⟩
 refine⟨?_,fun w hw=>?_,fun w p hp=>?_,fun w p hp hq=>?_,fun a b=>?_,fun a b=>?_,fun a b hb=>?_⟩
 ·by_cases e:r=v
  ·subst e
   rcases I.root with h1|h1
   ·rw[hs]at h1;cases h1;simp[eO]
   ·rw[hs]at h1;cases h1
  ·simp only[eO,if_neg e];exact I.root
 ·by_cases e:w=v
  ·rw[e];exact I.rng v (by rw[hs];simp)
  ·simp only[eO,if_neg e]at hw;exact I.rng w hw
 ·have Va:s w=.has p∨s w=.gone p:=by
   by_cases e:w=v
   ·subst e
    have:p=q:=by simpa[eO,eq_comm]using hp
    rw[this];exact .inl hs
   ·simpa only[eO,if_neg e]using hp
  rcases I.par w p Va with h1|⟨h1,h2,h3⟩
  ·exact .inl h1
  ·refine .inr ⟨h1,?_,h3⟩
   by_cases e:p=v
   ·simp[eO,e]
   ·simp only[eO,if_neg e];exact h2
 ·have e:w≠v:=fun e=>by simp[eO,e]at hp
  simp only[eO,if_neg e]at hp
  have n1:¬(p=q∧w=v∧q≠-1):=fun x=>e x.2.1
  rw[hc,if_neg n1];exact I.now w p hp hq
 ·rw[hW,hc]
  by_cases e:a=v
  ·subst e
   have n1:¬(a=q∧b=a∧q≠-1):=fun x=>hvq x.1
   have hw:=I.wt a b
   have wN:=I.cl a b
   rw[hs]at hw wN
   simp only[if_neg n1,eO,if_true,true_and,FS.sent]at hw wN ⊢
   by_cases hx:cU m L a b=true
   ·by_cases hy:b=q
    ·simp[hx,hy]at hw ⊢;simp[hw]
    ·simp only[hx,hy,if_true,if_false,List.length_singleton]at hw wN
     rw[hw]
     simp only[hx,hy,if_true,if_false,ne_eq,not_false_eq_true,and_self]
     have:con a b=0∨con a b=1:=by omega
     rcases this with h0|h0<;>simp[h0]
   ·simp[hx]at hw ⊢;exact hw
  ·have n1:¬(a=v∧cU m L v b=true∧b≠q):=fun x=>e x.1
   rw[if_neg n1,List.append_nil]
   simp only[eO,if_neg e]
   by_cases e2:a=q∧b=v∧q≠-1
   ·rw[if_pos e2,if_pos e2]
    obtain⟨rfl,rfl,hq⟩:=e2
    obtain⟨h1,h2,h3⟩:=hh hq
    rw[if_pos h1];exact h3
   ·rw[if_neg e2,if_neg e2];exact I.wt a b
 ·rw[hc]
  by_cases e:a=v
  ·subst e
   have n1:¬(a=q∧b=a∧q≠-1):=fun x=>hvq x.1
   have wN:=I.cl a b
   rw[hs]at wN
   simp only[if_neg n1,eO,if_true,FS.sent]at wN ⊢
   by_cases hx:cU m L a b=true
   ·by_cases hy:b=q
    ·simpa[hx,hy]using wN
    ·simp[hx,hy]at wN ⊢;omega
   ·simpa[hx]using wN
  ·simp only[eO,if_neg e]
   by_cases e2:a=q∧b=v∧q≠-1
   ·rw[if_pos e2]
    obtain⟨rfl,rfl,hq⟩:=e2
    obtain⟨h1,h2,h3⟩:=hh hq
    have hw:=I.wt a b
    rw[hg hq,if_pos h1]at hw
    have:=congrArg List.length hw
    simp[List.length_drop]at this
    rw[if_pos h1];omega
   ·rw[if_neg e2];exact I.cl a b
 ·have Dn:1≤con a b∨b=v:=by
   rw[hc]at hb
   by_cases e2:a=q∧b=v∧q≠-1
   ·exact .inr e2.2.1
   ·rw[if_neg e2]at hb;exact .inl hb
  by_cases e:b=v
  ·simp[eO,e]
  ·simp only[eO,if_neg e]
   exact I.got a b (Dn.resolve_right e)
def Iq(m:Int)(L:List (Int×Int)):Prop:=∀b:Nat,1≤b→(b:Int)<m→∃ u:Nat,u<b∧cU m L u b=true
theorem KM(hc:Iq m L){P:Int→Prop}(hp:∀a b,cU m L a b=true→P a→P b)(hr:0≤r∧r<m)(h:P r):∀v,0≤v→v<m→P v:=by
 have key:∀b:Nat,(b:Int)<m→(P b↔P 0):=by
  intro b
  induction b using Nat.strongRecOn with
  | _ b ih =>
   intro hb
   rcases Nat.eq_zero_or_pos b with e|e
   ·subst e;exact Iff.rfl
   ·obtain⟨u,hu,hl⟩:=hc b e hb
    have:=ih u hu (by omega)
    rw[←this]
    exact⟨fun h=>hp _ _ (by rw[yI];exact hl) h,fun h=>hp _ _ hl h⟩
 intro v h0 h1
 have e1:((r.toNat:Nat):Int)=r:=by omega
 have e2:((v.toNat:Nat):Int)=v:=by omega
 have k1:=key r.toNat (by omega)
 have k2:=key v.toNat (by omega)
 rw[e1]at k1
 rw[e2]at k2
 exact k2.2 (k1.1 h)
theorem Vg{m:Int}(under more:List Int):Iq m (tH m under more):=fun b h1 h2=>by
 obtain⟨u,hu,hl⟩:=Fg (m:=m) under (m-1).toNat (by omega) b h1 (by omega)
 exact⟨u,hu,Cc (Bq m _ _) hl⟩
theorem FlI.full(I:FlI m L r s W con d)(hq:∀u v,W u v=[]){u v:Int}(hl:cU m L u v=true):con u v=((s u).sent v).length:=by
 have h1:=I.wt u v
 have h2:=I.cl u v
 rw[hq,if_pos hl]at h1
 rw[if_pos hl]at h2
 have:=List.drop_eq_nil_iff.1 h1.symm
 omega
theorem FlI.all(I:FlI m L r s W con d)(hq:∀u v,W u v=[])(hc:Iq m L):∀v,0≤v→v<m→s v≠.fresh:=by
 have hrf:s r≠.fresh:=by rcases I.root with e|e<;>rw[e]<;>simp
 refine KM hc (P:=fun v=>s v≠.fresh) (fun a b hl ha=>?_) (I.rng r hrf) hrf
 have hf:=I.full hq hl
 cases hs:s a with
 | fresh=>exact absurd hs ha
 | has q =>
  by_cases e:b=q
  ·subst e
   rcases I.par a b (.inl hs)with⟨h1,_⟩|⟨_,h2,_⟩
   ·have:=(dP hl).2.1;omega
   ·exact h2
  ·rw[hs]at hf
   simp only[FS.sent,if_neg e,List.length_singleton]at hf
   exact I.got a b (by omega)
 | gone q =>
  by_cases e:b=q
  ·subst e
   rcases I.par a b (.inr hs)with⟨h1,_⟩|⟨_,h2,_⟩
   ·have:=(dP hl).2.1;omega
   ·exact h2
  ·rw[hs]at hf
   simp only[FS.sent,if_neg e,List.length_cons,List.length_nil]at hf
   exact I.got a b (by omega)
theorem FlI.live(I:FlI m L r s W con d)(hq:∀u v,W u v=[]):∀(n:Nat) (v q:Int),d v≤n→s v=.has q→s r=.has (-1):=by
 intro n
 induction n with
 | zero =>
  intro v q hd hs
  rcases I.par v q (.inl hs)with⟨h1,h2⟩|⟨_,_,h3⟩
  ·rw[←h2,hs,h1]
  ·omega
 | succ n ih =>
  intro v q hd hs
  rcases I.par v q (.inl hs)with⟨h1,h2⟩|⟨h1,h2,h3⟩
  ·rw[←h2,hs,h1]
  ·have cT:q≠-1:=by have:=(dP h1).1;omega
   have hf:=I.full hq h1
   rw[I.now v q hs cT]at hf
   cases hp:s q with
   | fresh=>exact absurd hp h2
   | has p=>exact ih q p (by omega) hp
   | gone p =>
    rw[hp]at hf
    by_cases e:v=p<;>simp[FS.sent,e]at hf
theorem FlI.ended(I:FlI m L r s W con d)(hq:∀u v,W u v=[])(hr:s r=.gone (-1))(v q:Int):s v≠.has q:=fun h=>by
 have:=I.live hq (d v) v q (Nat.le_refl _) h
 rw[hr]at this;cases this
def pW(ways:List (Int×Int))(con:Int→Int→Nat):Nat:=(ways.map fun w=>con w.1 w.2).sum
theorem FL{ways:List (Int×Int)}{c c':Int→Int→Nat}(h:∀w∈ways,c w.1 w.2=c' w.1 w.2):pW ways c=pW ways c':=by
 unfold pW;rw[List.map_congr_left h]
theorem Kz{u v:Int}:∀{ways:List (Int×Int)},ways.Nodup→(u,v)∈ways→pW ways (lY con u v)=pW ways con+1
 | [],_,h=>by cases h
 | w::t,hn,h=>by
  obtain⟨h1,h2⟩:=List.nodup_cons.1 hn
  by_cases e:w=(u,v)
  ·subst e
   have:pW t (lY con u v)=pW t con:=FL fun x hx=>by
    have:¬(x.1=u∧x.2=v):=fun e=>h1 (by obtain⟨a,b⟩:=x;simp only at e;rw[←e.1,←e.2];exact hx)
    simp only[lY,if_neg this]
   simp only[pW,List.map_cons,List.sum_cons]at this ⊢
   rw[this]
   simp[lY];omega
  ·have ht:(u,v)∈t:=(List.mem_cons.1 h).resolve_left fun e'=>e e'.symm
   have ih:=Kz h2 ht
   have:¬(w.1=u∧w.2=v):=fun e'=>e (by obtain⟨a,b⟩:=w;simp only at e';rw[e'.1,e'.2])
   simp only[pW,List.map_cons,List.sum_cons]at ih ⊢
   rw[ih]
   simp only[lY,if_neg this];omega
theorem Nq{k:Nat}:∀{ways:List (Int×Int)},(∀w∈ways,con w.1 w.2≤k)→pW ways con≤k*ways.length
 | [],_=>by simp[pW]
 | w::t,h=>by
  have ih:=Nq (ways:=t) fun x hx=>h x (List.mem_cons_of_mem _ hx)
  have:=h w (List.mem_cons_self ..)
  simp only[pW,List.map_cons,List.sum_cons,List.length_cons]at ih ⊢
  rw[Nat.mul_succ];omega
theorem FlI.con_le(I:FlI m L r s W con d)(u v:Int):con u v≤2:=by
 have:=I.cl u v
 refine Nat.le_trans this ?_
 split
 ·cases s u with
  | fresh=>simp[FS.sent]
  | has q=>by_cases e:v=q<;>simp[FS.sent,e]
  | gone q=>by_cases e:v=q<;>simp[FS.sent,e]
 ·decide
end Go.Dm.Tc
/-
Floods,plain: how much has come in the end;the parents are a tree.
-/
namespace Go.Dm.Tc
variable {m:Int} {L:List (Int×Int)} {r:Int} {s:Int→FS} {W W':Int→Int→List Bool} {con:Int→Int→Nat} {d:Int→Nat}
def NG(s:Int→FS):Prop:=∀v q,s v≠.gone q
theorem NG.start(r:Int):NG (eO (fun _=>.fresh) r (.has (-1))):=fun v q=>by
 by_cases e:v=r<;>simp[eO,e]
theorem NG.learn(h:NG s)(v u:Int):NG (eO s v (.has u)):=fun w q=>by
 by_cases e:w=v
 ·simp[eO,e]
 ·simp only[eO,if_neg e];exact h w q
theorem FlI.only(I:FlI m L r s W con d)(h:NG s){u v:Int}{k:Bool}{rest:List Bool}(hw:W u v=k::rest):k=true∧rest=[]:=by
 obtain⟨hl,hd,hc⟩:=I.head hw
 rcases hc with⟨h1,h2,h3⟩|⟨_,_,_,q,h4,_⟩
 ·refine⟨h1,?_⟩
  rw[hd]
  cases hs:s u with
  | fresh=>rfl
  | has q=>by_cases e:v=q<;>simp[FS.sent,e]
  | gone q=>exact absurd hs (h u q)
 ·exact absurd h4 (h u q)
theorem FlI.rootHas(I:FlI m L r s W con d)(h:NG s):s r=.has (-1):=I.root.resolve_right (h r (-1))
def rT(s:Int→FS)(v:Int):Int:=match s v with|.has q=>q|_=>-2
theorem FlI.allHas(I:FlI m L r s W con d)(h:NG s)(hq:∀u v,W u v=[])(hc:Iq m L){v:Int}(h0:0≤v)(h1:v<m):s v=.has (rT s v):=by
 have:=I.all hq hc v h0 h1
 unfold rT
 cases hs:s v with
 | fresh=>exact absurd hs this
 | has q=>rfl
 | gone q=>exact absurd hs (h v q)
def iJ(m:Int):List Int:=(List.range m.toNat).map fun i:Nat=>(i:Int)
theorem pH{m v:Int}:v∈iJ m↔0≤v∧v<m:=by
 unfold iJ
 rw[List.mem_map]
 constructor
 ·rintro⟨i,hi,rfl⟩
  rw[List.mem_range]at hi
  omega
 ·rintro⟨h0,h1⟩
  exact⟨v.toNat,by rw[List.mem_range];omega,by omega⟩
theorem wC(m:Int):(iJ m).Nodup:=by
 unfold iJ
 exact List.Pairwise.map _ (fun a b h e=>h (by omega)) List.nodup_range
theorem xY(m:Int):(iJ m).length=m.toNat:=by simp[iJ]
theorem yZ{u v:Int}(ok:bR m L):(u,v)∈bD L↔cU m L u v=true:=by
 rw[B6]
 constructor
 ·intro h
  unfold cU
  rw[List.any_eq_true]
  rcases h with h|h
  ·have:=ok.rng _ h
   exact⟨(u,v),h,by simp[yH];simp at this;omega⟩
  ·have:=ok.rng _ h
   exact⟨(v,u),h,by simp[yH];simp at this;omega⟩
 ·intro h
  unfold cU at h
  rw[List.any_eq_true]at h
  obtain⟨⟨a,b⟩,h1,h2⟩:=h
  simp at h2
  rcases h2.2 with⟨e1,e2⟩|⟨e1,e2⟩
  ·subst e1;subst e2;exact .inl h1
  ·subst e1;subst e2;exact .inr h1
theorem Ry(p:Int×Int→Bool):∀l:List (Int×Int),(l.map fun w=>if p w then 0 else 1).sum+(l.filter p).length=l.length
 | []=>rfl
 | w::t=>by
  have:=Ry p t
  by_cases h:p w=true
  ·simp[h];omega
  ·simp[h];omega
theorem FlI.count(I:FlI m L r s W con d)(h:NG s)(hq:∀u v,W u v=[])(hc:Iq m L)(ok:bR m L)(hr:0≤r∧r<m):pW (bD L) con+(m.toNat-1)=2*L.length:=by
 have h1:pW (bD L) con=((bD L).map fun w=>if decide (w.2=rT s w.1)then 0 else 1).sum:=by
  unfold pW
  rw[List.map_congr_left]
  intro w hw
  obtain⟨u,v⟩:=w
  have hl:=(yZ ok).1 hw
  have:=I.full hq hl
  have hu:=(dP hl).1
  have hh:=I.allHas h hq hc hu.1 hu.2
  simp only
  rw[this,hh]
  by_cases e:v=rT s u<;>simp[FS.sent,e]
 have h2:=Ry (fun w=>decide (w.2=rT s w.1)) (bD L)
 have h3:((bD L).filter fun w=>decide (w.2=rT s w.1)).length=m.toNat-1:=by
  have hT:(((iJ m).erase r).map fun v=>(v,rT s v)).length=m.toNat-1:=by
   rw[List.length_map,List.length_erase_of_mem (pH.2 hr),xY]
  rw[←hT]
  have hm:∀x:Int×Int,x∈(bD L).filter (fun w=>decide (w.2=rT s w.1))↔x∈((iJ m).erase r).map fun v=>(v,rT s v):=by
   rintro⟨u,v⟩
   rw[List.mem_filter,yZ ok,List.mem_map]
   constructor
   ·rintro⟨hl,e⟩
    have e:v=rT s u:=of_decide_eq_true e
    refine⟨u,?_,by rw[e]⟩
    rw[(wC m).mem_erase_iff]
    refine⟨fun e2=>?_,pH.2 (dP hl).1⟩
    have:=(dP hl).2.1
    have hrr:=I.rootHas h
    rw[e2]at e
    unfold rT at e
    rw[hrr]at e
    simp only at e
    omega
   ·rintro⟨a,ha,e⟩
    rw[(wC m).mem_erase_iff,pH]at ha
    simp only[Prod.mk.injEq]at e
    obtain⟨rfl,rfl⟩:=e
    have hh:=I.allHas h hq hc ha.2.1 ha.2.2
    rcases I.par a _ (.inl hh)with⟨_,e2⟩|⟨e2,_,_⟩
    ·exact absurd e2 ha.1
    ·exact⟨by rw[yI];exact e2,decide_eq_true rfl⟩
  have n1:((bD L).filter fun w=>decide (w.2=rT s w.1)).Nodup:=List.Pairwise.filter _ ok.waysOf_nd
  have n2:(((iJ m).erase r).map fun v=>(v,rT s v)).Nodup:=List.Pairwise.map _ (fun a b hh e=>hh (by simp only[Prod.mk.injEq]at e;exact e.1)) ((wC m).erase r)
  exact Nat.le_antisymm (rX n1 fun x hx=>(hm x).1 hx) (rX n2 fun x hx=>(hm x).2 hx)
 rw[kM]at h2
 rw[h1]
 omega
structure S8(m:Int)(L:List (Int×Int))(r:Int)(p:List Int)(d:Int→Nat):Prop where
 len:(p.length:Int)=m
 rt:0≤r∧r<m
 at_:∀v,0≤v→v<m→(atL p v.toNat=-1∧v=r)∨(cU m L (atL p v.toNat) v=true∧d (atL p v.toNat)<d v∧v≠r)
theorem QR(f:Nat→Int){n i:Nat}(h:i<n):atL ((List.range n).map f) i=f i:=by
 rw[lT (by simpa using h)]
 simp
theorem FlI.tree(I:FlI m L r s W con d)(h:NG s)(hq:∀u v,W u v=[])(hc:Iq m L)(hr:0≤r∧r<m):S8 m L r ((iJ m).map (rT s)) d:=by
 refine⟨by simp[xY];omega,hr,fun v h0 h1=>?_⟩
 have e:atL ((iJ m).map (rT s)) v.toNat=rT s v:=by
  unfold iJ
  rw[List.map_map,QR _ (by omega)]
  have:((v.toNat:Nat):Int)=v:=by omega
  simp only[Function.comp_apply,this]
 rw[e]
 have hh:=I.allHas h hq hc h0 h1
 by_cases hv:v=r
 ·subst hv
  rcases I.par v _ (.inl hh)with⟨e1,_⟩|⟨e1,_,_⟩
  ·exact .inl ⟨e1,rfl⟩
  ·have:=I.rootHas h
   rw[hh]at this
   have e2:rT s v=-1:=by injection this
   have:=(dP e1).1
   omega
 ·rcases I.par v _ (.inl hh)with⟨_,e1⟩|⟨e1,_,e3⟩
  ·exact absurd e1 hv
  ·exact .inr ⟨e1,e3,hv⟩
namespace S8
variable {p:List Int}
theorem roots(T:S8 m L r p d):GQ p=1:=by
 have hl:=T.len
 have hp:p=(iJ m).map fun v=>atL p v.toNat:=by
  apply List.ext_getElem
  ·simp[xY];omega
  ·intro i h1 h2
   simp only[iJ,List.map_map,List.getElem_map,List.getElem_range,Function.comp_apply,Int.toNat_natCast]
   exact(lT h1).symm
 have h1:(p.filter fun x=>decide (x=-1)).length=((iJ m).filter fun v=>decide (atL p v.toNat=-1)).length:=by
  conv=>lhs;rw[hp,List.filter_map]
  rw[List.length_map];rfl
 have h2:((iJ m).filter fun v=>decide (atL p v.toNat=-1)).length=1:=by
  have n1:((iJ m).filter fun v=>decide (atL p v.toNat=-1)).Nodup:=List.Pairwise.filter _ (wC m)
  have a1:=rX n1 (B:=[r]) fun x hx=>by
   obtain⟨Iu,hx2⟩:=List.mem_filter.1 hx
   have Iu:=pH.1 Iu
   have hx2:atL p x.toNat=-1:=of_decide_eq_true hx2
   rcases T.at_ x Iu.1 Iu.2 with⟨_,e⟩|⟨e,_,_⟩
   ·rw[e];simp
   ·have:=(dP e).1;omega
  have a2:=rX (A:=[r]) (by simp) (B:=(iJ m).filter fun v=>decide (atL p v.toNat=-1)) fun x hx=>by
   have e:x=r:=by simpa using hx
   subst e
   refine List.mem_filter.2 ⟨pH.2 T.rt,decide_eq_true ?_⟩
   rcases T.at_ x T.rt.1 T.rt.2 with⟨e,_⟩|⟨_,_,e⟩
   ·exact e
   ·exact absurd rfl e
  exact Nat.le_antisymm a1 a2
 unfold GQ
 rw[h1,h2];rfl
end S8
theorem FlI.none(I:FlI m L r s W con d)(hq:∀u v,W u v=[])(hr:s r=.gone (-1))(v:Int):rT s v=-2:=by
 unfold rT
 cases hs:s v with
 | fresh=>rfl
 | has q=>exact absurd hs (I.ended hq hr v q)
 | gone q=>rfl
end Go.Dm.Tc
/-
Floods: brokers and queues of the program,by what is known and what waits;a link picked.
-/
namespace Go.Dm.Tc
def iQ(m:Int)(L:List (Int×Int))(x:ID)(p:dR)(v:Int):FS→aL
 | .fresh=>⟨v,eJ m L v,[],[],[],[]⟩
 | .has q=>⟨v,eJ m L v,[⟨x,p,q⟩],[x],[],[]⟩
 | .gone _=>⟨v,eJ m L v,[],[x],[],[]⟩
def Js(x:ID)(p:dR)(k:Bool):Msg:=if k then⟨1,x,⟨0,0⟩,p,[]⟩else⟨2,x,⟨0,0⟩,[],[]⟩
variable {m:Int} {L:List (Int×Int)} {r:Int} {s:Int→FS} {W W':Int→Int→List Bool} {con:Int→Int→Nat} {d:Int→Nat} {x:ID} {p:dR}
theorem Cn(h7:m≤12)(v:Int)(t:FS):It (iQ m L x p v t):=by
 have:=wG m L h7 v
 cases t<;>exact⟨⟨by simp only[iQ];omega,by simp[iQ],by simp[iQ],by simp[iQ],by simp[iQ]⟩,by simp[iQ,eC],by simp[iQ,eC],rfl⟩
theorem Mp(v u:Int):mF (iQ m L x p v .fresh) u x p=(iQ m L x p v (.has u),lZ (eJ m L v) u 1 x.bK x.seq 0 0 p):=by
 simp[mF,iQ,dF,tV,dQ]
theorem QU(v u:Int){t:FS}(h:t≠.fresh):mF (iQ m L x p v t) u x p=(iQ m L x p v t,[]):=by
 cases t with
 | fresh=>exact absurd rfl h
 | has q=>simp[mF,iQ]
 | gone q=>simp[mF,iQ]
theorem QF(v u:Int):qQ (iQ m L x p v (.has u)) u x=(iQ m L x p v (.gone u),lZ (eJ m L v) u 2 x.bK x.seq 0 0 []):=by
 simp[qQ,iQ,fJ,vX]
theorem QE(v u:Int){t:FS}(h:t≠.has u):qQ (iQ m L x p v t) u x=(iQ m L x p v t,[]):=by
 cases t with
 | fresh=>simp[qQ,iQ,fJ]
 | has q =>
  have:¬q=u:=fun e=>h (by rw[e])
  simp[qQ,iQ,fJ,this]
 | gone q=>simp[qQ,iQ,fJ]
theorem Le(v k:Int)(x:ID)(p:dR):∀(l:List Int) (Q:ID→List Msg),l.Nodup→∀a b,rQ v Q (l.map fun n=>(⟨n,k,x,⟨0,0⟩,p⟩:vV)) ⟨a,b⟩=Q ⟨a,b⟩++(if a=v∧b∈l then[⟨k,x,⟨0,0⟩,p,[]⟩]else[])
 | [],Q,_,a,b=>by simp[rQ]
 | n::l,Q,hn,a,b=>by
  obtain⟨h1,h2⟩:=List.nodup_cons.1 hn
  simp only[List.map_cons,rQ]
  rw[Le v k x p l _ h2 a b]
  by_cases e:a=v∧b=n
  ·obtain⟨rfl,rfl⟩:=e
   simp[wU,h1,HW]
  ·have e1:¬((⟨v,n⟩:ID)=⟨a,b⟩):=fun e'=>by injection e' with e1 e2;exact e ⟨e1.symm,e2.symm⟩
   have e2:(a=v∧b∈n::l)↔(a=v∧b∈l):=by
    rw[List.mem_cons]
    exact⟨fun h=>⟨h.1,h.2.resolve_left fun h3=>e ⟨h.1,h3⟩⟩,fun h=>⟨h.1,.inr h.2⟩⟩
   simp only[wU,if_neg e1,e2]
theorem uK(v u k:Int)(p:dR)(Q:ID→List Msg)(a b:Int):rQ v Q (lZ (eJ m L v) u k x.bK x.seq 0 0 p) ⟨a,b⟩=Q ⟨a,b⟩++(if a=v∧cU m L v b=true∧b≠u then[⟨k,x,⟨0,0⟩,p,[]⟩]else[]):=by
 unfold lZ
 have LM:(eJ m L v).Nodup:=(sW m L v).imp fun h e=>by omega
 rw[Le v k ⟨x.bK,x.seq⟩ p _ Q (List.Pairwise.filter _ LM) a b]
 have:(b∈(eJ m L v).filter fun n=>!decide (n=u))↔(cU m L v b=true∧b≠u):=by
  rw[List.mem_filter,pC];simp
 simp only[this]
theorem Bd(ok:bR m L)(v u k:Int)(p:dR)(hk:k≠5):∀o∈lZ (eJ m L v) u k x.bK x.seq 0 0 p,(v,o.to)∈bD L∧o.kind≠5:=by
 intro o ho
 unfold lZ at ho
 obtain⟨n,hn,rfl⟩:=List.mem_map.1 ho
 exact⟨(yZ ok).2 (pC.1 (List.mem_filter.1 hn).1),hk⟩
theorem Be(h7:m≤12)(v u k:Int)(p:dR):(lZ (eJ m L v) u k x.bK x.seq 0 0 p).length≤12:=by
 unfold lZ
 rw[List.length_map]
 exact Nat.le_trans (List.length_filter_le ..) (wG m L h7 v)
structure FlM(m:Int)(L:List (Int×Int))(r:Int)(x:ID)(p:dR)(B:List aL)(Q:ID→List Msg)(s:Int→FS)(W:Int→Int→List Bool)(con:Int→Int→Nat)(d:Int→Nat):Prop where
 I:FlI m L r s W con d
 len:B.length=m.toNat
 br:∀v:Nat,(v:Int)<m→B[v]?=some (iQ m L x p v (s v))
 ws:∀u v,Q ⟨u,v⟩=(W u v).map (Js x p)
variable {B:List aL} {Q:ID→List Msg}
theorem FlM.short(F:FlM m L r x p B Q s W con d)(y:ID):(Q y).length≤2:=by
 rw[F.ws y.bK y.seq,List.length_map,F.I.wt]
 split
 ·rw[List.length_drop]
  cases s y.bK with
  | fresh=>simp[FS.sent]
  | has q=>by_cases e:y.seq=q<;>simp[FS.sent,e]<;>omega
  | gone q=>by_cases e:y.seq=q<;>simp[FS.sent,e]
 ·simp
theorem FlM.upd(F:FlM m L r x p B Q s W con d){v:Nat}(hv:(v:Int)<m){t:FS}{s':Int→FS}(hs:s'=eO s v t):∀w:Nat,(w:Int)<m→(B.set v (iQ m L x p v t))[w]?=some (iQ m L x p w (s' w)):=by
 intro w hw
 rw[hs,List.getElem?_set]
 by_cases e:v=w
 ·subst e
  have:=F.len
  rw[if_pos rfl,if_pos (by omega)]
  simp[eO]
 ·rw[if_neg e,F.br w hw]
  have:¬(w:Int)=v:=by omega
  simp[eO,this]
theorem FlM.same(F:FlM m L r x p B Q s W con d){v:Nat}(hv:(v:Int)<m):B.set v (iQ m L x p v (s v))=B:=by
 apply List.ext_getElem?
 intro w
 rw[List.getElem?_set]
 by_cases e:v=w
 ·subst e
  have:=F.len
  rw[if_pos rfl,if_pos (by omega),F.br v hv]
 ·rw[if_neg e]
theorem FlM.step(ok:bR m L)(h7:m≤12)(F:FlM m L r x p B Q s W con d){u:Int}{v:Nat}{k:Bool}{rest:List Bool}(hw:W u v=k::rest) :
  (v:Int)<m∧cU m L u v=true∧∃ b' gK s' W' d',pcF D t52 [aW .none (iQ m L x p v (s v)),.int .i64 u,jN (Js x p k)]=some (.tup [aW .none b',eL false 8 oJ gK,.isl false 0 []]) ∧
   (∀o∈gK,((v:Int),o.to)∈bD L∧o.kind≠5)∧gK.length≤12 ∧
   FlM m L r x p (B.set v b') (rQ v (wU Q ⟨u,v⟩ (rest.map (Js x p))) gK) s' W' (lY con u v) d'∧(NG s→NG s')∧s' r=s r:=by
 obtain⟨hl,hd,hc⟩:=F.I.head hw
 have VQ:(v:Int)<m:=(dP hl).2.1.2
 have hbare:=Cn (L:=L) (x:=x) (p:=p) h7 v (s v)
 refine⟨VQ,hl,?_⟩
 have hWid:∀a b,(wU Q ⟨u,v⟩ (rest.map (Js x p))) ⟨a,b⟩=(if a=u∧b=v then rest else W a b).map (Js x p):=fun a b=>by
  by_cases e:a=u∧b=(v:Int)
  ·rw[if_pos e,e.1,e.2];simp[wU]
  ·have e1:¬((⟨u,v⟩:ID)=⟨a,b⟩):=fun e'=>by injection e' with e1 e2;exact e ⟨e1.symm,e2.symm⟩
   rw[if_neg e];simp only[wU,if_neg e1];exact F.ws a b
 cases k with
 | true =>
  have uZ:=NK (iQ m L x p v (s v)) u x.bK x.seq 0 0 p hbare
  have hm:jN (Js x p true)=.agg [.int .i64 1,.int .i64 x.bK,.int .i64 x.seq,.int .i64 0,.int .i64 0,dY p,.isl false 0 []]:=rfl
  rw[hm]
  by_cases hf:s v=.fresh
  ·rw[hf]at uZ ⊢
   rw[Mp]at uZ
   have OZ:r≠v:=by
    rintro rfl
    rcases F.I.root with e|e<;>(rw[e]at hf;cases hf)
   refine⟨_,_,eO s v (.has u),_,_,uZ,Bd ok v u 1 p (by decide),Be h7 v u 1 p,⟨F.I.learn hw hf (W':=fun a b=>(if a=u∧b=v then rest else W a b)++(if a=v∧cU m L v b=true∧b≠u then[true]else[])) (fun a b=>rfl),by rw[List.length_set];exact F.len,F.upd (t:=.has u) VQ rfl,fun a b=>?_⟩,fun h=>h.learn v u,by simp[eO,OZ]⟩
   rw[uK,hWid,List.map_append]
   congr 1
   split<;>rfl
  ·rw[QU v u hf]at uZ
   refine⟨_,_,s,_,d,uZ,by simp,by simp,⟨F.I.skip hw (fun _=>hf) (fun e=>by cases e) (W':=fun a b=>if a=u∧b=v then rest else W a b) (fun a b=>rfl),by rw[List.length_set];exact F.len,by rw[F.same VQ];exact F.br,fun a b=>?_⟩,fun h=>h,rfl⟩
   exact hWid a b
 | false =>
  have uZ:=NJ (iQ m L x p v (s v)) u x.bK x.seq 0 0 [] hbare
  have hm:jN (Js x p false)=.agg [.int .i64 2,.int .i64 x.bK,.int .i64 x.seq,.int .i64 0,.int .i64 0,dY [],.isl false 0 []]:=rfl
  rw[hm]
  by_cases hf:s v=.has u
  ·rw[hf]at uZ ⊢
   rw[QF]at uZ
   have hu:u≠-1:=by have:=(dP hl).1.1;omega
   have hrest:rest=[]:=by
    rcases hc with⟨h1,_⟩|⟨_,_,h1,_⟩
    ·cases h1
    ·exact h1
   have OZ:r≠v:=by
    rintro rfl
    rcases F.I.root with e|e
    ·rw[e]at hf;cases hf;exact hu rfl
    ·rw[e]at hf;cases hf
   refine⟨_,_,eO s v (.gone u),_,d,uZ,Bd ok v u 2 [] (by decide),Be h7 v u 2 [],⟨F.I.off (con':=lY con u v) (W':=fun a b=>(if a=u∧b=v then rest else W a b)++(if a=v∧cU m L v b=true∧b≠u then[false]else[])) hf (fun a b=>?_) (fun _=>by rw[hw,hrest]) (fun a b=>?_),by rw[List.length_set];exact F.len,F.upd (t:=.gone u) VQ rfl,fun a b=>?_⟩,fun h=>absurd hf ?_,by simp[eO,OZ]⟩
   ·simp[lY,hu]
   ·simp[hu,hrest]
   ·rw[uK,hWid,List.map_append]
    congr 1
    split<;>rfl
   ·have:=F.I.only h hw
    cases this.1
  ·rw[QE v u hf]at uZ
   refine⟨_,_,s,_,d,uZ,by simp,by simp,⟨F.I.skip hw (fun e=>by cases e) (fun _=>hf) (W':=fun a b=>if a=u∧b=v then rest else W a b) (fun a b=>rfl),by rw[List.length_set];exact F.len,by rw[F.same VQ];exact F.br,fun a b=>?_⟩,fun h=>h,rfl⟩
   exact hWid a b
variable {h:aA} {nid bid q wid:Nat} {cr:DV} {X:List kW}
theorem FlM.pick(ok:bR m L)(h7:m≤12)(hL:L.length≤1000)(F:FlM m L r x p B Q s W con d)(A:eV h nid bid q wid cr m L B Q X)(wf:WF h)(hl:h.lim≤h.n){u v:Int}{k:Bool}{rest:List Bool}(hw:W u v=k::rest) :
  ∃ H B' Q' s' W' d',fc D 29 [.ptr nid 5 0 0,.int .i64 u,.int .i64 v] h=some (.tup [.isl false 0 [],.nili],H)∧eV H nid bid q wid cr m L B' Q' X∧FlM m L r x p B' Q' s' W' (lY con u v) d'∧Upd h H [bid,q,wid] [bid,q,wid]∧(NG s→NG s')∧s' r=s r∧cU m L u v=true:=by
 have BL:=(F.I.head hw).1
 obtain⟨w,rfl⟩:∃ w:Nat,v=(w:Int):=⟨v.toNat,by have:=(dP BL).2.1;omega⟩
 obtain⟨VQ,_,b',gK,s',W',d',h1,h2,h3,h4,h5,h6⟩:=F.step ok h7 hw
 have hww:(bD L).length≤1000000:=by rw[kM];omega
 obtain⟨H,e,A2,U⟩:=q29 A wf hl u w (F.br w VQ) (ms:=Js x p k) (r:=rest.map (Js x p)) (by rw[F.ws,hw];rfl) gK h1 hww h2 (by omega) (fun y=>by have:=F.short y;omega)
 exact⟨H,_,_,s',W',d',e,A2,h4,U,h5,h6,BL⟩
theorem FlM.start(ok:bR m L)(h7:m≤12)(hr:0≤r∧r<m){W0:ID→List Msg}(hW0:∀y,W0 y=[])(hB:∀v:Nat,(v:Int)<m→B[v]?=some (iQ m L x p v .fresh))(bZ:B.length=m.toNat) :
  FlM m L r x p (B.set r.toNat (iQ m L x p r (.has (-1)))) (rQ r W0 (lZ (eJ m L r) (-1) 1 x.bK x.seq 0 0 p)) (eO (fun _=>.fresh) r (.has (-1))) (fun u v=>if u=r∧cU m L r v=true then[true]else[]) (fun _ _=>0) (fun _=>0):=by
 have hrr:((r.toNat:Nat):Int)=r:=by omega
 refine⟨FlI.start hr,by rw[List.length_set];exact bZ,fun w hw=>?_,fun u v=>?_⟩
 ·rw[List.getElem?_set]
  by_cases e:r.toNat=w
  ·have e2:(w:Int)=r:=by omega
   rw[if_pos e,if_pos (by omega)]
   simp[eO,e2]
  ·have:¬(w:Int)=r:=by omega
   rw[if_neg e,hB w hw]
   simp[eO,this]
 ·rw[uK,hW0,List.nil_append]
  by_cases e:u=r∧cU m L r v=true
  ·have hv:=(dP e.2).2.1
   have:v≠-1:=by omega
   rw[if_pos ⟨e.1,e.2,this⟩,if_pos e];rfl
  ·rw[if_neg (fun e'=>e ⟨e'.1,e'.2.1⟩),if_neg e];rfl
theorem FlM.advert(ok:bR m L)(h7:m≤12)(hL:L.length≤1000)(hr:0≤r∧r<m){W0:ID→List Msg}(hW0:∀y,W0 y=[])(hB:∀v:Nat,(v:Int)<m→B[v]?=some (iQ m L x p v .fresh))(bZ:B.length=m.toNat)
  (A:eV h nid bid q wid cr m L B W0 X) (wf:WF h) (hl:h.lim≤h.n) {pv:DV} (hv:L9 pv p) :
  ∃ H B' Q',fc D 25 [.ptr nid 5 0 0,.int .i64 r,.agg [.int .i64 x.bK,.int .i64 x.seq],pv] h=some (.nili,H)∧eV H nid bid q wid cr m L B' Q' X∧FlM m L r x p B' Q' (eO (fun _=>.fresh) r (.has (-1))) (fun u v=>if u=r∧cU m L r v=true then[true]else[]) (fun _ _=>0) (fun _=>0)∧Upd h H [bid,q,wid] [bid,q,wid]:=by
 obtain⟨w,rfl⟩:∃ w:Nat,r=(w:Int):=⟨r.toNat,by omega⟩
 have hf:=Mp (m:=m) (L:=L) (x:=x) (p:=p) (w:Int) (-1)
 have hww:(bD L).length≤1000000:=by rw[kM];omega
 have aZ:=Be (L:=L) (x:=x) h7 (w:Int) (-1) 1 p
 obtain⟨H,e,A2,U⟩:=d8 A wf hl w (hB w hr.2) x.bK x.seq hv (Cn h7 _ _) hww (by rw[hf];exact Bd ok _ _ 1 p (by decide)) (by rw[hf];simp only;omega) (fun y=>by rw[hf,hW0];simp;omega)
 rw[hf]at A2
 have:=FlM.start (x:=x) (p:=p) ok h7 hr hW0 hB bZ
 exact⟨H,_,_,e,A2,this,U⟩
end Go.Dm.Tc
/-
NetFloods: links picked until nothing waits,looked at ahead of it.
-/
namespace Go.Dm.Tc
variable {m:Int} {L:List (Int×Int)} {r:Int} {s:Int→FS} {W:Int→Int→List Bool} {con:Int→Int→Nat} {d:Int→Nat} {x:ID} {p:dR}
variable {h:aA} {nid bid q wid:Nat} {cr:DV} {X:List kW} {B:List aL} {Q:ID→List Msg}
theorem Upd.ext0{a b c:aA}{F G:List Nat}(u:Upd a b F G)(e:Ext b.n b c):Upd a c F G :=
 ⟨Nat.le_trans u.n e.le,e.lim.trans u.lim,e.wf,fun i hi hn=>(e.get i (Nat.lt_of_lt_of_le hi u.n)).trans (u.old i hi hn),u.fp⟩
theorem FlM.quiet0(F:FlM m L r x p B Q s W con d)(ok:bR m L)(h:iN Q (bD L)=[])(u v:Int):W u v=[]:=by
 by_cases hl:cU m L u v=true
 ·have hm:=(yZ ok).2 hl
  have:=List.filter_eq_nil_iff.1 h (u,v) hm
  rw[F.ws u v]at this
  cases hw:W u v with
  | nil=>rfl
  | cons k r=>rw[hw]at this;simp at this
 ·rw[F.I.wt,if_neg hl]
theorem FlM.busy0(F:FlM m L r x p B Q s W con d){j:Nat}{u v:Int}(h:(iN Q (bD L))[j]?=some (u,v)):(u,v)∈bD L∧∃ k rest,W u v=k::rest:=by
 obtain⟨h1,h2⟩:=List.mem_filter.1 (List.mem_of_getElem? h)
 refine⟨h1,?_⟩
 rw[F.ws u v]at h2
 cases hw:W u v with
 | nil=>rw[hw]at h2;simp at h2
 | cons k r=>exact⟨k,r,rfl⟩
structure DM(h0 K:aA)(nid bid q wid:Nat)(cr:DV)(m:Int)(L:List (Int×Int))(X:List kW)(r:Int)(x:ID)(p:dR)(B:List aL)(Q:ID→List Msg)(s:Int→FS)(W:Int→Int→List Bool)(con:Int→Int→Nat)(d:Int→Nat):Prop where
 A:eV K nid bid q wid cr m L B Q X
 F:FlM m L r x p B Q s W con d
 U:Upd h0 K [bid,q,wid] [bid,q,wid]
theorem DM.ext{h0 K:aA}(T:DM h0 K nid bid q wid cr m L X r x p B Q s W con d){H:aA}(e:Ext K.n K H):DM h0 H nid bid q wid cr m L X r x p B Q s W con d:=⟨T.A.ext e,T.F,T.U.ext0 e⟩
set_option maxHeartbeats 4000000 in
theorem l5(P:Res→Prop)(ok:bR m L)(h7:m≤12)(hL:L.length≤20)(t:Bool)(picks:List Int)(xid:Nat)(h0:aA)(bI:h0.lim≤h0.n)(gx:h0.get xid=some (.arr 45 2 [.agg [.int .i64 x.bK,.int .i64 x.seq]] (some 1)))(nx:xid ∉ [bid,q,wid]) :
  ∀(k i:Nat) (f:eI) (K:aA) (B:List aL) (Q:ID→List Msg) (s:Int→FS) (W:Int→Int→List Bool) (con:Int→Int→Nat) (d:Int→Nat),i+k=100→f 2=eL t 1 bW picks→f 10=.ptr nid 5 0 0→f 12=.ptr xid 2 0 0→f 13=.int .i64 i→f 47=.int .i64 i →
  DM h0 K nid bid q wid cr m L X r x p B Q s W con d→pW (bD L) con=i→NG s →
  (∀F H B Q s W con d,(∀j∈[7,9,10,12],F j=f j)→F 13=.int .i64 (pW (bD L) con)→DM h0 H nid bid q wid cr m L X r x p B Q s W con d→(∀u v,W u v=[])→NG s→P (run D 165 [] EZ F H)) →
  P (run D 165 [.block 0,.seq EZ] (.loop MR) f K):=by
 intro k
 induction k with
 | zero =>
  intro i f K B Q s W con d hi f2 f10 f12 f13 f47 T hsum hng dO
  have:pW (bD L) con≤2*(bD L).length:=Nq fun w _=>T.F.I.con_le w.1 w.2
  rw[kM]at this
  omega
 | succ k ih =>
  intro i f K B Q s W con d hi f2 f10 f12 f13 f47 T hsum hng dO
  have aZ:(i:Int)<200:=by omega
  have RJ:IntKind.i64.wrap ((i:Int)+1)=(i:Int)+1:=bG (by omega) (by omega)
  have hwl:(bD L).length≤60:=by rw[kM];omega
  obtain⟨v,H,e1,o1,x1⟩:=q82 T.A.Q T.U.wf (by omega)
  have e1:=GZ T.A e1
  have T1:=T.ext x1
  have lv:=o1.lenV
  have Vd:(iN Q (bD L)).length≤(bD L).length:=List.length_filter_le ..
  have hlK:H.lim≤H.n:=by rw[T1.U.lim];have:=T1.U.n;omega
  rw[aJ MR.eq_1]
  by_cases hb:iN Q (bD L)=[]
  ·have hW:=T.F.quiet0 ok hb
   simp[f2,f10,f13,f47,aZ,e1,lv,hb]
   refine dO _ _ _ _ _ _ _ _ (fun j hj=>?_) (by simp[f13,hsum]) T1 hW hng
   simp only[List.mem_cons,List.not_mem_nil,or_false]at hj
   rcases hj with rfl|rfl|rfl|rfl<;>simp
  ·have tB:0<(iN Q (bD L)).length:=List.length_pos_iff.2 hb
   have hW1:IntKind.i64.wrap (((iN Q (bD L)).length:Int)-1)=((iN Q (bD L)).length:Int)-1:=bG (by omega) (by omega)
   obtain⟨c,hc⟩:∃ c,c=if h:i<picks.length then bY picks[i] 0 (((iN Q (bD L)).length:Int)-1)else 0:=⟨_,rfl⟩
   have hcr:0≤c∧c≤((iN Q (bD L)).length:Int)-1:=by
    rw[hc];split
    ·exact iF _ _ _ (by omega)
    ·omega
   obtain⟨j,hj⟩:∃ j:Nat,c=(j:Int):=⟨c.toNat,by omega⟩
   have Px:j<(iN Q (bD L)).length:=by omega
   obtain⟨⟨u,z⟩,huz⟩:∃ y,(iN Q (bD L))[j]?=some y:=⟨_,List.getElem?_eq_getElem Px⟩
   obtain⟨hway,kk,rest,hwk⟩:=T1.F.busy0 huz
   obtain⟨LN,Ix⟩:=T1.F.I.only hng hwk
   subst LN;subst Ix
   have hQ:Q ⟨u,z⟩=[Js x p true]:=by rw[T1.F.ws,hwk];rfl
   obtain⟨w,H2,e3,eD,x3⟩:=q28 T1.A T1.U.wf hlK u z (by rw[hQ];simp)
   rw[hQ]at eD
   have hw7:w=.isl false 7 [.agg [.int .i64 1,.int .i64 x.bK,.int .i64 x.seq,.int .i64 0,.int .i64 0,dY p,.isl false 0 []]]:=by
    rcases eD with⟨_,h⟩|⟨sz,h1,h2⟩
    ·cases h
    ·rw[h1,h2.resolve_right (by simp)];rfl
   subst hw7
   have T2:=T1.ext x3
   have Rf:H2.lim≤H2.n:=by rw[T2.U.lim];have:=T2.U.n;omega
   have gx2:H2.get xid=_:=(T2.U.old xid (aC gx) nx).trans gx
   obtain⟨id,sp,cap,hv,Ef,hlid,hloid,xI,hat⟩:=o1.index (i:=j) (x:=aV (u,z)) (by rw[List.getElem?_map,huz];rfl) .i64
   have hgid2:H2.get id=_:=(x3.get id (aC Ef)).trans Ef
   obtain⟨K2,B',Q',s',W',d',e2,A3,F3,U3,hng3,hsr3,BL⟩:=T2.F.pick ok h7 (by omega) T2.A T2.U.wf Rf hwk
   have T3:DM h0 K2 nid bid q wid cr m L X r x p B' Q' s' W' (lY con u z) d':=⟨A3,F3,T2.U.trans U3⟩
   have hsum3:pW (bD L) (lY con u z)=i+1:=by rw[Kz ok.waysOf_nd hway];omega
   have fin2:∀F',F' 2=eL t 1 bW picks→(∀j∈[7,9,10,12],F' j=f j)→F' 13=.int .i64 ((i+1:Nat):Int)→F' 47=.int .i64 ((i+1:Nat):Int)→P (run D 165 [.block 0,.seq EZ] (.loop MR) F' K2):=fun F' g1 gj g13 g47 =>
    ih (i+1) F' K2 _ _ _ _ _ _ (by omega) g1 ((gj 10 (by simp)).trans f10) ((gj 12 (by simp)).trans f12) g13 g47 T3 hsum3 (hng3 hng) fun F H B Q s W con d a1 a2 a3 a4=>dO F H B Q s W con d (fun j hj=>(a1 j hj).trans (gj j hj)) a2 a3 a4
   rw[hv]at e1 xI lv
   rw[List.length_map]at e1 xI lv
   have Jw:∀id j,jJ 2 1 (.ptr id 2 j 0) (.int .i64 0)=some (.ptr id 2 j 0):=fun _ _=>rfl
   have Jv:∀id j,jJ 2 1 (.ptr id 2 j 0) (.int .i64 1)=some (.ptr id 2 j 1):=fun _ _=>rfl
   have ix7:∀x:DV,aQ 7 (.isl false 7 [x]) (.int .i64 0)=some (.iptr false (aF 7 x) 0):=fun x=>JC ..
   have lw1:∀(h:aA) (x:DV),lenV h 1 (.isl false 7 [x])=some (.int .i64 1):=fun _ _=>rfl
   simp only[aV]at hat
   by_cases hp:i<picks.length
   ·have OW:=s10 picks[i] 0 (((iN Q (bD L)).length:Int)-1) (by omega) (by omega) (by omega)
    rw[dif_pos hp,hj]at hc
    rw[←hc]at OW
    simp[f2,f10,f12,f13,f47,aZ,e1,lv,hb,hp,hW1,e10,OW,xI,Ef,hgid2,hat,e2,e3,turn,RJ,bW,hlK,Jw,Jv,ix7,lw1,gx2,zX,Aj]
    generalize hF:upd _ 47 _=F'
    refine fin2 F' (by rw[←hF];simp[f2]) (fun j hj=>?_) (by rw[←hF];simp[f13]) (by rw[←hF];simp)
    rw[←hF]
    simp only[List.mem_cons,List.not_mem_nil,or_false]at hj
    rcases hj with rfl|rfl|rfl|rfl<;>simp
   ·rw[dif_neg hp,hj]at hc
    have hj0:j=0:=by omega
    subst hj0
    replace xI:aQ 2 (.sl id 2 0 (iN Q (bD L)).length) (.int .i64 0)=some (.ptr id 2 0 0):=xI
    simp[f2,f10,f12,f13,f47,aZ,e1,lv,hb,hp,hW1,xI,Ef,hgid2,hat,e2,e3,turn,RJ,bW,hlK,Jw,Jv,ix7,lw1,gx2,zX,Aj]
    generalize hF:upd _ 47 _=F'
    refine fin2 F' (by rw[←hF];simp[f2]) (fun j hj=>?_) (by rw[←hF];simp[f13]) (by rw[←hF];simp)
    rw[←hF]
    simp only[List.mem_cons,List.not_mem_nil,or_false]at hj
    rcases hj with rfl|rfl|rfl|rfl<;>simp
end Go.Dm.Tc
