/- A part of the proof. -/
import Derived.Test.YtfkbogedodngeaaGreatDoorMs1
import Derived.Test.YtfkbogedodngeaaGreatDoorMs0
set_option linter.all false
set_option maxRecDepth 100000
namespace Go.Dm.Tc
def eE(m:Int)(L:List (Int×Int))(b:Int):List Int:=((List.range m.toNat).map fun i:Nat=>(i:Int)).filter fun x=>cP m L b x
theorem tI(m:Int)(L:List (Int×Int))(b:Int):gI (eE m L b):=by
 unfold eE gI
 refine List.Pairwise.filter _ ?_
 rw[List.pairwise_map]
 exact List.pairwise_lt_range.imp fun h=>by omega
theorem dJ{m:Int}{L:List (Int×Int)}{a b:Int}(h:cP m L a b=true):(0≤a∧a<m)∧(0≤b∧b<m)∧a≠b:=by
 unfold cP at h
 rw[List.any_eq_true]at h
 obtain⟨l,_,h2⟩:=h
 rw[Bool.and_eq_true,Bool.or_eq_true]at h2
 have hm:=of_decide_eq_true h2.1
 rcases h2.2 with h3|h3<;>(have h4:=of_decide_eq_true h3;obtain⟨e1,e2⟩:=h4;refine⟨⟨?_,?_⟩,⟨?_,?_⟩,?_⟩<;>omega)
theorem mP{m:Int}{L:List (Int×Int)}{b x:Int}:x∈eE m L b↔cP m L b x=true:=by
 unfold eE
 rw[List.mem_filter]
 constructor
 ·exact fun h=>h.2
 ·intro h
  have hr:=dJ h
  refine⟨List.mem_map.2 ⟨x.toNat,List.mem_range.2 (by omega),by omega⟩,h⟩
theorem Cb:∀{l k:List Int},gI l→gI k→(∀x,x∈l↔x∈k)→l=k
 | [],[],_,_,_=>rfl
 | [],y::k,_,_,h=>by have:=(h y).2 (List.mem_cons_self ..);cases this
 | x::l,[],_,_,h=>by have:=(h x).1 (List.mem_cons_self ..);cases this
 | x::l,y::k,hl,hk,h=>by
  obtain⟨h1,h2⟩:=List.pairwise_cons.1 hl
  obtain⟨g1,g2⟩:=List.pairwise_cons.1 hk
  have e:x=y:=by
   rcases List.mem_cons.1 ((h x).1 (List.mem_cons_self ..))with e|hx
   ·exact e
   ·rcases List.mem_cons.1 ((h y).2 (List.mem_cons_self ..))with e|hy
    ·exact e.symm
    ·have:=h1 y hy;have:=g1 x hx;omega
  subst e
  rw[Cb h2 g2 fun z=>?_]
  constructor
  ·intro hz
   rcases List.mem_cons.1 ((h z).1 (List.mem_cons_of_mem _ hz))with rfl|hz'
   ·have:=h1 z hz;omega
   ·exact hz'
  ·intro hz
   rcases List.mem_cons.1 ((h z).2 (List.mem_cons_of_mem _ hz))with rfl|hz'
   ·have:=g1 z hz;omega
   ·exact hz'
theorem RF(t:Bool){m:Int}(b:Int){L:List (Int×Int)}(ok:cN m L)(h0:0≤m)(h7:m≤12)(hL:L.length≤1000000):pcF D t76 [.agg [.int .i64 m,eL t 2 aW L],.int .i64 b]=some (eL false 1 dQ (eE m L b)):=by
 obtain⟨N,h1,h2,h3,_⟩:=s76 t m b L hL (ok.bE h0 h7 b)
 rw[h1,Cb h2 (tI m L b) fun x=>by rw[h3,Ck,mP]]
def oH(d:Int):List Int→List (Int×Int)→List (Int×Int)
 | [],K=>K
 | b::r,K=>if b∈K.map (·.1)then oH d r K else oH d r (K++[(b,d+1)])
def bfs(N:Int→List Int):Nat→Nat→List (Int×Int)→List (Int×Int)
 | 0,_,K=>K
 | n+1,i,K=>match K[i]? with
  | some p=>bfs N n (i+1) (oH p.2 (N p.1) K)
  | none=>K
theorem Iz(d:Int):∀(l:List Int) (K:List (Int×Int)),∃ R,oH d l K=K++R∧(∀p∈R,p.2=d+1∧p.1∈l)∧(∀b∈l,b∈(oH d l K).map (·.1))
 | [],K=>⟨[],by simp[oH],by simp,by simp⟩
 | b::r,K=>by
  unfold oH
  split
  ·rename_i hb
   obtain⟨R,h1,h2,h3⟩:=Iz d r K
   refine⟨R,h1,fun p hp=>⟨(h2 p hp).1,List.mem_cons_of_mem _ (h2 p hp).2⟩,fun x hx=>?_⟩
   rcases List.mem_cons.1 hx with rfl|hx
   ·rw[h1,List.map_append];exact List.mem_append_left _ hb
   ·exact h3 x hx
  ·rename_i hb
   obtain⟨R,h1,h2,h3⟩:=Iz d r (K++[(b,d+1)])
   refine⟨(b,d+1)::R,by rw[h1];simp,fun p hp=>?_,fun x hx=>?_⟩
   ·rcases List.mem_cons.1 hp with rfl|hp
    ·exact⟨rfl,List.mem_cons_self ..⟩
    ·exact⟨(h2 p hp).1,List.mem_cons_of_mem _ (h2 p hp).2⟩
   ·rcases List.mem_cons.1 hx with rfl|hx
    ·rw[h1];simp
    ·exact h3 x hx
theorem zK(d:Int):∀(l:List Int) (K:List (Int×Int)),(K.map (·.1)).Nodup→((oH d l K).map (·.1)).Nodup
 | [],K,h=>h
 | b::r,K,h=>by
  unfold oH
  split
  ·exact zK d r K h
  ·rename_i hb
   refine zK d r _ ?_
   rw[List.map_append]
   exact List.nodup_append.2 ⟨h,by simp,fun a ha c hc e=>hb (by simp at hc;rw[hc]at e;exact e ▸ ha)⟩
structure rQ(N:Int→List Int)(a:Int)(K:List (Int×Int))(i:Nat):Prop where
 nd:(K.map (·.1)).Nodup
 st:K[0]?=some (a,0)
 le:i≤K.length
 mono:K.Pairwise fun p q=>p.2≤q.2
 top:∀(p:Int×Int),K[i]?=some p→∀q∈K,q.2≤p.2+1
 cl:∀(j:Nat) (p:Int×Int),j<i→K[j]?=some p→∀b∈N p.1,∃ q∈K,q.1=b∧q.2≤p.2+1
 rng:∀p∈K,p.1=a∨∃ c,p.1∈N c
 pos:∀p∈K,0≤p.2
 idx:∀(j:Nat) (p:Int×Int),K[j]?=some p→p.2≤j
theorem rQ.start(N:Int→List Int)(a:Int):rQ N a [(a,0)] 0 :=
 ⟨by simp,rfl,Nat.zero_le _,List.pairwise_singleton _ _,fun p hp q hq=>by simp at hp hq;rw[←hp,hq];show(0:Int)≤0+1;decide,fun j _ hj=>absurd hj (Nat.not_lt_zero _),fun p hp=>by simp at hp;rw[hp];exact .inl rfl,fun p hp=>by simp at hp;rw[hp];exact Int.le_refl _,fun j p hp=>by
  rcases j with _|j
  ·simp at hp;rw[←hp];exact Int.le_refl _
  ·simp at hp⟩
theorem rQ.step{N:Int→List Int}{a:Int}{K:List (Int×Int)}{i:Nat}(I:rQ N a K i){p:Int×Int}(hp:K[i]?=some p):rQ N a (oH p.2 (N p.1) K) (i+1):=by
 obtain⟨R,h1,h2,h3⟩:=Iz p.2 (N p.1) K
 have hi:=(List.getElem?_eq_some_iff.1 hp).1
 have hpm:p∈K:=List.mem_of_getElem? hp
 have hmono:(oH p.2 (N p.1) K).Pairwise fun p q=>p.2≤q.2:=by
  rw[h1,List.pairwise_append]
  refine⟨I.mono,?_,fun x hx y hy=>?_⟩
  ·rw[List.pairwise_iff_getElem]
   intro u v hu hv _
   rw[(h2 _ (List.getElem_mem hu)).1,(h2 _ (List.getElem_mem hv)).1]
   exact Int.le_refl _
  ·rw[(h2 y hy).1];exact I.top p hp x hx
 refine⟨zK _ _ _ I.nd,?_,by rw[h1,List.length_append];omega,hmono,fun q hq x hx=>?_,fun j q hj hq b hb=>?_,fun q hq=>?_,fun q hq=>?_,fun j q hq=>?_⟩
 ·rw[h1,List.getElem?_append_left (by omega)];exact I.st
 ·have Mg:p.2≤q.2:=by
   have aY:=(List.getElem?_eq_some_iff.1 hq).1
   have:=List.pairwise_iff_getElem.1 hmono i (i+1) (by omega) aY (by omega)
   have e1:(oH p.2 (N p.1) K)[i]'(by omega)=p:=by
    have:(oH p.2 (N p.1) K)[i]?=some p:=by rw[h1,List.getElem?_append_left hi];exact hp
    exact(List.getElem?_eq_some_iff.1 this).2
   have e2:(oH p.2 (N p.1) K)[i+1]'(aY)=q:=(List.getElem?_eq_some_iff.1 hq).2
   rw[e1,e2]at this
   exact this
  rw[h1]at hx
  rcases List.mem_append.1 hx with hx|hx
  ·have:=I.top p hp x hx;omega
  ·have:=(h2 x hx).1;omega
 ·by_cases hji:j<i
  ·have Ve:j<K.length:=by omega
   rw[h1,List.getElem?_append_left Ve]at hq
   obtain⟨c,hc,e1,e2⟩:=I.cl j q hji hq b hb
   exact⟨c,by rw[h1];exact List.mem_append_left _ hc,e1,e2⟩
  ·have hje:j=i:=by omega
   subst hje
   rw[h1,List.getElem?_append_left hi,hp]at hq
   cases hq
   obtain⟨c,hc,e1⟩:=List.mem_map.1 (h3 b hb)
   refine⟨c,hc,e1,?_⟩
   rw[h1]at hc
   rcases List.mem_append.1 hc with hc|hc
   ·exact I.top p hp c hc
   ·rw[(h2 c hc).1];exact Int.le_refl _
 ·rw[h1]at hq
  rcases List.mem_append.1 hq with hq|hq
  ·exact I.rng q hq
  ·exact .inr ⟨p.1,(h2 q hq).2⟩
 ·rw[h1]at hq
  rcases List.mem_append.1 hq with hq|hq
  ·exact I.pos q hq
  ·have:=I.pos p hpm;rw[(h2 q hq).1];omega
 ·rw[h1]at hq
  by_cases hj:j<K.length
  ·rw[List.getElem?_append_left hj]at hq;exact I.idx j q hq
  ·rw[List.getElem?_append_right (by omega)]at hq
   have:=(h2 q (List.mem_of_getElem? hq)).1
   have:=I.idx i p hp
   omega
theorem rQ.walk{N:Int→List Int}{a:Int}:∀(n i:Nat) (K:List (Int×Int)),rQ N a K i→rQ N a (bfs N n i K) (bfs N n i K).length∨∃ j,i+n≤j∧rQ N a (bfs N n i K) j
 | 0,i,K,I=>.inr ⟨i,Nat.le_refl _,I⟩
 | n+1,i,K,I=>by
  unfold bfs
  cases hp:K[i]? with
  | none =>
   have:K.length≤i:=List.getElem?_eq_none_iff.1 hp
   have e:i=K.length:=Nat.le_antisymm I.le this
   exact .inl (e ▸ I)
  | some p =>
   rcases rQ.walk n (i+1) _ (I.step hp)with h|⟨j,h1,h2⟩
   ·exact .inl h
   ·exact .inr ⟨j,by omega,h2⟩
theorem Ly{n:Nat}{l:List Int}(hd:l.Nodup)(h:∀x∈l,0≤x∧x<n):l.length≤n:=yQ hd h
theorem rQ.done{N:Int→List Int}{a:Int}{m:Nat}(hN:∀c b,b∈N c→0≤b∧b<m)(ha:0≤a∧a<m){n:Nat}(hn:m+1≤n):rQ N a (bfs N n 0 [(a,0)]) (bfs N n 0 [(a,0)]).length∧(bfs N n 0 [(a,0)]).length≤m:=by
 have key:∀{K i},rQ N a K i→K.length≤m:=fun {K i} I=>by
  have:=Ly (n:=m) I.nd fun x hx=>by
   obtain⟨p,hp,rfl⟩:=List.mem_map.1 hx
   rcases I.rng p hp with e|⟨c,hc⟩
   ·rw[e];exact ha
   ·exact hN c _ hc
  simpa using this
 rcases rQ.walk n 0 _ (rQ.start N a)with h|⟨j,h1,h2⟩
 ·exact⟨h,key h⟩
 ·have:=key h2
  have:=h2.le
  omega
def eZ(x:Int):DV:=.int .i64 x
def lY(K:List (Int×Int)):List (Int×DV):=K.map fun p=>(p.1,.int .i64 p.2)
theorem Bt(K:List (Int×Int)):(lY K).map (·.1)=K.map (·.1):=by simp[lY]
theorem ED{K:List (Int×Int)}(hn:(K.map (·.1)).Nodup){p:Int×Int}(hp:p∈K):kO (lY K) p.1=some (.int .i64 p.2):=by
 induction K with
 | nil=>cases hp
 | cons q r ih =>
  simp only[List.map_cons,List.nodup_cons]at hn
  by_cases h:q.1=p.1
  ·rcases List.mem_cons.1 hp with rfl|hp
   ·simp[lY,kO]
   ·exact absurd (List.mem_map.2 ⟨p,hp,rfl⟩) (h ▸ hn.1)
  ·rcases List.mem_cons.1 hp with rfl|hp
   ·exact absurd rfl h
   ·have:=ih hn.2 hp
    simp only[lY,kO,List.map_cons]at this ⊢
    rw[List.find?_cons,decide_eq_false h]
    exact this
theorem V2{K:List (Int×Int)}{b:Int}(hb:b ∉ K.map (·.1)):kO (lY K) b=none:=by
 cases h:kO (lY K) b with
 | none=>rfl
 | some v=>exact absurd (Bt K ▸ (Lz (ms:=lY K) (x:=b)).2 ⟨v,h⟩) hb
theorem EC{K:List (Int×Int)}{b d:Int}(hb:b ∉ K.map (·.1)):vA b (.int .i64 d) (lY K)=lY (K++[(b,d)]):=by
 induction K with
 | nil=>rfl
 | cons q r ih =>
  simp only[List.map_cons,List.mem_cons,not_or]at hb
  have h:¬q.1=b:=fun e=>hb.1 e.symm
  simp only[lY,List.map_cons,List.cons_append,vA,if_neg h]
  rw[show(r.map fun p:Int×Int=>(p.1,DV.int .i64 p.2))=lY r from rfl,ih hb.2]
  rfl
structure RowO(H:aA)(v:DV)(id:Nat)(xs:List Int):Prop where
 at_:∃ off pre cap,v=.sl id 1 off xs.length∧H.get id=some (.arr 3 1 (pre++xs.map dQ) cap)∧pre.length=off
structure RS(lo:Nat)(H:aA)(g mo id:Nat)(go:DO)(v:DV)(K:List (Int×Int))(xs:List Int):Prop where
 wf:WF H
 lim:H.lim=lo
 hn:lo≤H.n
 lm:lo≤mo
 li:lo≤id
 gg:H.get g=some go
 gm:H.get mo=some (.mp (fP eZ (lY K)))
 row:RowO H v id xs
 ng:id≠g
 nm:id≠mo
 gm':g≠mo
theorem RS.push{lo:Nat}{H:aA}{g mo id:Nat}{go:DO}{v:DV}{K:List (Int×Int)}{xs:List Int}(s:RS lo H g mo id go v K xs)(o:DO):RS lo (H.push o) g mo id go v K xs:=by
 have h1:=aB s.gg
 have h2:=aB s.gm
 obtain⟨off,pre,cap,e1,e2,e3⟩:=s.row.at_
 have h3:=aB e2
 exact⟨s.wf.push,s.lim,by have:=s.hn;simp;omega,s.lm,s.li,by rw[aG h1];exact s.gg,by rw[aG h2];exact s.gm,⟨off,pre,cap,e1,by rw[aG h3];exact e2,e3⟩,s.ng,s.nm,s.gm'⟩
theorem RS.key{lo:Nat}{H:aA}{g mo id:Nat}{go:DO}{v:DV}{K:List (Int×Int)}{xs:List Int}(s:RS lo H g mo id go v K xs){b d:Int}(hb:b ∉ K.map (·.1)):RS lo (H.set mo (.mp (fP eZ (vA b (.int .i64 d) (lY K))))) g mo id go v (K++[(b,d)]) xs:=by
 have h2:=aB s.gm
 obtain⟨off,pre,cap,e1,e2,e3⟩:=s.row.at_
 exact⟨s.wf.set,s.lim,s.hn,s.lm,s.li,by rw[aN h2 s.gm'];exact s.gg,by rw[bV s.wf s.gm,EC hb],⟨off,pre,cap,e1,by rw[aN h2 s.nm];exact e2,e3⟩,s.ng,s.nm,s.gm'⟩
theorem RS.more{lo:Nat}{H:aA}{g mo id:Nat}{go:DO}{v:DV}{K:List (Int×Int)}{xs:List Int}{A:Option (DV×aA)}(s:RS lo H g mo id go v K xs){b:Int}(hl:xs.length≤1000000)(hA:bF H 3 1 8 v [.int .i64 b]=A) :
  ∃ v' H' id',A=some (v',H')∧RS lo H' g mo id' go v' K (xs++[b]):=by
 obtain⟨off,pre,cap,rfl,e2,rfl⟩:=s.row.at_
 have h1:=aB s.gg
 have h2:=aB s.gm
 have h3:=aB e2
 have hd:((pre++xs.map dQ).drop pre.length).take xs.length=xs.map dQ:=by
  rw[List.drop_left' rfl,List.take_of_length_le (by simp)]
 have Qd:=s.lim
 subst hA
 have cK:([DV.int .i64 b]:List DV).isEmpty=false:=rfl
 simp only[bF,cK,Bool.false_eq_true,if_false,e2]
 rw[if_pos ⟨trivial,trivial,trivial,by simp,by simp;omega,by simp;omega⟩,if_neg (by simp),hd]
 cases cap with
 | some c =>
  refine⟨_,_,H.n,rfl,s.wf.push,s.lim,by have:=s.hn;simp;omega,s.lm,s.hn,by rw[aG h1];exact s.gg,by rw[aG h2];exact s.gm,⟨0,[],none,by simp,by simp[dQ],rfl⟩,by omega,by omega,s.gm'⟩
 | none =>
  rw[if_pos (by rw[Qd];exact s.li)]
  refine⟨_,_,H.n,rfl,s.wf.set.push,s.lim,by have:=s.hn;simp;omega,s.lm,s.hn,?_,?_,⟨0,[],none,by simp,by simp[dQ],rfl⟩,by omega,by omega,s.gm'⟩
  ·rw[aG (by exact h1),aN h3 s.ng.symm];exact s.gg
  ·rw[aG (by exact h2),aN h3 s.nm.symm];exact s.gm
theorem RS.head{lo:Nat}{H:aA}{g mo id:Nat}{go:DO}{v:DV}{K:List (Int×Int)}{x:Int}{xs:List Int}(s:RS lo H g mo id go v K (x::xs)):∃ off pre cap,v=.sl id 1 off (xs.length+1)∧H.get id=some (.arr 3 1 (pre++.int .i64 x::xs.map dQ) cap)∧pre.length=off∧aS 1 v (.int .i64 0)=some (.ptr id 1 off 0)∧(pre++.int .i64 x::xs.map dQ)[off]?=some (.int .i64 x):=by
 obtain⟨off,pre,cap,rfl,e2,rfl⟩:=s.row.at_
 exact⟨_,pre,cap,rfl,e2,rfl,by simp[aS,asI],by simp⟩
theorem RS.pop{lo:Nat}{H:aA}{g mo id:Nat}{go:DO}{v:DV}{K:List (Int×Int)}{x:Int}{xs:List Int}(s:RS lo H g mo id go v K (x::xs)):∃ v',fC H 1 v (some (.int .i64 1)) none=some v'∧RS lo H g mo id go v' K xs:=by
 obtain⟨off,pre,cap,rfl,e2,rfl⟩:=s.row.at_
 refine⟨.sl id 1 (pre.length+1) xs.length,?_,s.wf,s.lim,s.hn,s.lm,s.li,s.gg,s.gm,⟨pre.length+1,pre++[.int .i64 x],cap,rfl,by rw[e2];simp[dQ],by simp⟩,s.ng,s.nm,s.gm'⟩
 have h1:cF none (x::xs).length ((pre++(x::xs).map dQ).length-pre.length)=some (x::xs).length:=wF _ _
 have h2:cF (some (.int .i64 1)) 0 (x::xs).length=some 1:=by simp[cF,asI];omega
 simp only[fC,e2]
 rw[if_pos ⟨trivial,trivial,by simp⟩,h1]
 simp only[h2]
 simp
theorem w8(P:Res→Prop)(S:List Fr)(lo g mo:Nat)(go:DO)(N:List Int)(hN:N.length≤1000)(x d:Int)(hd:0≤d∧d≤100000) :
  ∀(rest:List Int) (K:List (Int×Int)) (ys:List Int) (i id:Nat) (f:eN) (h:aA),N.drop i=rest→K.length+rest.length≤100000→ys.length+rest.length≤100000→(K.map (·.1)).Nodup→(x,d)∈K→f 5=.map mo→f 25=eL false 1 dQ N→f 26=.int .i64 N.length→f 27=.int .i64 i→RS lo h g mo id go (f 6) K (x::ys) →
  (∀F H id' ys',F 5=.map mo→F 2=f 2→RS lo H g mo id' go (F 6) (oH d rest K) (x::ys')→(∃ R,oH d rest K=K++R∧ys'=ys++R.map (·.1))→P (ret D 53 S (.normal) F H)) →
  P (run D 53 (.block 2::S) (.loop Nn) f h):=by
 intro rest
 induction rest with
 | nil =>
  intro K ys i id f h hdr hk hy hn hx h5 h25 h26 WR s dW
  have hi:=lR hdr
  have:¬(i<N.length):=by omega
  rw[aO Nn.eq_1]
  simp[h26,WR,this]
  exact dW _ _ id ys (by simp[h5]) (by simp) (by simpa[oH]using s) ⟨[],by simp[oH],by simp⟩
 | cons b rest ih =>
  intro K ys i id f h hdr hk hy hn hx h5 h25 h26 WR s dW
  obtain⟨hi,he,tN⟩:=nG hdr
  have hw:IntKind.i64.wrap ((i:Int)+1)=(i:Int)+1:=bK (by omega) (by omega)
  have hwd:IntKind.i64.wrap (d+1)=d+1:=bK (by omega) (by omega)
  have gm:=s.gm
  have hnz:((lY K).map (·.1)).Nodup:=by rw[Bt];exact hn
  have Xi:fY (.prim 1) (.int .i64 0) true (.int .i64 b) (some (fP eZ (lY K)))=_:=Dw (kE:=eZ) Pw hnz (.int .i64 0) true b
  rw[aO Nn.eq_1]
  by_cases hb:b∈K.map (·.1)
  ·obtain⟨v,hv⟩:=(Lz (ms:=lY K) (x:=b)).1 (by rw[Bt];exact hb)
   rw[hv]at Xi
   simp only[if_true]at Xi
   have hadd:oH d (b::rest) K=oH d rest K:=by rw[oH,if_pos hb]
   rw[hadd]at dW
   simp[h5,h25,h26,WR,hi,he,gm,iE,kQ,Xi,hw,dQ]
   generalize hF:upd _ 27 _=F
   refine ih K ys (i+1) id F h tN (by simp at hk;omega) (by simp at hy;omega) hn hx (by rw[←hF];simp[h5]) (by rw[←hF];simp[h25]) (by rw[←hF];simp[h26]) (by rw[←hF];simp) (by rw[←hF];simpa using s) ?_
   intro F2 H2 id2 ys2 a1 a2 a3 a4
   exact dW F2 H2 id2 ys2 a1 (by rw[a2,←hF];simp) a3 a4
  ·rw[V2 hb]at Xi
   simp only[if_true]at Xi
   have hlx:fY (.prim 1) (.int .i64 0) false (.int .i64 x) (some (fP eZ (lY K)))=_:=Pr (kE:=eZ) Pw hnz (.int .i64 0) x
   rw[ED hn hx]at hlx
   simp only[Option.getD_some]at hlx
   obtain⟨off,pre,cap,hv6,hg6,hpre,yA,nR⟩:=s.head
   have F5:Jj h (.prim 1) mo (.int .i64 b) (.int .i64 (d+1)) (some (.mp (fP eZ (lY K))))=_:=Rn (kE:=eZ) Pw (h:=h) (id:=mo) hnz (by rw[s.lim];exact s.lm) b (.int .i64 (d+1))
   have s2:=s.key (d:=d+1) hb
   have hadd:oH d (b::rest) K=oH d rest (K++[(b,d+1)]):=by rw[oH,if_neg hb]
   rw[hadd]at dW
   simp[h5,h25,h26,WR,hi,he,gm,iE,kQ,Xi,dQ,yA,hg6,nR,hlx,hwd,nJ,F5]
   generalize hH:h.set mo _=H at *
   generalize hA:bF _ _ _ _ _ _=A
   obtain⟨v',H',id',rfl,s3⟩:=(s2.push _).more (by simp at hy ⊢;omega) hA
   clear hA
   simp[WR,hw]
   generalize hF:upd _ 27 _=F
   refine ih (K++[(b,d+1)]) (ys++[b]) (i+1) id' F H' tN (by simp at hk ⊢;omega) (by simp at hy ⊢;omega) ?_ (List.mem_append_left _ hx) (by rw[←hF];simp[h5]) (by rw[←hF];simp[h25]) (by rw[←hF];simp[h26]) (by rw[←hF];simp) (by rw[←hF];simpa using s3) ?_
   ·rw[List.map_append]
    exact List.nodup_append.2 ⟨hn,by simp,fun a ha c hc e=>hb (by simp at hc;rw[hc]at e;exact e ▸ ha)⟩
   ·intro F2 H2 id2 ys2 a1 a2 a3 a4
    refine dW F2 H2 id2 ys2 a1 (by rw[a2,←hF];simp) a3 ?_
    obtain⟨R,r1,r2⟩:=a4
    exact⟨(b,d+1)::R,by rw[r1];simp,by rw[r2];simp⟩
theorem Ko{K:List (Int×Int)}{i:Nat}{p:Int×Int}(hp:K[i]?=some p):(K.drop i).map (·.1)=p.1::(K.drop (i+1)).map (·.1):=by
 obtain⟨hi,rfl⟩:=List.getElem?_eq_some_iff.1 hp
 rw[List.drop_eq_getElem_cons hi];rfl
theorem w7(P:Res→Prop)(S:List Fr)(lo g mo:Nat)(t:Bool){m:Int}{L:List (Int×Int)}(ok:cN m L)(h0:0≤m)(h7:m≤12)(hL:L.length≤1000000)(a:Int)(ha:0≤a∧a<m) :
  ∀(n i:Nat) (K:List (Int×Int)) (id:Nat) (f:eN) (h:aA),(i+n:Nat)=m.toNat+1→rQ (eE m L) a K i→f 2=.ptr g 2 0 0→f 5=.map mo→RS lo h g mo id (.arr 76 2 [.agg [.int .i64 m,eL t 2 aW L]] (some 1)) (f 6) K ((K.drop i).map (·.1)) →
  (∀F H id',F 5=.map mo→rQ (eE m L) a (bfs (eE m L) n i K) (bfs (eE m L) n i K).length→RS lo H g mo id' (.arr 76 2 [.agg [.int .i64 m,eL t 2 aW L]] (some 1)) (F 6) (bfs (eE m L) n i K) []→P (run D 53 S No F H)) →
  P (run D 53 (.block 0::.seq No::S) (.loop Yh) f h):=by
 have hrng:∀c b,b∈eE m L c→0≤b∧b<m:=fun c b hb=>(dJ (mP.1 hb)).2.1
 have cC:∀{K i},rQ (eE m L) a K i→K.length≤m.toNat:=fun {K i} I=>by
  have:=Ly (n:=m.toNat) I.nd fun x hx=>by
   obtain⟨p,hp,rfl⟩:=List.mem_map.1 hx
   rcases I.rng p hp with e|⟨c,hc⟩
   ·rw[e];omega
   ·have:=hrng c _ hc;omega
  simpa using this
 have hnl:∀x,(eE m L x).length≤12:=fun x=>by
  unfold eE
  have:=List.length_filter_le (fun y=>cP m L x y) ((List.range m.toNat).map fun i:Nat=>(i:Int))
  simp at this
  omega
 intro n
 induction n with
 | zero =>
  intro i K id f h hi I
  have:=cC I
  have:=I.le
  omega
 | succ n ih =>
  intro i K id f h hi I f2 f5 s dW
  have hk:=cC I
  have gg:=s.gg
  have lim:=s.lim
  rw[aO Yh.eq_1]
  cases hp:K[i]? with
  | none =>
   have WO:K.length≤i:=List.getElem?_eq_none_iff.1 hp
   have hd:K.drop i=[]:=List.drop_eq_nil_iff.2 WO
   have hb:bfs (eE m L) (n+1) i K=K:=by unfold bfs;rw[hp]
   rw[hb]at dW
   rw[hd]at s
   obtain⟨off,pre,cap,hv,hg,hpre⟩:=s.row.at_
   have e:i=K.length:=Nat.le_antisymm I.le WO
   simp[hv]
   exact dW _ _ id (by simp[f5]) (e ▸ I) (by simpa[hv]using s)
  | some p =>
   obtain⟨x,d⟩:=p
   have Av:(x,d)∈K:=List.mem_of_getElem? hp
   have hb:bfs (eE m L) (n+1) i K=bfs (eE m L) n (i+1) (oH d (eE m L x) K):=by rw[bfs,hp]
   rw[hb]at dW
   rw[Ko hp]at s
   obtain⟨ys,xA⟩:∃ ys,(K.drop (i+1)).map (·.1)=ys:=⟨_,rfl⟩
   have RG:ys.length≤12:=by rw[←xA];simp;omega
   rw[xA]at s
   have hd:=I.idx i _ hp
   have hd0:=I.pos _ Av
   simp only at hd hd0
   have hil:=(List.getElem?_eq_some_iff.1 hp).1
   obtain⟨off,pre,cap,hv,hg,hpre,yA,nR⟩:=s.head
   have hN:=RF t x ok h0 h7 hL
   have hf:∀h,resolve true h 199 (eL t 2 aW L)=some (eL t 2 aW L):=fun h=>kA _ _ _ _ true h 199 (by decide)
   have hnx:=hnl x
   simp only[hv]at yA
   simp[f2,f5,hv,yA,gg,hg,nR,e76,hN,hf]
   generalize hF:upd _ 27 _=F
   refine w8 P _ lo g mo _ (eE m L x) (by omega) x d ⟨hd0,by omega⟩ (eE m L x) K ys 0 id F h rfl (by omega) (by omega) I.nd Av (by rw[←hF];simp[f5]) (by rw[←hF];simp) (by rw[←hF];simp) (by rw[←hF];simp) (by rw[←hF];simpa[hv]using s) ?_
   intro F2 H2 id2 ys' a5 a2 s2 ⟨R,r1,r2⟩
   obtain⟨v',F7,s3⟩:=s2.pop
   simp[FJ,F7]
   generalize hF3:upd _ 6 _=F3
   refine ih (i+1) _ id2 F3 H2 (by omega) (I.step hp) (by rw[←hF3];simp[a2,←hF,f2]) (by rw[←hF3];simp[a5]) ?_ dW
   rw[r1]at s3 ⊢
   rw[List.drop_append_of_le_length (by omega),List.map_append,xA,←r2]
   rw[←hF3]
   simpa using s3
def zA(m:Int)(L:List (Int×Int))(a:Int):List (Int×Int):=bfs (eE m L) (m.toNat+1) 0 [(a,0)]
theorem Cx{m:Int}{L:List (Int×Int)}{a:Int}(ha:0≤a∧a<m):rQ (eE m L) a (zA m L a) (zA m L a).length∧(zA m L a).length≤m.toNat:=by
 refine rQ.done (m:=m.toNat) (fun c b hb=>?_) (by omega) (Nat.le_refl _)
 have:=(dJ (mP.1 hb)).2.1
 omega
theorem q172(t:Bool){m:Int}{L:List (Int×Int)}(ok:cN m L)(h0:0≤m)(h7:m≤12)(hL:L.length≤1000000){a:Int}(ha:0≤a∧a<m){h:aA}(wf:WF h)(bJ:h.lim≤h.n) :
  ∃ mo h',fc D 172 [.agg [.int .i64 m,eL t 2 aW L],.int .i64 a] h=some (.map mo,h')∧h'.get mo=some (.mp (fP eZ (lY (zA m L a))))∧h'.lim=h.lim∧WF h':=by
 have F5:Jj (h.push (.arr 76 2 [.agg [.int .i64 m,eL t 2 aW L]] (some 1)) |>.push (.mp [])) (.prim 1) (h.n+1) (.int .i64 a) (.int .i64 0) (some (.mp (fP eZ (lY []))))=_:=Rn (kE:=eZ) Pw (ms:=lY []) (by simp[lY]) (by simp;omega) a (.int .i64 0)
 have hz:lY []=[]:=rfl
 have he:fP eZ []=[]:=rfl
 rw[hz,he]at F5
 have hp1:vA a (DV.int .i64 0) []=lY [(a,0)]:=rfl
 rw[hp1]at F5
 rw[e172,aP _ _ _ _ (by simp[FK])]
 simp[FK,nJ,F5,wf]
 generalize hF:upd _ 6 _=F
 generalize hH:aA.push _ _=H
 refine w7 (fun r=>∃ mo h',fin [.t 4] r=some (.map mo,h')∧h'.get mo=some (.mp (fP eZ (lY (zA m L a))))∧h'.lim=h.lim∧WF h') [] h.lim h.n (h.n+1) t ok h0 h7 hL a ha (m.toNat+1) 0 [(a,0)] (h.n+2) F H (by omega) (rQ.start _ _) (by rw[←hF];simp) (by rw[←hF];simp) ?_ ?_
 ·have Fb:h.n<h.n+1:=by omega
  refine⟨by rw[←hH];simp[wf],by rw[←hH];simp,by rw[←hH];simp;omega,by omega,by omega,?_,?_,⟨0,[],some 1,?_,?_,rfl⟩,by omega,by omega,by omega⟩
  ·rw[←hH];simp[wf]
  ·rw[←hH];simp[wf]
  ·rw[←hF];simp
  ·rw[←hH];simp[wf,dQ]
 ·intro F2 H2 id2 a5 _ s
  refine⟨h.n+1,H2,?_,s.gm,s.lim,s.wf⟩
  simp[No,a5]
end Go.Dm.Tc
/-
Graphs: may one be? One of numbers may.
-/
namespace Go.Dm.Tc
def nP(l:Int×Int):Int×Int:=if l.1≤l.2 then l else(l.2,l.1)
theorem s171(a b:Int):pcF D Yi [.agg [.int .i64 a,.int .i64 b]]=some (.agg [.int .i64 (nP (a,b)).1,.int .i64 (nP (a,b)).2]):=by
 unfold pcF
 rw[aP _ _ _ _ (by simp[Yi])]
 by_cases h:a≤b
 ·simp[Yi,Pu,Pt,nP,h]
  omega
 ·simp[Yi,Pu,Pt,nP,h]
  omega
theorem IZ{l k:Int×Int}(h:nP l=nP k):l=k∨l=(k.2,k.1):=by
 obtain⟨a,b⟩:=l
 obtain⟨c,d⟩:=k
 unfold nP at h
 by_cases h1:a≤b<;>by_cases h2:c≤d<;>simp[h1,h2]at h<;>simp<;>omega
def lJ(l:Int×Int):ID:=⟨(nP l).1,(nP l).2⟩
theorem cN.joined{m:Int}{L:List (Int×Int)}(h:cN m L):(L.map lJ).Nodup:=by
 rw[List.nodup_iff_pairwise_ne,List.pairwise_map]
 refine h.nd.imp fun {x y} hxy e=>?_
 have hj:nP x=nP y:=by
  unfold lJ at e
  injection e with e1 e2
  exact Prod.ext e1 e2
 rcases IZ hj with h1|h1
 ·exact hxy.1 h1
 ·exact hxy.2 h1
theorem sE{α:Type}[DecidableEq α]:∀{A B:List α},A.Nodup→(∀x∈A,x∈B)→A.length≤B.length
 | [],_,_,_=>Nat.zero_le _
 | a::A,B,hn,h=>by
  obtain⟨h1,h2⟩:=List.nodup_cons.1 hn
  have ha:=h a (List.mem_cons_self ..)
  have ih:=sE (A:=A) (B:=B.erase a) h2 fun x hx=>(List.mem_erase_of_ne (fun e=>h1 (by rw[←e];exact hx))).2 (h x (List.mem_cons_of_mem _ hx))
  rw[List.length_erase_of_mem ha]at ih
  have:=List.length_pos_of_mem ha
  simp only[List.length_cons]
  omega
def LI(m:Int)(L:List (Int×Int)):Prop:=∀b,0≤b→b<m→∃ d,(b,d)∈zA m L 0
theorem LI.len{m:Int}{L:List (Int×Int)}(h1:1≤m)(h:LI m L):(zA m L 0).length=m.toNat:=by
 obtain⟨I,cD⟩:=Cx (m:=m) (L:=L) (a:=0) ⟨by decide,by omega⟩
 refine Nat.le_antisymm cD ?_
 have Ar:∀x∈(List.range m.toNat).map (fun i:Nat=>(i:Int)),x∈(zA m L 0).map (·.1):=fun x hx=>by
  obtain⟨i,hi,rfl⟩:=List.mem_map.1 hx
  have:=List.mem_range.1 hi
  obtain⟨d,hd⟩:=h i (by omega) (by omega)
  exact List.mem_map.2 ⟨_,hd,rfl⟩
 have LN:((List.range m.toNat).map (fun i:Nat=>(i:Int))).Nodup:=by
  rw[List.nodup_iff_pairwise_ne,List.pairwise_map]
  exact List.pairwise_lt_range.imp fun aY e=>by omega
 have:=sE LN Ar
 simpa using this
theorem l73(P:Res→Prop)(t:Bool){m:Int}{L:List (Int×Int)}(ok:cN m L)(hL:L.length≤200)(h0:aA)(g0:h0.get 0=some (.arr 76 2 [.agg [.int .i64 m,eL t 2 aW L]] (some 1)))(bJ:h0.lim=0) :
  ∀(rest:List (Int×Int)) (i:Nat) (f:eN) (h:aA),L.drop i=rest→f 1=.ptr 0 2 0 0→f 3=.map 1→f 8=eL t 2 aW L→f 9=.int .i64 L.length→f 10=.int .i64 i→h.get 1=some (.mp (vZ ((L.take i).map lJ)))→Ext 1 h0 h→2≤h.n →
  (∀F H,F 1=.ptr 0 2 0 0→Ext 1 h0 H→P (run D 56 [] O3 F H)) →
  P (run D 56 [.block 0,.seq O3] (.loop O2) f h):=by
 intro rest
 induction rest with
 | nil =>
  intro i f h hd f1 f3 f8 f9 f10 gm x hn dW
  have hi:=lR hd
  have:¬(i<L.length):=by omega
  rw[aO O2.eq_1]
  simp[f9,f10,this]
  exact dW _ _ (by simp[f1]) x
 | cons l rest ih =>
  intro i f h hd f1 f3 f8 f9 f10 gm x hn dW
  obtain⟨hi,he,tN⟩:=nG hd
  have hxi:L[i]?=some l:=by have:=congrArg List.head? hd;simpa[List.head?_drop]using this
  have hlH:h.lim=0:=x.lim.trans bJ
  have Ri:=(x.get 0 (by decide)).trans g0
  have n0:¬0=h.n:=by omega
  have n1:¬1=h.n:=by omega
  have hw:IntKind.i64.wrap ((i:Int)+1)=(i:Int)+1:=bK (by omega) (by omega)
  have hf:∀h,resolve true h 199 (eL t 2 aW L)=some (eL t 2 aW L):=fun h=>kA _ _ _ _ true h 199 (by decide)
  have hm:pcF D Nt [.agg [.int .i64 m,eL t 2 aW L],.agg [.int .i64 l.1,.int .i64 l.2]]=some (.bool true):=by
   have:=UT t m L l
   rw[show yW m l=true from decide_eq_true (ok.rng l (List.mem_of_getElem? hxi))]at this
   exact this
  have hj:=s171 l.1 l.2
  have LN:((L.take i).map lJ).Nodup:=(List.Sublist.map lJ (List.take_sublist i L)).nodup ok.joined
  have hnotin:lJ l ∉ (L.take i).map lJ:=by
   have:=ok.joined
   rw[show L=L.take i++l::rest by rw[←hd,List.take_append_drop],List.map_append]at this
   have:=(List.nodup_append.1 this).2.2
   intro Av
   exact this _ Av (lJ l) (by simp) rfl
  have Xi:=D8 LN (nP (l.1,l.2)).1 (nP (l.1,l.2)).2
  have hjj:(⟨(nP (l.1,l.2)).1,(nP (l.1,l.2)).2⟩:ID)=lJ l:=rfl
  rw[hjj,decide_eq_false hnotin]at Xi
  have F5:=fun(H:aA) (hl:H.lim≤1)=>MD (h:=H) (id:=1) LN hl (nP (l.1,l.2)).1 (nP (l.1,l.2)).2
  rw[hjj]at F5
  have hadd:Iy (lJ l) ((L.take i).map lJ)=(L.take (i+1)).map lJ:=by
   rw[Iy,if_neg hnotin,List.take_add_one,hxi,List.map_append];rfl
  rw[hadd]at F5
  have ih':=ih (i+1)
  have uH:1<h.n:=by omega
  have Vc:=x.wf
  generalize (L.take (i+1)).map lJ=ks' at *
  generalize (L.take i).map lJ=ks at *
  rw[aO O2.eq_1]
  simp[f1,f3,f8,f9,f10,hi,he,hlH,Ri,n0,n1,aW,CT,hm,hf,e171,hj,gm,iE,kQ,Xi,nJ,F5,uH,Vc]
  generalize hF:upd _ 10 _=F
  refine ih' F _ tN (by rw[←hF];simp[f1]) (by rw[←hF];simp[f3]) (by rw[←hF];simp[f8]) (by rw[←hF];simp[f9]) (by rw[←hF];simp[hw]) ?_ ?_ (by simp;omega) dW
  ·simp[Vc,uH,n1]
  ·exact(x.set (Nat.le_refl _) uH).push
theorem s73(t:Bool){m:Int}{L:List (Int×Int)}(ok:cN m L)(h1:1≤m)(h7:m≤12)(hL:L.length≤200)(iD:LI m L):pcF D t73 [.agg [.int .i64 m,eL t 2 aW L]]=some .nili:=by
 have hf:∀h,resolve true h 199 (eL t 2 aW L)=some (eL t 2 aW L):=fun h=>kA _ _ _ _ true h 199 (by decide)
 have cC:=iD.len h1
 have Qd:((zA m L 0).length:Int)=m:=by rw[cC];omega
 unfold pcF
 rw[aP _ _ _ _ (by simp[t73])]
 simp[t73]
 generalize hF:upd _ 10 _=F
 generalize hH:aA.push _ _=H
 refine l73 (fun r=>oK (fin [.t 2] r)=some .nili) t ok hL H (by rw[←hH];simp) (by rw[←hH];simp) L 0 F H rfl (by rw[←hF];simp) (by rw[←hF];simp) (by rw[←hF];simp) (by rw[←hF];simp) (by rw[←hF];simp) (by rw[←hH];simp;rfl) (.refl (by rw[←hH];simp) (by rw[←hH];simp)) (by rw[←hH];simp) fun F2 K f1 x=>?_
 have Ri:=(x.get 0 (by decide)).trans (show H.get 0=some (.arr 76 2 [.agg [.int .i64 m,eL t 2 aW L]] (some 1)) by rw[←hH];simp)
 have hlK:K.lim=0:=x.lim.trans (by rw[←hH];simp)
 have a1:¬m<1:=by omega
 have a2:¬64<m:=by omega
 have a3:¬(200:Int)<L.length:=by omega
 have a3':¬200<L.length:=by omega
 have hr:=fun(h:aA) wf hl=>q172 t ok (by omega) h7 (by omega) (a:=0) ⟨by decide,by omega⟩ (h:=h) wf hl
 obtain⟨mo,K2,hr1,hr2,hr3,hr4⟩:=hr (wl K K.n) (by simpa using x.wf) (Nat.le_refl _)
 have nR:(fP eZ (lY (zA m L 0))).length=(zA m L 0).length:=by simp[fP,lY]
 simp[O3,f1,Ri,a1,a2,a3,a3',hf,hlK,hr1,hr2,hr3,IW,kQ,nR,Qd]
theorem Vu{m:Int}{L:List (Int×Int)}{a:Int}(ha:0≤a∧a<m){b c d:Int}(hb:(b,d)∈zA m L a)(hl:cP m L b c=true):∃ e,(c,e)∈zA m L a∧e≤d+1:=by
 obtain⟨I,_⟩:=Cx (L:=L) ha
 obtain⟨j,hj,e⟩:=List.mem_iff_getElem.1 hb
 obtain⟨q,hq,e1,e2⟩:=I.cl j (b,d) hj (by rw[List.getElem?_eq_getElem hj,e]) c (mP.2 hl)
 exact⟨q.2,by rw[←e1];exact hq,e2⟩
theorem J3{m:Int}{L:List (Int×Int)}{a:Int}(ha:0≤a∧a<m):(a,0)∈zA m L a:=by
 obtain⟨I,_⟩:=Cx (L:=L) ha
 exact List.mem_of_getElem? I.st
end Go.Dm.Tc
/-
Faults: a chain of them,down to an error number;what is told of one.
-/
namespace Go.Dm.Tc
theorem Al:nN 4 .nili .nili=some true:=rfl
end Go.Dm.Tc
/-
Networks,part 7: a network as it lies;a new one.
-/
namespace Go.Dm.Tc
theorem JA{l:List Int}(h:gI l):∀{k:List Int},gI k→(∀x,x∈k↔x∈l)→k=l:=fun hk hm=>Cb hk h hm
theorem k9(t:Bool)(me:Int){bE:List Int}(hs:gI bE)(hn:bE.length≤1000000):pcF D t64 [.int .i64 me,eL t 1 dQ bE]=some (aM .none ⟨me,bE,[],[],[],[]⟩):=by
 obtain⟨nr,h1,h2,h3,_⟩:=s64 t me bE hn
 rw[h1,JA hs h2 h3]
structure gX where
 lX:Int
 to:Int
 pub:ID
def Qq(x:gX):DV:=.agg [.int .i64 x.lX,.int .i64 x.to,.int .i64 x.pub.bG,.int .i64 x.pub.seq]
def pN(m:Int)(L:List (Int×Int))(bid nb q:Nat)(cr:DV):DO:=.arr 162 5 [.agg [.int .i64 m,eL false 2 aW L,.sl bid 6 0 nb,.ptr q 2 0 0,cr]] (some 1)
structure cU(h:aA)(nid bid q wid:Nat)(cr:DV)(m:Int)(L:List (Int×Int))(B:List aK)(W:ID→List Msg)(X:List gX):Prop where
 gn:h.get nid=some (pN m L bid B.length q cr)
 gb:∃ sp cap,h.get bid=some (.arr 37 6 (B.map (aM .none)++sp) cap)
 Q:QAt h q wid (bA L) W
 ln:h.lim≤nid
 lb:h.lim≤bid
 cx:OwnR h.lim h cr 180 4 (X.map Qq)
def Kb(m:Int)(L:List (Int×Int))(n:Nat):List aK:=(List.range n).map fun i:Nat=>⟨(i:Int),eE m L i,[],[],[],[]⟩
theorem Gz(m:Int)(L:List (Int×Int))(n:Nat):(Kb m L n).length=n:=by simp[Kb]
theorem BD(m:Int)(L:List (Int×Int))(n:Nat):Kb m L (n+1)=Kb m L n++[⟨(n:Int),eE m L n,[],[],[],[]⟩]:=by
 simp[Kb,List.range_succ]
theorem wX(m:Int)(L:List (Int×Int))(h:m≤12)(b:Int):(eE m L b).length≤12:=by
 unfold eE
 have:=List.length_filter_le (fun y=>cP m L b y) ((List.range m.toNat).map fun i:Nat=>(i:Int))
 simp at this
 omega
theorem R7(ety sz bytes:Nat)(h:aA){α:Type}(t:Bool)(e:α→DV):oY ety sz bytes h [eL t sz e []]=some (.nsl,h.push .dead):=by
 have he:elems h sz (eL t sz e [])=some []:=lQ ..
 simp[oY,bW,he,gS]
theorem JD{ety sz bytes:Nat}{h:aA}{α:Type}{t:Bool}{e:α→DV}{xs:List α}(cK:xs≠[])(hb:∀x,dR 200 0 (e x)=true)(hl:xs.length*bytes≤140737488355328)(h2:xs.length≤1000000)(wf:WF h)(bJ:h.lim≤h.n) :
  ∃ K,oY ety sz bytes h [eL t sz e xs]=some (eL false sz e xs,K)∧Ext h.n h K:=by
 have he:elems h sz (eL t sz e xs)=some (xs.map e):=lQ ..
 have hi:(xs.map e).isEmpty=false:=by cases xs<;>simp_all
 have iD:(xs.map e).all (dR 200 0)=true:=by
  rw[List.all_eq_true]
  intro y hy
  obtain⟨x,_,rfl⟩:=List.mem_map.1 hy
  exact hb x
 have hg:((h.push (.arr ety sz [] (some 0))).push (.arr ety sz (xs.map e) none)).get (h.n+1)=some (.arr ety sz (xs.map e) none):=by simp
 refine⟨((h.push (.arr ety sz [] (some 0))).push (.arr ety sz (xs.map e) none)).set (h.n+1) .dead,?_,(((Ext.refl (Nat.le_refl _) wf).push).push).set (Nat.le_succ _) (by simp)⟩
 simp only[oY,bW,he,hi,List.length_map]
 rw[if_neg (by simp),if_pos ⟨hl,by omega⟩]
 simp only[gS,hg]
 have Qd:((h.push (.arr ety sz [] (some 0))).push (.arr ety sz (xs.map e) none)).lim≤h.n+1:=by simp;omega
 rw[if_pos ⟨trivial,Qd,by simp,by rw[List.drop_zero,List.take_of_length_le (by simp)];exact iD⟩]
 have RM:mkIsl false sz (((xs.map e).drop 0).take xs.length)=eL false sz e xs:=by
  rw[List.drop_zero,List.take_of_length_le (by simp)]
  cases xs with
  | nil=>exact absurd rfl cK
  | cons x r=>rfl
 rw[RM]
theorem M2(x:Int×Int):dR 200 0 (aW x)=true:=rfl
theorem s74(t:Bool)(m:Int)(L:List (Int×Int))(hL:L.length≤1000000):pcF D t74 [.agg [.int .i64 m,eL t 2 aW L]]=some (.agg [.int .i64 m,eL false 2 aW L]):=by
 unfold pcF
 rw[aP _ _ _ _ (by simp[t74])]
 by_cases cK:L=[]
 ·subst cK
  have hc:=fun h=>R7 86 2 16 h t aW
  simp[t74,e173]
  rw[R7 86 2 16]
  simp[turn,aT]
  rfl
 ·simp[t74,e173]
  obtain⟨K,h1,x⟩:=JD (ety:=86) (bytes:=16) (h:=(lM.push (.arr 76 2 [.agg [.int .i64 m,eL t 2 aW L]] (some 1))).push (.arr 76 2 [.agg [.int .i64 0,.nsl]] (some 1))) (t:=t) cK M2 (by omega) (by omega) (by simp) (by simp)
  rw[h1]
  have g0:=x.get 0 (by simp)
  have g1:=x.get 1 (by simp)
  have lim:=x.lim
  have wf:=x.wf
  have hn:=x.le
  simp at g0 g1 lim hn
  have n1:1<K.n:=by omega
  have n0:0<K.n:=by omega
  simp[g0,g1,lim,wf,n0,n1,turn,aT]
  exact ES 176 L
end Go.Dm.Tc
/-
Networks,part 8: a broker asked for.
-/
namespace Go.Dm.Tc
variable {h:aA} {nid bid q wid:Nat} {cr:DV} {m:Int} {L:List (Int×Int)} {B:List aK} {W:ID→List Msg} {X:List gX}
structure LB(h:aA)(nid bid q:Nat)(cr:DV)(m:Int)(L:List (Int×Int))(B:List aK):Prop where
 gn:h.get nid=some (pN m L bid B.length q cr)
 gb:∃ sp cap,h.get bid=some (.arr 37 6 (B.map (aM .none)++sp) cap)
theorem cU.R(A:cU h nid bid q wid cr m L B W X):LB h nid bid q cr m L B:=⟨A.gn,A.gb⟩
theorem LB.push(A:LB h nid bid q cr m L B)(o:DO):LB (h.push o) nid bid q cr m L B:=by
 obtain⟨sp,cap,gb⟩:=A.gb
 exact⟨by rw[aG (aB A.gn)];exact A.gn,sp,cap,by rw[aG (aB gb)];exact gb⟩
theorem q87(A:LB h nid bid q cr m L B)(b:Int):fc D 87 [.ptr nid 5 0 0,.int .i64 b] h=some (.bool (decide (0≤b∧b<B.length)),h):=by
 have gn:=A.gn
 simp only[pN]at gn
 rw[e87,aP _ _ _ _ (by simp[t87])]
 by_cases h1:0≤b<;>by_cases h2:b<B.length<;>simp[t87,gn,h1,h2]
structure Xe(lo:Nat)(h:aA)(v1 v2 v3 v4 v5:DV)(b:aK):Prop where
 r1:OwnR lo h v1 3 1 (b.bE.map dQ)
 r2:OwnR lo h v2 68 4 (b.bB.map aJ)
 r3:OwnR lo h v3 45 2 (b.seen.map eID)
 r4:OwnR lo h v4 70 7 (b.entries.map bR)
 r5:OwnR lo h v5 134 3 (b.lI.map rJ)
theorem Xe.ext{lo:Nat}{h h':aA}{v1 v2 v3 v4 v5:DV}{b:aK}(s:Xe lo h v1 v2 v3 v4 v5 b)(x:Ext h.n h h'):Xe lo h' v1 v2 v3 v4 v5 b:=⟨s.r1.ext x,s.r2.ext x,s.r3.ext x,s.r4.ext x,s.r5.ext x⟩
def YE:iJ:=⟨true,true,true,true,true⟩
theorem Xe.res{lo:Nat}{h:aA}{v1 v2 v3 v4 v5:DV}{b:aK}(s:Xe lo h v1 v2 v3 v4 v5 b)(n:Nat):resolve true h (n+23) (.agg [.int .i64 b.me,v1,v2,v3,v4,v5])=some (aM YE b):=by
 have q1:=s.r1.resolve (n:=n+22) true (fun y _=>(fO y).1) (by omega)
 have q2:=s.r2.resolve (n:=n+22) true (fun y _=>(fX y).1) (by omega)
 have q3:=s.r3.resolve (n:=n+22) true (fun y _=>(lG y).1) (by omega)
 have q4:=s.r4.resolve (n:=n+22) true (fun y _=>(fW y).1) (by omega)
 have q5:=s.r5.resolve (n:=n+22) true (fun y _=>(kK y).1) (by omega)
 show(match([.int .i64 b.me,v1,v2,v3,v4,v5]:List DV).mapM (resolve true h (n+22))with|some c=>some (DV.agg c)|none=>none)=_
 simp only[List.mapM_cons,List.mapM_nil,q1,q2,q3,q4,q5]
 rfl
end Go.Dm.Tc
/-
Networks,part 9: messages sent.
-/
namespace Go.Dm.Tc
variable {h:aA} {nid bid q wid:Nat} {cr:DV} {m:Int} {L:List (Int×Int)} {B:List aK} {W:ID→List Msg} {X:List gX}
def Pi(o:mX):Msg:=⟨o.kind,o.tree,o.id,o.pred,[]⟩
def fV(u:Int)(W:ID→List Msg):List mX→ID→List Msg
 | []=>W
 | o::r=>fV u (kX W ⟨u,o.to⟩ (W ⟨u,o.to⟩++[Pi o])) r
theorem Ss(W:ID→List Msg)(x:ID)(mm:Msg)(y:ID):(kX W x (W x++[mm]) y).length≤(W y).length+1:=by
 simp only[kX];split
 ·subst_vars;simp
 ·omega
theorem cU.key(A:cU h nid bid q wid cr m L B W X){i ety sz:Nat}{xs:List DV}{cap:Option Nat}(g:h.get i=some (.arr ety sz xs cap))(hs:sz≠2):i ∉ [q,wid]:=by
 have gq:=A.Q.gq
 obtain⟨ms,gw,_⟩:=A.Q.gw
 intro hm;simp only[List.mem_cons,List.not_mem_nil,or_false]at hm
 rcases hm with rfl|rfl
 ·rw[gq]at g;simp[qO]at g;exact hs g.2.1.symm
 ·rw[gw]at g;cases g
theorem cU.nq(A:cU h nid bid q wid cr m L B W X):nid ∉ [q,wid]:=A.key A.gn (by decide)
theorem cU.upd(A:cU h nid bid q wid cr m L B W X){H:aA}{W':ID→List Msg}(U:Upd h H [q,wid] [q,wid])(Q:QAt H q wid (bA L) W'):cU H nid bid q wid cr m L B W' X:=by
 have key:∀{i ety sz:Nat} {xs:List DV} {cap:Option Nat},h.get i=some (.arr ety sz xs cap)→sz≠2→H.get i=some (.arr ety sz xs cap):=fun g hs=>by
  rw[U.old _ (aB g) (A.key g hs)];exact g
 obtain⟨sp,cap,gb⟩:=A.gb
 have gn:=A.gn
 refine⟨key gn (by decide),⟨sp,cap,key gb (by decide)⟩,Q,by rw[U.lim];exact A.ln,by rw[U.lim];exact A.lb,?_⟩
 rw[U.lim]
 cases A.cx with
 | nil hv hx=>exact .nil hv hx
 | arr id sp cap hv hg hl hi=>exact .arr id sp cap hv (key hg (by decide)) (by rw[U.lim];exact hl) hi
theorem l85(P:Res→Prop)(t:Bool)(u:Int)(bN:List mX)(hw:(bA L).length≤1000000)(ho:∀o∈bN,(u,o.to)∈bA L∧o.kind≠5)(dY:bN.length≤1000000) :
  ∀(k i:Nat) (f:eN) (K:aA) (W:ID→List Msg),i+k=bN.length→f 0=.ptr nid 5 0 0→f 1=.int .i64 u→f 8=eL t 8 gC bN→f 9=.int .i64 bN.length→f 10=.int .i64 i→cU K nid bid q wid cr m L B W X→WF K→K.lim≤K.n→(∀x,(W x).length+k≤300000) →
  (∀F H,cU H nid bid q wid cr m L B (fV u W (bN.drop i)) X→Upd K H [q,wid] [q,wid]→P (.ok .normal (Dm.tab 46 F) H)) →
  P (run D 46 [.block 0] (.loop Fu) f K):=by
 intro k
 induction k with
 | zero =>
  intro i f K W hi f0 f1 f8 f9 f10 A wf hl hW dW
  have:¬((i:Int)<bN.length):=by omega
  rw[aO Fu.eq_1]
  simp[f9,f10,this]
  have hd:bN.drop i=[]:=List.drop_eq_nil_iff.2 (by omega)
  rw[hd]at dW
  exact dW _ _ A (Upd.refl wf _)
 | succ k ih =>
  intro i f K W hi f0 f1 f8 f9 f10 A wf hl hW dW
  have aY:(i:Int)<bN.length:=by omega
  have RI:IntKind.i64.wrap ((i:Int)+1)=(i:Int)+1:=bK (by omega) (by omega)
  obtain⟨o,F9⟩:∃ o,bN[i]?=some o:=⟨_,List.getElem?_eq_getElem (by omega)⟩
  have Av:=ho o (List.mem_of_getElem? F9)
  have gn:=A.gn
  simp only[pN]at gn
  have nK:nid<K.n:=aB gn
  have n3:¬nid=K.n:=by omega
  have n4:¬nid=K.n+1:=by omega
  rw[aO Fu.eq_1]
  simp[f0,f1,f8,f9,f10,aY,gn,F9,n3,n4,hl,gC,eX,turn]
  have gq:=A.Q.gq
  obtain⟨ms,gw,_⟩:=A.Q.gw
  have nq:q<K.n:=aB gq
  have nw:wid<K.n:=aB gw
  have hW1:=hW ⟨u,o.to⟩
  have A2:QAt ((K.push (.arr 206 8 [.agg [.int .i64 o.to,.int .i64 o.kind,.int .i64 o.tree.bG,.int .i64 o.tree.seq,.int .i64 o.id.bG,.int .i64 o.id.seq,eL false 5 sP o.pred,.isl false 0 []]] (some 1))).push (.arr 49 7 [.agg [.int .i64 o.kind,.int .i64 o.tree.bG,.int .i64 o.tree.seq,.int .i64 o.id.bG,.int .i64 o.id.seq,eL false 5 sP o.pred,.isl false 0 []]] (some 1))) q wid (bA L) W:=by
   refine A.Q.old rfl ?_ ?_
   ·rw[aG (by simp;omega),aG nq]
   ·rw[aG (by simp;omega),aG nw]
  obtain⟨H,e,Q',U⟩:=o9 A2 wf.push.push hw Av.1 (m:=Pi o) (mid:=K.n+1) (e0:=.agg [.int .i64 o.kind,.int .i64 o.tree.bG,.int .i64 o.tree.seq,.int .i64 o.id.bG,.int .i64 o.id.seq,eL false 5 sP o.pred,.isl false 0 []]) (cap:=some 1) (by simp[wf.push]) (by
   intro n tag h
   have hF:mZ 2 (gF (Pi o)):=vQ (k:=1) (by
    intro x hx;simp only[List.mem_cons,List.not_mem_nil,or_false]at hx
    rcases hx with rfl|rfl|rfl|rfl|rfl|rfl|rfl<;>first|exact gT _ _|exact kA _ _ _ _)
   exact hF tag h (n+2) (by omega)) (by omega)
  rw[e]
  have o1:=U.old K.n (by simp;omega) (by simp;omega)
  have o2:=U.old nid (by simp;omega) (by simpa using A.nq)
  have k5:¬o.kind=5:=Av.2
  simp[o1,o2,aG,wf,nK,gn,n3,k5,f10,RI,turn]
  have U1:=(((Upd.refl wf [q,wid]).push _).push _).trans U
  have hd:bN.drop i=o::bN.drop (i+1):=by
   rw[List.drop_eq_getElem_cons (by omega)]
   congr 1
   exact(List.getElem?_eq_some_iff.1 F9).2
  rw[hd]at dW
  generalize hF:upd _ 10 _=F
  refine ih (i+1) F H _ (by omega) (by rw[←hF];simp[f0]) (by rw[←hF];simp[f1]) (by rw[←hF];simp[f8]) (by rw[←hF];simp[f9]) (by rw[←hF];simp) (A.upd U1 Q') U.wf (by rw[U1.lim];have:=U1.n;omega) (fun x=>?_) fun F' H' A' U'=>dW F' H' A' (U1.trans U')
  have h1:=Ss W ⟨u,o.to⟩ (Pi o) x
  have h2:=hW x
  omega
theorem q85(A:cU h nid bid q wid cr m L B W X)(wf:WF h)(hl:h.lim≤h.n)(t:Bool)(u:Int)(bN:List mX)(hw:(bA L).length≤1000000)(ho:∀o∈bN,(u,o.to)∈bA L∧o.kind≠5)(dY:bN.length≤1000000)(hW:∀x,(W x).length+bN.length≤300000) :
  ∃ H,fc D 85 [.ptr nid 5 0 0,.int .i64 u,eL t 8 gC bN] h=some (.tup [],H)∧cU H nid bid q wid cr m L B (fV u W bN) X∧Upd h H [q,wid] [q,wid]:=by
 rw[e85,aP _ _ _ _ (by simp[t85])]
 simp[t85]
 refine l85 (fun r=>∃ H,fin [] r=some (.tup [],H)∧cU H nid bid q wid cr m L B (fV u W bN) X∧Upd h H [q,wid] [q,wid]) t u bN hw ho dY bN.length 0 _ h W (by simp) (by simp) (by simp) (by simp) (by simp) (by simp) A wf hl hW fun F H A' U=>?_
 exact⟨H,by simp[J0,aT],A',U⟩
end Go.Dm.Tc
/-
What functions compute,part 36: an advertisement taken back;a broker's side.
-/
namespace Go.Dm.Tc
theorem _root_.Go.Dm.OwnR.wl{lo:Nat}{h:aA}{v:DV}{ety sz:Nat}{xs:List DV}(w:OwnR lo h v ety sz xs){m:Nat}(hm:m≤lo):OwnR lo (Dm.wl h m) v ety sz xs:=by
 cases w with
 | nil hv hx=>exact .nil hv hx
 | arr id sp cap hv hg hl hi=>exact .arr id sp cap hv hg (Nat.le_trans hm hi) hi
end Go.Dm.Tc
/-
Networks,part 10: a broker turned.
-/
namespace Go.Dm.Tc
variable {h:aA} {nid bid q wid:Nat} {cr:DV} {m:Int} {L:List (Int×Int)} {B:List aK} {W:ID→List Msg} {X:List gX}
theorem cU.ext(A:cU h nid bid q wid cr m L B W X){H:aA}(x:Ext h.n h H):cU H nid bid q wid cr m L B W X:=by
 obtain⟨sp,cap,gb⟩:=A.gb
 have gn:=A.gn
 have gq:=A.Q.gq
 obtain⟨ms,gw,_⟩:=A.Q.gw
 refine⟨by rw[x.get _ (aB gn)];exact gn,⟨sp,cap,by rw[x.get _ (aB gb)];exact gb⟩,A.Q.old x.lim (x.get _ (aB gq)) (x.get _ (aB gw)),by rw[x.lim];exact A.ln,by rw[x.lim];exact A.lb,?_⟩
 rw[x.lim];exact A.cx.ext x
theorem q77(A:cU h nid bid q wid cr m L B W X)(wf:WF h)(hl:h.lim≤h.n)(k:Nat){b b':aK}(hb:B[k]?=some b)(f:FuncId)(caps:List DV)(bN:List mX)
  {h1:aA} (fG:fc D f (aM .none b::caps) h=some (.tup [aM .none b',eL false 8 gC bN],h1)) (x:Ext h.n h h1)
  (hw:(bA L).length≤1000000) (ho:∀o∈bN,((k:Int),o.to)∈bA L∧o.kind≠5) (dY:bN.length≤1000000) (hW:∀x,(W x).length+bN.length≤300000) :
  ∃ H,fc D 77 [.ptr nid 5 0 0,.int .i64 k,.func f caps] h=some (.nili,H)∧cU H nid bid q wid cr m L (B.set k b') (fV k W bN) X∧Upd h H [bid,q,wid] [bid,q,wid]:=by
 have hT:=q87 A.R (k:Int)
 have hk:=(List.getElem?_eq_some_iff.1 hb).1
 rw[decide_eq_true ⟨by omega,by omega⟩]at hT
 have gn:=A.gn
 obtain⟨sp,cap,gb⟩:=A.gb
 simp only[pN]at gn
 have yA:aS 6 (.sl bid 6 0 B.length) (.int .i64 (k:Int))=some (.ptr bid 6 k 0):=by simp[aS,asI,hk]
 have nR:(B.map (aM .none)++sp)[k]?=some (aM .none b):=by rw[List.getElem?_append_left (by simp;exact hk),List.getElem?_map,hb];rfl
 have ln:=aB gn
 have lb:=aB gb
 have xl:=x.lim
 have xn:=x.le
 have A1:=A.ext x
 have gn1:=A1.gn
 simp only[pN]at gn1
 have gb1:=(x.get _ lb).trans gb
 have n1:¬nid=h1.n:=by omega
 have n2:¬bid=h1.n:=by omega
 have wf1:=x.wf
 have lb1:=aB gb1
 have uH:h1.lim≤h1.n:=by omega
 rw[e77,aP _ _ _ _ (by simp[t77])]
 have nb:¬nid=bid:=by rintro rfl;rw[gb1]at gn1;simp at gn1
 have bn:¬bid=nid:=fun e=>nb e.symm
 have llb:=A1.lb
 have n5:¬h1.n=bid:=fun e=>n2 e.symm
 have key:∀{i:Nat} {o:DO},h1.get i=some o→i≠bid→∀(o1 o2:DO),((h1.set bid o1).push o2).get i=some o:=fun g cK o1 o2=>by
  have:=aB g
  rw[aG (by simp;omega),aN lb1 cK];exact g
 have A2:cU ((h1.set bid (.arr 37 6 ((B.map (aM .none)++sp).set k (aM .none b')) cap)).push (.arr 37 6 [aM .none b'] (some 1))) nid bid q wid cr m L (B.set k b') W X:=by
  have qq:=A1.Q.gq
  obtain⟨ms,qw,_⟩:=A1.Q.gw
  have WH:q≠bid:=by rintro rfl;rw[gb1]at qq;simp[qO]at qq
  have WC:wid≠bid:=by rintro rfl;rw[gb1]at qw;simp at qw
  refine⟨?_,⟨sp,cap,?_⟩,A1.Q.old rfl ?_ ?_,A1.ln,A1.lb,?_⟩
  ·simp only[List.length_set];exact key A1.gn nb _ _
  ·rw[aG (by simp;omega),bV wf1 gb1,List.set_append_left _ _ (by simp;exact hk),List.map_set]
  ·rw[key qq WH,qq]
  ·rw[key qw WC,qw]
  ·cases A1.cx with
   | nil hv hx=>exact .nil hv hx
   | arr id sp2 cap2 hv hg Fb hi=>exact .arr id sp2 cap2 hv (key hg (by rintro rfl;rw[gb1]at hg;simp at hg) _ _) Fb hi
 obtain⟨H,e,A3,U⟩:=q85 A2 (wf1.set.push) (by simp;omega) false (k:Int) bN hw ho dY hW
 simp[t77,hT,gn,gb,n1,n2,yA,nR,fG,gn1,gb1,uH,llb,lb1,nb,bn,n5,e]
 refine⟨A3,⟨by have:=U.n;simp at this;omega,by rw[U.lim];simpa using xl,U.wf,fun i hi hn=>?_,fun i hi=>.inl hi⟩⟩
 simp only[List.mem_cons,List.not_mem_nil,or_false,not_or]at hn
 rw[U.old i (by simp;omega) (by simp;exact hn.2),aG (by simp;omega),aN lb1 hn.1,x.get i hi]
end Go.Dm.Tc
/-
Networks,part 11: an advertisement El at a broker.
-/
namespace Go.Dm.Tc
variable {h:aA} {nid bid q wid:Nat} {cr:DV} {m:Int} {L:List (Int×Int)} {B:List aK} {W:ID→List Msg} {X:List gX}
end Go.Dm.Tc
/-
Networks,part 12: an advertisement taken back at a broker.
-/
namespace Go.Dm.Tc
variable {h:aA} {nid bid q wid:Nat} {cr:DV} {m:Int} {L:List (Int×Int)} {B:List aK} {W:ID→List Msg} {X:List gX}
end Go.Dm.Tc
/-
Networks,part 13: a link picked.
-/
namespace Go.Dm.Tc
variable {h:aA} {nid bid q wid:Nat} {cr:DV} {m:Int} {L:List (Int×Int)} {B:List aK} {W:ID→List Msg} {X:List gX}
theorem q29(A:cU h nid bid q wid cr m L B W X)(wf:WF h)(hl:h.lim≤h.n)(u:Int)(k:Nat){b b':aK}(hb:B[k]?=some b){ms:Msg}{r:List Msg}(hm:W ⟨u,k⟩=ms::r)(bN:List mX)
  (hs:pcF D t52 [aM .none b,.int .i64 u,gF ms]=some (.tup [aM .none b',eL false 8 gC bN,.isl false 0 []]))
  (hw:(bA L).length≤1000000) (ho:∀o∈bN,((k:Int),o.to)∈bA L∧o.kind≠5) (dY:bN.length≤1000000) (hW:∀x,(W x).length+bN.length≤300000) :
  ∃ H,fc D 29 [.ptr nid 5 0 0,.int .i64 u,.int .i64 k] h=some (.tup [.isl false 0 [],.nili],H)∧cU H nid bid q wid cr m L (B.set k b') (fV k (kX W ⟨u,k⟩ r) bN) X∧Upd h H [bid,q,wid] [bid,q,wid]:=by
 obtain⟨h1,e1,Q1,U1⟩:=q84 A.Q wf hm
 have A1:=A.upd U1 Q1
 have hk:=(List.getElem?_eq_some_iff.1 hb).1
 have gn:=A.gn
 have gn1:=A1.gn
 obtain⟨sp,cap,gb1⟩:=A1.gb
 simp only[pN]at gn gn1
 have yA:aS 6 (.sl bid 6 0 B.length) (.int .i64 (k:Int))=some (.ptr bid 6 k 0):=by simp[aS,asI,hk]
 have nR:(B.map (aM .none)++sp)[k]?=some (aM .none b):=by rw[List.getElem?_append_left (by simp;exact hk),List.getElem?_map,hb];rfl
 have ln1:=aB gn1
 have lb1:=aB gb1
 have n1:¬nid=h1.n:=by omega
 have n2:¬bid=h1.n:=by omega
 have n3:¬nid=h1.n+1:=by omega
 have n4:¬bid=h1.n+1:=by omega
 have uH:h1.lim≤h1.n:=by rw[U1.lim];have:=U1.n;omega
 simp only[gF]at e1 hs
 have Fb:h1.lim≤h1.n+1:=by omega
 have llb:=A1.lb
 have nb:¬nid=bid:=by rintro rfl;rw[gb1]at gn1;simp at gn1
 have lb2:bid<h1.n+1:=by omega
 have wf1:=U1.wf
 have key:∀{i:Nat} {o:DO},h1.get i=some o→i≠bid→∀(o1 o2 o3:DO),(((h1.set bid o1).push o2).push o3).get i=some o:=fun g cK o1 o2 o3=>by
  have:=aB g
  rw[aG (by simp;omega),aG (by simp;omega),aN lb1 cK];exact g
 have A2:cU (((h1.set bid (.arr 37 6 ((B.map (aM .none)++sp).set k (aM .none b')) cap)).push (.arr 49 7 [.agg [.int .i64 ms.kind,.int .i64 ms.tree.bG,.int .i64 ms.tree.seq,.int .i64 ms.id.bG,.int .i64 ms.id.seq,eX ms.pred,eL false 4 JX ms.T5]] (some 1))).push (.arr 37 6 [aM .none b'] (some 1))) nid bid q wid cr m L (B.set k b') (kX W ⟨u,k⟩ r) X:=by
  have qq:=A1.Q.gq
  obtain⟨mm,qw,_⟩:=A1.Q.gw
  have WH:q≠bid:=by rintro rfl;rw[gb1]at qq;simp[qO]at qq
  have WC:wid≠bid:=by rintro rfl;rw[gb1]at qw;simp at qw
  refine⟨?_,⟨sp,cap,?_⟩,A1.Q.old rfl ?_ ?_,A1.ln,A1.lb,?_⟩
  ·simp only[List.length_set];exact key A1.gn nb _ _ _
  ·rw[aG (by simp;omega),aG (by simp;omega),bV wf1 gb1,List.set_append_left _ _ (by simp;exact hk),List.map_set]
  ·rw[key qq WH,qq]
  ·rw[key qw WC,qw]
  ·cases A1.cx with
   | nil hv hx=>exact .nil hv hx
   | arr id sp2 cap2 hv hg Fb hi=>exact .arr id sp2 cap2 hv (key hg (by rintro rfl;rw[gb1]at hg;simp at hg) _ _ _) Fb hi
 obtain⟨H,e,A3,U⟩:=q85 A2 (wf1.set.push.push) (by simp;omega) false (k:Int) bN hw ho dY (fun x=>by
  have:=hW x
  simp only[kX];split
  ·rename_i hx;subst hx;rw[hm]at this;simp at this;omega
  ·exact this)
 rw[e29,aP _ _ _ _ (by simp[t29])]
 simp[t29,gn,e1,gn1,gb1,n1,n2,n3,n4,yA,nR,e52,hs,uH,Fb,llb,lb1,lb2,nb,e,aT,turn,nN,vP]
 refine⟨A3,⟨by have:=U.n;have:=U1.n;simp at *;omega,by rw[U.lim];simpa using U1.lim,U.wf,fun i hi hn=>?_,fun i hi=>.inl hi⟩⟩
 simp only[List.mem_cons,List.not_mem_nil,or_false,not_or]at hn
 have:=U1.n
 rw[U.old i (by simp;omega) (by simp;exact hn.2),aG (by simp;omega),aG (by simp;omega),aN lb1 hn.1,U1.old i hi (by simp;exact hn.2)]
end Go.Dm.Tc
/-
Networks,part 14: where something waits;the graph.
-/
namespace Go.Dm.Tc
variable {h:aA} {nid bid q wid:Nat} {cr:DV} {m:Int} {L:List (Int×Int)} {B:List aK} {W:ID→List Msg} {X:List gX}
theorem Zu(A:cU h nid bid q wid cr m L B W X){v:DV}{H:aA}(hq:fc D 82 [.ptr q 2 0 0] h=some (v,H)):fc D 27 [.ptr nid 5 0 0] h=some (v,H):=by
 have gn:=A.gn
 simp only[pN]at gn
 rw[e27,aP _ _ _ _ (by simp[t27])]
 simp[t27,gn,hq,turn,aT]
end Go.Dm.Tc
/-
Floods at a broker wO own subscriptions: an advertisement comes,or its end;what a link's message does then;asked of the network.
-/
namespace Go.Dm.Tc
theorem _root_.Go.Dm.OwnR.wl0{lo:Nat}{h:aA}{v:DV}{ety sz:Nat}{xs:List DV}(w:OwnR lo h v ety sz xs){m:Nat}(hm:m≤lo):OwnR lo (Dm.wl h m) v ety sz xs:=by
 cases w with
 | nil hv hx=>exact .nil hv hx
 | arr id sp cap hv hg hl hi=>exact .arr id sp cap hv hg (Nat.le_trans hm hi) hi
structure Je(b:aK):Prop where
 z:U8 b
 ra:eJ (b.bB.map (·.id))
 rs:eJ b.seen
 own:b.lI=[]
def mG(b:aK)(lX:Int)(x:ID)(p:dZ):aK×List mX :=
 if x∈b.seen then(b,[])else((dH b ⟨x,p,lX⟩).1,lZ b.bE lX 1 x.bG x.seq 0 0 p)
def qX(b:aK)(lX:Int)(x:ID):aK×List mX :=
 if(fI b x lX).2=true then((fI b x lX).1,lZ b.bE lX 2 x.bG x.seq 0 0 [])else(b,[])
theorem RE(b:aK)(xc xd lX:Int)(p:dZ)(g:Je b) :
  pcF D t79 [aM .none b,.int .i64 lX,.agg [.int .i64 xc,.int .i64 xd],eX p]=some (.tup [aM .none (mG b lX ⟨xc,xd⟩ p).1,eL false 8 gC (mG b lX ⟨xc,xd⟩ p).2]):=by
 have hlearn:=s174 .none b xc xd p lX g.z g.ra g.rs
 unfold pcF
 rw[aP _ _ _ _ (by simp[t79])]
 by_cases hq:(⟨xc,xd⟩:ID)∈b.seen
 ·have hb:dH b ⟨⟨xc,xd⟩,p,lX⟩=(b,false):=by simp[dH,hq]
  rw[hb]at hlearn
  simp[t79,e174,hlearn,turn,aT,tW,mG,hq]
 ·have hb:(dH b ⟨⟨xc,xd⟩,p,lX⟩).2=true:=by simp[dH,hq]
  have hnear:(dH b ⟨⟨xc,xd⟩,p,lX⟩).1.bE=b.bE:=by unfold dH;split<;>rfl
  have howns:b.lI=[]:=g.own
  rw[hb]at hlearn
  simp[t79,e174,hlearn,turn,mG,hq]
  generalize hA:fc D _ _ _=A
  obtain⟨v1,K,rfl,o1,x1⟩:=p9 hA (by have:=g.z.bE;first|omega|(rw[hnear];omega)) (by simp) (by simp)
  clear hA
  have a0:=x1.get 0 (by simp)
  have a1:=x1.get 1 (by simp)
  have a2:=x1.get 2 (by simp)
  have a3:=x1.get 3 (by simp)
  have al:=x1.lim
  simp at a0 a1 a2 a3 al o1
  try simp only[hnear]at o1
  have eW:=yN (but:=lX) (k:=1) (tc:=xc) (td:=xd) (ic:=0) (id:=0) (pd:=eX p) (ad:=.nsl) (.inl rfl) (.inl rfl) b.bE
  have hn:=x1.le
  simp at hn
  have l2:2<K.n:=by omega
  have r1:∀o,resolve false (K.set 2 o) 199 v1=some (eL false 8 gC (lZ b.bE lX 1 xc xd 0 0 p)):=fun o=>Q9 (o1.aV (o:=o) x1.wf (by decide) l2) eW false (by decide)
  have hu:aZ 199 (eL false 8 gC (lZ b.bE lX 1 xc xd 0 0 p))=true:=kY (fun y _=>(wU y).2) 199 (by decide)
  simp[a0,a3,howns]
  rw[aO QX.eq_1]
  simp[QY,a2,a3,al,l2,x1.wf,turn,aT,r1,hu,howns]
theorem UQ(b:aK)(xc xd lX:Int)(g:Je b) :
  pcF D Yk [aM .none b,.int .i64 lX,.agg [.int .i64 xc,.int .i64 xd]]=some (.tup [aM .none (qX b lX ⟨xc,xd⟩).1,eL false 8 gC (qX b lX ⟨xc,xd⟩).2]):=by
 have hf:=s213 .none b xc xd lX g.z g.ra
 have hnear:(fI b ⟨xc,xd⟩ lX).1.bE=b.bE:=by
  unfold fI
  repeat' split
  all_goals rfl
 unfold pcF
 rw[aP _ _ _ _ (by simp[Yk])]
 cases hq:(fI b ⟨xc,xd⟩ lX).2 with
 | false =>
  have ha:qX b lX ⟨xc,xd⟩=(b,[]):=by simp[qX,hq]
  have hb:(fI b ⟨xc,xd⟩ lX).1=b:=by
   unfold fI at hq ⊢
   split
   ·rfl
   ·rename_i a he
    rw[he]at hq
    simp only at hq
    split
    ·rename_i hs;rw[if_pos hs]at hq;cases hq
    ·rfl
  rw[hq,hb]at hf
  rw[ha]
  simp[Yk,e213,hf,turn,aT,tW]
 | true =>
  have ha:qX b lX ⟨xc,xd⟩=((fI b ⟨xc,xd⟩ lX).1,lZ b.bE lX 2 xc xd 0 0 []):=by simp[qX,hq]
  rw[hq]at hf
  rw[ha]
  simp[Yk,e213,hf,turn,aT]
  generalize hA:fc D _ _ _=A
  obtain⟨v1,K,rfl,o1,x1⟩:=p9 hA (by have:=g.z.bE;first|omega|(rw[hnear];omega)) (by simp) (by simp)
  clear hA
  have a0:=x1.get 0 (by simp)
  have a1:=x1.get 1 (by simp)
  have a2:=x1.get 2 (by simp)
  have al:=x1.lim
  simp at a0 a1 a2 al o1
  try simp only[hnear]at o1
  have eW:=yN (but:=lX) (k:=2) (tc:=xc) (td:=xd) (ic:=0) (id:=0) (pd:=.nsl) (ad:=.nsl) (p:=[]) (.inr ⟨rfl,rfl⟩) (.inl rfl) b.bE
  have hn:=x1.le
  simp at hn
  have l2:2<K.n:=by omega
  have r1:∀o,resolve false (Dm.wl (K.set 2 o) 0) 199 v1=some (eL false 8 gC (lZ b.bE lX 2 xc xd 0 0 [])):=fun o=>Q9 ((o1.aV (o:=o) x1.wf (by decide) l2).wl0 (Nat.zero_le _)) eW false (by decide)
  have hu:aZ 199 (eL false 8 gC (lZ b.bE lX 2 xc xd 0 0 []))=true:=kY (fun y _=>(wU y).2) 199 (by decide)
  simp[a0,a1,a2,al,l2,x1.wf,turn,aT,r1,hu]
theorem NN(b:aK)(q tc td sc sd:Int)(p:dZ)(g:Je b) :
  pcF D t52 [aM .none b,.int .i64 q,.agg [.int .i64 1,.int .i64 tc,.int .i64 td,.int .i64 sc,.int .i64 sd,eX p,.isl false 0 []]]=some (.tup [aM .none (mG b q ⟨tc,td⟩ p).1,eL false 8 gC (mG b q ⟨tc,td⟩ p).2,.isl false 0 []]):=by
 have h1:=RE b tc td q p g
 have hu2:∀os:List mX,aZ 199 (eL false 8 gC os)=true:=fun os=>kY (fun y _=>(wU y).2) 199 (by decide)
 unfold pcF
 rw[aP _ _ _ _ (by simp[t52])]
 simp[t52,e79,h1,turn,aT,hu2]
theorem NM(b:aK)(q tc td sc sd:Int)(p:dZ)(g:Je b) :
  pcF D t52 [aM .none b,.int .i64 q,.agg [.int .i64 2,.int .i64 tc,.int .i64 td,.int .i64 sc,.int .i64 sd,eX p,.isl false 0 []]]=some (.tup [aM .none (qX b q ⟨tc,td⟩).1,eL false 8 gC (qX b q ⟨tc,td⟩).2,.isl false 0 []]):=by
 have h2:=UQ b tc td q g
 have hu2:∀os:List mX,aZ 199 (eL false 8 gC os)=true:=fun os=>kY (fun y _=>(wU y).2) 199 (by decide)
 unfold pcF
 rw[aP _ _ _ _ (by simp[t52])]
 simp[t52,e134,h2,turn,aT,hu2]
variable {h:aA} {nid bid q wid:Nat} {cr:DV} {m:Int} {L:List (Int×Int)} {B:List aK} {W:ID→List Msg} {X:List gX}
theorem Bb(h:aA):fB h .nsl=some (.nsl,h):=_root_.id rfl
def N3(pv:DV)(p:dZ):Prop:=(pv=.nsl∧p=[])∨pv=eL false 5 sP p
theorem o0(b:aK)(xc xd:Int){pv:DV}{p:dZ}(hv:N3 pv p)(g:Je b)(h:aA)(i1 i2:Nat)(wf:WF h)(hl:h.lim≤h.n)(e1 e2:Nat)
  (g1:h.get i1=some (.arr e1 2 [.agg [.int .i64 xc,.int .i64 xd]] (some 1))) (g2:h.get i2=some (.arr e2 1 [pv] (some 1))) :
  ∃ H,fc D 78 [aM .none b,.ptr i1 2 0 0,.ptr i2 1 0 0] h=some (.tup [aM .none (mG b (-1) ⟨xc,xd⟩ p).1,eL false 8 gC (mG b (-1) ⟨xc,xd⟩ p).2],H)∧Ext h.n h H:=by
 have hF:=RE b xc xd (-1) p g
 have l1:=aB g1
 have l2:=aB g2
 have m1:¬i1=h.n:=by omega
 have m2:¬i2=h.n:=by omega
 have m3:¬i1=h.n+1:=by omega
 have m4:¬i2=h.n+1:=by omega
 rw[e78,aP _ _ _ _ (by simp[t78])]
 simp only[eX]at hF
 have uH:h.lim≤h.n+1:=by omega
 rcases hv with⟨rfl,rfl⟩|rfl
 ·rw[show eL false 5 sP ([]:dZ)=DV.isl false 0 []from rfl]at hF
  simp[t78,g1,g2,m1,m2,m3,m4,e79,hF,hl,uH,wf,turn,Bb,aT]
  exact((Ext.refl (Nat.le_refl _) wf).push).push
 ·simp[t78,g1,g2,m1,m2,m3,m4,e79,hF,hl,uH,wf,turn,Bb,aT]
  exact((Ext.refl (Nat.le_refl _) wf).push).push
theorem o6(A:cU h nid bid q wid cr m L B W X)(wf:WF h)(hl:h.lim≤h.n)(k:Nat){b:aK}(hb:B[k]?=some b)(xc xd:Int){pv:DV}{p:dZ}(hv:N3 pv p)(g:Je b)
  (hw:(bA L).length≤1000000) (ho:∀o∈(mG b (-1) ⟨xc,xd⟩ p).2,((k:Int),o.to)∈bA L∧o.kind≠5) (dY:(mG b (-1) ⟨xc,xd⟩ p).2.length≤1000000) (hW:∀x,(W x).length+(mG b (-1) ⟨xc,xd⟩ p).2.length≤300000) :
  ∃ H,fc D 25 [.ptr nid 5 0 0,.int .i64 k,.agg [.int .i64 xc,.int .i64 xd],pv] h=some (.nili,H)∧cU H nid bid q wid cr m L (B.set k (mG b (-1) ⟨xc,xd⟩ p).1) (fV k W (mG b (-1) ⟨xc,xd⟩ p).2) X∧Upd h H [bid,q,wid] [bid,q,wid]:=by
 have st:aQ 1 pv=true:=by rcases hv with⟨rfl,rfl⟩|rfl<;>simp
 have ec:aF 1 pv=[pv]:=by rcases hv with⟨rfl,rfl⟩|rfl<;>simp
 have x:Ext h.n h ((h.push (.arr 45 2 [.agg [.int .i64 xc,.int .i64 xd]] (some 1))).push (.arr 46 1 [pv] (some 1))):=((Ext.refl (Nat.le_refl _) wf).push).push
 obtain⟨h1,e1,x1⟩:=o0 b xc xd hv g _ h.n (h.n+1) x.wf (by have:=x.lim;have:=x.le;simp;omega) 45 46 (by simp[wf]) (by simp[wf])
 obtain⟨H,e2,A2,U⟩:=q77 (A.ext x) x.wf (by have:=x.lim;simp;omega) k hb _ _ _ e1 x1 hw ho dY hW
 rw[e25,aP _ _ _ _ (by simp[t25])]
 simp[t25,st,ec,e2,turn,aT]
 exact⟨A2,(((Upd.refl wf _).push _).push _).trans U⟩
end Go.Dm.Tc
/-
Networks,part 16: what waits on a link;what crossed.
-/
namespace Go.Dm.Tc
variable {h:aA} {nid bid q wid:Nat} {cr:DV} {m:Int} {L:List (Int×Int)} {B:List aK} {W:ID→List Msg} {X:List gX}
theorem q33(A:cU h nid bid q wid cr m L B W X)(wf:WF h)(hl:h.lim≤h.n)(hX:X.length≤1000000) :
  ∃ w H,fc D 33 [.ptr nid 5 0 0] h=some (w,H)∧OwnR h.n H w 180 4 (X.map Qq)∧Ext h.n h H:=by
 have gn:=A.gn
 simp only[pN]at gn
 obtain⟨w,K,e1,o,x,_⟩:=xF (lo:=h.n) (ety:=180) (bytes:=32) A.cx.elems wf (Nat.le_refl _) hl (by simp;omega) (by decide) rfl
 rw[e33,aP _ _ _ _ (by simp[t33])]
 simp[t33,gn,e93,e1,turn,aT]
 exact⟨_,_,⟨rfl,rfl⟩,o.toR,x⟩
end Go.Dm.Tc
/-
Floods,plain: what waits and what is known while one advertisement spreads and is taken back.
-/
namespace Go.Dm.Tc
inductive FS where
 | fresh
 | has (q:Int)
 | gone (q:Int)
 deriving DecidableEq
def FS.sent:FS→Int→List Bool
 | .fresh,_=>[]
 | .has q,v=>if v=q then[]else[true]
 | .gone q,v=>if v=q then[]else[true,false]
structure FlI(m:Int)(L:List (Int×Int))(r:Int)(s:Int→FS)(W:Int→Int→List Bool)(con:Int→Int→Nat)(d:Int→Nat):Prop where
 root:s r=.has (-1)∨s r=.gone (-1)
 rng:∀v,s v≠.fresh→0≤v∧v<m
 par:∀v q,(s v=.has q∨s v=.gone q)→(q=-1∧v=r)∨(cP m L q v=true∧s q≠.fresh∧d q<d v)
 now:∀v q,s v=.has q→q≠-1→con q v=1
 wt:∀u v,W u v=if cP m L u v=true then((s u).sent v).drop (con u v)else[]
 cl:∀u v,con u v≤if cP m L u v=true then((s u).sent v).length else 0
 got:∀u v,1≤con u v→s v≠.fresh
def eO(s:Int→FS)(v:Int)(x:FS):Int→FS:=fun y=>if y=v then x else s y
def mT(con:Int→Int→Nat)(u v:Int):Int→Int→Nat:=fun a b=>if a=u∧b=v then con a b+1 else con a b
def AbB(m:Int)(L:List (Int×Int))(W W':Int→Int→List Bool)(u v:Int)(rest:List Bool)(tell:Int→List Bool):Prop :=
 ∀a b,W' a b=(if a=u∧b=v then rest else W a b)++(if a=v∧cP m L v b=true∧b≠u then tell b else[])
variable {m:Int} {L:List (Int×Int)} {r:Int} {s:Int→FS} {W W':Int→Int→List Bool} {con:Int→Int→Nat} {d:Int→Nat}
theorem Vn{a b:Int}(h:cP m L a b=true):a≠b:=(dJ h).2.2
theorem FlI.start(hr:0≤r∧r<m):FlI m L r (eO (fun _=>.fresh) r (.has (-1))) (fun u v=>if u=r∧cP m L r v=true then[true]else[]) (fun _ _=>0) (fun _=>0):=by
 refine⟨.inl (by simp[eO]),fun v h=>?_,fun v q h=>?_,fun v q h hq=>?_,fun u v=>?_,fun u v=>Nat.zero_le _,fun u v h=>absurd h (by decide)⟩
 ·by_cases e:v=r
  ·rw[e];exact hr
  ·simp[eO,e]at h
 ·by_cases e:v=r
  ·simp[eO,e]at h;exact .inl ⟨h.symm,e⟩
  ·simp[eO,e]at h
 ·by_cases e:v=r
  ·simp[eO,e]at h;exact absurd h.symm hq
  ·simp[eO,e]at h
 ·by_cases e:u=r
  ·subst e
   by_cases hl:cP m L u v=true
   ·have:=(dJ hl).2.1
    have hv:¬v=-1:=by omega
    simp[eO,hl,FS.sent,hv]
   ·simp[hl]
  ·simp[eO,e,FS.sent]
theorem FlI.head(I:FlI m L r s W con d){u v:Int}{k:Bool}{rest:List Bool}(h:W u v=k::rest) :
  cP m L u v=true∧rest=((s u).sent v).drop (con u v+1)∧((k=true∧con u v=0∧s u≠.fresh)∨(k=false∧con u v=1∧rest=[]∧∃ q,s u=.gone q∧v≠q)):=by
 have hw:=I.wt u v
 rw[h]at hw
 split at hw
 ·rename_i hl
  have hd:rest=((s u).sent v).drop (con u v+1):=by
   rw[←List.drop_drop,←hw];rfl
  refine⟨hl,hd,?_⟩
  cases hs:s u with
  | fresh=>rw[hs]at hw;simp[FS.sent]at hw
  | has q =>
   rw[hs]at hw
   by_cases hv:v=q
   ·simp[FS.sent,hv]at hw
   ·simp only[FS.sent,if_neg hv]at hw
    have hc:con u v=0:=by
     rcases Nat.eq_zero_or_pos (con u v)with h0|h0
     ·exact h0
     ·obtain⟨j,hj⟩:∃ j,con u v=j+1:=⟨con u v-1,by omega⟩
      rw[hj]at hw;simp at hw
    rw[hc]at hw
    simp only[List.drop_zero,List.cons.injEq]at hw
    exact .inl ⟨hw.1,hc,by simp⟩
  | gone q =>
   rw[hs]at hw
   by_cases hv:v=q
   ·simp[FS.sent,hv]at hw
   ·simp only[FS.sent,if_neg hv]at hw
    rcases Nat.eq_zero_or_pos (con u v)with h0|h0
    ·rw[h0]at hw
     simp only[List.drop_zero,List.cons.injEq]at hw
     exact .inl ⟨hw.1,h0,by simp⟩
    ·obtain⟨j,hj⟩:∃ j,con u v=j+1:=⟨con u v-1,by omega⟩
     rw[hj]at hw
     rcases Nat.eq_zero_or_pos j with h1|h1
     ·subst h1
      simp at hw
      exact .inr ⟨hw.1,by omega,hw.2,q,rfl,hv⟩
     ·obtain⟨i,hi⟩:∃ i,j=i+1:=⟨j-1,by omega⟩
      subst hi;simp at hw
 ·cases hw
theorem FlI.up(I:FlI m L r s W con d){v q:Int}(h:s v=.has q∨s v=.gone q):s q≠.has v∧s q≠.gone v:=by
 have key:¬(s q=.has v∨s q=.gone v):=fun h2=>by
  rcases I.par v q h with⟨e1,e2⟩|⟨l1,_,d1⟩
  ·have:=I.rng q (by rcases h2 with h2|h2<;>rw[h2]<;>simp)
   omega
  ·rcases I.par q v h2 with⟨e1,e2⟩|⟨_,_,d2⟩
   ·have:=(dJ l1).2.1;omega
   ·omega
 exact⟨fun e=>key (.inl e),fun e=>key (.inr e)⟩
theorem FlI.skip(I:FlI m L r s W con d){u v:Int}{k:Bool}{rest:List Bool}(h:W u v=k::rest)(h1:k=true→s v≠.fresh)(h2:k=false→s v≠.has u)
  (hW:∀a b,W' a b=if a=u∧b=v then rest else W a b):FlI m L r s W' (mT con u v) d:=by
 obtain⟨hl,hd,hc⟩:=I.head h
 refine⟨I.root,I.rng,I.par,fun w q hs hq=>?_,fun a b=>?_,fun a b=>?_,fun a b hb=>?_⟩
 ·by_cases e:q=u∧w=v
  ·obtain⟨rfl,rfl⟩:=e
   have:=I.now w q hs hq
   rcases hc with⟨_,h0,_⟩|⟨hk,_⟩
   ·omega
   ·exact absurd hs (h2 hk)
  ·simp only[mT,if_neg e];exact I.now w q hs hq
 ·rw[hW]
  by_cases e:a=u∧b=v
  ·obtain⟨rfl,rfl⟩:=e
   simp[mT,hl,hd]
  ·simp only[mT,if_neg e];exact I.wt a b
 ·by_cases e:a=u∧b=v
  ·obtain⟨rfl,rfl⟩:=e
   have hw:=I.wt a b
   rw[h,if_pos hl]at hw
   have:=congrArg List.length hw
   simp[List.length_drop]at this
   simp[mT,hl]
   omega
  ·simp only[mT,if_neg e];exact I.cl a b
 ·by_cases e:a=u∧b=v
  ·obtain⟨rfl,rfl⟩:=e
   rcases hc with⟨hk,_,_⟩|⟨_,JL,_⟩
   ·exact h1 hk
   ·exact I.got a b (by omega)
  ·simp only[mT,if_neg e]at hb;exact I.got a b hb
theorem FlI.learn(I:FlI m L r s W con d){u v:Int}{rest:List Bool}(h:W u v=true::rest)(hf:s v=.fresh)
  (hW:AbB m L W W' u v rest (fun _=>[true])):FlI m L r (eO s v (.has u)) W' (mT con u v) (fun y=>if y=v then d u+1 else d y):=by
 obtain⟨hl,hd,hc⟩:=I.head h
 have hc0:con u v=0∧s u≠.fresh:=by
  rcases hc with⟨_,h0,h1⟩|⟨hk,_⟩
  ·exact⟨h0,h1⟩
  ·cases hk
 have huv:=Vn hl
 have PC:r≠v:=by
  rintro rfl
  rcases I.root with e|e<;>(rw[e]at hf;cases hf)
 have cK:∀q,s q≠.fresh→q≠v:=fun q hq e=>hq (e ▸ hf)
 refine⟨?_,fun w hw=>?_,fun w q hs=>?_,fun w q hs hq=>?_,fun a b=>?_,fun a b=>?_,fun a b hb=>?_⟩
 ·simp only[eO,if_neg PC];exact I.root
 ·by_cases e:w=v
  ·rw[e];exact(dJ hl).2.1
  ·simp only[eO,if_neg e]at hw;exact I.rng w hw
 ·by_cases e:w=v
  ·subst e
   have hq:q=u:=by simpa[eO,eq_comm]using hs
   subst hq
   exact .inr ⟨hl,by simp only[eO,if_neg huv];exact hc0.2,by simp[huv]⟩
  ·simp only[eO,if_neg e]at hs
   rcases I.par w q hs with h1|⟨h1,h2,h3⟩
   ·exact .inl h1
   ·have:=cK q h2
    exact .inr ⟨h1,by simp only[eO,if_neg this];exact h2,by simp[this,e,h3]⟩
 ·by_cases e:w=v
  ·subst e
   have Bs:q=u:=by simpa[eO,eq_comm]using hs
   subst Bs
   simp[mT,hc0.1]
  ·simp only[eO,if_neg e]at hs
   have:¬(q=u∧w=v):=fun x=>e x.2
   simp only[mT,if_neg this];exact I.now w q hs hq
 ·rw[hW]
  by_cases e:a=v
  ·subst e
   have n1:¬(a=u∧b=a):=fun x=>huv x.1.symm
   have hw:=I.wt a b
   have tO:=I.cl a b
   rw[hf]at hw tO
   have hw0:W a b=[]:=by rw[hw];simp[FS.sent]
   have hcl0:con a b=0:=by
    by_cases hx:cP m L a b=true<;>simpa[hx,FS.sent]using tO
   simp only[if_neg n1,hw0,mT,hcl0,eO,if_true,List.drop_zero,List.nil_append,FS.sent,true_and]
   by_cases hx:cP m L a b=true<;>by_cases hy:b=u<;>simp[hx,hy]
  ·have n1:¬(a=v∧cP m L v b=true∧b≠u):=fun x=>e x.1
   rw[if_neg n1,List.append_nil]
   simp only[eO,if_neg e]
   by_cases e2:a=u∧b=v
   ·obtain⟨rfl,rfl⟩:=e2
    simp[mT,hl,hd]
   ·simp only[mT,if_neg e2];exact I.wt a b
 ·by_cases e:a=v
  ·subst e
   have n1:¬(a=u∧b=a):=fun x=>huv x.1.symm
   have tO:=I.cl a b
   rw[hf]at tO
   have hcl0:con a b=0:=by
    by_cases hx:cP m L a b=true<;>simpa[hx,FS.sent]using tO
   simp[mT,n1,hcl0]
  ·simp only[eO,if_neg e]
   by_cases e2:a=u∧b=v
   ·obtain⟨rfl,rfl⟩:=e2
    have hw:=I.wt a b
    rw[h,if_pos hl]at hw
    have:=congrArg List.length hw
    simp[List.length_drop]at this
    simp[mT,hl]
    omega
   ·simp only[mT,if_neg e2];exact I.cl a b
 ·by_cases e:b=v
  ·simp[eO,e]
  ·have n1:¬(a=u∧b=v):=fun x=>e x.2
   simp only[mT,if_neg n1]at hb
   simp only[eO,if_neg e];exact I.got a b hb
theorem FlI.off(I:FlI m L r s W con d){v q:Int}{con':Int→Int→Nat}(hs:s v=.has q)
  (hc:∀a b,con' a b=if a=q∧b=v∧q≠-1 then con a b+1 else con a b) (hg:q≠-1→W q v=[false])
  (hW:∀a b,W' a b=(if a=q∧b=v∧q≠-1 then[]else W a b)++(if a=v∧cP m L v b=true∧b≠q then[false]else[])) :
  FlI m L r (eO s v (.gone q)) W' con' d:=by
 have hvq:v≠q:=fun e=>by
  rcases I.par v q (.inl hs)with⟨h1,h2⟩|⟨h1,_,_⟩
  ·have:=I.rng v (by rw[hs];simp);omega
  ·exact Vn h1 e.symm
 have hh:q≠-1→cP m L q v=true∧con q v=1∧[]=((s q).sent v).drop (con q v+1):=fun hq=>by
  obtain⟨h1,h2,h3⟩:=I.head (hg hq)
  rcases h3 with⟨hk,_⟩|⟨_,h4,_⟩
  ·cases hk
  ·exact⟨h1,h4,h2⟩
 refine⟨?_,fun w hw=>?_,fun w p hp=>?_,fun w p hp hq=>?_,fun a b=>?_,fun a b=>?_,fun a b hb=>?_⟩
 ·by_cases e:r=v
  ·subst e
   rcases I.root with h1|h1
   ·rw[hs]at h1;cases h1;simp[eO]
   ·rw[hs]at h1;cases h1
  ·simp only[eO,if_neg e];exact I.root
 ·by_cases e:w=v
  ·rw[e];exact I.rng v (by rw[hs];simp)
  ·simp only[eO,if_neg e]at hw;exact I.rng w hw
 ·have LL:s w=.has p∨s w=.gone p:=by
   by_cases e:w=v
   ·subst e
    have:p=q:=by simpa[eO,eq_comm]using hp
    rw[this];exact .inl hs
   ·simpa only[eO,if_neg e]using hp
  rcases I.par w p LL with h1|⟨h1,h2,h3⟩
  ·exact .inl h1
  ·refine .inr ⟨h1,?_,h3⟩
   by_cases e:p=v
   ·simp[eO,e]
   ·simp only[eO,if_neg e];exact h2
 ·have e:w≠v:=fun e=>by simp[eO,e]at hp
  simp only[eO,if_neg e]at hp
  have n1:¬(p=q∧w=v∧q≠-1):=fun x=>e x.2.1
  rw[hc,if_neg n1];exact I.now w p hp hq
 ·rw[hW,hc]
  by_cases e:a=v
  ·subst e
   have n1:¬(a=q∧b=a∧q≠-1):=fun x=>hvq x.1
   have hw:=I.wt a b
   have tO:=I.cl a b
   rw[hs]at hw tO
   simp only[if_neg n1,eO,if_true,true_and,FS.sent]at hw tO ⊢
   by_cases hx:cP m L a b=true
   ·by_cases hy:b=q
    ·simp[hx,hy]at hw ⊢;simp[hw]
    ·simp only[hx,hy,if_true,if_false,List.length_singleton]at hw tO
     rw[hw]
     simp only[hx,hy,if_true,if_false,ne_eq,not_false_eq_true,and_self]
     have:con a b=0∨con a b=1:=by omega
     rcases this with h0|h0<;>simp[h0]
   ·simp[hx]at hw ⊢;exact hw
  ·have n1:¬(a=v∧cP m L v b=true∧b≠q):=fun x=>e x.1
   rw[if_neg n1,List.append_nil]
   simp only[eO,if_neg e]
   by_cases e2:a=q∧b=v∧q≠-1
   ·rw[if_pos e2,if_pos e2]
    obtain⟨rfl,rfl,hq⟩:=e2
    obtain⟨h1,h2,h3⟩:=hh hq
    rw[if_pos h1];exact h3
   ·rw[if_neg e2,if_neg e2];exact I.wt a b
 ·rw[hc]
  by_cases e:a=v
  ·subst e
   have n1:¬(a=q∧b=a∧q≠-1):=fun x=>hvq x.1
   have tO:=I.cl a b
   rw[hs]at tO
   simp only[if_neg n1,eO,if_true,FS.sent]at tO ⊢
   by_cases hx:cP m L a b=true
   ·by_cases hy:b=q
    ·simpa[hx,hy]using tO
    ·simp[hx,hy]at tO ⊢;omega
   ·simpa[hx]using tO
  ·simp only[eO,if_neg e]
   by_cases e2:a=q∧b=v∧q≠-1
   ·rw[if_pos e2]
    obtain⟨rfl,rfl,hq⟩:=e2
    obtain⟨h1,h2,h3⟩:=hh hq
    have hw:=I.wt a b
    rw[hg hq,if_pos h1]at hw
    have:=congrArg List.length hw
    simp[List.length_drop]at this
    rw[if_pos h1];omega
   ·rw[if_neg e2];exact I.cl a b
 ·have Kh:1≤con a b∨b=v:=by
   rw[hc]at hb
   by_cases e2:a=q∧b=v∧q≠-1
   ·exact .inr e2.2.1
   ·rw[if_neg e2]at hb;exact .inl hb
  by_cases e:b=v
  ·simp[eO,e]
  ·simp only[eO,if_neg e]
   exact I.got a b (Kh.resolve_right e)
def Mv(m:Int)(L:List (Int×Int)):Prop:=∀b:Nat,1≤b→(b:Int)<m→∃ u:Nat,u<b∧cP m L u b=true
theorem KL(hc:Mv m L){P:Int→Prop}(hp:∀a b,cP m L a b=true→P a→P b)(hr:0≤r∧r<m)(h:P r):∀v,0≤v→v<m→P v:=by
 have key:∀b:Nat,(b:Int)<m→(P b↔P 0):=by
  intro b
  induction b using Nat.strongRecOn with
  | _ b ih =>
   intro hb
   rcases Nat.eq_zero_or_pos b with e|e
   ·subst e;exact Iff.rfl
   ·obtain⟨u,hu,hl⟩:=hc b e hb
    have:=ih u hu (by omega)
    rw[←this]
    exact⟨fun h=>hp _ _ (by rw[pX];exact hl) h,fun h=>hp _ _ hl h⟩
 intro v h0 h1
 have e1:((r.toNat:Nat):Int)=r:=by omega
 have e2:((v.toNat:Nat):Int)=v:=by omega
 have k1:=key r.toNat (by omega)
 have k2:=key v.toNat (by omega)
 rw[e1]at k1
 rw[e2]at k2
 exact k2.2 (k1.1 h)
theorem FlI.full(I:FlI m L r s W con d)(hq:∀u v,W u v=[]){u v:Int}(hl:cP m L u v=true):con u v=((s u).sent v).length:=by
 have h1:=I.wt u v
 have h2:=I.cl u v
 rw[hq,if_pos hl]at h1
 rw[if_pos hl]at h2
 have:=List.drop_eq_nil_iff.1 h1.symm
 omega
theorem FlI.all(I:FlI m L r s W con d)(hq:∀u v,W u v=[])(hc:Mv m L):∀v,0≤v→v<m→s v≠.fresh:=by
 have hrf:s r≠.fresh:=by rcases I.root with e|e<;>rw[e]<;>simp
 refine KL hc (P:=fun v=>s v≠.fresh) (fun a b hl ha=>?_) (I.rng r hrf) hrf
 have hf:=I.full hq hl
 cases hs:s a with
 | fresh=>exact absurd hs ha
 | has q =>
  by_cases e:b=q
  ·subst e
   rcases I.par a b (.inl hs)with⟨h1,_⟩|⟨_,h2,_⟩
   ·have:=(dJ hl).2.1;omega
   ·exact h2
  ·rw[hs]at hf
   simp only[FS.sent,if_neg e,List.length_singleton]at hf
   exact I.got a b (by omega)
 | gone q =>
  by_cases e:b=q
  ·subst e
   rcases I.par a b (.inr hs)with⟨h1,_⟩|⟨_,h2,_⟩
   ·have:=(dJ hl).2.1;omega
   ·exact h2
  ·rw[hs]at hf
   simp only[FS.sent,if_neg e,List.length_cons,List.length_nil]at hf
   exact I.got a b (by omega)
theorem FlI.live(I:FlI m L r s W con d)(hq:∀u v,W u v=[]):∀(n:Nat) (v q:Int),d v≤n→s v=.has q→s r=.has (-1):=by
 intro n
 induction n with
 | zero =>
  intro v q hd hs
  rcases I.par v q (.inl hs)with⟨h1,h2⟩|⟨_,_,h3⟩
  ·rw[←h2,hs,h1]
  ·omega
 | succ n ih =>
  intro v q hd hs
  rcases I.par v q (.inl hs)with⟨h1,h2⟩|⟨h1,h2,h3⟩
  ·rw[←h2,hs,h1]
  ·have cK:q≠-1:=by have:=(dJ h1).1;omega
   have hf:=I.full hq h1
   rw[I.now v q hs cK]at hf
   cases hp:s q with
   | fresh=>exact absurd hp h2
   | has p=>exact ih q p (by omega) hp
   | gone p =>
    rw[hp]at hf
    by_cases e:v=p<;>simp[FS.sent,e]at hf
theorem FlI.ended(I:FlI m L r s W con d)(hq:∀u v,W u v=[])(hr:s r=.gone (-1))(v q:Int):s v≠.has q:=fun h=>by
 have:=I.live hq (d v) v q (Nat.le_refl _) h
 rw[hr]at this;cases this
def uK(ways:List (Int×Int))(con:Int→Int→Nat):Nat:=(ways.map fun w=>con w.1 w.2).sum
theorem FO{ways:List (Int×Int)}{c c':Int→Int→Nat}(h:∀w∈ways,c w.1 w.2=c' w.1 w.2):uK ways c=uK ways c':=by
 unfold uK;rw[List.map_congr_left h]
theorem Lg{u v:Int}:∀{ways:List (Int×Int)},ways.Nodup→(u,v)∈ways→uK ways (mT con u v)=uK ways con+1
 | [],_,h=>by cases h
 | w::t,hn,h=>by
  obtain⟨h1,h2⟩:=List.nodup_cons.1 hn
  by_cases e:w=(u,v)
  ·subst e
   have:uK t (mT con u v)=uK t con:=FO fun x hx=>by
    have:¬(x.1=u∧x.2=v):=fun e=>h1 (by obtain⟨a,b⟩:=x;simp only at e;rw[←e.1,←e.2];exact hx)
    simp only[mT,if_neg this]
   simp only[uK,List.map_cons,List.sum_cons]at this ⊢
   rw[this]
   simp[mT];omega
  ·have ht:(u,v)∈t:=(List.mem_cons.1 h).resolve_left fun e'=>e e'.symm
   have ih:=Lg h2 ht
   have:¬(w.1=u∧w.2=v):=fun e'=>e (by obtain⟨a,b⟩:=w;simp only at e';rw[e'.1,e'.2])
   simp only[uK,List.map_cons,List.sum_cons]at ih ⊢
   rw[ih]
   simp only[mT,if_neg this];omega
theorem Nu{k:Nat}:∀{ways:List (Int×Int)},(∀w∈ways,con w.1 w.2≤k)→uK ways con≤k*ways.length
 | [],_=>by simp[uK]
 | w::t,h=>by
  have ih:=Nu (ways:=t) fun x hx=>h x (List.mem_cons_of_mem _ hx)
  have:=h w (List.mem_cons_self ..)
  simp only[uK,List.map_cons,List.sum_cons,List.length_cons]at ih ⊢
  rw[Nat.mul_succ];omega
theorem FlI.con_le(I:FlI m L r s W con d)(u v:Int):con u v≤2:=by
 have:=I.cl u v
 refine Nat.le_trans this ?_
 split
 ·cases s u with
  | fresh=>simp[FS.sent]
  | has q=>by_cases e:v=q<;>simp[FS.sent,e]
  | gone q=>by_cases e:v=q<;>simp[FS.sent,e]
 ·decide
end Go.Dm.Tc
/-
Floods,plain: how much has come in the end;the parents are a tree.
-/
namespace Go.Dm.Tc
variable {m:Int} {L:List (Int×Int)} {r:Int} {s:Int→FS} {W W':Int→Int→List Bool} {con:Int→Int→Nat} {d:Int→Nat}
def NG(s:Int→FS):Prop:=∀v q,s v≠.gone q
theorem NG.start(r:Int):NG (eO (fun _=>.fresh) r (.has (-1))):=fun v q=>by
 by_cases e:v=r<;>simp[eO,e]
theorem NG.learn(h:NG s)(v u:Int):NG (eO s v (.has u)):=fun w q=>by
 by_cases e:w=v
 ·simp[eO,e]
 ·simp only[eO,if_neg e];exact h w q
theorem FlI.only(I:FlI m L r s W con d)(h:NG s){u v:Int}{k:Bool}{rest:List Bool}(hw:W u v=k::rest):k=true∧rest=[]:=by
 obtain⟨hl,hd,hc⟩:=I.head hw
 rcases hc with⟨h1,h2,h3⟩|⟨_,_,_,q,h4,_⟩
 ·refine⟨h1,?_⟩
  rw[hd]
  cases hs:s u with
  | fresh=>rfl
  | has q=>by_cases e:v=q<;>simp[FS.sent,e]
  | gone q=>exact absurd hs (h u q)
 ·exact absurd h4 (h u q)
theorem FlI.rootHas(I:FlI m L r s W con d)(h:NG s):s r=.has (-1):=I.root.resolve_right (h r (-1))
def kG(s:Int→FS)(v:Int):Int:=match s v with|.has q=>q|_=>-2
theorem FlI.allHas(I:FlI m L r s W con d)(h:NG s)(hq:∀u v,W u v=[])(hc:Mv m L){v:Int}(h0:0≤v)(h1:v<m):s v=.has (kG s v):=by
 have:=I.all hq hc v h0 h1
 unfold kG
 cases hs:s v with
 | fresh=>exact absurd hs this
 | has q=>rfl
 | gone q=>exact absurd hs (h v q)
def gP(m:Int):List Int:=(List.range m.toNat).map fun i:Nat=>(i:Int)
theorem pP{m v:Int}:v∈gP m↔0≤v∧v<m:=by
 unfold gP
 rw[List.mem_map]
 constructor
 ·rintro⟨i,hi,rfl⟩
  rw[List.mem_range]at hi
  omega
 ·rintro⟨h0,h1⟩
  exact⟨v.toNat,by rw[List.mem_range];omega,by omega⟩
theorem wT(m:Int):(gP m).Nodup:=by
 unfold gP
 exact List.Pairwise.map _ (fun a b h e=>h (by omega)) List.nodup_range
theorem yO(m:Int):(gP m).length=m.toNat:=by simp[gP]
theorem pJ{u v:Int}(ok:cN m L):(u,v)∈bA L↔cP m L u v=true:=by
 rw[D4]
 constructor
 ·intro h
  unfold cP
  rw[List.any_eq_true]
  rcases h with h|h
  ·have:=ok.rng _ h
   exact⟨(u,v),h,by simp[yW];simp at this;omega⟩
  ·have:=ok.rng _ h
   exact⟨(v,u),h,by simp[yW];simp at this;omega⟩
 ·intro h
  unfold cP at h
  rw[List.any_eq_true]at h
  obtain⟨⟨a,b⟩,h1,h2⟩:=h
  simp at h2
  rcases h2.2 with⟨e1,e2⟩|⟨e1,e2⟩
  ·subst e1;subst e2;exact .inl h1
  ·subst e1;subst e2;exact .inr h1
theorem Rz(p:Int×Int→Bool):∀l:List (Int×Int),(l.map fun w=>if p w then 0 else 1).sum+(l.filter p).length=l.length
 | []=>rfl
 | w::t=>by
  have:=Rz p t
  by_cases h:p w=true
  ·simp[h];omega
  ·simp[h];omega
theorem FlI.count(I:FlI m L r s W con d)(h:NG s)(hq:∀u v,W u v=[])(hc:Mv m L)(ok:cN m L)(hr:0≤r∧r<m):uK (bA L) con+(m.toNat-1)=2*L.length:=by
 have h1:uK (bA L) con=((bA L).map fun w=>if decide (w.2=kG s w.1)then 0 else 1).sum:=by
  unfold uK
  rw[List.map_congr_left]
  intro w hw
  obtain⟨u,v⟩:=w
  have hl:=(pJ ok).1 hw
  have:=I.full hq hl
  have hu:=(dJ hl).1
  have hh:=I.allHas h hq hc hu.1 hu.2
  simp only
  rw[this,hh]
  by_cases e:v=kG s u<;>simp[FS.sent,e]
 have h2:=Rz (fun w=>decide (w.2=kG s w.1)) (bA L)
 have h3:((bA L).filter fun w=>decide (w.2=kG s w.1)).length=m.toNat-1:=by
  have hT:(((gP m).erase r).map fun v=>(v,kG s v)).length=m.toNat-1:=by
   rw[List.length_map,List.length_erase_of_mem (pP.2 hr),yO]
  rw[←hT]
  have hm:∀x:Int×Int,x∈(bA L).filter (fun w=>decide (w.2=kG s w.1))↔x∈((gP m).erase r).map fun v=>(v,kG s v):=by
   rintro⟨u,v⟩
   rw[List.mem_filter,pJ ok,List.mem_map]
   constructor
   ·rintro⟨hl,e⟩
    have e:v=kG s u:=of_decide_eq_true e
    refine⟨u,?_,by rw[e]⟩
    rw[(wT m).mem_erase_iff]
    refine⟨fun e2=>?_,pP.2 (dJ hl).1⟩
    have:=(dJ hl).2.1
    have hrr:=I.rootHas h
    rw[e2]at e
    unfold kG at e
    rw[hrr]at e
    simp only at e
    omega
   ·rintro⟨a,ha,e⟩
    rw[(wT m).mem_erase_iff,pP]at ha
    simp only[Prod.mk.injEq]at e
    obtain⟨rfl,rfl⟩:=e
    have hh:=I.allHas h hq hc ha.2.1 ha.2.2
    rcases I.par a _ (.inl hh)with⟨_,e2⟩|⟨e2,_,_⟩
    ·exact absurd e2 ha.1
    ·exact⟨by rw[pX];exact e2,decide_eq_true rfl⟩
  have n1:((bA L).filter fun w=>decide (w.2=kG s w.1)).Nodup:=List.Pairwise.filter _ ok.waysOf_nd
  have n2:(((gP m).erase r).map fun v=>(v,kG s v)).Nodup:=List.Pairwise.map _ (fun a b hh e=>hh (by simp only[Prod.mk.injEq]at e;exact e.1)) ((wT m).erase r)
  exact Nat.le_antisymm (sE n1 fun x hx=>(hm x).1 hx) (sE n2 fun x hx=>(hm x).2 hx)
 rw[iR]at h2
 rw[h1]
 omega
structure T9(m:Int)(L:List (Int×Int))(r:Int)(p:List Int)(d:Int→Nat):Prop where
 len:(p.length:Int)=m
 rt:0≤r∧r<m
 at_:∀v,0≤v→v<m→(atL p v.toNat=-1∧v=r)∨(cP m L (atL p v.toNat) v=true∧d (atL p v.toNat)<d v∧v≠r)
theorem T6(f:Nat→Int){n i:Nat}(h:i<n):atL ((List.range n).map f) i=f i:=by
 rw[lU (by simpa using h)]
 simp
theorem FlI.tree(I:FlI m L r s W con d)(h:NG s)(hq:∀u v,W u v=[])(hc:Mv m L)(hr:0≤r∧r<m):T9 m L r ((gP m).map (kG s)) d:=by
 refine⟨by simp[yO];omega,hr,fun v h0 h1=>?_⟩
 have e:atL ((gP m).map (kG s)) v.toNat=kG s v:=by
  unfold gP
  rw[List.map_map,T6 _ (by omega)]
  have:((v.toNat:Nat):Int)=v:=by omega
  simp only[Function.comp_apply,this]
 rw[e]
 have hh:=I.allHas h hq hc h0 h1
 by_cases hv:v=r
 ·subst hv
  rcases I.par v _ (.inl hh)with⟨e1,_⟩|⟨e1,_,_⟩
  ·exact .inl ⟨e1,rfl⟩
  ·have:=I.rootHas h
   rw[hh]at this
   have e2:kG s v=-1:=by injection this
   have:=(dJ e1).1
   omega
 ·rcases I.par v _ (.inl hh)with⟨_,e1⟩|⟨e1,_,e3⟩
  ·exact absurd e1 hv
  ·exact .inr ⟨e1,e3,hv⟩
namespace T9
variable {p:List Int}
theorem roots(T:T9 m L r p d):GT p=1:=by
 have hl:=T.len
 have hp:p=(gP m).map fun v=>atL p v.toNat:=by
  apply List.ext_getElem
  ·simp[yO];omega
  ·intro i h1 h2
   simp only[gP,List.map_map,List.getElem_map,List.getElem_range,Function.comp_apply,Int.toNat_natCast]
   exact(lU h1).symm
 have h1:(p.filter fun x=>decide (x=-1)).length=((gP m).filter fun v=>decide (atL p v.toNat=-1)).length:=by
  conv=>lhs;rw[hp,List.filter_map]
  rw[List.length_map];rfl
 have h2:((gP m).filter fun v=>decide (atL p v.toNat=-1)).length=1:=by
  have n1:((gP m).filter fun v=>decide (atL p v.toNat=-1)).Nodup:=List.Pairwise.filter _ (wT m)
  have a1:=sE n1 (B:=[r]) fun x hx=>by
   obtain⟨Jf,hx2⟩:=List.mem_filter.1 hx
   have Jf:=pP.1 Jf
   have hx2:atL p x.toNat=-1:=of_decide_eq_true hx2
   rcases T.at_ x Jf.1 Jf.2 with⟨_,e⟩|⟨e,_,_⟩
   ·rw[e];simp
   ·have:=(dJ e).1;omega
  have a2:=sE (A:=[r]) (by simp) (B:=(gP m).filter fun v=>decide (atL p v.toNat=-1)) fun x hx=>by
   have e:x=r:=by simpa using hx
   subst e
   refine List.mem_filter.2 ⟨pP.2 T.rt,decide_eq_true ?_⟩
   rcases T.at_ x T.rt.1 T.rt.2 with⟨e,_⟩|⟨_,_,e⟩
   ·exact e
   ·exact absurd rfl e
  exact Nat.le_antisymm a1 a2
 unfold GT
 rw[h1,h2];rfl
end T9
theorem FlI.none(I:FlI m L r s W con d)(hq:∀u v,W u v=[])(hr:s r=.gone (-1))(v:Int):kG s v=-2:=by
 unfold kG
 cases hs:s v with
 | fresh=>rfl
 | has q=>exact absurd hs (I.ended hq hr v q)
 | gone q=>rfl
end Go.Dm.Tc
/-
Floods: brokers and queues of the program,by what is known and what waits;a link picked.
-/
namespace Go.Dm.Tc
def jM(m:Int)(L:List (Int×Int))(x:ID)(p:dZ)(v:Int):FS→aK
 | .fresh=>⟨v,eE m L v,[],[],[],[]⟩
 | .has q=>⟨v,eE m L v,[⟨x,p,q⟩],[x],[],[]⟩
 | .gone _=>⟨v,eE m L v,[],[x],[],[]⟩
def Pj(x:ID)(p:dZ)(k:Bool):Msg:=if k then⟨1,x,⟨0,0⟩,p,[]⟩else⟨2,x,⟨0,0⟩,[],[]⟩
variable {m:Int} {L:List (Int×Int)} {r:Int} {s:Int→FS} {W W':Int→Int→List Bool} {con:Int→Int→Nat} {d:Int→Nat} {x:ID} {p:dZ}
theorem Mr(h7:m≤12)(v:Int)(t:FS):Je (jM m L x p v t):=by
 have:=wX m L h7 v
 cases t<;>exact⟨⟨by simp only[jM];omega,by simp[jM],by simp[jM],by simp[jM],by simp[jM]⟩,by simp[jM,eJ],by simp[jM,eJ],rfl⟩
theorem Mt(v u:Int):mG (jM m L x p v .fresh) u x p=(jM m L x p v (.has u),lZ (eE m L v) u 1 x.bG x.seq 0 0 p):=by
 simp[mG,jM,dH,uG,dS]
theorem QS(v u:Int){t:FS}(h:t≠.fresh):mG (jM m L x p v t) u x p=(jM m L x p v t,[]):=by
 cases t with
 | fresh=>exact absurd rfl h
 | has q=>simp[mG,jM]
 | gone q=>simp[mG,jM]
theorem QF(v u:Int):qX (jM m L x p v (.has u)) u x=(jM m L x p v (.gone u),lZ (eE m L v) u 2 x.bG x.seq 0 0 []):=by
 simp[qX,jM,fI,wO]
theorem QE(v u:Int){t:FS}(h:t≠.has u):qX (jM m L x p v t) u x=(jM m L x p v t,[]):=by
 cases t with
 | fresh=>simp[qX,jM,fI]
 | has q =>
  have:¬q=u:=fun e=>h (by rw[e])
  simp[qX,jM,fI,this]
 | gone q=>simp[qX,jM,fI]
theorem Lm(v k:Int)(x:ID)(p:dZ):∀(l:List Int) (Q:ID→List Msg),l.Nodup→∀a b,fV v Q (l.map fun n=>(⟨n,k,x,⟨0,0⟩,p⟩:mX)) ⟨a,b⟩=Q ⟨a,b⟩++(if a=v∧b∈l then[⟨k,x,⟨0,0⟩,p,[]⟩]else[])
 | [],Q,_,a,b=>by simp[fV]
 | n::l,Q,hn,a,b=>by
  obtain⟨h1,h2⟩:=List.nodup_cons.1 hn
  simp only[List.map_cons,fV]
  rw[Lm v k x p l _ h2 a b]
  by_cases e:a=v∧b=n
  ·obtain⟨rfl,rfl⟩:=e
   simp[kX,h1,Pi]
  ·have e1:¬((⟨v,n⟩:ID)=⟨a,b⟩):=fun e'=>by injection e' with e1 e2;exact e ⟨e1.symm,e2.symm⟩
   have e2:(a=v∧b∈n::l)↔(a=v∧b∈l):=by
    rw[List.mem_cons]
    exact⟨fun h=>⟨h.1,h.2.resolve_left fun h3=>e ⟨h.1,h3⟩⟩,fun h=>⟨h.1,.inr h.2⟩⟩
   simp only[kX,if_neg e1,e2]
theorem uS(v u k:Int)(p:dZ)(Q:ID→List Msg)(a b:Int):fV v Q (lZ (eE m L v) u k x.bG x.seq 0 0 p) ⟨a,b⟩=Q ⟨a,b⟩++(if a=v∧cP m L v b=true∧b≠u then[⟨k,x,⟨0,0⟩,p,[]⟩]else[]):=by
 unfold lZ
 have LN:(eE m L v).Nodup:=(tI m L v).imp fun h e=>by omega
 rw[Lm v k ⟨x.bG,x.seq⟩ p _ Q (List.Pairwise.filter _ LN) a b]
 have:(b∈(eE m L v).filter fun n=>!decide (n=u))↔(cP m L v b=true∧b≠u):=by
  rw[List.mem_filter,mP];simp
 simp only[this]
theorem Bx(ok:cN m L)(v u k:Int)(p:dZ)(hk:k≠5):∀o∈lZ (eE m L v) u k x.bG x.seq 0 0 p,(v,o.to)∈bA L∧o.kind≠5:=by
 intro o ho
 unfold lZ at ho
 obtain⟨n,hn,rfl⟩:=List.mem_map.1 ho
 exact⟨(pJ ok).2 (mP.1 (List.mem_filter.1 hn).1),hk⟩
theorem By(h7:m≤12)(v u k:Int)(p:dZ):(lZ (eE m L v) u k x.bG x.seq 0 0 p).length≤12:=by
 unfold lZ
 rw[List.length_map]
 exact Nat.le_trans (List.length_filter_le ..) (wX m L h7 v)
structure FlM(m:Int)(L:List (Int×Int))(r:Int)(x:ID)(p:dZ)(B:List aK)(Q:ID→List Msg)(s:Int→FS)(W:Int→Int→List Bool)(con:Int→Int→Nat)(d:Int→Nat):Prop where
 I:FlI m L r s W con d
 len:B.length=m.toNat
 br:∀v:Nat,(v:Int)<m→B[v]?=some (jM m L x p v (s v))
 ws:∀u v,Q ⟨u,v⟩=(W u v).map (Pj x p)
variable {B:List aK} {Q:ID→List Msg}
theorem FlM.short(F:FlM m L r x p B Q s W con d)(y:ID):(Q y).length≤2:=by
 rw[F.ws y.bG y.seq,List.length_map,F.I.wt]
 split
 ·rw[List.length_drop]
  cases s y.bG with
  | fresh=>simp[FS.sent]
  | has q=>by_cases e:y.seq=q<;>simp[FS.sent,e]<;>omega
  | gone q=>by_cases e:y.seq=q<;>simp[FS.sent,e]
 ·simp
theorem FlM.upd(F:FlM m L r x p B Q s W con d){v:Nat}(hv:(v:Int)<m){t:FS}{s':Int→FS}(hs:s'=eO s v t):∀w:Nat,(w:Int)<m→(B.set v (jM m L x p v t))[w]?=some (jM m L x p w (s' w)):=by
 intro w hw
 rw[hs,List.getElem?_set]
 by_cases e:v=w
 ·subst e
  have:=F.len
  rw[if_pos rfl,if_pos (by omega)]
  simp[eO]
 ·rw[if_neg e,F.br w hw]
  have:¬(w:Int)=v:=by omega
  simp[eO,this]
theorem FlM.same(F:FlM m L r x p B Q s W con d){v:Nat}(hv:(v:Int)<m):B.set v (jM m L x p v (s v))=B:=by
 apply List.ext_getElem?
 intro w
 rw[List.getElem?_set]
 by_cases e:v=w
 ·subst e
  have:=F.len
  rw[if_pos rfl,if_pos (by omega),F.br v hv]
 ·rw[if_neg e]
theorem FlM.step(ok:cN m L)(h7:m≤12)(F:FlM m L r x p B Q s W con d){u:Int}{v:Nat}{k:Bool}{rest:List Bool}(hw:W u v=k::rest) :
  (v:Int)<m∧cP m L u v=true∧∃ b' bN s' W' d',pcF D t52 [aM .none (jM m L x p v (s v)),.int .i64 u,gF (Pj x p k)]=some (.tup [aM .none b',eL false 8 gC bN,.isl false 0 []]) ∧
   (∀o∈bN,((v:Int),o.to)∈bA L∧o.kind≠5)∧bN.length≤12 ∧
   FlM m L r x p (B.set v b') (fV v (kX Q ⟨u,v⟩ (rest.map (Pj x p))) bN) s' W' (mT con u v) d'∧(NG s→NG s')∧s' r=s r:=by
 obtain⟨hl,hd,hc⟩:=F.I.head hw
 have WG:(v:Int)<m:=(dJ hl).2.1.2
 have hbare:=Mr (L:=L) (x:=x) (p:=p) h7 v (s v)
 refine⟨WG,hl,?_⟩
 have hWid:∀a b,(kX Q ⟨u,v⟩ (rest.map (Pj x p))) ⟨a,b⟩=(if a=u∧b=v then rest else W a b).map (Pj x p):=fun a b=>by
  by_cases e:a=u∧b=(v:Int)
  ·rw[if_pos e,e.1,e.2];simp[kX]
  ·have e1:¬((⟨u,v⟩:ID)=⟨a,b⟩):=fun e'=>by injection e' with e1 e2;exact e ⟨e1.symm,e2.symm⟩
   rw[if_neg e];simp only[kX,if_neg e1];exact F.ws a b
 cases k with
 | true =>
  have vL:=NN (jM m L x p v (s v)) u x.bG x.seq 0 0 p hbare
  have hm:gF (Pj x p true)=.agg [.int .i64 1,.int .i64 x.bG,.int .i64 x.seq,.int .i64 0,.int .i64 0,eX p,.isl false 0 []]:=rfl
  rw[hm]
  by_cases hf:s v=.fresh
  ·rw[hf]at vL ⊢
   rw[Mt]at vL
   have PC:r≠v:=by
    rintro rfl
    rcases F.I.root with e|e<;>(rw[e]at hf;cases hf)
   refine⟨_,_,eO s v (.has u),_,_,vL,Bx ok v u 1 p (by decide),By h7 v u 1 p,⟨F.I.learn hw hf (W':=fun a b=>(if a=u∧b=v then rest else W a b)++(if a=v∧cP m L v b=true∧b≠u then[true]else[])) (fun a b=>rfl),by rw[List.length_set];exact F.len,F.upd (t:=.has u) WG rfl,fun a b=>?_⟩,fun h=>h.learn v u,by simp[eO,PC]⟩
   rw[uS,hWid,List.map_append]
   congr 1
   split<;>rfl
  ·rw[QS v u hf]at vL
   refine⟨_,_,s,_,d,vL,by simp,by simp,⟨F.I.skip hw (fun _=>hf) (fun e=>by cases e) (W':=fun a b=>if a=u∧b=v then rest else W a b) (fun a b=>rfl),by rw[List.length_set];exact F.len,by rw[F.same WG];exact F.br,fun a b=>?_⟩,fun h=>h,rfl⟩
   exact hWid a b
 | false =>
  have vL:=NM (jM m L x p v (s v)) u x.bG x.seq 0 0 [] hbare
  have hm:gF (Pj x p false)=.agg [.int .i64 2,.int .i64 x.bG,.int .i64 x.seq,.int .i64 0,.int .i64 0,eX [],.isl false 0 []]:=rfl
  rw[hm]
  by_cases hf:s v=.has u
  ·rw[hf]at vL ⊢
   rw[QF]at vL
   have hu:u≠-1:=by have:=(dJ hl).1.1;omega
   have hrest:rest=[]:=by
    rcases hc with⟨h1,_⟩|⟨_,_,h1,_⟩
    ·cases h1
    ·exact h1
   have PC:r≠v:=by
    rintro rfl
    rcases F.I.root with e|e
    ·rw[e]at hf;cases hf;exact hu rfl
    ·rw[e]at hf;cases hf
   refine⟨_,_,eO s v (.gone u),_,d,vL,Bx ok v u 2 [] (by decide),By h7 v u 2 [],⟨F.I.off (con':=mT con u v) (W':=fun a b=>(if a=u∧b=v then rest else W a b)++(if a=v∧cP m L v b=true∧b≠u then[false]else[])) hf (fun a b=>?_) (fun _=>by rw[hw,hrest]) (fun a b=>?_),by rw[List.length_set];exact F.len,F.upd (t:=.gone u) WG rfl,fun a b=>?_⟩,fun h=>absurd hf ?_,by simp[eO,PC]⟩
   ·simp[mT,hu]
   ·simp[hu,hrest]
   ·rw[uS,hWid,List.map_append]
    congr 1
    split<;>rfl
   ·have:=F.I.only h hw
    cases this.1
  ·rw[QE v u hf]at vL
   refine⟨_,_,s,_,d,vL,by simp,by simp,⟨F.I.skip hw (fun e=>by cases e) (fun _=>hf) (W':=fun a b=>if a=u∧b=v then rest else W a b) (fun a b=>rfl),by rw[List.length_set];exact F.len,by rw[F.same WG];exact F.br,fun a b=>?_⟩,fun h=>h,rfl⟩
   exact hWid a b
variable {h:aA} {nid bid q wid:Nat} {cr:DV} {X:List gX}
theorem FlM.pick(ok:cN m L)(h7:m≤12)(hL:L.length≤1000)(F:FlM m L r x p B Q s W con d)(A:cU h nid bid q wid cr m L B Q X)(wf:WF h)(hl:h.lim≤h.n){u v:Int}{k:Bool}{rest:List Bool}(hw:W u v=k::rest) :
  ∃ H B' Q' s' W' d',fc D 29 [.ptr nid 5 0 0,.int .i64 u,.int .i64 v] h=some (.tup [.isl false 0 [],.nili],H)∧cU H nid bid q wid cr m L B' Q' X∧FlM m L r x p B' Q' s' W' (mT con u v) d'∧Upd h H [bid,q,wid] [bid,q,wid]∧(NG s→NG s')∧s' r=s r∧cP m L u v=true:=by
 have Xi:=(F.I.head hw).1
 obtain⟨w,rfl⟩:∃ w:Nat,v=(w:Int):=⟨v.toNat,by have:=(dJ Xi).2.1;omega⟩
 obtain⟨WG,_,b',bN,s',W',d',h1,h2,h3,h4,h5,h6⟩:=F.step ok h7 hw
 have hww:(bA L).length≤1000000:=by rw[iR];omega
 obtain⟨H,e,A2,U⟩:=q29 A wf hl u w (F.br w WG) (ms:=Pj x p k) (r:=rest.map (Pj x p)) (by rw[F.ws,hw];rfl) bN h1 hww h2 (by omega) (fun y=>by have:=F.short y;omega)
 exact⟨H,_,_,s',W',d',e,A2,h4,U,h5,h6,Xi⟩
theorem FlM.start(ok:cN m L)(h7:m≤12)(hr:0≤r∧r<m){W0:ID→List Msg}(hW0:∀y,W0 y=[])(hB:∀v:Nat,(v:Int)<m→B[v]?=some (jM m L x p v .fresh))(cC:B.length=m.toNat) :
  FlM m L r x p (B.set r.toNat (jM m L x p r (.has (-1)))) (fV r W0 (lZ (eE m L r) (-1) 1 x.bG x.seq 0 0 p)) (eO (fun _=>.fresh) r (.has (-1))) (fun u v=>if u=r∧cP m L r v=true then[true]else[]) (fun _ _=>0) (fun _=>0):=by
 have hrr:((r.toNat:Nat):Int)=r:=by omega
 refine⟨FlI.start hr,by rw[List.length_set];exact cC,fun w hw=>?_,fun u v=>?_⟩
 ·rw[List.getElem?_set]
  by_cases e:r.toNat=w
  ·have e2:(w:Int)=r:=by omega
   rw[if_pos e,if_pos (by omega)]
   simp[eO,e2]
  ·have:¬(w:Int)=r:=by omega
   rw[if_neg e,hB w hw]
   simp[eO,this]
 ·rw[uS,hW0,List.nil_append]
  by_cases e:u=r∧cP m L r v=true
  ·have hv:=(dJ e.2).2.1
   have:v≠-1:=by omega
   rw[if_pos ⟨e.1,e.2,this⟩,if_pos e];rfl
  ·rw[if_neg (fun e'=>e ⟨e'.1,e'.2.1⟩),if_neg e];rfl
theorem FlM.advert(ok:cN m L)(h7:m≤12)(hL:L.length≤1000)(hr:0≤r∧r<m){W0:ID→List Msg}(hW0:∀y,W0 y=[])(hB:∀v:Nat,(v:Int)<m→B[v]?=some (jM m L x p v .fresh))(cC:B.length=m.toNat)
  (A:cU h nid bid q wid cr m L B W0 X) (wf:WF h) (hl:h.lim≤h.n) {pv:DV} (hv:N3 pv p) :
  ∃ H B' Q',fc D 25 [.ptr nid 5 0 0,.int .i64 r,.agg [.int .i64 x.bG,.int .i64 x.seq],pv] h=some (.nili,H)∧cU H nid bid q wid cr m L B' Q' X∧FlM m L r x p B' Q' (eO (fun _=>.fresh) r (.has (-1))) (fun u v=>if u=r∧cP m L r v=true then[true]else[]) (fun _ _=>0) (fun _=>0)∧Upd h H [bid,q,wid] [bid,q,wid]:=by
 obtain⟨w,rfl⟩:∃ w:Nat,r=(w:Int):=⟨r.toNat,by omega⟩
 have hf:=Mt (m:=m) (L:=L) (x:=x) (p:=p) (w:Int) (-1)
 have hww:(bA L).length≤1000000:=by rw[iR];omega
 have aY:=By (L:=L) (x:=x) h7 (w:Int) (-1) 1 p
 obtain⟨H,e,A2,U⟩:=o6 A wf hl w (hB w hr.2) x.bG x.seq hv (Mr h7 _ _) hww (by rw[hf];exact Bx ok _ _ 1 p (by decide)) (by rw[hf];simp only;omega) (fun y=>by rw[hf,hW0];simp;omega)
 rw[hf]at A2
 have:=FlM.start (x:=x) (p:=p) ok h7 hr hW0 hB cC
 exact⟨H,_,_,e,A2,this,U⟩
end Go.Dm.Tc
/-
NetFloods: links picked until nothing waits,looked at ahead of it.
-/
namespace Go.Dm.Tc
variable {m:Int} {L:List (Int×Int)} {r:Int} {s:Int→FS} {W:Int→Int→List Bool} {con:Int→Int→Nat} {d:Int→Nat} {x:ID} {p:dZ}
variable {h:aA} {nid bid q wid:Nat} {cr:DV} {X:List gX} {B:List aK} {Q:ID→List Msg}
theorem Upd.ext0{a b c:aA}{F G:List Nat}(u:Upd a b F G)(e:Ext b.n b c):Upd a c F G :=
 ⟨Nat.le_trans u.n e.le,e.lim.trans u.lim,e.wf,fun i hi hn=>(e.get i (Nat.lt_of_lt_of_le hi u.n)).trans (u.old i hi hn),u.fp⟩
theorem FlM.quiet0(F:FlM m L r x p B Q s W con d)(ok:cN m L)(h:mD Q (bA L)=[])(u v:Int):W u v=[]:=by
 by_cases hl:cP m L u v=true
 ·have hm:=(pJ ok).2 hl
  have:=List.filter_eq_nil_iff.1 h (u,v) hm
  rw[F.ws u v]at this
  cases hw:W u v with
  | nil=>rfl
  | cons k r=>rw[hw]at this;simp at this
 ·rw[F.I.wt,if_neg hl]
theorem FlM.busy0(F:FlM m L r x p B Q s W con d){j:Nat}{u v:Int}(h:(mD Q (bA L))[j]?=some (u,v)):(u,v)∈bA L∧∃ k rest,W u v=k::rest:=by
 obtain⟨h1,h2⟩:=List.mem_filter.1 (List.mem_of_getElem? h)
 refine⟨h1,?_⟩
 rw[F.ws u v]at h2
 cases hw:W u v with
 | nil=>rw[hw]at h2;simp at h2
 | cons k r=>exact⟨k,r,rfl⟩
structure QV(h0 K:aA)(nid bid q wid:Nat)(cr:DV)(m:Int)(L:List (Int×Int))(X:List gX)(r:Int)(x:ID)(p:dZ)(B:List aK)(Q:ID→List Msg)(s:Int→FS)(W:Int→Int→List Bool)(con:Int→Int→Nat)(d:Int→Nat):Prop where
 A:cU K nid bid q wid cr m L B Q X
 F:FlM m L r x p B Q s W con d
 U:Upd h0 K [bid,q,wid] [bid,q,wid]
theorem QV.ext{h0 K:aA}(T:QV h0 K nid bid q wid cr m L X r x p B Q s W con d){H:aA}(e:Ext K.n K H):QV h0 H nid bid q wid cr m L X r x p B Q s W con d:=⟨T.A.ext e,T.F,T.U.ext0 e⟩
end Go.Dm.Tc
/-
Networks,part 17: messages sent,publications among them: what crosses is kept.
-/
namespace Go.Dm.Tc
variable {h:aA} {nid bid q wid:Nat} {cr:DV} {m:Int} {L:List (Int×Int)} {B:List aK} {W:ID→List Msg} {X:List gX}
structure qD(a b:aA)(F:List Nat)(c c':DV):Prop where
 n:a.n≤b.n
 lim:b.lim=a.lim
 wf:WF b
 old:∀i,i<a.n→i ∉ F→hI c i→b.get i=a.get i
 at_:∀i,i<a.n→hI c i→hI c' i
theorem qD.refl{h:aA}(w:WF h)(F:List Nat)(c:DV):qD h h F c c:=⟨Nat.le_refl _,rfl,w,fun _ _ _ _=>rfl,fun _ _ h=>h⟩
theorem qD.trans{a b c:aA}{F:List Nat}{x y z:DV}(u:qD a b F x y)(v:qD b c F y z):qD a c F x z :=
 ⟨Nat.le_trans u.n v.n,v.lim.trans u.lim,v.wf,fun i hi hn ha=>(v.old i (Nat.lt_of_lt_of_le hi u.n) hn (u.at_ i hi ha)).trans (u.old i hi hn ha),fun i hi ha=>v.at_ i (Nat.lt_of_lt_of_le hi u.n) (u.at_ i hi ha)⟩
theorem Upd.toC{a b:aA}{F G:List Nat}(u:Upd a b F F)(hs:∀i∈F,i∈G)(c:DV):qD a b G c c:=⟨u.n,u.lim,u.wf,fun i hi hn _=>u.old i hi fun h=>hn (hs i h),fun _ _ h=>h⟩
theorem qD.ext{a b c:aA}{F:List Nat}{x y:DV}(u:qD a b F x y)(e:Ext b.n b c):qD a c F x y :=
 ⟨Nat.le_trans u.n e.le,e.lim.trans u.lim,e.wf,fun i hi hn ha=>(e.get i (Nat.lt_of_lt_of_le hi u.n)).trans (u.old i hi hn ha),u.at_⟩
theorem _root_.Go.Dm.OwnR.notAt{lo:Nat}{h:aA}{v:DV}{ety sz:Nat}{xs:List DV}(w:OwnR lo h v ety sz xs){k:Nat}{o:DO}(g:h.get k=some o)(cK:∀ys cap,o≠.arr ety sz ys cap):hI v k:=by
 intro s off len e
 cases w with
 | nil hv hx=>subst hv;cases e
 | arr id sp cap hv hg hl hi =>
  subst hv
  cases e
  rw[hg]at g
  exact cK _ _ (Option.some.inj g).symm
def gU(u:Int)(bN:List mX):List gX:=(bN.filter fun o=>decide (o.kind=5)).map fun o=>⟨u,o.to,o.id⟩
theorem cU.cross(A:cU h nid bid q wid cr m L B W X){H:aA}{cr':DV}{X':List gX}(wf:WF H)(lim:H.lim=h.lim)(hn:h.n≤H.n)(hf:∀k,k<h.n→hI cr k→H.get k=h.get k)(o:OwnR H.lim H cr' 180 4 (X'.map Qq)) :
  cU (H.set nid (pN m L bid B.length q cr')) nid bid q wid cr' m L B W X':=by
 have gn:=A.gn
 have ln:=aB gn
 have nn:hI cr nid:=A.cx.notAt gn (fun ys cap e=>by simp[pN]at e)
 obtain⟨sp,cap,gb⟩:=A.gb
 have nb:hI cr bid:=A.cx.notAt gb (fun ys cap e=>by simp at e)
 have gq:=A.Q.gq
 have nq:hI cr q:=A.cx.notAt gq (fun ys cap e=>by simp[qO]at e)
 obtain⟨ms,gw,rr⟩:=A.Q.gw
 have nw:hI cr wid:=A.cx.notAt gw (fun ys cap e=>by cases e)
 have WN:H.get nid=_:=(hf nid ln nn).trans gn
 have lnH:nid<H.n:=by omega
 have b1:bid≠nid:=by rintro rfl;rw[gb]at gn;simp[pN]at gn
 have b2:q≠nid:=by rintro rfl;rw[gq]at gn;simp[pN,qO]at gn
 have b3:wid≠nid:=by rintro rfl;rw[gw]at gn;simp[pN]at gn
 refine⟨bV wf WN,⟨sp,cap,by rw[aN lnH b1,hf bid (aB gb) nb];exact gb⟩,⟨by rw[aN lnH b2,hf q (aB gq) nq];exact gq,⟨ms,by rw[aN lnH b3,hf wid (aB gw) nw];exact gw,rr⟩,?_,?_⟩,?_,?_,?_⟩
 ·show H.lim≤wid;rw[lim];exact A.Q.lw
 ·show H.lim≤q;rw[lim];exact A.Q.lq
 ·show H.lim≤nid;rw[lim];exact A.ln
 ·show H.lim≤bid;rw[lim];exact A.lb
 ·show OwnR H.lim _ _ _ _ _
  cases o with
  | nil hv hx=>exact .nil hv hx
  | arr id sp2 cap2 hv hg hl hi =>
   refine .arr id sp2 cap2 hv ?_ hl hi
   rw[aN lnH (by rintro rfl;rw[WN]at hg;simp[pN]at hg)];exact hg
set_option maxHeartbeats 4000000 in
theorem lp85(P:Res→Prop)(t:Bool)(u:Int)(bN:List mX)(hw:(bA L).length≤1000000)(ho:∀o∈bN,(u,o.to)∈bA L)(dY:bN.length≤1000) :
  ∀(k i:Nat) (f:eN) (K:aA) (W:ID→List Msg) (X:List gX) (cr:DV),i+k=bN.length→X.length+k≤100000→f 0=.ptr nid 5 0 0→f 1=.int .i64 u→f 8=eL t 8 gC bN→f 9=.int .i64 bN.length→f 10=.int .i64 i→cU K nid bid q wid cr m L B W X→WF K→K.lim≤K.n→(∀x,(W x).length+k≤300000) →
  (∀F H cr',cU H nid bid q wid cr' m L B (fV u W (bN.drop i)) (X++gU u (bN.drop i))→qD K H [nid,q,wid] cr cr'→P (.ok .normal (Dm.tab 46 F) H)) →
  P (run D 46 [.block 0] (.loop Fu) f K):=by
 intro k
 induction k with
 | zero =>
  intro i f K W X cr hi hX f0 f1 f8 f9 f10 A wf hl hW dW
  have:¬((i:Int)<bN.length):=by omega
  rw[aO Fu.eq_1]
  simp[f9,f10,this]
  have hd:bN.drop i=[]:=List.drop_eq_nil_iff.2 (by omega)
  rw[hd]at dW
  exact dW _ _ cr (by simpa[gU,fV]using A) (qD.refl wf _ _)
 | succ k ih =>
  intro i f K W X cr hi hX f0 f1 f8 f9 f10 A wf hl hW dW
  have aY:(i:Int)<bN.length:=by omega
  have RI:IntKind.i64.wrap ((i:Int)+1)=(i:Int)+1:=bK (by omega) (by omega)
  obtain⟨o,F9⟩:∃ o,bN[i]?=some o:=⟨_,List.getElem?_eq_getElem (by omega)⟩
  have Av:=ho o (List.mem_of_getElem? F9)
  have gn:=A.gn
  simp only[pN]at gn
  have nK:nid<K.n:=aB gn
  have n3:¬nid=K.n:=by omega
  have n4:¬nid=K.n+1:=by omega
  rw[aO Fu.eq_1]
  simp[f0,f1,f8,f9,f10,aY,gn,F9,n3,n4,hl,gC,eX,turn]
  have gq:=A.Q.gq
  obtain⟨ms,gw,_⟩:=A.Q.gw
  have nq:q<K.n:=aB gq
  have nw:wid<K.n:=aB gw
  have hW1:=hW ⟨u,o.to⟩
  have A2:QAt ((K.push (.arr 206 8 [.agg [.int .i64 o.to,.int .i64 o.kind,.int .i64 o.tree.bG,.int .i64 o.tree.seq,.int .i64 o.id.bG,.int .i64 o.id.seq,eL false 5 sP o.pred,.isl false 0 []]] (some 1))).push (.arr 49 7 [.agg [.int .i64 o.kind,.int .i64 o.tree.bG,.int .i64 o.tree.seq,.int .i64 o.id.bG,.int .i64 o.id.seq,eL false 5 sP o.pred,.isl false 0 []]] (some 1))) q wid (bA L) W:=by
   refine A.Q.old rfl ?_ ?_
   ·rw[aG (by simp;omega),aG nq]
   ·rw[aG (by simp;omega),aG nw]
  obtain⟨H,e,Q',U⟩:=o9 A2 wf.push.push hw Av (m:=Pi o) (mid:=K.n+1) (e0:=.agg [.int .i64 o.kind,.int .i64 o.tree.bG,.int .i64 o.tree.seq,.int .i64 o.id.bG,.int .i64 o.id.seq,eL false 5 sP o.pred,.isl false 0 []]) (cap:=some 1) (by simp[wf.push]) (by
   intro n tag h
   have hF:mZ 2 (gF (Pi o)):=vQ (k:=1) (by
    intro x hx;simp only[List.mem_cons,List.not_mem_nil,or_false]at hx
    rcases hx with rfl|rfl|rfl|rfl|rfl|rfl|rfl<;>first|exact gT _ _|exact kA _ _ _ _)
   exact hF tag h (n+2) (by omega)) (by omega)
  rw[e]
  have o1:=U.old K.n (by simp;omega) (by simp;omega)
  have o2:=U.old nid (by simp;omega) (by simpa using A.nq)
  have U1:=(((Upd.refl wf [q,wid]).push _).push _).trans U
  have A1:=A.upd U1 Q'
  have hd:bN.drop i=o::bN.drop (i+1):=by
   rw[List.drop_eq_getElem_cons (by omega)]
   congr 1
   exact(List.getElem?_eq_some_iff.1 F9).2
  rw[hd]at dW
  have UC:=U1.toC (G:=[nid,q,wid]) (fun i hi=>by simp at hi ⊢;omega) cr
  have hWn:∀x,(kX W ⟨u,o.to⟩ (W ⟨u,o.to⟩++[Pi o]) x).length+k≤300000:=fun x=>by
   have h1:=Ss W ⟨u,o.to⟩ (Pi o) x
   have h2:=hW x
   omega
  have hlH:H.lim≤H.n:=by rw[U1.lim];have:=U1.n;omega
  by_cases k5:o.kind=5
  ·have tO:gU u (o::bN.drop (i+1))=⟨u,o.to,o.id⟩::gU u (bN.drop (i+1)):=by simp[gU,k5]
   rw[tO,List.append_cons]at dW
   have gn1:=A1.gn
   simp only[pN]at gn1
   have st:=A1.cx.aQ
   have ec:=A1.cx.aF
   have lnH:=aB gn1
   have h45:H.lim≤nid:=A1.ln
   simp[f0,f1,o1,gn1,aG,wf,nK,n3,k5,st,ec,lnH,h45,turn]
   generalize hA:bF _ _ _ _ _ _=Ap
   obtain⟨v',K2,rfl,o',x',fr,na⟩:=Bo A1.cx.push (by simp[U.wf]) (by simp;omega) (by simp;omega) hA (by simp;omega) (by decide)
   have nn:hI cr nid:=A1.cx.notAt A1.gn (fun ys cap e=>by simp[pN]at e)
   have nH:∀k,hI cr (H.n+k):=fun k=>by
    cases A1.cx with
    | nil hv hx=>subst hv;intro _ _ _ e;cases e
    | arr id sp cap hv hg hl hi=>subst hv;intro _ _ _ e;injection e with e1;have:=aB hg;omega
   have xn:H.n+1≤K2.n:=aB ((fr H.n (by simp) (nH 0)).trans cT)
   have xl:=x'.lim
   have fr':∀i,i<H.n→hI cr i→K2.get i=H.get i:=fun i hi cK=>(fr i (by simp;omega) cK).trans (aG hi)
   have na':∀i,i<H.n→hI cr i→hI v' i:=fun i hi cK=>na i (by simp;omega) cK
   have A2:=A1.cross (H:=K2) (cr':=v') (X':=X++[⟨u,o.to,o.id⟩]) x'.wf x'.lim (by omega) fr' (by rw[xl];simpa[Qq]using o')
   have gn2:=(fr' nid lnH nn).trans gn1
   have st2:=o'.aQ
   have ec2:=o'.aF
   have xw:=x'.wf
   have nK2:nid<K2.n:=aB gn2
   have h46:K2.lim≤nid:=by simp at xl;omega
   simp[f0,f10,gn2,st2,ec2,nK2,h46,xw,RI,turn]
   generalize hF:upd _ 10 _=F
   have e1:K2.set nid (.arr 162 5 [.agg [.int .i64 m,eL false 2 aW L,.sl bid 6 0 B.length,.ptr q 2 0 0,v']] (some 1))=K2.set nid (pN m L bid B.length q v'):=rfl
   rw[e1]
   have U2:qD K (K2.set nid (pN m L bid B.length q v')) [nid,q,wid] cr v':=by
    have:=U1.n
    refine⟨by simp;omega,by simp at xl ⊢;rw[xl];exact U1.lim,xw.set,fun i hi hn ha=>?_,fun i hi ha=>na' i (by omega) ha⟩
    simp only[List.mem_cons,List.not_mem_nil,or_false,not_or]at hn
    rw[aN nK2 hn.1,fr' i (by omega) ha,U1.old i hi (by simp;exact hn.2)]
   exact ih (i+1) F _ _ _ v' (by omega) (by simp;omega) (by rw[←hF];simp[f0]) (by rw[←hF];simp[f1]) (by rw[←hF];simp[f8]) (by rw[←hF];simp[f9]) (by rw[←hF];simp) A2 xw.set (by simp at xl ⊢;omega) hWn fun F' H' cr' A' U'=>dW F' H' cr' A' (U2.trans U')
  ·have tO:gU u (o::bN.drop (i+1))=gU u (bN.drop (i+1)):=by simp[gU,k5]
   rw[tO]at dW
   simp[o1,o2,aG,wf,nK,gn,n3,k5,f10,RI,turn]
   generalize hF:upd _ 10 _=F
   exact ih (i+1) F H _ X cr (by omega) (by omega) (by rw[←hF];simp[f0]) (by rw[←hF];simp[f1]) (by rw[←hF];simp[f8]) (by rw[←hF];simp[f9]) (by rw[←hF];simp) A1 U.wf hlH hWn fun F' H' cr' A' U'=>dW F' H' cr' A' (UC.trans U')
end Go.Dm.Tc
/-
Networks,part 18: brokers on a line,a subscription that goes up,a publication that comes down;closed.
-/
namespace Go.Dm.Tc
def AD(k:FuncId)(n:Nat)(args:List DV)(d:DV):Bool :=
 (match args.mapM (resolve true lM bO)with|some ds=>uC ds args|none=>false) &&
 (match Ir D n k args lM with|some r=>DV.beq r.1 d|none=>false)
def kL(v:Nat)(up:Bool):List Int:=(if v=0 then[]else[(v:Int)-1])++(if up then[(v:Int)+1]else[])
def xI:ID:=⟨1,0⟩
def sI:ID:=⟨2,0⟩
def pI:ID:=⟨1,4⟩
def brI(v:Nat)(up:Bool)(q:Int):aK:=⟨v,kL v up,[⟨xI,[],q⟩],[xI],[],[]⟩
def brE(v:Nat)(up:Bool)(q f:Int):aK:=⟨v,kL v up,[⟨xI,[],q⟩],[xI],[⟨xI,sI,[],f,decide (q≠-1)⟩],if f=-1 then[⟨sI,[]⟩]else[]⟩
def nM(k to:Int)(y:ID):List mX:=if to=-1 then[]else[⟨to,k,xI,y,[]⟩]
def AaC:DV:=.agg [.int .i64 2,.int .i64 1,.int .i64 4,.isl false 0 []]
def CA(f:Int):DV:=if f=-1 then .isl false 4 [AaC]else .isl false 0 []
def sX(v:Nat)(up:Bool):Bool:=(-1::kL v up).all fun q=>AD 95 2000 [aM .none (brI v up q),eID sI,.isl false 0 []] (.tup [aM .none (brE v up q (-1)),eL false 8 gC (nM 3 q sI)])
def kZ(v:Nat)(up:Bool):Bool:=(-1::kL v up).all fun q=>(kL v up).all fun f=>q == f || AD 52 2000 [aM .none (brI v up q),.int .i64 f,gF ⟨3,xI,sI,[],[]⟩] (.tup [aM .none (brE v up q f),eL false 8 gC (nM 3 q sI),.isl false 0 []])
def tD(v:Nat)(up:Bool):Bool:=(-1::kL v up).all fun f=>AD 97 2000 [aM .none (brE v up (-1) f),.int .i64 (-1),gF ⟨5,xI,pI,[],[]⟩] (.tup [eL false 8 gC (nM 5 f pI),CA f])
def lS(v:Nat)(up:Bool):Bool:=(-1::kL v up).all fun f=>(kL v up).all fun q=>q == f || AD 52 2000 [aM .none (brE v up q f),.int .i64 q,gF ⟨5,xI,pI,[],[]⟩] (.tup [aM .none (brE v up q f),eL false 8 gC (nM 5 f pI),CA f])
theorem ka0t:sX 0 true=true:=by kernel_rfl
theorem ka1t:sX 1 true=true:=by kernel_rfl
theorem ka1f:sX 1 false=true:=by kernel_rfl
theorem ka2t:sX 2 true=true:=by kernel_rfl
theorem ka2f:sX 2 false=true:=by kernel_rfl
theorem ka3t:sX 3 true=true:=by kernel_rfl
theorem ka3f:sX 3 false=true:=by kernel_rfl
theorem ka4t:sX 4 true=true:=by kernel_rfl
theorem ka4f:sX 4 false=true:=by kernel_rfl
theorem ka5t:sX 5 true=true:=by kernel_rfl
theorem ka5f:sX 5 false=true:=by kernel_rfl
theorem ka6t:sX 6 true=true:=by kernel_rfl
theorem ka6f:sX 6 false=true:=by kernel_rfl
theorem ka7t:sX 7 true=true:=by kernel_rfl
theorem ka7f:sX 7 false=true:=by kernel_rfl
theorem ka8t:sX 8 true=true:=by kernel_rfl
theorem ka8f:sX 8 false=true:=by kernel_rfl
theorem kaV:∀(v:Nat) (up:Bool),v≤8→(v=0→up=true)→sX v up=true
 | 0,true,_,_=>ka0t
 | 0,false,_,h=>absurd (h rfl) (by decide)
 | 1,true,_,_=>ka1t
 | 1,false,_,_=>ka1f
 | 2,true,_,_=>ka2t
 | 2,false,_,_=>ka2f
 | 3,true,_,_=>ka3t
 | 3,false,_,_=>ka3f
 | 4,true,_,_=>ka4t
 | 4,false,_,_=>ka4f
 | 5,true,_,_=>ka5t
 | 5,false,_,_=>ka5f
 | 6,true,_,_=>ka6t
 | 6,false,_,_=>ka6f
 | 7,true,_,_=>ka7t
 | 7,false,_,_=>ka7f
 | 8,true,_,_=>ka8t
 | 8,false,_,_=>ka8f
 | _+9,_,h,_=>absurd h (by omega)
theorem kb0t:kZ 0 true=true:=by kernel_rfl
theorem kb1t:kZ 1 true=true:=by kernel_rfl
theorem kb1f:kZ 1 false=true:=by kernel_rfl
theorem kb2t:kZ 2 true=true:=by kernel_rfl
theorem kb2f:kZ 2 false=true:=by kernel_rfl
theorem kb3t:kZ 3 true=true:=by kernel_rfl
theorem kb3f:kZ 3 false=true:=by kernel_rfl
theorem kb4t:kZ 4 true=true:=by kernel_rfl
theorem kb4f:kZ 4 false=true:=by kernel_rfl
theorem kb5t:kZ 5 true=true:=by kernel_rfl
theorem kb5f:kZ 5 false=true:=by kernel_rfl
theorem kb6t:kZ 6 true=true:=by kernel_rfl
theorem kb6f:kZ 6 false=true:=by kernel_rfl
theorem kb7t:kZ 7 true=true:=by kernel_rfl
theorem kb7f:kZ 7 false=true:=by kernel_rfl
theorem kb8t:kZ 8 true=true:=by kernel_rfl
theorem kb8f:kZ 8 false=true:=by kernel_rfl
theorem kbV:∀(v:Nat) (up:Bool),v≤8→(v=0→up=true)→kZ v up=true
 | 0,true,_,_=>kb0t
 | 0,false,_,h=>absurd (h rfl) (by decide)
 | 1,true,_,_=>kb1t
 | 1,false,_,_=>kb1f
 | 2,true,_,_=>kb2t
 | 2,false,_,_=>kb2f
 | 3,true,_,_=>kb3t
 | 3,false,_,_=>kb3f
 | 4,true,_,_=>kb4t
 | 4,false,_,_=>kb4f
 | 5,true,_,_=>kb5t
 | 5,false,_,_=>kb5f
 | 6,true,_,_=>kb6t
 | 6,false,_,_=>kb6f
 | 7,true,_,_=>kb7t
 | 7,false,_,_=>kb7f
 | 8,true,_,_=>kb8t
 | 8,false,_,_=>kb8f
 | _+9,_,h,_=>absurd h (by omega)
theorem kc0t:tD 0 true=true:=by kernel_rfl
theorem kc1t:tD 1 true=true:=by kernel_rfl
theorem kc1f:tD 1 false=true:=by kernel_rfl
theorem kc2t:tD 2 true=true:=by kernel_rfl
theorem kc2f:tD 2 false=true:=by kernel_rfl
theorem kc3t:tD 3 true=true:=by kernel_rfl
theorem kc3f:tD 3 false=true:=by kernel_rfl
theorem kc4t:tD 4 true=true:=by kernel_rfl
theorem kc4f:tD 4 false=true:=by kernel_rfl
theorem kc5t:tD 5 true=true:=by kernel_rfl
theorem kc5f:tD 5 false=true:=by kernel_rfl
theorem kc6t:tD 6 true=true:=by kernel_rfl
theorem kc6f:tD 6 false=true:=by kernel_rfl
theorem kc7t:tD 7 true=true:=by kernel_rfl
theorem kc7f:tD 7 false=true:=by kernel_rfl
theorem kc8t:tD 8 true=true:=by kernel_rfl
theorem kc8f:tD 8 false=true:=by kernel_rfl
theorem kcV:∀(v:Nat) (up:Bool),v≤8→(v=0→up=true)→tD v up=true
 | 0,true,_,_=>kc0t
 | 0,false,_,h=>absurd (h rfl) (by decide)
 | 1,true,_,_=>kc1t
 | 1,false,_,_=>kc1f
 | 2,true,_,_=>kc2t
 | 2,false,_,_=>kc2f
 | 3,true,_,_=>kc3t
 | 3,false,_,_=>kc3f
 | 4,true,_,_=>kc4t
 | 4,false,_,_=>kc4f
 | 5,true,_,_=>kc5t
 | 5,false,_,_=>kc5f
 | 6,true,_,_=>kc6t
 | 6,false,_,_=>kc6f
 | 7,true,_,_=>kc7t
 | 7,false,_,_=>kc7f
 | 8,true,_,_=>kc8t
 | 8,false,_,_=>kc8f
 | _+9,_,h,_=>absurd h (by omega)
theorem kd0t:lS 0 true=true:=by kernel_rfl
theorem kd1t:lS 1 true=true:=by kernel_rfl
theorem kd1f:lS 1 false=true:=by kernel_rfl
theorem kd2t:lS 2 true=true:=by kernel_rfl
theorem kd2f:lS 2 false=true:=by kernel_rfl
theorem kd3t:lS 3 true=true:=by kernel_rfl
theorem kd3f:lS 3 false=true:=by kernel_rfl
theorem kd4t:lS 4 true=true:=by kernel_rfl
theorem kd4f:lS 4 false=true:=by kernel_rfl
theorem kd5t:lS 5 true=true:=by kernel_rfl
theorem kd5f:lS 5 false=true:=by kernel_rfl
theorem kd6t:lS 6 true=true:=by kernel_rfl
theorem kd6f:lS 6 false=true:=by kernel_rfl
theorem kd7t:lS 7 true=true:=by kernel_rfl
theorem kd7f:lS 7 false=true:=by kernel_rfl
theorem kd8t:lS 8 true=true:=by kernel_rfl
theorem kd8f:lS 8 false=true:=by kernel_rfl
theorem kdV:∀(v:Nat) (up:Bool),v≤8→(v=0→up=true)→lS v up=true
 | 0,true,_,_=>kd0t
 | 0,false,_,h=>absurd (h rfl) (by decide)
 | 1,true,_,_=>kd1t
 | 1,false,_,_=>kd1f
 | 2,true,_,_=>kd2t
 | 2,false,_,_=>kd2f
 | 3,true,_,_=>kd3t
 | 3,false,_,_=>kd3f
 | 4,true,_,_=>kd4t
 | 4,false,_,_=>kd4f
 | 5,true,_,_=>kd5t
 | 5,false,_,_=>kd5f
 | 6,true,_,_=>kd6t
 | 6,false,_,_=>kd6f
 | 7,true,_,_=>kd7t
 | 7,false,_,_=>kd7f
 | 8,true,_,_=>kd8t
 | 8,false,_,_=>kd8f
 | _+9,_,h,_=>absurd h (by omega)
end Go.Dm.Tc
/-
Networks,part 21: brokers on a line,what the closed checks say.
-/
namespace Go.Dm.Tc
theorem Ew{k n:Nat}{df:aL}{args:List DV}{d:DV}(he:∀args h,fc D k args h=Wp D df (oC fB h args))(hz:oC fB lM args=some (args,lM))(hr:AD k n args d=true):pcF D df args=some d:=by
 unfold AD at hr
 rw[Bool.and_eq_true]at hr
 obtain⟨h1,h2⟩:=hr
 cases h3:args.mapM (resolve true lM bO)with
 | none=>rw[h3]at h1;cases h1
 | some ds =>
  rw[h3]at h1
  have:=nI _ _ h1
  subst this
  cases h4:Ir D n k ds lM with
  | none=>rw[h4]at h2;cases h2
  | some r =>
   obtain⟨r1,r2⟩:=r
   rw[h4]at h2
   have h5:=DV.beq_eq _ _ h2
   simp only at h5
   subst h5
   have h1:fc D k ds lM=some (r1,r2):=Be.2 ⟨n,h4⟩
   rw[he,hz,Iq,h3,qC]at h1
   cases h2:pcF D df ds with
   | none=>rw[h2]at h1;cases h1
   | some x=>rw[h2,uA]at h1;injection h1 with h1;injection h1 with h1;rw[h1]
variable {v:Nat} {up:Bool} {q f:Int}
theorem FP(hv:v≤8)(hu:v=0→up=true)(hq:q∈-1::kL v up):pcF D t95 [aM .none (brI v up q),eID sI,.isl false 0 []]=some (.tup [aM .none (brE v up q (-1)),eL false 8 gC (nM 3 q sI)]):=by
 have h:=kaV v up hv hu
 unfold sX at h
 rw[List.all_eq_true]at h
 exact Ew e95 (by simp[oC,Ht,tT,eID,xD];rfl) (h q hq)
theorem Y4(hv:v≤8)(hu:v=0→up=true)(hq:q∈-1::kL v up)(hf:f∈kL v up)(hn:q≠f):pcF D t52 [aM .none (brI v up q),.int .i64 f,gF ⟨3,xI,sI,[],[]⟩]=some (.tup [aM .none (brE v up q f),eL false 8 gC (nM 3 q sI),.isl false 0 []]):=by
 have h:=kbV v up hv hu
 unfold kZ at h
 rw[List.all_eq_true]at h
 have h:=h q hq
 rw[List.all_eq_true]at h
 have h:=h f hf
 rw[beq_eq_false_iff_ne.2 hn,Bool.false_or]at h
 exact Ew e52 (by simp[oC,Ht,tT,gF,xD]) h
theorem HF(hv:v≤8)(hu:v=0→up=true)(hf:f∈-1::kL v up):pcF D t97 [aM .none (brE v up (-1) f),.int .i64 (-1),gF ⟨5,xI,pI,[],[]⟩]=some (.tup [eL false 8 gC (nM 5 f pI),CA f]):=by
 have h:=kcV v up hv hu
 unfold tD at h
 rw[List.all_eq_true]at h
 exact Ew e97 (by simp[oC,Ht,tT,gF,xD]) (h f hf)
theorem CW(hv:v≤8)(hu:v=0→up=true)(hf:f∈-1::kL v up)(hq:q∈kL v up)(hn:q≠f):pcF D t52 [aM .none (brE v up q f),.int .i64 q,gF ⟨5,xI,pI,[],[]⟩]=some (.tup [aM .none (brE v up q f),eL false 8 gC (nM 5 f pI),CA f]):=by
 have h:=kdV v up hv hu
 unfold lS at h
 rw[List.all_eq_true]at h
 have h:=h f hf
 rw[List.all_eq_true]at h
 have h:=h q hq
 rw[beq_eq_false_iff_ne.2 hn,Bool.false_or]at h
 exact Ew e52 (by simp[oC,Ht,tT,gF,xD]) h
end Go.Dm.Tc
/-
Networks,part 23: a line of brokers,plain: its links,whom each is bE,parents.
-/
namespace Go.Dm.Tc
def fM:Nat→List (Int×Int)
 | 0=>[]
 | k+1=>fM k++[((k:Int),(k:Int)+1)]
theorem sA:∀k,(fM k).length=k
 | 0=>rfl
 | k+1=>by simp[fM,sA k]
theorem sG:∀(k:Nat) (a b:Int),(a,b)∈fM k↔(0≤a∧a<k∧b=a+1)
 | 0,a,b=>by simp[fM];omega
 | k+1,a,b=>by
  simp only[fM,List.mem_append,sG k a b,List.mem_singleton,Prod.mk.injEq]
  constructor
  ·rintro(⟨h1,h2,h3⟩|⟨h1,h2⟩)<;>omega
  ·rintro⟨h1,h2,h3⟩
   by_cases e:a=k
   ·exact .inr ⟨e,by omega⟩
   ·exact .inl ⟨h1,by omega,h3⟩
theorem Oo{M:Nat}(h:1≤M):cN M (fM (M-1)):=by
 refine⟨fun l hl=>?_,?_⟩
 ·obtain⟨a,b⟩:=l
  have:=(sG _ a b).1 hl
  simp only
  omega
 ·suffices h:∀k:Nat,(fM k).Pairwise fun x y=>x≠y∧x≠(y.2,y.1)from h _
  intro k
  induction k with
  | zero=>exact List.Pairwise.nil
  | succ k ih =>
   rw[fM,List.pairwise_append]
   refine⟨ih,List.pairwise_singleton _ _,fun x hx y hy=>?_⟩
   rw[List.mem_singleton]at hy;subst hy
   obtain⟨a,b⟩:=x
   have:=(sG _ a b).1 hx
   constructor<;>intro e<;>injection e with e1 e2<;>omega
theorem rZ{M:Nat}(h:1≤M){a b:Int}:cP M (fM (M-1)) a b=true↔(0≤a∧a<M∧0≤b∧b<M∧(b=a+1∨a=b+1)):=by
 constructor
 ·intro hl
  have hr:=dJ hl
  unfold cP at hl
  rw[List.any_eq_true]at hl
  obtain⟨⟨u,v⟩,hm,hv⟩:=hl
  have:=(sG _ u v).1 hm
  simp only[Bool.and_eq_true,Bool.or_eq_true,decide_eq_true_eq]at hv
  omega
 ·rintro⟨h1,h2,h3,h4,h5⟩
  unfold cP
  rw[List.any_eq_true]
  rcases h5 with h5|h5
  ·refine⟨(a,b),(sG _ a b).2 ⟨h1,by omega,h5⟩,?_⟩
   simp[yW];omega
  ·refine⟨(b,a),(sG _ b a).2 ⟨h3,by omega,h5⟩,?_⟩
   simp[yW];omega
def HY:Bool:=(List.range 10).all fun M=>(List.range 9).all fun v=>!decide (v<M) || (eE M (fM (M-1)) v == kL v (decide (v+1<M)))
theorem Uj:HY=true:=by kernel_rfl
theorem Ui{M v:Nat}(h:M≤9)(hv:v<M):eE M (fM (M-1)) v=kL v (decide (v+1<M)):=by
 have h1:=Uj
 unfold HY at h1
 rw[List.all_eq_true]at h1
 have h1:=h1 M (List.mem_range.2 (by omega))
 rw[List.all_eq_true]at h1
 have h1:=h1 v (List.mem_range.2 (by omega))
 rw[decide_eq_true hv,Bool.not_true,Bool.false_or]at h1
 exact eq_of_beq h1
theorem Ae{M:Nat}:Mv M (fM (M-1)):=fun b h1 h2=>⟨b-1,by omega,(rZ (by omega)).2 (by omega)⟩
theorem NQ{M:Nat}(h:1≤M):LI M (fM (M-1)):=by
 have key:∀b:Nat,(b:Int)<M→∃ d,((b:Int),d)∈zA M (fM (M-1)) 0:=by
  intro b
  induction b using Nat.strongRecOn with
  | _ b ih =>
   intro hb
   by_cases h0:b=0
   ·subst h0
    exact⟨0,J3 ⟨by decide,by omega⟩⟩
   ·obtain⟨u,hu,hl⟩:=Ae (M:=M) b (by omega) hb
    obtain⟨d,hd⟩:=ih u hu (by omega)
    obtain⟨e,he,_⟩:=Vu ⟨by decide,by omega⟩ hd hl
    exact⟨e,he⟩
 intro b h1 h2
 obtain⟨d,hd⟩:=key b.toNat (by omega)
 rw[Int.toNat_of_nonneg h1]at hd
 exact⟨d,hd⟩
def nZ(r v:Int):Int:=if v=r then -1 else if r<v then v-1 else v+1
variable {M:Nat} {r:Int} {s:Int→FS} {W:Int→Int→List Bool} {con:Int→Int→Nat} {d:Int→Nat}
theorem OD(h1:1≤M)(I:FlI M (fM (M-1)) r s W con d)(WL:NG s)(hq:∀u v,W u v=[])(hr:0≤r∧r<M){v:Int}(h0:0≤v)(hv:v<M):s v=.has (nZ r v):=by
 have hh:=fun(v:Int) (h0:0≤v) (hv:v<M)=>I.allHas WL hq Ae h0 hv
 have T:=I.tree WL hq Ae hr
 have at_:∀v:Int,0≤v→v<M→(kG s v=-1∧v=r)∨(cP M (fM (M-1)) (kG s v) v=true∧d (kG s v)<d v∧v≠r):=by
  intro v h0 hv
  have h:=T.at_ v h0 hv
  have e:atL ((gP (M:Int)).map (kG s)) v.toNat=kG s v:=by
   unfold gP
   rw[List.map_map]
   have:=T6 (fun i:Nat=>kG s (i:Int)) (n:=(M:Int).toNat) (i:=v.toNat) (by omega)
   rw[Int.toNat_of_nonneg h0]at this
   exact this
  rw[e]at h
  exact h
 have up:∀(k:Nat) (v:Int),(M:Int)-1-v=k→r<v→v<M→kG s v=v-1:=by
  intro k
  induction k with
  | zero =>
   intro v hk JL h2
   rcases at_ v (by omega) h2 with⟨_,h⟩|⟨h,_⟩
   ·omega
   ·have:=(rZ h1).1 h;omega
  | succ k ih =>
   intro v hk JL h2
   rcases at_ v (by omega) h2 with⟨_,h⟩|⟨h,hd,_⟩
   ·omega
   ·have hl:=(rZ h1).1 h
    by_cases e:kG s v=v-1
    ·exact e
    ·have e2:kG s v=v+1:=by omega
     have h3:=ih (v+1) (by omega) (by omega) (by omega)
     rcases at_ (v+1) (by omega) (by omega)with⟨_,h⟩|⟨_,Vi,_⟩
     ·omega
     ·rw[h3]at Vi
      rw[e2]at hd
      have:v+1-1=v:=by omega
      rw[this]at Vi
      omega
 have down:∀(k:Nat) (v:Int),v=k→v<r→kG s v=v+1:=by
  intro k
  induction k with
  | zero =>
   intro v hk JL
   rcases at_ v (by omega) (by omega)with⟨_,h⟩|⟨h,_⟩
   ·omega
   ·have:=(rZ h1).1 h;omega
  | succ k ih =>
   intro v hk JL
   rcases at_ v (by omega) (by omega)with⟨_,h⟩|⟨h,hd,_⟩
   ·omega
   ·have hl:=(rZ h1).1 h
    by_cases e:kG s v=v+1
    ·exact e
    ·have e2:kG s v=v-1:=by omega
     have h3:=ih (v-1) (by omega) (by omega)
     rcases at_ (v-1) (by omega) (by omega)with⟨_,h⟩|⟨_,Vi,_⟩
     ·omega
     ·rw[h3]at Vi
      rw[e2]at hd
      have:v-1+1=v:=by omega
      rw[this]at Vi
      omega
 rw[hh v h0 hv]
 congr 1
 unfold nZ
 split
 ·rename_i e
  rcases at_ v h0 hv with⟨h,_⟩|⟨_,_,h⟩
  ·exact h
  ·exact absurd e h
 ·split
  ·exact up ((M:Int)-1-v).toNat v (by omega) (by omega) hv
  ·exact down v.toNat v (by omega) (by omega)
end Go.Dm.Tc
