/- A part of the proof. -/
import Derived.Test.YtfkbogedodngeaaGreatMs1
import Derived.Test.YtfkbogedodngeaaGreatMs0
set_option linter.all false
set_option maxRecDepth 100000
namespace Go.Dm.Tc
def qM:List (Int×Int)→List (Int×Int)
 | []=>[]
 | l::r=>l::(l.2,l.1)::qM r
def bO(L:List (Int×Int)):List (Int×Int):=fY ltP (qM L)
theorem yY{u v:Int}:∀{L:List (Int×Int)},(u,v)∈qM L↔(u,v)∈L∨(v,u)∈L
 | []=>by simp[qM]
 | l::r=>by
  obtain⟨a,b⟩:=l
  simp only[qM,List.mem_cons,yY (L:=r),Prod.mk.injEq]
  constructor
  ·rintro(h|h|h|h)
   ·exact .inl (.inl h)
   ·exact .inr (.inl ⟨h.2,h.1⟩)
   ·exact .inl (.inr h)
   ·exact .inr (.inr h)
  ·rintro((h|h)|(h|h))
   ·exact .inl h
   ·exact .inr (.inr (.inl h))
   ·exact .inr (.inl ⟨h.2,h.1⟩)
   ·exact .inr (.inr (.inr h))
theorem Do:∀L:List (Int×Int),(qM L).length=2*L.length
 | []=>rfl
 | l::r=>by simp[qM,Do r];omega
theorem bN.tail{m:Int}{l:Int×Int}{r:List (Int×Int)}(h:bN m (l::r)):bN m r:=⟨fun x hx=>h.rng x (List.mem_cons_of_mem _ hx),(List.pairwise_cons.1 h.nd).2⟩
theorem bN.wayL_nd{m:Int}:∀{L:List (Int×Int)},bN m L→(qM L).Nodup
 | [],_=>List.nodup_nil
 | (a,b)::r,h=>by
  obtain⟨h1,_⟩:=List.pairwise_cons.1 h.nd
  have hr:=h.rng (a,b) (List.mem_cons_self ..)
  have n1:(a,b) ∉ qM r:=fun hm=>by
   rcases yY.1 hm with hm|hm
   ·exact(h1 _ hm).1 rfl
   ·exact(h1 _ hm).2 rfl
  have n2:(b,a) ∉ qM r:=fun hm=>by
   rcases yY.1 hm with hm|hm
   ·exact(h1 _ hm).2 rfl
   ·exact(h1 _ hm).1 rfl
  simp only[qM,List.nodup_cons,List.mem_cons,not_or]
  refine⟨⟨fun e=>hr.2.2.2.2 ?_,n1⟩,n2,h.tail.wayL_nd⟩
  cases e;rfl
theorem sY(L:List (Int×Int)):(bO L).Perm (qM L):=tU ltP _
theorem Yq{u v:Int}{L:List (Int×Int)}:(u,v)∈bO L↔(u,v)∈L∨(v,u)∈L:=(sY L).mem_iff.trans yY
theorem nW(L:List (Int×Int)):(bO L).length=2*L.length:=(sY L).length_eq.trans (Do L)
theorem bN.waysOf_nd{m:Int}{L:List (Int×Int)}(h:bN m L):(bO L).Nodup:=(sY L).nodup_iff.2 h.wayL_nd
theorem YV(id n:Nat)(L:List (Int×Int))(sp:List DV)(cap:Option Nat)(h:aA)(hl:h.lim≤id)(hn:n≤1000000)(hs:L.Nodup)(hL:L.length=n)(g:h.get id=some (.arr 76 2 (L.map aQ++sp) cap))(wf:WF h) :
  ∀(j k:Nat) (f:dV),1≤k→k+j=n→f 0=.sl id 2 0 n→f 3=.int .i64 k →
  fin [.t 2] (run D 61 [.block 0,.seq Wh] (.loop Lw) f h)=some (.sl id 2 0 n,h):=by
 have LT:=aC g
 intro j
 induction j with
 | zero =>
  intro k f h1 hk h0 h3
  have Vl:k=n:=by omega
  subst Vl
  rw[aG Lw.eq_1]
  simp[h0,h3,Wh]
 | succ j ih =>
  intro k f h1 hk h0 h3
  have Vl:k<n:=by omega
  have hx:∀i,(hi:i<n)→(L.map aQ++sp)[i]?=some (.agg [.int .i64 (L[i]'(by omega)).1,.int .i64 (L[i]'(by omega)).2]):=fun i hi=>by
   rw[List.getElem?_append_left (by simp;omega),List.getElem?_map,List.getElem?_eq_getElem (by omega)];rfl
  have Hh:=hx k Vl
  have Kk:=hx (k-1) (by omega)
  have Vh:IntKind.i64.wrap ((k:Int)-1)=((k-1:Nat):Int):=by rw[bC (by omega) (by omega)];omega
  have RY:IntKind.i64.wrap ((k:Int)+1)=((k+1:Nat):Int):=by rw[bC (by omega) (by omega)];omega
  have Y1:∀i:Nat,i<n→aR 2 (.sl id 2 0 n) (.int .i64 (i:Int))=some (.ptr id 2 i 0):=fun i hi=>by
   simp[aR,asI,hi]
  have sT:=Y1 k Vl
  have Zj:=Y1 (k-1) (by omega)
  have cS:¬((L[k]'(by omega)).1=(L[k-1]'(by omega)).1∧(L[k]'(by omega)).2=(L[k-1]'(by omega)).2):=fun e=>by
   have:L[k]'(by omega)=L[k-1]'(by omega):=Prod.ext e.1 e.2
   exact List.pairwise_iff_getElem.1 hs (k-1) k (by omega) (by omega) (by omega) this.symm
  have hq:((L[k]'(by omega)).1 == (L[k-1]'(by omega)).1 && (L[k]'(by omega)).2 == (L[k-1]'(by omega)).2)=false:=by
   rw[Bool.and_eq_false_iff]
   by_cases h1:(L[k]'(by omega)).1=(L[k-1]'(by omega)).1
   ·exact .inr (by simpa using fun h2=>cS ⟨h1,h2⟩)
   ·exact .inl (by simpa using h1)
  rw[aG Lw.eq_1]
  simp[h0,h3,g,Hh,Kk,LT,Vh,sT,Zj,Vl,hq,CU,RY]
  exact ih (k+1) _ (by omega) (by omega) (by simp[h0]) (by simp)
theorem XY(id:Nat)(L:List (Int×Int))(sp:List DV)(cap:Option Nat)(h:aA)(hl:h.lim≤id)(hn:L.length≤1000000)(hs:L.Nodup)(g:h.get id=some (.arr 76 2 (L.map aQ++sp) cap))(wf:WF h) :
  fc D 134 [.sl id 2 0 L.length] h=some (.sl id 2 0 L.length,h):=by
 rw[WR,aM _ _ _ _ (by simp[Qd])]
 by_cases h2:L.length<2
 ·have MK:(L.length:Int)<2:=by omega
  simp[Qd,h2,MK]
 ·have MK:¬(L.length:Int)<2:=by omega
  simp[Qd,h2,MK]
  exact YV id L.length L sp cap h hl hn hs rfl g wf (L.length-1) 1 _ (by omega) (by omega) (by simp) (by simp)
theorem EP(h:aA):fc D 134 [.nsl] h=some (.nsl,h):=by
 rw[WR,aM _ _ _ _ (by simp[Qd])]
 simp[Qd]
theorem XZ(id:Nat)(sp:List DV)(cap:Option Nat)(h:aA)(L:List (Int×Int))(g:h.get id=some (.arr 76 2 (L.map aQ++sp) cap))(hl:h.lim≤id)(hb:L.length≤1000000) :
  fc D 132 [.sl id 2 0 L.length,.func 133 []] h=some (.tup [],h.set id (.arr 76 2 ((fY ltP L).map aQ++sp) cap)) :=
 (WT _ h).trans (Br (un:=unP) (mk:=aQ) (lt:=ltP) (fun _=>rfl) g hl hb)
theorem EQ(h:aA):fc D 132 [.nsl,.func 133 []] h=some (.tup [],h):=WT _ h
theorem YY(P:Res→Prop)(t:Bool)(m:Int)(L:List (Int×Int))(hm:∀l∈L,xG m l=true)(hL:L.length≤100000)(h0:aA)(g0:h0.get 0=some (.arr 66 2 [.agg [.int .i64 m,eL t 2 aQ L]] (some 1)))(bH:h0.lim=0) :
  ∀(rest mU:List (Int×Int)) (i:Nat) (f:dV) (h:aA),L.drop i=rest→mU.length≤2*i→f 1=.ptr 0 2 0 0→f 7=eL t 2 aQ L→f 8=.int .i64 L.length→f 9=.int .i64 i→OwnR 1 h (f 3) 76 2 (mU.map aQ)→Ext 1 h0 h →
  (∀F H,OwnR 1 H (F 3) 76 2 ((mU++qM rest).map aQ)→Ext 1 h0 H→P (run D 30 [] Dv F H)) →
  P (run D 30 [.block 0,.seq Dv] (.loop Lz) f h):=by
 intro rest
 induction rest with
 | nil =>
  intro mU i f h hd ha h1 h7 h8 h9 ho hx cQ
  have hi:=iB hd
  have:¬(i<L.length):=by omega
  rw[aG Lz.eq_1]
  simp[h8,h9,this]
  exact cQ _ _ (by simpa[qM]using ho) hx
 | cons l rest ih =>
  intro mU i f h hd ha h1 h7 h8 h9 ho hx cQ
  obtain⟨hi,he,pE⟩:=jF hd
  have hlH:h.lim=0:=hx.lim.trans bH
  have Pk:=(hx.get 0 (by decide)).trans g0
  have hnh:=hx.le
  have n0:¬0=h.n:=by omega
  have hw:IntKind.i64.wrap ((i:Int)+1)=(i:Int)+1:=bC (by omega) (by omega)
  have hf:∀h,resolve true h 199 (eL t 2 aQ L)=some (eL t 2 aQ L):=fun h=>dR _ _ _ _ true h 199 (by decide)
  obtain⟨u,v⟩:=l
  have xF:pcF D t98 [.agg [.int .i64 m,eL t 2 aQ L],.agg [.int .i64 u,.int .i64 v]]=some (.bool true):=by
   have:=s98 t m L (u,v)
   rw[hm (u,v) (by rw[←List.take_append_drop i L,hd];simp)]at this
   exact this
  rw[aG Lz.eq_1]
  rw[show mU++qM ((u,v)::rest)=(mU++[(u,v),(v,u)])++qM rest by simp[qM]]at cQ
  simp[h1,h7,h8,h9,hi,he,hlH,Pk,n0,aQ,e98,xF,hf,Ii,Ih]
  generalize hA:bB _ _ _ _ _ _=A
  obtain⟨w',h',rfl,zY,oH,_⟩:=ho.push.push.append hx.push.push.wf (hx.push.push.le) (by simp[hlH]) hA (by simp;omega) (by decide)
  clear hA
  simp[h9,hw]
  generalize hF:upd _ 9 _=F
  refine ih (mU++[(u,v),(v,u)]) (i+1) F h' pE (by simp;omega) (by rw[←hF];simp[h1]) (by rw[←hF];simp[h7]) (by rw[←hF];simp[h8]) (by rw[←hF];simp) (by rw[←hF];simp;simpa[aQ]using zY) (hx.push.push.trans oH) cQ
theorem XV(t:Bool){m:Int}{L:List (Int×Int)}(ok:bN m L)(hL:L.length≤100000):pcF D P9 [.agg [.int .i64 m,eL t 2 aQ L]]=some (eL false 2 aQ (bO L)):=by
 have hm:∀l∈L,xG m l=true:=fun l hl=>decide_eq_true (ok.rng l hl)
 unfold pcF
 rw[aM _ _ _ _ (by simp[P9])]
 simp[P9]
 generalize hF:upd _ 9 _=F
 generalize hH:aA.push _ _=H
 refine YY (fun r=>iK (fin [.t 2] r)=some (eL false 2 aQ (bO L))) t m L hm hL H (by rw[←hH];simp) (by rw[←hH];simp) L [] 0 F H rfl (Nat.zero_le _) (by rw[←hF];simp) (by rw[←hF];simp) (by rw[←hF];simp) (by rw[←hF];simp) (.nil (by rw[←hF];simp) rfl) (.refl (by rw[←hH];simp) (by rw[←hH];simp)) fun F K o x=>?_
 rw[List.nil_append]at o
 have bY:=nW L
 have OD:=Do L
 cases o with
 | nil hv hx =>
  have oH:L=[]:=List.length_eq_zero_iff.1 (by have:=congrArg List.length hx;rw[List.length_map]at this;simp only[List.length_nil]at this;omega)
  subst oH
  simp[Dv,hv,EQ,EP,turn]
  rfl
 | arr id sp cap hv hg bH eN =>
  have h2:=XZ id sp cap K (qM L) hg bH (by omega)
  have hgl:=aC hg
  have g2:(K.set id (.arr 76 2 ((bO L).map aQ++sp) cap)).get id=some (.arr 76 2 ((bO L).map aQ++sp) cap):=cN x.wf hg
  have h3:=XY id (bO L) sp cap _ (by exact bH) (by omega) ok.waysOf_nd g2 x.wf.set
  have e2:(bO L).length=(qM L).length:=by omega
  rw[List.length_map]at hv
  rw[e2]at h3
  have w:OwnR 1 (K.set id (.arr 76 2 ((bO L).map aQ++sp) cap)) (.sl id 2 0 (qM L).length) 76 2 ((bO L).map aQ):=.arr id sp cap (by rw[List.length_map,e2]) g2 bH eN
  have Nw:=w.out (k:=22) (fun y _=>(rT y).1.mono (by decide)) (fun y _=>(rT y).2) (by decide)
  unfold bO at h3 Nw ⊢
  simp[Dv,hv,h2,h3,turn,-fX]
  exact Nw
end Go.Dm.Tc
/-
Graphs: all brokers that one can reach,and how far they are.
-/
namespace Go.Dm.Tc
def eM(m:Int)(L:List (Int×Int))(b:Int):List Int:=((List.range m.toNat).map fun i:Nat=>(i:Int)).filter fun x=>cI m L b x
theorem rY(m:Int)(L:List (Int×Int))(b:Int):gB (eM m L b):=by
 unfold eM gB
 refine List.Pairwise.filter _ ?_
 rw[List.pairwise_map]
 exact List.pairwise_lt_range.imp fun h=>by omega
theorem eC{m:Int}{L:List (Int×Int)}{a b:Int}(h:cI m L a b=true):(0≤a∧a<m)∧(0≤b∧b<m)∧a≠b:=by
 unfold cI at h
 rw[List.any_eq_true]at h
 obtain⟨l,_,h2⟩:=h
 rw[Bool.and_eq_true,Bool.or_eq_true]at h2
 have hm:=of_decide_eq_true h2.1
 rcases h2.2 with h3|h3<;>(have h4:=of_decide_eq_true h3;obtain⟨e1,e2⟩:=h4;refine⟨⟨?_,?_⟩,⟨?_,?_⟩,?_⟩<;>omega)
theorem nV{m:Int}{L:List (Int×Int)}{b x:Int}:x∈eM m L b↔cI m L b x=true:=by
 unfold eM
 rw[List.mem_filter]
 constructor
 ·exact fun h=>h.2
 ·intro h
  have hr:=eC h
  refine⟨List.mem_map.2 ⟨x.toNat,List.mem_range.2 (by omega),by omega⟩,h⟩
theorem Af:∀{l k:List Int},gB l→gB k→(∀x,x∈l↔x∈k)→l=k
 | [],[],_,_,_=>rfl
 | [],y::k,_,_,h=>by have:=(h y).2 (List.mem_cons_self ..);cases this
 | x::l,[],_,_,h=>by have:=(h x).1 (List.mem_cons_self ..);cases this
 | x::l,y::k,hl,hk,h=>by
  obtain⟨h1,h2⟩:=List.pairwise_cons.1 hl
  obtain⟨g1,g2⟩:=List.pairwise_cons.1 hk
  have e:x=y:=by
   rcases List.mem_cons.1 ((h x).1 (List.mem_cons_self ..))with e|hx
   ·exact e
   ·rcases List.mem_cons.1 ((h y).2 (List.mem_cons_self ..))with e|hy
    ·exact e.symm
    ·have:=h1 y hy;have:=g1 x hx;omega
  subst e
  rw[Af h2 g2 fun z=>?_]
  constructor
  ·intro hz
   rcases List.mem_cons.1 ((h z).1 (List.mem_cons_of_mem _ hz))with rfl|hz'
   ·have:=h1 z hz;omega
   ·exact hz'
  ·intro hz
   rcases List.mem_cons.1 ((h z).2 (List.mem_cons_of_mem _ hz))with rfl|hz'
   ·have:=g1 z hz;omega
   ·exact hz'
theorem NV(t:Bool){m:Int}(b:Int){L:List (Int×Int)}(ok:bN m L)(h0:0≤m)(h7:m≤12)(hL:L.length≤1000000):pcF D t55 [.agg [.int .i64 m,eL t 2 aQ L],.int .i64 b]=some (eL false 1 bF (eM m L b)):=by
 obtain⟨N,h1,h2,h3,_⟩:=s55 t m b L hL (ok.bD h0 h7 b)
 rw[h1,Af h2 (rY m L b) fun x=>by rw[h3,vH,nV]]
def nA(d:Int):List Int→List (Int×Int)→List (Int×Int)
 | [],K=>K
 | b::r,K=>if b∈K.map (·.1)then nA d r K else nA d r (K++[(b,d+1)])
def bfs(N:Int→List Int):Nat→Nat→List (Int×Int)→List (Int×Int)
 | 0,_,K=>K
 | n+1,i,K=>match K[i]? with
  | some p=>bfs N n (i+1) (nA p.2 (N p.1) K)
  | none=>K
theorem Hb(d:Int):∀(l:List Int) (K:List (Int×Int)),∃ R,nA d l K=K++R∧(∀p∈R,p.2=d+1∧p.1∈l)∧(∀b∈l,b∈(nA d l K).map (·.1))
 | [],K=>⟨[],by simp[nA],by simp,by simp⟩
 | b::r,K=>by
  unfold nA
  split
  ·rename_i hb
   obtain⟨R,h1,h2,h3⟩:=Hb d r K
   refine⟨R,h1,fun p hp=>⟨(h2 p hp).1,List.mem_cons_of_mem _ (h2 p hp).2⟩,fun x hx=>?_⟩
   rcases List.mem_cons.1 hx with rfl|hx
   ·rw[h1,List.map_append];exact List.mem_append_left _ hb
   ·exact h3 x hx
  ·rename_i hb
   obtain⟨R,h1,h2,h3⟩:=Hb d r (K++[(b,d+1)])
   refine⟨(b,d+1)::R,by rw[h1];simp,fun p hp=>?_,fun x hx=>?_⟩
   ·rcases List.mem_cons.1 hp with rfl|hp
    ·exact⟨rfl,List.mem_cons_self ..⟩
    ·exact⟨(h2 p hp).1,List.mem_cons_of_mem _ (h2 p hp).2⟩
   ·rcases List.mem_cons.1 hx with rfl|hx
    ·rw[h1];simp
    ·exact h3 x hx
theorem xY(d:Int):∀(l:List Int) (K:List (Int×Int)),(K.map (·.1)).Nodup→((nA d l K).map (·.1)).Nodup
 | [],K,h=>h
 | b::r,K,h=>by
  unfold nA
  split
  ·exact xY d r K h
  ·rename_i hb
   refine xY d r _ ?_
   rw[List.map_append]
   exact List.nodup_append.2 ⟨h,by simp,fun a ha c hc e=>hb (by simp at hc;rw[hc]at e;exact e ▸ ha)⟩
structure qL(N:Int→List Int)(a:Int)(K:List (Int×Int))(i:Nat):Prop where
 nd:(K.map (·.1)).Nodup
 st:K[0]?=some (a,0)
 le:i≤K.length
 mono:K.Pairwise fun p q=>p.2≤q.2
 top:∀(p:Int×Int),K[i]?=some p→∀q∈K,q.2≤p.2+1
 cl:∀(j:Nat) (p:Int×Int),j<i→K[j]?=some p→∀b∈N p.1,∃ q∈K,q.1=b∧q.2≤p.2+1
 rng:∀p∈K,p.1=a∨∃ c,p.1∈N c
 pos:∀p∈K,0≤p.2
 idx:∀(j:Nat) (p:Int×Int),K[j]?=some p→p.2≤j
theorem qL.start(N:Int→List Int)(a:Int):qL N a [(a,0)] 0 :=
 ⟨by simp,rfl,Nat.zero_le _,List.pairwise_singleton _ _,fun p hp q hq=>by simp at hp hq;rw[←hp,hq];show(0:Int)≤0+1;decide,fun j _ hj=>absurd hj (Nat.not_lt_zero _),fun p hp=>by simp at hp;rw[hp];exact .inl rfl,fun p hp=>by simp at hp;rw[hp];exact Int.le_refl _,fun j p hp=>by
  rcases j with _|j
  ·simp at hp;rw[←hp];exact Int.le_refl _
  ·simp at hp⟩
theorem qL.step{N:Int→List Int}{a:Int}{K:List (Int×Int)}{i:Nat}(I:qL N a K i){p:Int×Int}(hp:K[i]?=some p):qL N a (nA p.2 (N p.1) K) (i+1):=by
 obtain⟨R,h1,h2,h3⟩:=Hb p.2 (N p.1) K
 have hi:=(List.getElem?_eq_some_iff.1 hp).1
 have hpm:p∈K:=List.mem_of_getElem? hp
 have hmono:(nA p.2 (N p.1) K).Pairwise fun p q=>p.2≤q.2:=by
  rw[h1,List.pairwise_append]
  refine⟨I.mono,?_,fun x hx y hy=>?_⟩
  ·rw[List.pairwise_iff_getElem]
   intro u v hu hv _
   rw[(h2 _ (List.getElem_mem hu)).1,(h2 _ (List.getElem_mem hv)).1]
   exact Int.le_refl _
  ·rw[(h2 y hy).1];exact I.top p hp x hx
 refine⟨xY _ _ _ I.nd,?_,by rw[h1,List.length_append];omega,hmono,fun q hq x hx=>?_,fun j q hj hq b hb=>?_,fun q hq=>?_,fun q hq=>?_,fun j q hq=>?_⟩
 ·rw[h1,List.getElem?_append_left (by omega)];exact I.st
 ·have Ko:p.2≤q.2:=by
   have aZ:=(List.getElem?_eq_some_iff.1 hq).1
   have:=List.pairwise_iff_getElem.1 hmono i (i+1) (by omega) aZ (by omega)
   have e1:(nA p.2 (N p.1) K)[i]'(by omega)=p:=by
    have:(nA p.2 (N p.1) K)[i]?=some p:=by rw[h1,List.getElem?_append_left hi];exact hp
    exact(List.getElem?_eq_some_iff.1 this).2
   have e2:(nA p.2 (N p.1) K)[i+1]'(aZ)=q:=(List.getElem?_eq_some_iff.1 hq).2
   rw[e1,e2]at this
   exact this
  rw[h1]at hx
  rcases List.mem_append.1 hx with hx|hx
  ·have:=I.top p hp x hx;omega
  ·have:=(h2 x hx).1;omega
 ·by_cases hji:j<i
  ·have Od:j<K.length:=by omega
   rw[h1,List.getElem?_append_left Od]at hq
   obtain⟨c,hc,e1,e2⟩:=I.cl j q hji hq b hb
   exact⟨c,by rw[h1];exact List.mem_append_left _ hc,e1,e2⟩
  ·have hje:j=i:=by omega
   subst hje
   rw[h1,List.getElem?_append_left hi,hp]at hq
   cases hq
   obtain⟨c,hc,e1⟩:=List.mem_map.1 (h3 b hb)
   refine⟨c,hc,e1,?_⟩
   rw[h1]at hc
   rcases List.mem_append.1 hc with hc|hc
   ·exact I.top p hp c hc
   ·rw[(h2 c hc).1];exact Int.le_refl _
 ·rw[h1]at hq
  rcases List.mem_append.1 hq with hq|hq
  ·exact I.rng q hq
  ·exact .inr ⟨p.1,(h2 q hq).2⟩
 ·rw[h1]at hq
  rcases List.mem_append.1 hq with hq|hq
  ·exact I.pos q hq
  ·have:=I.pos p hpm;rw[(h2 q hq).1];omega
 ·rw[h1]at hq
  by_cases hj:j<K.length
  ·rw[List.getElem?_append_left hj]at hq;exact I.idx j q hq
  ·rw[List.getElem?_append_right (by omega)]at hq
   have:=(h2 q (List.mem_of_getElem? hq)).1
   have:=I.idx i p hp
   omega
theorem qL.walk{N:Int→List Int}{a:Int}:∀(n i:Nat) (K:List (Int×Int)),qL N a K i→qL N a (bfs N n i K) (bfs N n i K).length∨∃ j,i+n≤j∧qL N a (bfs N n i K) j
 | 0,i,K,I=>.inr ⟨i,Nat.le_refl _,I⟩
 | n+1,i,K,I=>by
  unfold bfs
  cases hp:K[i]? with
  | none =>
   have:K.length≤i:=List.getElem?_eq_none_iff.1 hp
   have e:i=K.length:=Nat.le_antisymm I.le this
   exact .inl (e ▸ I)
  | some p =>
   rcases qL.walk n (i+1) _ (I.step hp)with h|⟨j,h1,h2⟩
   ·exact .inl h
   ·exact .inr ⟨j,by omega,h2⟩
theorem Kc{n:Nat}{l:List Int}(hd:l.Nodup)(h:∀x∈l,0≤x∧x<n):l.length≤n:=rX hd h
theorem qL.done{N:Int→List Int}{a:Int}{m:Nat}(hN:∀c b,b∈N c→0≤b∧b<m)(ha:0≤a∧a<m){n:Nat}(hn:m+1≤n):qL N a (bfs N n 0 [(a,0)]) (bfs N n 0 [(a,0)]).length∧(bfs N n 0 [(a,0)]).length≤m:=by
 have key:∀{K i},qL N a K i→K.length≤m:=fun {K i} I=>by
  have:=Kc (n:=m) I.nd fun x hx=>by
   obtain⟨p,hp,rfl⟩:=List.mem_map.1 hx
   rcases I.rng p hp with e|⟨c,hc⟩
   ·rw[e];exact ha
   ·exact hN c _ hc
  simpa using this
 rcases qL.walk n 0 _ (qL.start N a)with h|⟨j,h1,h2⟩
 ·exact⟨h,key h⟩
 ·have:=key h2
  have:=h2.le
  omega
def eZ(x:Int):DV:=.int .i64 x
def kO(K:List (Int×Int)):List (Int×DV):=K.map fun p=>(p.1,.int .i64 p.2)
theorem uV(K:List (Int×Int)):(kO K).map (·.1)=K.map (·.1):=by simp[kO]
theorem Po{K:List (Int×Int)}(hn:(K.map (·.1)).Nodup){p:Int×Int}(hp:p∈K):kK (kO K) p.1=some (.int .i64 p.2):=by
 induction K with
 | nil=>cases hp
 | cons q r ih =>
  simp only[List.map_cons,List.nodup_cons]at hn
  by_cases h:q.1=p.1
  ·rcases List.mem_cons.1 hp with rfl|hp
   ·simp[kO,kK]
   ·exact absurd (List.mem_map.2 ⟨p,hp,rfl⟩) (h ▸ hn.1)
  ·rcases List.mem_cons.1 hp with rfl|hp
   ·exact absurd rfl h
   ·have:=ih hn.2 hp
    simp only[kO,kK,List.map_cons]at this ⊢
    rw[List.find?_cons,decide_eq_false h]
    exact this
theorem O0{K:List (Int×Int)}{b:Int}(hb:b ∉ K.map (·.1)):kK (kO K) b=none:=by
 cases h:kK (kO K) b with
 | none=>rfl
 | some v=>exact absurd (uV K ▸ (Ke (ms:=kO K) (x:=b)).2 ⟨v,h⟩) hb
theorem BR{K:List (Int×Int)}{b d:Int}(hb:b ∉ K.map (·.1)):tL b (.int .i64 d) (kO K)=kO (K++[(b,d)]):=by
 induction K with
 | nil=>rfl
 | cons q r ih =>
  simp only[List.map_cons,List.mem_cons,not_or]at hb
  have h:¬q.1=b:=fun e=>hb.1 e.symm
  simp only[kO,List.map_cons,List.cons_append,tL,if_neg h]
  rw[show(r.map fun p:Int×Int=>(p.1,DV.int .i64 p.2))=kO r from rfl,ih hb.2]
  rfl
structure u9(H:aA)(v:DV)(id:Nat)(xs:List Int):Prop where
 at_:∃ off pre cap,v=.sl id 1 off xs.length∧H.get id=some (.arr 3 1 (pre++xs.map bF) cap)∧pre.length=off
structure RS(lo:Nat)(H:aA)(g mo id:Nat)(go:DO)(v:DV)(K:List (Int×Int))(xs:List Int):Prop where
 wf:WF H
 lim:H.lim=lo
 hn:lo≤H.n
 lm:lo≤mo
 li:lo≤id
 gg:H.get g=some go
 gm:H.get mo=some (.mp (fN eZ (kO K)))
 row:u9 H v id xs
 ng:id≠g
 nm:id≠mo
 gm':g≠mo
theorem RS.push{lo:Nat}{H:aA}{g mo id:Nat}{go:DO}{v:DV}{K:List (Int×Int)}{xs:List Int}(s:RS lo H g mo id go v K xs)(o:DO):RS lo (H.push o) g mo id go v K xs:=by
 have h1:=aC s.gg
 have h2:=aC s.gm
 obtain⟨off,pre,cap,e1,e2,e3⟩:=s.row.at_
 have h3:=aC e2
 exact⟨s.wf.push,s.lim,by have:=s.hn;simp;omega,s.lm,s.li,by rw[aN h1];exact s.gg,by rw[aN h2];exact s.gm,⟨off,pre,cap,e1,by rw[aN h3];exact e2,e3⟩,s.ng,s.nm,s.gm'⟩
theorem RS.key{lo:Nat}{H:aA}{g mo id:Nat}{go:DO}{v:DV}{K:List (Int×Int)}{xs:List Int}(s:RS lo H g mo id go v K xs){b d:Int}(hb:b ∉ K.map (·.1)):RS lo (H.set mo (.mp (fN eZ (tL b (.int .i64 d) (kO K))))) g mo id go v (K++[(b,d)]) xs:=by
 have h2:=aC s.gm
 obtain⟨off,pre,cap,e1,e2,e3⟩:=s.row.at_
 exact⟨s.wf.set,s.lim,s.hn,s.lm,s.li,by rw[aT h2 s.gm'];exact s.gg,by rw[cN s.wf s.gm,BR hb],⟨off,pre,cap,e1,by rw[aT h2 s.nm];exact e2,e3⟩,s.ng,s.nm,s.gm'⟩
theorem RS.more{lo:Nat}{H:aA}{g mo id:Nat}{go:DO}{v:DV}{K:List (Int×Int)}{xs:List Int}{A:Option (DV×aA)}(s:RS lo H g mo id go v K xs){b:Int}(hl:xs.length≤1000000)(hA:bB H 3 1 8 v [.int .i64 b]=A) :
  ∃ v' H' id',A=some (v',H')∧RS lo H' g mo id' go v' K (xs++[b]):=by
 obtain⟨off,pre,cap,rfl,e2,rfl⟩:=s.row.at_
 have h1:=aC s.gg
 have h2:=aC s.gm
 have h3:=aC e2
 have hd:((pre++xs.map bF).drop pre.length).take xs.length=xs.map bF:=by
  rw[List.drop_left' rfl,List.take_of_length_le (by simp)]
 have Fs:=s.lim
 subst hA
 have cS:([DV.int .i64 b]:List DV).isEmpty=false:=rfl
 simp only[bB,cS,Bool.false_eq_true,if_false,e2]
 rw[if_pos ⟨trivial,trivial,trivial,by simp,by simp;omega,by simp;omega⟩,if_neg (by simp),hd]
 cases cap with
 | some c =>
  refine⟨_,_,H.n,rfl,s.wf.push,s.lim,by have:=s.hn;simp;omega,s.lm,s.hn,by rw[aN h1];exact s.gg,by rw[aN h2];exact s.gm,⟨0,[],none,by simp,by simp[bF],rfl⟩,by omega,by omega,s.gm'⟩
 | none =>
  rw[if_pos (by rw[Fs];exact s.li)]
  refine⟨_,_,H.n,rfl,s.wf.set.push,s.lim,by have:=s.hn;simp;omega,s.lm,s.hn,?_,?_,⟨0,[],none,by simp,by simp[bF],rfl⟩,by omega,by omega,s.gm'⟩
  ·rw[aN (by exact h1),aT h3 s.ng.symm];exact s.gg
  ·rw[aN (by exact h2),aT h3 s.nm.symm];exact s.gm
theorem RS.head{lo:Nat}{H:aA}{g mo id:Nat}{go:DO}{v:DV}{K:List (Int×Int)}{x:Int}{xs:List Int}(s:RS lo H g mo id go v K (x::xs)):∃ off pre cap,v=.sl id 1 off (xs.length+1)∧H.get id=some (.arr 3 1 (pre++.int .i64 x::xs.map bF) cap)∧pre.length=off∧aR 1 v (.int .i64 0)=some (.ptr id 1 off 0)∧(pre++.int .i64 x::xs.map bF)[off]?=some (.int .i64 x):=by
 obtain⟨off,pre,cap,rfl,e2,rfl⟩:=s.row.at_
 exact⟨_,pre,cap,rfl,e2,rfl,by simp[aR,asI],by simp⟩
theorem RS.pop{lo:Nat}{H:aA}{g mo id:Nat}{go:DO}{v:DV}{K:List (Int×Int)}{x:Int}{xs:List Int}(s:RS lo H g mo id go v K (x::xs)):∃ v',fB H 1 v (some (.int .i64 1)) none=some v'∧RS lo H g mo id go v' K xs:=by
 obtain⟨off,pre,cap,rfl,e2,rfl⟩:=s.row.at_
 refine⟨.sl id 1 (pre.length+1) xs.length,?_,s.wf,s.lim,s.hn,s.lm,s.li,s.gg,s.gm,⟨pre.length+1,pre++[.int .i64 x],cap,rfl,by rw[e2];simp[bF],by simp⟩,s.ng,s.nm,s.gm'⟩
 have h1:cG none (x::xs).length ((pre++(x::xs).map bF).length-pre.length)=some (x::xs).length:=uO _ _
 have h2:cG (some (.int .i64 1)) 0 (x::xs).length=some 1:=by simp[cG,asI];omega
 simp only[fB,e2]
 rw[if_pos ⟨trivial,trivial,by simp⟩,h1]
 simp only[h2]
 simp
theorem YN(P:Res→Prop)(S:List Fr)(lo g mo:Nat)(go:DO)(N:List Int)(hN:N.length≤1000)(x d:Int)(hd:0≤d∧d≤100000) :
  ∀(rest:List Int) (K:List (Int×Int)) (ys:List Int) (i id:Nat) (f:dV) (h:aA),N.drop i=rest→K.length+rest.length≤100000→ys.length+rest.length≤100000→(K.map (·.1)).Nodup→(x,d)∈K→f 5=.map mo→f 25=eL false 1 bF N→f 26=.int .i64 N.length→f 27=.int .i64 i→RS lo h g mo id go (f 6) K (x::ys) →
  (∀F H id' ys',F 5=.map mo→F 2=f 2→RS lo H g mo id' go (F 6) (nA d rest K) (x::ys')→(∃ R,nA d rest K=K++R∧ys'=ys++R.map (·.1))→P (ret D 53 S (.normal) F H)) →
  P (run D 53 (.block 2::S) (.loop E4) f h):=by
 intro rest
 induction rest with
 | nil =>
  intro K ys i id f h hdr hk hy hn hx h5 h25 h26 h27 s cQ
  have hi:=iB hdr
  have:¬(i<N.length):=by omega
  rw[aG E4.eq_1]
  simp[h26,h27,this]
  exact cQ _ _ id ys (by simp[h5]) (by simp) (by simpa[nA]using s) ⟨[],by simp[nA],by simp⟩
 | cons b rest ih =>
  intro K ys i id f h hdr hk hy hn hx h5 h25 h26 h27 s cQ
  obtain⟨hi,he,pE⟩:=jF hdr
  have hw:IntKind.i64.wrap ((i:Int)+1)=(i:Int)+1:=bC (by omega) (by omega)
  have hwd:IntKind.i64.wrap (d+1)=d+1:=bC (by omega) (by omega)
  have gm:=s.gm
  have hnz:((kO K).map (·.1)).Nodup:=by rw[uV];exact hn
  have Hi:fO (.prim 1) (.int .i64 0) true (.int .i64 b) (some (fN eZ (kO K)))=_:=tP (kE:=eZ) Fl hnz (.int .i64 0) true b
  rw[aG E4.eq_1]
  by_cases hb:b∈K.map (·.1)
  ·obtain⟨v,hv⟩:=(Ke (ms:=kO K) (x:=b)).1 (by rw[uV];exact hb)
   rw[hv]at Hi
   simp only[if_true]at Hi
   have Zm:nA d (b::rest) K=nA d rest K:=by rw[nA,if_pos hb]
   rw[Zm]at cQ
   simp[h5,h25,h26,h27,hi,he,gm,eI,fT,Hi,hw,bF]
   generalize hF:upd _ 27 _=F
   refine ih K ys (i+1) id F h pE (by simp at hk;omega) (by simp at hy;omega) hn hx (by rw[←hF];simp[h5]) (by rw[←hF];simp[h25]) (by rw[←hF];simp[h26]) (by rw[←hF];simp) (by rw[←hF];simpa using s) ?_
   intro F2 H2 id2 ys2 a1 a2 a3 a4
   exact cQ F2 H2 id2 ys2 a1 (by rw[a2,←hF];simp) a3 a4
  ·rw[O0 hb]at Hi
   simp only[if_true]at Hi
   have hlx:fO (.prim 1) (.int .i64 0) false (.int .i64 x) (some (fN eZ (kO K)))=_:=Ns (kE:=eZ) Fl hnz (.int .i64 0) x
   rw[Po hn hx]at hlx
   simp only[Option.getD_some]at hlx
   obtain⟨off,pre,cap,hv6,hg6,hpre,wP,nJ⟩:=s.head
   have Pj:Hk h (.prim 1) mo (.int .i64 b) (.int .i64 (d+1)) (some (.mp (fN eZ (kO K))))=_:=Ps (kE:=eZ) Fl (h:=h) (id:=mo) hnz (by rw[s.lim];exact s.lm) b (.int .i64 (d+1))
   have s2:=s.key (d:=d+1) hb
   have Zm:nA d (b::rest) K=nA d rest (K++[(b,d+1)]):=by rw[nA,if_neg hb]
   rw[Zm]at cQ
   simp[h5,h25,h26,h27,hi,he,gm,eI,fT,Hi,bF,wP,hg6,nJ,hlx,hwd,kI,Pj]
   generalize hH:h.set mo _=H at *
   generalize hA:bB _ _ _ _ _ _=A
   obtain⟨v',H',id',rfl,s3⟩:=(s2.push _).more (by simp at hy ⊢;omega) hA
   clear hA
   simp[h27,hw]
   generalize hF:upd _ 27 _=F
   refine ih (K++[(b,d+1)]) (ys++[b]) (i+1) id' F H' pE (by simp at hk ⊢;omega) (by simp at hy ⊢;omega) ?_ (List.mem_append_left _ hx) (by rw[←hF];simp[h5]) (by rw[←hF];simp[h25]) (by rw[←hF];simp[h26]) (by rw[←hF];simp) (by rw[←hF];simpa using s3) ?_
   ·rw[List.map_append]
    exact List.nodup_append.2 ⟨hn,by simp,fun a ha c hc e=>hb (by simp at hc;rw[hc]at e;exact e ▸ ha)⟩
   ·intro F2 H2 id2 ys2 a1 a2 a3 a4
    refine cQ F2 H2 id2 ys2 a1 (by rw[a2,←hF];simp) a3 ?_
    obtain⟨R,r1,r2⟩:=a4
    exact⟨(b,d+1)::R,by rw[r1];simp,by rw[r2];simp⟩
theorem It{K:List (Int×Int)}{i:Nat}{p:Int×Int}(hp:K[i]?=some p):(K.drop i).map (·.1)=p.1::(K.drop (i+1)).map (·.1):=by
 obtain⟨hi,rfl⟩:=List.getElem?_eq_some_iff.1 hp
 rw[List.drop_eq_getElem_cons hi];rfl
theorem YM(P:Res→Prop)(S:List Fr)(lo g mo:Nat)(t:Bool){m:Int}{L:List (Int×Int)}(ok:bN m L)(h0:0≤m)(h7:m≤12)(hL:L.length≤1000000)(a:Int)(ha:0≤a∧a<m) :
  ∀(n i:Nat) (K:List (Int×Int)) (id:Nat) (f:dV) (h:aA),(i+n:Nat)=m.toNat+1→qL (eM m L) a K i→f 2=.ptr g 2 0 0→f 5=.map mo→RS lo h g mo id (.arr 66 2 [.agg [.int .i64 m,eL t 2 aQ L]] (some 1)) (f 6) K ((K.drop i).map (·.1)) →
  (∀F H id',F 5=.map mo→qL (eM m L) a (bfs (eM m L) n i K) (bfs (eM m L) n i K).length→RS lo H g mo id' (.arr 66 2 [.agg [.int .i64 m,eL t 2 aQ L]] (some 1)) (F 6) (bfs (eM m L) n i K) []→P (run D 53 S E5 F H)) →
  P (run D 53 (.block 0::.seq E5::S) (.loop CO) f h):=by
 have hrng:∀c b,b∈eM m L c→0≤b∧b<m:=fun c b hb=>(eC (nV.1 hb)).2.1
 have bY:∀{K i},qL (eM m L) a K i→K.length≤m.toNat:=fun {K i} I=>by
  have:=Kc (n:=m.toNat) I.nd fun x hx=>by
   obtain⟨p,hp,rfl⟩:=List.mem_map.1 hx
   rcases I.rng p hp with e|⟨c,hc⟩
   ·rw[e];omega
   ·have:=hrng c _ hc;omega
  simpa using this
 have hnl:∀x,(eM m L x).length≤12:=fun x=>by
  unfold eM
  have:=List.length_filter_le (fun y=>cI m L x y) ((List.range m.toNat).map fun i:Nat=>(i:Int))
  simp at this
  omega
 intro n
 induction n with
 | zero =>
  intro i K id f h hi I
  have:=bY I
  have:=I.le
  omega
 | succ n ih =>
  intro i K id f h hi I f2 f5 s cQ
  have hk:=bY I
  have gg:=s.gg
  have lim:=s.lim
  rw[aG CO.eq_1]
  cases hp:K[i]? with
  | none =>
   have SI:K.length≤i:=List.getElem?_eq_none_iff.1 hp
   have hd:K.drop i=[]:=List.drop_eq_nil_iff.2 SI
   have hb:bfs (eM m L) (n+1) i K=K:=by unfold bfs;rw[hp]
   rw[hb]at cQ
   rw[hd]at s
   obtain⟨off,pre,cap,hv,hg,hpre⟩:=s.row.at_
   have e:i=K.length:=Nat.le_antisymm I.le SI
   simp[hv]
   exact cQ _ _ id (by simp[f5]) (e ▸ I) (by simpa[hv]using s)
  | some p =>
   obtain⟨x,d⟩:=p
   have Cu:(x,d)∈K:=List.mem_of_getElem? hp
   have hb:bfs (eM m L) (n+1) i K=bfs (eM m L) n (i+1) (nA d (eM m L x) K):=by rw[bfs,hp]
   rw[hb]at cQ
   rw[It hp]at s
   obtain⟨ys,vK⟩:∃ ys,(K.drop (i+1)).map (·.1)=ys:=⟨_,rfl⟩
   have NW:ys.length≤12:=by rw[←vK];simp;omega
   rw[vK]at s
   have hd:=I.idx i _ hp
   have hd0:=I.pos _ Cu
   simp only at hd hd0
   have hil:=(List.getElem?_eq_some_iff.1 hp).1
   obtain⟨off,pre,cap,hv,hg,hpre,wP,nJ⟩:=s.head
   have hN:=NV t x ok h0 h7 hL
   have hf:∀h,resolve true h 199 (eL t 2 aQ L)=some (eL t 2 aQ L):=fun h=>dR _ _ _ _ true h 199 (by decide)
   have hnx:=hnl x
   simp only[hv]at wP
   simp[f2,f5,hv,wP,gg,hg,nJ,e55,hN,hf]
   generalize hF:upd _ 27 _=F
   refine YN P _ lo g mo _ (eM m L x) (by omega) x d ⟨hd0,by omega⟩ (eM m L x) K ys 0 id F h rfl (by omega) (by omega) I.nd Cu (by rw[←hF];simp[f5]) (by rw[←hF];simp) (by rw[←hF];simp) (by rw[←hF];simp) (by rw[←hF];simpa[hv]using s) ?_
   intro F2 H2 id2 ys' a5 a2 s2 ⟨R,r1,r2⟩
   obtain⟨v',Vi,s3⟩:=s2.pop
   simp[NK,Vi]
   generalize hF3:upd _ 6 _=F3
   refine ih (i+1) _ id2 F3 H2 (by omega) (I.step hp) (by rw[←hF3];simp[a2,←hF,f2]) (by rw[←hF3];simp[a5]) ?_ cQ
   rw[r1]at s3 ⊢
   rw[List.drop_append_of_le_length (by omega),List.map_append,vK,←r2]
   rw[←hF3]
   simpa using s3
def sI(m:Int)(L:List (Int×Int))(a:Int):List (Int×Int):=bfs (eM m L) (m.toNat+1) 0 [(a,0)]
theorem vN{m:Int}{L:List (Int×Int)}{a:Int}(ha:0≤a∧a<m):qL (eM m L) a (sI m L a) (sI m L a).length∧(sI m L a).length≤m.toNat:=by
 refine qL.done (m:=m.toNat) (fun c b hb=>?_) (by omega) (Nat.le_refl _)
 have:=(eC (nV.1 hb)).2.1
 omega
theorem q71(t:Bool){m:Int}{L:List (Int×Int)}(ok:bN m L)(h0:0≤m)(h7:m≤12)(hL:L.length≤1000000){a:Int}(ha:0≤a∧a<m){h:aA}(wf:WF h)(bH:h.lim≤h.n) :
  ∃ mo h',fc D 71 [.agg [.int .i64 m,eL t 2 aQ L],.int .i64 a] h=some (.map mo,h')∧h'.get mo=some (.mp (fN eZ (kO (sI m L a))))∧h'.lim=h.lim∧WF h':=by
 have Pj:Hk (h.push (.arr 66 2 [.agg [.int .i64 m,eL t 2 aQ L]] (some 1)) |>.push (.mp [])) (.prim 1) (h.n+1) (.int .i64 a) (.int .i64 0) (some (.mp (fN eZ (kO []))))=_:=Ps (kE:=eZ) Fl (ms:=kO []) (by simp[kO]) (by simp;omega) a (.int .i64 0)
 have hz:kO []=[]:=rfl
 have he:fN eZ []=[]:=rfl
 rw[hz,he]at Pj
 have hp1:tL a (DV.int .i64 0) []=kO [(a,0)]:=rfl
 rw[hp1]at Pj
 rw[e71,aM _ _ _ _ (by simp[t71])]
 simp[t71,kI,Pj,wf]
 generalize hF:upd _ 6 _=F
 generalize hH:aA.push _ _=H
 refine YM (fun r=>∃ mo h',fin [.t 4] r=some (.map mo,h')∧h'.get mo=some (.mp (fN eZ (kO (sI m L a))))∧h'.lim=h.lim∧WF h') [] h.lim h.n (h.n+1) t ok h0 h7 hL a ha (m.toNat+1) 0 [(a,0)] (h.n+2) F H (by omega) (qL.start _ _) (by rw[←hF];simp) (by rw[←hF];simp) ?_ ?_
 ·have Vj:h.n<h.n+1:=by omega
  refine⟨by rw[←hH];simp[wf],by rw[←hH];simp,by rw[←hH];simp;omega,by omega,by omega,?_,?_,⟨0,[],some 1,?_,?_,rfl⟩,by omega,by omega,by omega⟩
  ·rw[←hH];simp[wf]
  ·rw[←hH];simp[wf]
  ·rw[←hF];simp
  ·rw[←hH];simp[wf,bF]
 ·intro F2 H2 id2 a5 _ s
  refine⟨h.n+1,H2,?_,s.gm,s.lim,s.wf⟩
  simp[E5,a5]
theorem s29(t:Bool){m:Int}{L:List (Int×Int)}(ok:bN m L)(h0:0≤m)(h7:m≤12)(hL:L.length≤1000000){a b:Int}(ha:0≤a∧a<m)(hb:0≤b∧b<m){d:Int}(hd:(b,d)∈sI m L a) :
  pcF D t29 [.agg [.int .i64 m,eL t 2 aQ L],.int .i64 a,.int .i64 b]=some (.int .i64 d):=by
 have h1:=s70 m a (eL t 2 aQ L)
 have h2:=s70 m b (eL t 2 aQ L)
 rw[decide_eq_true ha]at h1
 rw[decide_eq_true hb]at h2
 obtain⟨I,_⟩:=vN (L:=L) ha
 have hnz:((kO (sI m L a)).map (·.1)).Nodup:=by rw[uV];exact I.nd
 have Hi:fO (.prim 1) (.int .i64 0) true (.int .i64 b) (some (fN eZ (kO (sI m L a))))=_:=tP (kE:=eZ) Fl hnz (.int .i64 0) true b
 rw[Po I.nd hd]at Hi
 simp only[if_true]at Hi
 have hf:∀h,resolve true h 199 (eL t 2 aQ L)=some (eL t 2 aQ L):=fun h=>dR _ _ _ _ true h 199 (by decide)
 unfold pcF
 rw[aM _ _ _ _ (by simp[t29])]
 have hq:=fun(h:aA) wf hl=>q71 t ok h0 h7 hL ha (h:=h) wf hl
 obtain⟨mo,h',hr,hg,hl,hw⟩:=hq (rB.push (.arr 66 2 [.agg [.int .i64 m,eL t 2 aQ L]] (some 1))) (by simp) (by simp)
 simp[t29,e70,h1,h2,hf,hr,hg,eI,fT,Hi]
end Go.Dm.Tc
/-
Graphs: may one be? One of numbers may.
-/
namespace Go.Dm.Tc
def mK(l:Int×Int):Int×Int:=if l.1≤l.2 then l else(l.2,l.1)
theorem s99(a b:Int):pcF D t99 [.agg [.int .i64 a,.int .i64 b]]=some (.agg [.int .i64 (mK (a,b)).1,.int .i64 (mK (a,b)).2]):=by
 unfold pcF
 rw[aM _ _ _ _ (by simp[t99])]
 by_cases h:a≤b
 ·simp[t99,Ii,Ih,mK,h]
  omega
 ·simp[t99,Ii,Ih,mK,h]
  omega
theorem GG{l k:Int×Int}(h:mK l=mK k):l=k∨l=(k.2,k.1):=by
 obtain⟨a,b⟩:=l
 obtain⟨c,d⟩:=k
 unfold mK at h
 by_cases h1:a≤b<;>by_cases h2:c≤d<;>simp[h1,h2]at h<;>simp<;>omega
def kW(l:Int×Int):ID:=⟨(mK l).1,(mK l).2⟩
theorem bN.joined{m:Int}{L:List (Int×Int)}(h:bN m L):(L.map kW).Nodup:=by
 rw[List.nodup_iff_pairwise_ne,List.pairwise_map]
 refine h.nd.imp fun {x y} hxy e=>?_
 have hj:mK x=mK y:=by
  unfold kW at e
  injection e with e1 e2
  exact Prod.ext e1 e2
 rcases GG hj with h1|h1
 ·exact hxy.1 h1
 ·exact hxy.2 h1
theorem yX{α:Type}[DecidableEq α]:∀{A B:List α},A.Nodup→(∀x∈A,x∈B)→A.length≤B.length
 | [],_,_,_=>Nat.zero_le _
 | a::A,B,hn,h=>by
  obtain⟨h1,h2⟩:=List.nodup_cons.1 hn
  have ha:=h a (List.mem_cons_self ..)
  have ih:=yX (A:=A) (B:=B.erase a) h2 fun x hx=>(List.mem_erase_of_ne (fun e=>h1 (by rw[←e];exact hx))).2 (h x (List.mem_cons_of_mem _ hx))
  rw[List.length_erase_of_mem ha]at ih
  have:=List.length_pos_of_mem ha
  simp only[List.length_cons]
  omega
def BJ(m:Int)(L:List (Int×Int)):Prop:=∀b,0≤b→b<m→∃ d,(b,d)∈sI m L 0
theorem BJ.len{m:Int}{L:List (Int×Int)}(h1:1≤m)(h:BJ m L):(sI m L 0).length=m.toNat:=by
 obtain⟨I,cD⟩:=vN (m:=m) (L:=L) (a:=0) ⟨by decide,by omega⟩
 refine Nat.le_antisymm cD ?_
 have zB:∀x∈(List.range m.toNat).map (fun i:Nat=>(i:Int)),x∈(sI m L 0).map (·.1):=fun x hx=>by
  obtain⟨i,hi,rfl⟩:=List.mem_map.1 hx
  have:=List.mem_range.1 hi
  obtain⟨d,hd⟩:=h i (by omega) (by omega)
  exact List.mem_map.2 ⟨_,hd,rfl⟩
 have IE:((List.range m.toNat).map (fun i:Nat=>(i:Int))).Nodup:=by
  rw[List.nodup_iff_pairwise_ne,List.pairwise_map]
  exact List.pairwise_lt_range.imp fun aZ e=>by omega
 have:=yX IE zB
 simpa using this
theorem l51(P:Res→Prop)(t:Bool){m:Int}{L:List (Int×Int)}(ok:bN m L)(hL:L.length≤200)(h0:aA)(g0:h0.get 0=some (.arr 66 2 [.agg [.int .i64 m,eL t 2 aQ L]] (some 1)))(bH:h0.lim=0) :
  ∀(rest:List (Int×Int)) (i:Nat) (f:dV) (h:aA),L.drop i=rest→f 1=.ptr 0 2 0 0→f 3=.map 1→f 8=eL t 2 aQ L→f 9=.int .i64 L.length→f 10=.int .i64 i→h.get 1=some (.mp (sV ((L.take i).map kW)))→Ext 1 h0 h→2≤h.n →
  (∀F H,F 1=.ptr 0 2 0 0→Ext 1 h0 H→P (run D 56 [] F5 F H)) →
  P (run D 56 [.block 0,.seq F5] (.loop F0) f h):=by
 intro rest
 induction rest with
 | nil =>
  intro i f h hd f1 f3 f8 f9 f10 gm x hn cQ
  have hi:=iB hd
  have:¬(i<L.length):=by omega
  rw[aG F0.eq_1]
  simp[f9,f10,this]
  exact cQ _ _ (by simp[f1]) x
 | cons l rest ih =>
  intro i f h hd f1 f3 f8 f9 f10 gm x hn cQ
  obtain⟨hi,he,pE⟩:=jF hd
  have hxi:L[i]?=some l:=by have:=congrArg List.head? hd;simpa[List.head?_drop]using this
  have hlH:h.lim=0:=x.lim.trans bH
  have Pk:=(x.get 0 (by decide)).trans g0
  have n0:¬0=h.n:=by omega
  have n1:¬1=h.n:=by omega
  have hw:IntKind.i64.wrap ((i:Int)+1)=(i:Int)+1:=bC (by omega) (by omega)
  have hf:∀h,resolve true h 199 (eL t 2 aQ L)=some (eL t 2 aQ L):=fun h=>dR _ _ _ _ true h 199 (by decide)
  have hm:pcF D t98 [.agg [.int .i64 m,eL t 2 aQ L],.agg [.int .i64 l.1,.int .i64 l.2]]=some (.bool true):=by
   have:=s98 t m L l
   rw[show xG m l=true from decide_eq_true (ok.rng l (List.mem_of_getElem? hxi))]at this
   exact this
  have hj:=s99 l.1 l.2
  have IE:((L.take i).map kW).Nodup:=(List.Sublist.map kW (List.take_sublist i L)).nodup ok.joined
  have hnotin:kW l ∉ (L.take i).map kW:=by
   have:=ok.joined
   rw[show L=L.take i++l::rest by rw[←hd,List.take_append_drop],List.map_append]at this
   have:=(List.nodup_append.1 this).2.2
   intro Cu
   exact this _ Cu (kW l) (by simp) rfl
  have Hi:=xD IE (mK (l.1,l.2)).1 (mK (l.1,l.2)).2
  have hjj:(⟨(mK (l.1,l.2)).1,(mK (l.1,l.2)).2⟩:ID)=kW l:=rfl
  rw[hjj,decide_eq_false hnotin]at Hi
  have Pj:=fun(H:aA) (hl:H.lim≤1)=>D7 (h:=H) (id:=1) IE hl (mK (l.1,l.2)).1 (mK (l.1,l.2)).2
  rw[hjj]at Pj
  have Zm:xX (kW l) ((L.take i).map kW)=(L.take (i+1)).map kW:=by
   rw[xX,if_neg hnotin,List.take_add_one,hxi,List.map_append];rfl
  rw[Zm]at Pj
  have ih':=ih (i+1)
  have Hj:1<h.n:=by omega
  have BL:=x.wf
  generalize (L.take (i+1)).map kW=ks' at *
  generalize (L.take i).map kW=ks at *
  rw[aG F0.eq_1]
  simp[f1,f3,f8,f9,f10,hi,he,hlH,Pk,n0,n1,aQ,e98,hm,hf,e99,hj,gm,eI,fT,Hi,kI,Pj,Hj,BL]
  generalize hF:upd _ 10 _=F
  refine ih' F _ pE (by rw[←hF];simp[f1]) (by rw[←hF];simp[f3]) (by rw[←hF];simp[f8]) (by rw[←hF];simp[f9]) (by rw[←hF];simp[hw]) ?_ ?_ (by simp;omega) cQ
  ·simp[BL,Hj,n1]
  ·exact(x.set (Nat.le_refl _) Hj).push
theorem s51(t:Bool){m:Int}{L:List (Int×Int)}(ok:bN m L)(h1:1≤m)(h7:m≤12)(hL:L.length≤200)(gR:BJ m L):pcF D t51 [.agg [.int .i64 m,eL t 2 aQ L]]=some .nili:=by
 have hf:∀h,resolve true h 199 (eL t 2 aQ L)=some (eL t 2 aQ L):=fun h=>dR _ _ _ _ true h 199 (by decide)
 have bY:=gR.len h1
 have Fs:((sI m L 0).length:Int)=m:=by rw[bY];omega
 unfold pcF
 rw[aM _ _ _ _ (by simp[t51])]
 simp[t51]
 generalize hF:upd _ 10 _=F
 generalize hH:aA.push _ _=H
 refine l51 (fun r=>iK (fin [.t 2] r)=some .nili) t ok hL H (by rw[←hH];simp) (by rw[←hH];simp) L 0 F H rfl (by rw[←hF];simp) (by rw[←hF];simp) (by rw[←hF];simp) (by rw[←hF];simp) (by rw[←hF];simp) (by rw[←hH];simp;rfl) (.refl (by rw[←hH];simp) (by rw[←hH];simp)) (by rw[←hH];simp) fun F2 K f1 x=>?_
 have Pk:=(x.get 0 (by decide)).trans (show H.get 0=some (.arr 66 2 [.agg [.int .i64 m,eL t 2 aQ L]] (some 1)) by rw[←hH];simp)
 have hlK:K.lim=0:=x.lim.trans (by rw[←hH];simp)
 have a1:¬m<1:=by omega
 have a2:¬64<m:=by omega
 have a3:¬(200:Int)<L.length:=by omega
 have a3':¬200<L.length:=by omega
 have hr:=fun(h:aA) wf hl=>q71 t ok (by omega) h7 (by omega) (a:=0) ⟨by decide,by omega⟩ (h:=h) wf hl
 obtain⟨mo,K2,hr1,hr2,hr3,hr4⟩:=hr (wl K K.n) (by simpa using x.wf) (Nat.le_refl _)
 have nJ:(fN eZ (kO (sI m L 0))).length=(sI m L 0).length:=by simp[fN,kO]
 simp[F5,f1,Pk,a1,a2,a3,a3',hf,hlK,hr1,hr2,hr3,GD,fT,nJ,Fs]
theorem Ce{m:Int}{L:List (Int×Int)}{a:Int}(ha:0≤a∧a<m){b c d:Int}(hb:(b,d)∈sI m L a)(hl:cI m L b c=true):∃ e,(c,e)∈sI m L a∧e≤d+1:=by
 obtain⟨I,_⟩:=vN (L:=L) ha
 obtain⟨j,hj,e⟩:=List.mem_iff_getElem.1 hb
 obtain⟨q,hq,e1,e2⟩:=I.cl j (b,d) hj (by rw[List.getElem?_eq_getElem hj,e]) c (nV.2 hl)
 exact⟨q.2,by rw[←e1];exact hq,e2⟩
theorem Gj{m:Int}{L:List (Int×Int)}{a:Int}(ha:0≤a∧a<m):(a,0)∈sI m L a:=by
 obtain⟨I,_⟩:=vN (L:=L) ha
 exact List.mem_of_getElem? I.st
theorem Ay{m:Int}{L L':List (Int×Int)}(h:∀l∈L,l∈L'){a b:Int}(hl:cI m L a b=true):cI m L' a b=true:=by
 unfold cI at hl ⊢
 rw[List.any_eq_true]at hl ⊢
 obtain⟨l,h1,h2⟩:=hl
 exact⟨l,h l h1,h2⟩
theorem Ro(L:List (Int×Int))(a b:Int):∀l∈L,l∈qU L a b:=fun l hl=>by
 unfold qU;split
 ·exact hl
 ·exact List.mem_append_left _ hl
theorem Ap(m:Int):∀(r:List Int) (L:List (Int×Int)),∀l∈L,l∈tO m r L
 | [],L=>fun l hl=>hl
 | x::r,L=>fun l hl=>Ap m r _ l (Ro _ _ _ l hl)
theorem Y8{m:Int}{L:List (Int×Int)}{a b:Int}(ha:0≤a∧a<m)(hb:0≤b∧b<m)(cS:a≠b):cI m (qU L a b) a b=true:=by
 have LV:xG m (a,b)=true:=decide_eq_true ⟨ha.1,ha.2,hb.1,hb.2,cS⟩
 have BO:xG m (b,a)=true:=decide_eq_true ⟨hb.1,hb.2,ha.1,ha.2,cS.symm⟩
 unfold cI
 rw[List.any_eq_true]
 unfold qU
 split
 ·rename_i h
  rcases h with h|h|h
  ·exact absurd h cS
  ·exact⟨(a,b),h,by simp[LV]⟩
  ·exact⟨(b,a),h,by simp[BO]⟩
 ·exact⟨(a,b),by simp,by simp[LV]⟩
theorem Dq{m:Int}(under:List Int)(n:Nat):(n:Int)+1≤m→∀b:Nat,1≤b→b≤n→∃ u:Nat,u<b∧cI m (sR under n) u b=true:=by
 induction n with
 | zero=>intro _ b h1 h2;omega
 | succ n ih =>
  intro hm b h1 h2
  by_cases hb:b≤n
  ·obtain⟨u,hu,hl⟩:=ih (by omega) b h1 hb
   exact⟨u,hu,Ay (Ro _ _ _) hl⟩
  ·have Cw:b=n+1:=by omega
   subst Cw
   have hw:=gJ (pO under (n+1)) 0 (n:Int) (show(0:Int)≤(n:Int) by omega)
   refine⟨(cY (pO under (n+1)) 0 n).toNat,by omega,?_⟩
   rw[xI]
   have e:(((cY (pO under (n+1)) 0 n).toNat:Nat):Int)=cY (pO under (n+1)) 0 n:=by omega
   rw[e]
   have e2:((n+1:Nat):Int)=(n:Int)+1:=by omega
   rw[e2]
   exact Y8 ⟨by omega,by omega⟩ ⟨by omega,by omega⟩ (by omega)
theorem Zp{m:Int}(h1:1≤m)(under more:List Int):BJ m (sE m under more):=by
 have key:∀b:Nat,(b:Int)<m→∃ d,((b:Int),d)∈sI m (sE m under more) 0:=by
  intro b
  induction b using Nat.strongRecOn with
  | _ b ih =>
   intro hb
   by_cases h0:b=0
   ·subst h0
    exact⟨0,Gj ⟨by decide,by omega⟩⟩
   ·obtain⟨u,hu,hl⟩:=Dq (m:=m) under (m-1).toNat (by omega) b (by omega) (by omega)
    obtain⟨d,hd⟩:=ih u hu (by omega)
    obtain⟨e,he,_⟩:=Ce ⟨by decide,by omega⟩ hd (Ay (Ap m _ _) hl)
    exact⟨e,he⟩
 intro b hb hm
 obtain⟨d,hd⟩:=key b.toNat (by omega)
 have e:((b.toNat:Nat):Int)=b:=by omega
 rw[e]at hd
 exact⟨d,hd⟩
end Go.Dm.Tc
/-
Faults: a chain of them,down to an error number;what is told of one.
-/
namespace Go.Dm.Tc
theorem Sf:qY 4 .nili .nili=some true:=rfl
end Go.Dm.Tc
/-
Networks,part 7: a network as it lies;a new one.
-/
namespace Go.Dm.Tc
theorem GH{l:List Int}(h:gB l):∀{k:List Int},gB k→(∀x,x∈k↔x∈l)→k=l:=fun hk hm=>Af hk h hm
theorem XM(t:Bool)(me:Int){bD:List Int}(hs:gB bD)(hn:bD.length≤1000000):pcF D t7 [.int .i64 me,eL t 1 bF bD]=some (aX .none ⟨me,bD,[],[],[],[]⟩):=by
 obtain⟨nr,h1,h2,h3,_⟩:=s7 t me bD hn
 rw[h1,GH hs h2 h3]
structure iY where
 lG:Int
 to:Int
 pub:ID
def ST(x:iY):DV:=.agg [.int .i64 x.lG,.int .i64 x.to,.int .i64 x.pub.bJ,.int .i64 x.pub.seq]
def Ic(m:Int)(L:List (Int×Int))(bid nb q:Nat)(cr:DV):DO:=.arr 120 5 [.agg [.int .i64 m,eL false 2 aQ L,.sl bid 6 0 nb,.ptr q 2 0 0,cr]] (some 1)
structure eV(h:aA)(nid bid q wid:Nat)(cr:DV)(m:Int)(L:List (Int×Int))(B:List aL)(W:ID→List Msg)(X:List iY):Prop where
 gn:h.get nid=some (Ic m L bid B.length q cr)
 gb:∃ sp cap,h.get bid=some (.arr 31 6 (B.map (aX .none)++sp) cap)
 Q:QAt h q wid (bO L) W
 ln:h.lim≤nid
 lb:h.lim≤bid
 cx:OwnR h.lim h cr 189 4 (X.map ST)
def Fb(m:Int)(L:List (Int×Int))(n:Nat):List aL:=(List.range n).map fun i:Nat=>⟨(i:Int),eM m L i,[],[],[],[]⟩
theorem Fa(m:Int)(L:List (Int×Int))(n:Nat):(Fb m L n).length=n:=by simp[Fb]
theorem V6(m:Int)(L:List (Int×Int))(n:Nat):Fb m L (n+1)=Fb m L n++[⟨(n:Int),eM m L n,[],[],[],[]⟩]:=by
 simp[Fb,List.range_succ]
theorem vG(m:Int)(L:List (Int×Int))(h:m≤12)(b:Int):(eM m L b).length≤12:=by
 unfold eM
 have:=List.length_filter_le (fun y=>cI m L b y) ((List.range m.toNat).map fun i:Nat=>(i:Int))
 simp at this
 omega
theorem K9(ety sz bytes:Nat)(h:aA){α:Type}(t:Bool)(e:α→DV):nG ety sz bytes h [eL t sz e []]=some (.nsl,h.push .dead):=by
 have he:elems h sz (eL t sz e [])=some []:=fW ..
 simp[nG,bP,he,gT]
theorem GK{ety sz bytes:Nat}{h:aA}{α:Type}{t:Bool}{e:α→DV}{xs:List α}(cS:xs≠[])(hb:∀x,dP 200 0 (e x)=true)(hl:xs.length*bytes≤140737488355328)(h2:xs.length≤1000000)(wf:WF h)(bH:h.lim≤h.n) :
  ∃ K,nG ety sz bytes h [eL t sz e xs]=some (eL false sz e xs,K)∧Ext h.n h K:=by
 have he:elems h sz (eL t sz e xs)=some (xs.map e):=fW ..
 have hi:(xs.map e).isEmpty=false:=by cases xs<;>simp_all
 have gR:(xs.map e).all (dP 200 0)=true:=by
  rw[List.all_eq_true]
  intro y hy
  obtain⟨x,_,rfl⟩:=List.mem_map.1 hy
  exact hb x
 have hg:((h.push (.arr ety sz [] (some 0))).push (.arr ety sz (xs.map e) none)).get (h.n+1)=some (.arr ety sz (xs.map e) none):=by simp
 refine⟨((h.push (.arr ety sz [] (some 0))).push (.arr ety sz (xs.map e) none)).set (h.n+1) .dead,?_,(((Ext.refl (Nat.le_refl _) wf).push).push).set (Nat.le_succ _) (by simp)⟩
 simp only[nG,bP,he,hi,List.length_map]
 rw[if_neg (by simp),if_pos ⟨hl,by omega⟩]
 simp only[gT,hg]
 have Fs:((h.push (.arr ety sz [] (some 0))).push (.arr ety sz (xs.map e) none)).lim≤h.n+1:=by simp;omega
 rw[if_pos ⟨trivial,Fs,by simp,by rw[List.drop_zero,List.take_of_length_le (by simp)];exact gR⟩]
 have OC:mkIsl false sz (((xs.map e).drop 0).take xs.length)=eL false sz e xs:=by
  rw[List.drop_zero,List.take_of_length_le (by simp)]
  cases xs with
  | nil=>exact absurd rfl cS
  | cons x r=>rfl
 rw[OC]
theorem C0(x:Int×Int):dP 200 0 (aQ x)=true:=rfl
theorem s53(t:Bool)(m:Int)(L:List (Int×Int))(hL:L.length≤1000000):pcF D t53 [.agg [.int .i64 m,eL t 2 aQ L]]=some (.agg [.int .i64 m,eL false 2 aQ L]):=by
 unfold pcF
 rw[aM _ _ _ _ (by simp[t53])]
 by_cases cS:L=[]
 ·subst cS
  have hc:=fun h=>K9 76 2 16 h t aQ
  simp[t53,WV]
  rw[K9 76 2 16]
  simp[turn,aV]
  rfl
 ·simp[t53,WV]
  obtain⟨K,h1,x⟩:=GK (ety:=76) (bytes:=16) (h:=(rB.push (.arr 66 2 [.agg [.int .i64 m,eL t 2 aQ L]] (some 1))).push (.arr 66 2 [.agg [.int .i64 0,.nsl]] (some 1))) (t:=t) cS C0 (by omega) (by omega) (by simp) (by simp)
  rw[h1]
  have g0:=x.get 0 (by simp)
  have g1:=x.get 1 (by simp)
  have lim:=x.lim
  have wf:=x.wf
  have hn:=x.le
  simp at g0 g1 lim hn
  have n1:1<K.n:=by omega
  have n0:0<K.n:=by omega
  simp[g0,g1,lim,wf,n0,n1,turn,aV]
  exact Pu 176 L
theorem q54(t:Bool){m:Int}{L:List (Int×Int)}(ok:bN m L)(hL:L.length≤100000)(h:aA)(wf:WF h)(bH:h.lim≤h.n) :
  ∃ h',fc D 54 [.agg [.int .i64 m,eL t 2 aQ L]] h=some (.ptr (h.n+2) 2 0 0,h')∧QAt h' (h.n+2) (h.n+1) (bO L) (fun _=>[])∧Ext h.n h h'∧h'.n=h.n+3:=by
 have hW:=XV t ok hL
 have hf:∀h,resolve true h 199 (eL t 2 aQ L)=some (eL t 2 aQ L):=fun h=>dR _ _ _ _ true h 199 (by decide)
 rw[e54,aM _ _ _ _ (by simp[t54])]
 simp[t54,ZK,hW,hf]
 refine⟨⟨?_,⟨[],?_,⟨by simp,fun x=>.inl ⟨rfl,rfl⟩⟩⟩,?_,?_⟩,?_⟩
 ·simp[qO,wf]
 ·simp[wf];rfl
 ·simp;omega
 ·simp;omega
 ·exact(((Ext.refl (Nat.le_refl _) wf).push).push).push
theorem l18(P:Res→Prop)(t:Bool){m:Int}{L:List (Int×Int)}(ok:bN m L)(h0:0≤m)(h7:m≤12)(hL:L.length≤100000)(h:aA)(bH:h.lim≤h.n)(gid q wid nid:Nat)(Il:gid=h.n)(hnid:nid=h.n+4) :
  ∀(k i:Nat) (f:dV) (K:aA),(i+k:Nat)=m.toNat→f 1=.ptr gid 2 0 0→f 5=.ptr nid 5 0 0→f 20=.int .i64 m→f 21=.int .i64 i→h.n+5≤K.n→Ext h.n h K→K.get gid=some (.arr 66 2 [.agg [.int .i64 m,eL t 2 aQ L]] (some 1))→QAt K q wid (bO L) (fun _=>[])→q<h.n+4→wid<h.n+4 →
  (∃ v,K.get nid=some (.arr 120 5 [.agg [.int .i64 m,eL false 2 aQ L,v,.ptr q 2 0 0,.nsl]] (some 1))∧OwnR (h.n+5) K v 31 6 ((Fb m L i).map (aX .none))) →
  (∀F H,F 5=.ptr nid 5 0 0→Ext h.n h H→QAt H q wid (bO L) (fun _=>[])→(∃ v,H.get nid=some (.arr 120 5 [.agg [.int .i64 m,eL false 2 aQ L,v,.ptr q 2 0 0,.nsl]] (some 1))∧OwnR (h.n+5) H v 31 6 ((Fb m L m.toNat).map (aX .none)))→P (run D 40 [] G8 F H)) →
  P (run D 40 [.block 0,.seq G8] (.loop G7) f K):=by
 intro k
 induction k with
 | zero =>
  intro i f K hi f1 f5 f20 f21 hn x gg Q hq hw hv cQ
  have him:i=m.toNat:=by omega
  have:¬((i:Int)<m):=by omega
  rw[aG G7.eq_1]
  simp[f20,f21,this]
  subst him
  exact cQ _ _ (by simp[f5]) x Q hv
 | succ k ih =>
  intro i f K hi f1 f5 f20 f21 hn x gg Q hq hw hv cQ
  obtain⟨v,gn,ow⟩:=hv
  have aZ:(i:Int)<m:=by omega
  have Nv:IntKind.i64.wrap ((i:Int)+1)=(i:Int)+1:=bC (by omega) (by omega)
  have hN:=NV t (i:Int) ok h0 h7 (by omega:L.length≤1000000)
  have hA':=XM false (i:Int) (rY m L i) (by have:=vG m L h7 i;omega)
  have hf:∀h,resolve true h 199 (eL t 2 aQ L)=some (eL t 2 aQ L):=fun h=>dR _ _ _ _ true h 199 (by decide)
  have Fs:K.lim≤h.n:=by rw[x.lim];exact bH
  have wf:=x.wf
  have n1:¬nid=K.n:=by omega
  have n2:¬gid=K.n:=by omega
  have nK:nid<K.n:=by omega
  have st:=ow.aO
  have ec:=ow.aF
  have hnear:(eM m L (i:Int)).length≤12:=vG m L h7 i
  rw[aG G7.eq_1]
  simp[f1,f5,f20,f21,aZ,gg,gn,ec,e55,hN,hf,e7,hA',n1,n2]
  generalize hA:bB _ _ _ _ _ _=A
  obtain⟨v',K',rfl,zY,oH,_⟩:=ow.push.append wf.push (by simp;omega) (by simp;omega) hA (by simp[Fa];omega) (by decide)
  clear hA
  have gn':K'.get nid=some (.arr 120 5 [.agg [.int .i64 m,eL false 2 aQ L,v,.ptr q 2 0 0,.nsl]] (some 1)):=by
   rw[oH.get nid (by omega),aN nK];exact gn
  have wf':=oH.wf
  have xt:Ext h.n h K':=(x.push).trans (oH.lower (by omega))
  have lm':K'.lim≤h.n:=by rw[xt.lim];exact bH
  have st':=zY.aO
  have ec':=zY.aF
  have nK':nid<K'.n:=aC gn'
  have lm2:K'.lim≤nid:=by omega
  have gg':K'.get gid=some (.arr 66 2 [.agg [.int .i64 m,eL t 2 aQ L]] (some 1)):=by
   rw[oH.get gid (by omega),aN (aC gg)];exact gg
  have Q':QAt K' q wid (bO L) (fun _=>[]):=by
   have qq:=Q.gq
   obtain⟨ms,qw,_⟩:=Q.gw
   exact Q.old (xt.lim.trans x.lim.symm) (by rw[oH.get q (by omega),aN (aC qq)]) (by rw[oH.get wid (by omega),aN (aC qw)])
  simp[f5,gn',st',ec',lm2,turn,f21,Nv]
  generalize hF:upd _ 21 _=F
  refine ih (i+1) F _ (by omega) (by rw[←hF];simp[f1]) (by rw[←hF];simp[f5]) (by rw[←hF];simp[f20]) (by rw[←hF];simp) (by have:=oH.le;simp;omega) (xt.set (by omega) nK') ?_ ?_ hq hw ⟨v',cN wf' gn',?_⟩ cQ
  ·rw[aT nK' (by omega)];exact gg'
  ·exact Q'.old rfl (aT nK' (by omega)) (aT nK' (by omega))
  ·have:=zY.aS (o:=.arr 120 5 [.agg [.int .i64 m,eL false 2 aQ L,v',.ptr q 2 0 0,.nsl]] (some 1)) wf' (show nid<h.n+5 by omega) nK'
   rw[V6,List.map_append]
   exact this
theorem q18(t:Bool){m:Int}{L:List (Int×Int)}(ok:bN m L)(h1:1≤m)(h7:m≤12)(hL:L.length≤200)(gR:BJ m L)(h:aA)(wf:WF h)(bH:h.lim≤h.n) :
  ∃ bid h',fc D 18 [.agg [.int .i64 m,eL t 2 aQ L]] h=some (.tup [.ptr (h.n+4) 5 0 0,.nili],h')∧eV h' (h.n+4) bid (h.n+3) (h.n+2) .nsl m L (Fb m L m.toNat) (fun _=>[]) []∧Ext h.n h h'∧h.n≤bid:=by
 have hC:=s51 t ok h1 h7 hL gR
 have hcp:=s53 t m L (by omega)
 have hf:∀h,resolve true h 199 (eL t 2 aQ L)=some (eL t 2 aQ L):=fun h=>dR _ _ _ _ true h 199 (by decide)
 obtain⟨K,hq,Q,xq,nq⟩:=q54 t ok (by omega) (h.push (.arr 66 2 [.agg [.int .i64 m,eL t 2 aQ L]] (some 1))) wf.push (by simp;omega)
 simp at hq Q xq nq
 have gg:=(xq.get h.n (by omega)).trans (show(h.push (.arr 66 2 [.agg [.int .i64 m,eL t 2 aQ L]] (some 1))).get h.n=some (.arr 66 2 [.agg [.int .i64 m,eL t 2 aQ L]] (some 1)) by simp)
 have xh:Ext h.n h K:=((Ext.refl (Nat.le_refl _) wf).push).trans (xq.lower (by omega))
 rw[e18,aM _ _ _ _ (by simp[t18])]
 have ng:¬h.n=K.n:=by omega
 simp[t18,e51,hC,hf,Sf,e53,hcp,hq,gg,ng,nq]
 have e2:h.n+1+2=h.n+3:=rfl
 have e3:h.n+1+3=h.n+4:=rfl
 have e1:h.n+1+1=h.n+2:=rfl
 rw[e1,e2]at Q
 rw[e2,e3]
 generalize hF:upd _ 21 _=F
 have gg2:(K.push (.arr 120 5 [.agg [.int .i64 m,eL false 2 aQ L,.nsl,.ptr (h.n+3) 2 0 0,.nsl]] (some 1))).get h.n=some (.arr 66 2 [.agg [.int .i64 m,eL t 2 aQ L]] (some 1)):=by
  rw[aN (by omega)];exact gg
 have nK:K.n=h.n+4:=by omega
 have gnn:(K.push (.arr 120 5 [.agg [.int .i64 m,eL false 2 aQ L,.nsl,.ptr (h.n+3) 2 0 0,.nsl]] (some 1))).get (h.n+4)=some (.arr 120 5 [.agg [.int .i64 m,eL false 2 aQ L,.nsl,.ptr (h.n+3) 2 0 0,.nsl]] (some 1)):=by
  rw[←nK];simp
 have QP:QAt (K.push (.arr 120 5 [.agg [.int .i64 m,eL false 2 aQ L,.nsl,.ptr (h.n+3) 2 0 0,.nsl]] (some 1))) (h.n+3) (h.n+2) (bO L) (fun _=>[]):=by
  have qq:=Q.gq
  obtain⟨ms,qw,_⟩:=Q.gw
  exact Q.old rfl (aN (aC qq)) (aN (aC qw))
 refine l18 (fun r=>∃ bid h',fin [.t 2,.t 3] r=some (.tup [.ptr (h.n+4) 5 0 0,.nili],h')∧eV h' (h.n+4) bid (h.n+3) (h.n+2) .nsl m L (Fb m L m.toNat) (fun _=>[]) []∧Ext h.n h h'∧h.n≤bid) t ok (by omega) h7 (by omega) h bH h.n (h.n+3) (h.n+2) (h.n+4) rfl rfl m.toNat 0 F _ (by omega) (by rw[←hF];simp) (by rw[←hF];simp) (by rw[←hF];simp) (by rw[←hF];simp) (by simp;omega) xh.push gg2 QP (by omega) (by omega) ⟨.nsl,gnn,.nil rfl rfl⟩ ?_
 intro F2 H f5 x2 Q2 ⟨v,gn,ow⟩
 cases ow with
 | nil hv hx =>
  exfalso
  have:=congrArg List.length hx
  rw[List.length_map,Fa]at this
  simp only[List.length_nil]at this
  omega
 | arr bid sp cap hv hg hl eN =>
  have hlh:H.lim≤h.n:=by rw[x2.lim];exact bH
  refine⟨bid,H,by simp[G8,f5,aV],⟨?_,⟨sp,cap,hg⟩,Q2,by omega,hl,.nil rfl rfl⟩,x2,by omega⟩
  rw[gn,hv,List.length_map]
  rfl
end Go.Dm.Tc
/-
Networks,part 8: a broker asked for.
-/
namespace Go.Dm.Tc
variable {h:aA} {nid bid q wid:Nat} {cr:DV} {m:Int} {L:List (Int×Int)} {B:List aL} {W:ID→List Msg} {X:List iY}
structure BI(h:aA)(nid bid q:Nat)(cr:DV)(m:Int)(L:List (Int×Int))(B:List aL):Prop where
 gn:h.get nid=some (Ic m L bid B.length q cr)
 gb:∃ sp cap,h.get bid=some (.arr 31 6 (B.map (aX .none)++sp) cap)
theorem eV.R(A:eV h nid bid q wid cr m L B W X):BI h nid bid q cr m L B:=⟨A.gn,A.gb⟩
theorem BI.push(A:BI h nid bid q cr m L B)(o:DO):BI (h.push o) nid bid q cr m L B:=by
 obtain⟨sp,cap,gb⟩:=A.gb
 exact⟨by rw[aN (aC A.gn)];exact A.gn,sp,cap,by rw[aN (aC gb)];exact gb⟩
theorem WB(A:BI h nid bid q cr m L B)(b:Int):fc D 102 [.ptr nid 5 0 0,.int .i64 b] h=some (.bool (decide (0≤b∧b<B.length)),h):=by
 have gn:=A.gn
 simp only[Ic]at gn
 rw[ZJ,aM _ _ _ _ (by simp[CX])]
 by_cases h1:0≤b<;>by_cases h2:b<B.length<;>simp[CX,gn,h1,h2]
theorem zU{lo:Nat}{h:aA}{v:DV}{ety sz:Nat}{xs:List DV}(w:Own lo h v ety sz xs):OwnR lo h v ety sz xs:=w.toR
structure Lh(lo:Nat)(h:aA)(v1 v2 v3 v4 v5:DV)(b:aL):Prop where
 r1:OwnR lo h v1 3 1 (b.bD.map bF)
 r2:OwnR lo h v2 37 4 (b.aW.map aH)
 r3:OwnR lo h v3 24 2 (b.seen.map eID)
 r4:OwnR lo h v4 58 7 (b.entries.map bQ)
 r5:OwnR lo h v5 102 3 (b.jZ.map oV)
theorem Lh.ext{lo:Nat}{h h':aA}{v1 v2 v3 v4 v5:DV}{b:aL}(s:Lh lo h v1 v2 v3 v4 v5 b)(x:Ext h.n h h'):Lh lo h' v1 v2 v3 v4 v5 b:=⟨s.r1.ext x,s.r2.ext x,s.r3.ext x,s.r4.ext x,s.r5.ext x⟩
def TT:iD:=⟨true,true,true,true,true⟩
theorem Lh.res{lo:Nat}{h:aA}{v1 v2 v3 v4 v5:DV}{b:aL}(s:Lh lo h v1 v2 v3 v4 v5 b)(n:Nat):resolve true h (n+23) (.agg [.int .i64 b.me,v1,v2,v3,v4,v5])=some (aX TT b):=by
 have q1:=s.r1.resolve (n:=n+22) true (fun y _=>(dD y).1) (by omega)
 have q2:=s.r2.resolve (n:=n+22) true (fun y _=>(fI y).1) (by omega)
 have q3:=s.r3.resolve (n:=n+22) true (fun y _=>(jO y).1) (by omega)
 have q4:=s.r4.resolve (n:=n+22) true (fun y _=>(fK y).1) (by omega)
 have q5:=s.r5.resolve (n:=n+22) true (fun y _=>(jA y).1) (by omega)
 show(match([.int .i64 b.me,v1,v2,v3,v4,v5]:List DV).mapM (resolve true h (n+22))with|some c=>some (DV.agg c)|none=>none)=_
 simp only[List.mapM_cons,List.mapM_nil,q1,q2,q3,q4,q5]
 rfl
set_option maxHeartbeats 4000000 in
theorem q67(A:BI h nid bid q cr m L B)(wf:WF h)(bH:h.lim≤h.n)(k:Nat){b:aL}(hb:B[k]?=some b)(z:zS b) :
  ∃ v1 v2 v3 v4 v5 h',fc D 67 [.ptr nid 5 0 0,.int .i64 k] h=some (.agg [.int .i64 b.me,v1,v2,v3,v4,v5],h')∧Lh h.n h' v1 v2 v3 v4 v5 b∧Ext h.n h h':=by
 have hk:=(List.getElem?_eq_some_iff.1 hb).1
 have gn:=A.gn
 obtain⟨sp,cap,gb⟩:=A.gb
 simp only[Ic]at gn
 have hT:=WB (A.push (.arr 31 6 [.agg [.int .i64 0,.nsl,.nsl,.nsl,.nsl,.nsl]] (some 1))) (k:Int)
 rw[decide_eq_true ⟨by omega,by omega⟩]at hT
 have wP:aR 6 (.sl bid 6 0 B.length) (.int .i64 (k:Int))=some (.ptr bid 6 k 0):=by simp[aR,asI,hk]
 have nJ:(B.map (aX .none)++sp)[k]?=some (aX .none b):=by rw[List.getElem?_append_left (by simp;exact hk),List.getElem?_map,hb];rfl
 have ln:=aC gn
 have lb:=aC gb
 have n1:¬nid=h.n:=by omega
 have n2:¬bid=h.n:=by omega
 obtain⟨z1,z2,z3,z4,z5⟩:=z
 rw[e67,aM _ _ _ _ (by simp[t67])]
 have hm:max (h.n+1+1) h.lim=h.n+2:=by omega
 have hlm1:h.lim≤h.n+1:=by omega
 obtain⟨me,bD,adv,seen,ent,own⟩:=b
 simp only at z1 z2 z3 z4 z5
 simp[t67,hT,gn,gb,n1,n2,wP,nJ,hlm1,aX,eX,e36,hm]
 generalize hA:bP _ _ _ _ _=A
 obtain⟨v1,H1,rfl,o1,x1,y1⟩:=mQ (lo:=h.n+2) hA (fW ..) wf.push.push (by simp) (by simp) (by simp;omega) (by simp;omega) (by decide)
 have Kk:Ext h.n h ((h.push (.arr 31 6 [.agg [.int .i64 0,.nsl,.nsl,.nsl,.nsl,.nsl]] (some 1))).push (.arr 31 6 [.agg (eX .none ⟨me,bD,adv,seen,ent,own⟩)] (some 1))):=(Ext.refl (Nat.le_refl _) wf).push.push
 have z1:=Kk.trans (x1.lower (by omega:h.n≤h.n+2))
 clear hA
 simp at x1 y1 z1 o1
 generalize hK1:wl H1 _=K1 at *
 have a1:=x1.get h.n (by omega)
 have b1:=x1.get (h.n+1) (by omega)
 have q1:=x1.lim
 have w1:=x1.wf
 have n1:=x1.le
 simp at a1 b1 q1
 simp[hK1,a1,q1,hm,e72]
 generalize hA:bP _ _ _ _ _=A
 obtain⟨v2,H2,rfl,o2,x2,y2⟩:=mQ (lo:=h.n+2) hA (fW ..) w1 n1 n1 (by omega) (by simp;omega) (by decide)
 rw[q1]at o2 x2 y2
 have z2:=z1.trans (x2.lower (by omega:h.n≤h.n+2))
 replace o1:=o1.ext y2
 clear hA
 generalize hK2:wl H2 _=K2 at *
 have a2:=x2.get h.n (by omega)
 have b2:=x2.get (h.n+1) (by omega)
 have q2:=x2.lim
 have w2:=x2.wf
 have n2:=x2.le
 rw[a1]at a2
 rw[b1]at b2
 rw[q1]at q2
 simp[hK2,a2,q1,q2,hm,e73]
 generalize hA:bP _ _ _ _ _=A
 obtain⟨v3,H3,rfl,o3,x3,y3⟩:=mQ (lo:=h.n+2) hA (fW ..) w2 n2 n2 (by omega) (by simp;omega) (by decide)
 rw[q2]at o3 x3 y3
 have z3:=z2.trans (x3.lower (by omega:h.n≤h.n+2))
 replace o1:=o1.ext y3
 replace o2:=o2.ext y3
 clear hA
 generalize hK3:wl H3 _=K3 at *
 have a3:=x3.get h.n (by omega)
 have b3:=x3.get (h.n+1) (by omega)
 have q3:=x3.lim
 have w3:=x3.wf
 have n3:=x3.le
 rw[a2]at a3
 rw[b2]at b3
 rw[q2]at q3
 simp[hK3,a3,q2,q3,hm,e74]
 generalize hA:bP _ _ _ _ _=A
 obtain⟨v4,H4,rfl,o4,x4,y4⟩:=mQ (lo:=h.n+2) hA (fW ..) w3 n3 n3 (by omega) (by simp;omega) (by decide)
 rw[q3]at o4 x4 y4
 have z4:=z3.trans (x4.lower (by omega:h.n≤h.n+2))
 replace o1:=o1.ext y4
 replace o2:=o2.ext y4
 replace o3:=o3.ext y4
 clear hA
 generalize hK4:wl H4 _=K4 at *
 have a4:=x4.get h.n (by omega)
 have b4:=x4.get (h.n+1) (by omega)
 have q4:=x4.lim
 have w4:=x4.wf
 have n4:=x4.le
 rw[a3]at a4
 rw[b3]at b4
 rw[q3]at q4
 simp[hK4,a4,q3,q4,hm,e44]
 generalize hA:bP _ _ _ _ _=A
 obtain⟨v5,K5,rfl,o5,x5,y5⟩:=vQ (lo:=h.n+2) (fW ..) w4 n4 (by omega) (by simp;omega) (by decide) hA
 have z5:=z4.trans (x5.lower (by omega:h.n≤h.n+2))
 replace o1:=o1.ext y5
 replace o2:=o2.ext y5
 replace o3:=o3.ext y5
 replace o4:=o4.ext y5
 clear hA
 have a5:=x5.get h.n (by omega)
 have b5:=x5.get (h.n+1) (by omega)
 have q5:=x5.lim
 have w5:=x5.wf
 have n5:=x5.le
 rw[a4]at a5
 rw[b4]at b5
 rw[q4]at q5
 have c5:h.n<K5.n:=by omega
 have d5:h.n+1<K5.n:=by omega
 have f5:h.lim≤h.n+1:=by omega
 simp[a5,b5,q5,w5,c5,d5,f5,bH,o1.aO,o2.aO,o3.aO,o4.aO,o5.aO,o1.aF,o2.aF,o3.aF,o4.aF,o5.aF,turn]
 refine⟨v1,v2,v3,v4,v5,_,⟨⟨rfl,rfl,rfl,rfl,rfl⟩,rfl⟩,⟨zU ?_,zU ?_,zU ?_,zU ?_,zU ?_⟩,?_⟩
 ·exact((o1.aS w5 (by omega) d5).aS w5.set (by omega) c5).lower (by omega)
 ·exact((o2.aS w5 (by omega) d5).aS w5.set (by omega) c5).lower (by omega)
 ·exact((o3.aS w5 (by omega) d5).aS w5.set (by omega) c5).lower (by omega)
 ·exact((o4.aS w5 (by omega) d5).aS w5.set (by omega) c5).lower (by omega)
 ·exact((o5.aS w5 (by omega) d5).aS w5.set (by omega) c5).lower (by omega)
 ·exact(z5.set (by omega) d5).set (by omega) c5
end Go.Dm.Tc
/-
Networks,part 9: messages sent.
-/
namespace Go.Dm.Tc
variable {h:aA} {nid bid q wid:Nat} {cr:DV} {m:Int} {L:List (Int×Int)} {B:List aL} {W:ID→List Msg} {X:List iY}
def FI(o:uS):Msg:=⟨o.kind,o.tree,o.id,o.pred,[]⟩
def qT(u:Int)(W:ID→List Msg):List uS→ID→List Msg
 | []=>W
 | o::r=>qT u (vY W ⟨u,o.to⟩ (W ⟨u,o.to⟩++[FI o])) r
theorem DL(W:ID→List Msg)(x:ID)(mm:Msg)(y:ID):(vY W x (W x++[mm]) y).length≤(W y).length+1:=by
 simp only[vY];split
 ·subst_vars;simp
 ·omega
theorem eV.key(A:eV h nid bid q wid cr m L B W X){i ety sz:Nat}{xs:List DV}{cap:Option Nat}(g:h.get i=some (.arr ety sz xs cap))(hs:sz≠2):i ∉ [q,wid]:=by
 have gq:=A.Q.gq
 obtain⟨ms,gw,_⟩:=A.Q.gw
 intro hm;simp only[List.mem_cons,List.not_mem_nil,or_false]at hm
 rcases hm with rfl|rfl
 ·rw[gq]at g;simp[qO]at g;exact hs g.2.1.symm
 ·rw[gw]at g;cases g
theorem eV.nq(A:eV h nid bid q wid cr m L B W X):nid ∉ [q,wid]:=A.key A.gn (by decide)
theorem eV.upd(A:eV h nid bid q wid cr m L B W X){H:aA}{W':ID→List Msg}(U:Upd h H [q,wid] [q,wid])(Q:QAt H q wid (bO L) W'):eV H nid bid q wid cr m L B W' X:=by
 have key:∀{i ety sz:Nat} {xs:List DV} {cap:Option Nat},h.get i=some (.arr ety sz xs cap)→sz≠2→H.get i=some (.arr ety sz xs cap):=fun g hs=>by
  rw[U.old _ (aC g) (A.key g hs)];exact g
 obtain⟨sp,cap,gb⟩:=A.gb
 have gn:=A.gn
 refine⟨key gn (by decide),⟨sp,cap,key gb (by decide)⟩,Q,by rw[U.lim];exact A.ln,by rw[U.lim];exact A.lb,?_⟩
 rw[U.lim]
 cases A.cx with
 | nil hv hx=>exact .nil hv hx
 | arr id sp cap hv hg hl hi=>exact .arr id sp cap hv (key hg (by decide)) (by rw[U.lim];exact hl) hi
theorem l64(P:Res→Prop)(t:Bool)(u:Int)(gF:List uS)(hw:(bO L).length≤1000000)(ho:∀o∈gF,(u,o.to)∈bO L∧o.kind≠5)(eN:gF.length≤1000000) :
  ∀(k i:Nat) (f:dV) (K:aA) (W:ID→List Msg),i+k=gF.length→f 0=.ptr nid 5 0 0→f 1=.int .i64 u→f 8=eL t 8 nL gF→f 9=.int .i64 gF.length→f 10=.int .i64 i→eV K nid bid q wid cr m L B W X→WF K→K.lim≤K.n→(∀x,(W x).length+k≤300000) →
  (∀F H,eV H nid bid q wid cr m L B (qT u W (gF.drop i)) X→Upd K H [q,wid] [q,wid]→P (.ok .normal (Dm.tab 46 F) H)) →
  P (run D 46 [.block 0] (.loop E6) f K):=by
 intro k
 induction k with
 | zero =>
  intro i f K W hi f0 f1 f8 f9 f10 A wf hl hW cQ
  have:¬((i:Int)<gF.length):=by omega
  rw[aG E6.eq_1]
  simp[f9,f10,this]
  have hd:gF.drop i=[]:=List.drop_eq_nil_iff.2 (by omega)
  rw[hd]at cQ
  exact cQ _ _ A (Upd.refl wf _)
 | succ k ih =>
  intro i f K W hi f0 f1 f8 f9 f10 A wf hl hW cQ
  have aZ:(i:Int)<gF.length:=by omega
  have Nv:IntKind.i64.wrap ((i:Int)+1)=(i:Int)+1:=bC (by omega) (by omega)
  obtain⟨o,GO⟩:∃ o,gF[i]?=some o:=⟨_,List.getElem?_eq_getElem (by omega)⟩
  have Cu:=ho o (List.mem_of_getElem? GO)
  have gn:=A.gn
  simp only[Ic]at gn
  have nK:nid<K.n:=aC gn
  have n3:¬nid=K.n:=by omega
  have n4:¬nid=K.n+1:=by omega
  rw[aG E6.eq_1]
  simp[f0,f1,f8,f9,f10,aZ,gn,GO,n3,n4,hl,nL,fG,turn]
  have gq:=A.Q.gq
  obtain⟨ms,gw,_⟩:=A.Q.gw
  have nq:q<K.n:=aC gq
  have nw:wid<K.n:=aC gw
  have hW1:=hW ⟨u,o.to⟩
  have A2:QAt ((K.push (.arr 54 8 [.agg [.int .i64 o.to,.int .i64 o.kind,.int .i64 o.tree.bJ,.int .i64 o.tree.seq,.int .i64 o.id.bJ,.int .i64 o.id.seq,eL false 5 wT o.pred,.isl false 0 []]] (some 1))).push (.arr 52 7 [.agg [.int .i64 o.kind,.int .i64 o.tree.bJ,.int .i64 o.tree.seq,.int .i64 o.id.bJ,.int .i64 o.id.seq,eL false 5 wT o.pred,.isl false 0 []]] (some 1))) q wid (bO L) W:=by
   refine A.Q.old rfl ?_ ?_
   ·rw[aN (by simp;omega),aN nq]
   ·rw[aN (by simp;omega),aN nw]
  obtain⟨H,e,Q',U⟩:=YA A2 wf.push.push hw Cu.1 (m:=FI o) (mid:=K.n+1) (e0:=.agg [.int .i64 o.kind,.int .i64 o.tree.bJ,.int .i64 o.tree.seq,.int .i64 o.id.bJ,.int .i64 o.id.seq,eL false 5 wT o.pred,.isl false 0 []]) (cap:=some 1) (by simp[wf.push]) (by
   intro n tag h
   have hF:kG 2 (kA (FI o)):=uB (k:=1) (by
    intro x hx;simp only[List.mem_cons,List.not_mem_nil,or_false]at hx
    rcases hx with rfl|rfl|rfl|rfl|rfl|rfl|rfl<;>first|exact gU _ _|exact dR _ _ _ _)
   exact hF tag h (n+2) (by omega)) (by omega)
  rw[e]
  have o1:=U.old K.n (by simp;omega) (by simp;omega)
  have o2:=U.old nid (by simp;omega) (by simpa using A.nq)
  have k5:¬o.kind=5:=Cu.2
  simp[o1,o2,aN,wf,nK,gn,n3,k5,f10,Nv,turn]
  have U1:=(((Upd.refl wf [q,wid]).push _).push _).trans U
  have hd:gF.drop i=o::gF.drop (i+1):=by
   rw[List.drop_eq_getElem_cons (by omega)]
   congr 1
   exact(List.getElem?_eq_some_iff.1 GO).2
  rw[hd]at cQ
  generalize hF:upd _ 10 _=F
  refine ih (i+1) F H _ (by omega) (by rw[←hF];simp[f0]) (by rw[←hF];simp[f1]) (by rw[←hF];simp[f8]) (by rw[←hF];simp[f9]) (by rw[←hF];simp) (A.upd U1 Q') U.wf (by rw[U1.lim];have:=U1.n;omega) (fun x=>?_) fun F' H' A' U'=>cQ F' H' A' (U1.trans U')
  have h1:=DL W ⟨u,o.to⟩ (FI o) x
  have h2:=hW x
  omega
theorem q64(A:eV h nid bid q wid cr m L B W X)(wf:WF h)(hl:h.lim≤h.n)(t:Bool)(u:Int)(gF:List uS)(hw:(bO L).length≤1000000)(ho:∀o∈gF,(u,o.to)∈bO L∧o.kind≠5)(eN:gF.length≤1000000)(hW:∀x,(W x).length+gF.length≤300000) :
  ∃ H,fc D 64 [.ptr nid 5 0 0,.int .i64 u,eL t 8 nL gF] h=some (.tup [],H)∧eV H nid bid q wid cr m L B (qT u W gF) X∧Upd h H [q,wid] [q,wid]:=by
 rw[e64,aM _ _ _ _ (by simp[t64])]
 simp[t64]
 refine l64 (fun r=>∃ H,fin [] r=some (.tup [],H)∧eV H nid bid q wid cr m L B (qT u W gF) X∧Upd h H [q,wid] [q,wid]) t u gF hw ho eN gF.length 0 _ h W (by simp) (by simp) (by simp) (by simp) (by simp) (by simp) A wf hl hW fun F H A' U=>?_
 exact⟨H,by simp[Z3,aV],A',U⟩
end Go.Dm.Tc
/-
What functions compute,part 36: an advertisement taken back;a broker's side.
-/
namespace Go.Dm.Tc
theorem _root_.Go.Dm.OwnR.wl{lo:Nat}{h:aA}{v:DV}{ety sz:Nat}{xs:List DV}(w:OwnR lo h v ety sz xs){m:Nat}(hm:m≤lo):OwnR lo (Dm.wl h m) v ety sz xs:=by
 cases w with
 | nil hv hx=>exact .nil hv hx
 | arr id sp cap hv hg hl hi=>exact .arr id sp cap hv hg (Nat.le_trans hm hi) hi
end Go.Dm.Tc
/-
Networks,part 10: a broker turned.
-/
namespace Go.Dm.Tc
variable {h:aA} {nid bid q wid:Nat} {cr:DV} {m:Int} {L:List (Int×Int)} {B:List aL} {W:ID→List Msg} {X:List iY}
theorem eV.ext(A:eV h nid bid q wid cr m L B W X){H:aA}(x:Ext h.n h H):eV H nid bid q wid cr m L B W X:=by
 obtain⟨sp,cap,gb⟩:=A.gb
 have gn:=A.gn
 have gq:=A.Q.gq
 obtain⟨ms,gw,_⟩:=A.Q.gw
 refine⟨by rw[x.get _ (aC gn)];exact gn,⟨sp,cap,by rw[x.get _ (aC gb)];exact gb⟩,A.Q.old x.lim (x.get _ (aC gq)) (x.get _ (aC gw)),by rw[x.lim];exact A.ln,by rw[x.lim];exact A.lb,?_⟩
 rw[x.lim];exact A.cx.ext x
theorem q56(A:eV h nid bid q wid cr m L B W X)(wf:WF h)(hl:h.lim≤h.n)(k:Nat){b b':aL}(hb:B[k]?=some b)(f:FuncId)(caps:List DV)(gF:List uS)
  {h1:aA} (gQ:fc D f (aX .none b::caps) h=some (.tup [aX .none b',eL false 8 nL gF],h1)) (x:Ext h.n h h1)
  (hw:(bO L).length≤1000000) (ho:∀o∈gF,((k:Int),o.to)∈bO L∧o.kind≠5) (eN:gF.length≤1000000) (hW:∀x,(W x).length+gF.length≤300000) :
  ∃ H,fc D 56 [.ptr nid 5 0 0,.int .i64 k,.func f caps] h=some (.nili,H)∧eV H nid bid q wid cr m L (B.set k b') (qT k W gF) X∧Upd h H [bid,q,wid] [bid,q,wid]:=by
 have hT:=WB A.R (k:Int)
 have hk:=(List.getElem?_eq_some_iff.1 hb).1
 rw[decide_eq_true ⟨by omega,by omega⟩]at hT
 have gn:=A.gn
 obtain⟨sp,cap,gb⟩:=A.gb
 simp only[Ic]at gn
 have wP:aR 6 (.sl bid 6 0 B.length) (.int .i64 (k:Int))=some (.ptr bid 6 k 0):=by simp[aR,asI,hk]
 have nJ:(B.map (aX .none)++sp)[k]?=some (aX .none b):=by rw[List.getElem?_append_left (by simp;exact hk),List.getElem?_map,hb];rfl
 have ln:=aC gn
 have lb:=aC gb
 have xl:=x.lim
 have xn:=x.le
 have A1:=A.ext x
 have gn1:=A1.gn
 simp only[Ic]at gn1
 have gb1:=(x.get _ lb).trans gb
 have n1:¬nid=h1.n:=by omega
 have n2:¬bid=h1.n:=by omega
 have wf1:=x.wf
 have lb1:=aC gb1
 have Hj:h1.lim≤h1.n:=by omega
 rw[e56,aM _ _ _ _ (by simp[t56])]
 have nb:¬nid=bid:=by rintro rfl;rw[gb1]at gn1;simp at gn1
 have bn:¬bid=nid:=fun e=>nb e.symm
 have llb:=A1.lb
 have n5:¬h1.n=bid:=fun e=>n2 e.symm
 have key:∀{i:Nat} {o:DO},h1.get i=some o→i≠bid→∀(o1 o2:DO),((h1.set bid o1).push o2).get i=some o:=fun g cS o1 o2=>by
  have:=aC g
  rw[aN (by simp;omega),aT lb1 cS];exact g
 have A2:eV ((h1.set bid (.arr 31 6 ((B.map (aX .none)++sp).set k (aX .none b')) cap)).push (.arr 31 6 [aX .none b'] (some 1))) nid bid q wid cr m L (B.set k b') W X:=by
  have qq:=A1.Q.gq
  obtain⟨ms,qw,_⟩:=A1.Q.gw
  have hqb:q≠bid:=by rintro rfl;rw[gb1]at qq;simp[qO]at qq
  have hwb:wid≠bid:=by rintro rfl;rw[gb1]at qw;simp at qw
  refine⟨?_,⟨sp,cap,?_⟩,A1.Q.old rfl ?_ ?_,A1.ln,A1.lb,?_⟩
  ·simp only[List.length_set];exact key A1.gn nb _ _
  ·rw[aN (by simp;omega),cN wf1 gb1,List.set_append_left _ _ (by simp;exact hk),List.map_set]
  ·rw[key qq hqb,qq]
  ·rw[key qw hwb,qw]
  ·cases A1.cx with
   | nil hv hx=>exact .nil hv hx
   | arr id sp2 cap2 hv hg Vj hi=>exact .arr id sp2 cap2 hv (key hg (by rintro rfl;rw[gb1]at hg;simp at hg) _ _) Vj hi
 obtain⟨H,e,A3,U⟩:=q64 A2 (wf1.set.push) (by simp;omega) false (k:Int) gF hw ho eN hW
 simp[t56,hT,gn,gb,n1,n2,wP,nJ,gQ,gn1,gb1,Hj,llb,lb1,nb,bn,n5,e]
 refine⟨A3,⟨by have:=U.n;simp at this;omega,by rw[U.lim];simpa using xl,U.wf,fun i hi hn=>?_,fun i hi=>.inl hi⟩⟩
 simp only[List.mem_cons,List.not_mem_nil,or_false,not_or]at hn
 rw[U.old i (by simp;omega) (by simp;exact hn.2),aN (by simp;omega),aT lb1 hn.1,x.get i hi]
end Go.Dm.Tc
/-
Networks,part 11: an advertisement Cr at a broker.
-/
namespace Go.Dm.Tc
variable {h:aA} {nid bid q wid:Nat} {cr:DV} {m:Int} {L:List (Int×Int)} {B:List aL} {W:ID→List Msg} {X:List iY}
end Go.Dm.Tc
/-
Networks,part 12: an advertisement taken back at a broker.
-/
namespace Go.Dm.Tc
variable {h:aA} {nid bid q wid:Nat} {cr:DV} {m:Int} {L:List (Int×Int)} {B:List aL} {W:ID→List Msg} {X:List iY}
end Go.Dm.Tc
/-
Networks,part 13: a link picked.
-/
namespace Go.Dm.Tc
variable {h:aA} {nid bid q wid:Nat} {cr:DV} {m:Int} {L:List (Int×Int)} {B:List aL} {W:ID→List Msg} {X:List iY}
theorem q22(A:eV h nid bid q wid cr m L B W X)(wf:WF h)(hl:h.lim≤h.n)(u:Int)(k:Nat){b b':aL}(hb:B[k]?=some b){ms:Msg}{r:List Msg}(hm:W ⟨u,k⟩=ms::r)(gF:List uS)
  (hs:pcF D t63 [aX .none b,.int .i64 u,kA ms]=some (.tup [aX .none b',eL false 8 nL gF,.isl false 0 []]))
  (hw:(bO L).length≤1000000) (ho:∀o∈gF,((k:Int),o.to)∈bO L∧o.kind≠5) (eN:gF.length≤1000000) (hW:∀x,(W x).length+gF.length≤300000) :
  ∃ H,fc D 22 [.ptr nid 5 0 0,.int .i64 u,.int .i64 k] h=some (.tup [.isl false 0 [],.nili],H)∧eV H nid bid q wid cr m L (B.set k b') (qT k (vY W ⟨u,k⟩ r) gF) X∧Upd h H [bid,q,wid] [bid,q,wid]:=by
 obtain⟨h1,e1,Q1,U1⟩:=q62 A.Q wf hm
 have A1:=A.upd U1 Q1
 have hk:=(List.getElem?_eq_some_iff.1 hb).1
 have gn:=A.gn
 have gn1:=A1.gn
 obtain⟨sp,cap,gb1⟩:=A1.gb
 simp only[Ic]at gn gn1
 have wP:aR 6 (.sl bid 6 0 B.length) (.int .i64 (k:Int))=some (.ptr bid 6 k 0):=by simp[aR,asI,hk]
 have nJ:(B.map (aX .none)++sp)[k]?=some (aX .none b):=by rw[List.getElem?_append_left (by simp;exact hk),List.getElem?_map,hb];rfl
 have ln1:=aC gn1
 have lb1:=aC gb1
 have n1:¬nid=h1.n:=by omega
 have n2:¬bid=h1.n:=by omega
 have n3:¬nid=h1.n+1:=by omega
 have n4:¬bid=h1.n+1:=by omega
 have Hj:h1.lim≤h1.n:=by rw[U1.lim];have:=U1.n;omega
 simp only[kA]at e1 hs
 have Vj:h1.lim≤h1.n+1:=by omega
 have llb:=A1.lb
 have nb:¬nid=bid:=by rintro rfl;rw[gb1]at gn1;simp at gn1
 have lb2:bid<h1.n+1:=by omega
 have wf1:=U1.wf
 have key:∀{i:Nat} {o:DO},h1.get i=some o→i≠bid→∀(o1 o2 o3:DO),(((h1.set bid o1).push o2).push o3).get i=some o:=fun g cS o1 o2 o3=>by
  have:=aC g
  rw[aN (by simp;omega),aN (by simp;omega),aT lb1 cS];exact g
 have A2:eV (((h1.set bid (.arr 31 6 ((B.map (aX .none)++sp).set k (aX .none b')) cap)).push (.arr 52 7 [.agg [.int .i64 ms.kind,.int .i64 ms.tree.bJ,.int .i64 ms.tree.seq,.int .i64 ms.id.bJ,.int .i64 ms.id.seq,fG ms.pred,eL false 4 MW ms.HQ]] (some 1))).push (.arr 31 6 [aX .none b'] (some 1))) nid bid q wid cr m L (B.set k b') (vY W ⟨u,k⟩ r) X:=by
  have qq:=A1.Q.gq
  obtain⟨mm,qw,_⟩:=A1.Q.gw
  have hqb:q≠bid:=by rintro rfl;rw[gb1]at qq;simp[qO]at qq
  have hwb:wid≠bid:=by rintro rfl;rw[gb1]at qw;simp at qw
  refine⟨?_,⟨sp,cap,?_⟩,A1.Q.old rfl ?_ ?_,A1.ln,A1.lb,?_⟩
  ·simp only[List.length_set];exact key A1.gn nb _ _ _
  ·rw[aN (by simp;omega),aN (by simp;omega),cN wf1 gb1,List.set_append_left _ _ (by simp;exact hk),List.map_set]
  ·rw[key qq hqb,qq]
  ·rw[key qw hwb,qw]
  ·cases A1.cx with
   | nil hv hx=>exact .nil hv hx
   | arr id sp2 cap2 hv hg Vj hi=>exact .arr id sp2 cap2 hv (key hg (by rintro rfl;rw[gb1]at hg;simp at hg) _ _ _) Vj hi
 obtain⟨H,e,A3,U⟩:=q64 A2 (wf1.set.push.push) (by simp;omega) false (k:Int) gF hw ho eN (fun x=>by
  have:=hW x
  simp only[vY];split
  ·rename_i hx;subst hx;rw[hm]at this;simp at this;omega
  ·exact this)
 rw[e22,aM _ _ _ _ (by simp[t22])]
 simp[t22,gn,e1,gn1,gb1,n1,n2,n3,n4,wP,nJ,e63,hs,Hj,Vj,llb,lb1,lb2,nb,e,aV,turn,qY,Gc]
 refine⟨A3,⟨by have:=U.n;have:=U1.n;simp at *;omega,by rw[U.lim];simpa using U1.lim,U.wf,fun i hi hn=>?_,fun i hi=>.inl hi⟩⟩
 simp only[List.mem_cons,List.not_mem_nil,or_false,not_or]at hn
 have:=U1.n
 rw[U.old i (by simp;omega) (by simp;exact hn.2),aN (by simp;omega),aN (by simp;omega),aT lb1 hn.1,U1.old i hi (by simp;exact hn.2)]
end Go.Dm.Tc
/-
Networks,part 14: where something waits;the graph.
-/
namespace Go.Dm.Tc
variable {h:aA} {nid bid q wid:Nat} {cr:DV} {m:Int} {L:List (Int×Int)} {B:List aL} {W:ID→List Msg} {X:List iY}
theorem QX(A:eV h nid bid q wid cr m L B W X){v:DV}{H:aA}(hq:fc D 59 [.ptr q 2 0 0] h=some (v,H)):fc D 20 [.ptr nid 5 0 0] h=some (v,H):=by
 have gn:=A.gn
 simp only[Ic]at gn
 rw[e20,aM _ _ _ _ (by simp[t20])]
 simp[t20,gn,hq,turn,aV]
theorem q65(A:eV h nid bid q wid cr m L B W X)(wf:WF h)(hl:h.lim≤h.n)(hL:L.length≤1000000):∃ H,fc D 65 [.ptr nid 5 0 0] h=some (.agg [.int .i64 m,eL false 2 aQ L],H)∧Ext h.n h H:=by
 have ln:=aC A.gn
 have n1:¬nid=h.n:=by omega
 have gn:=A.gn
 simp only[Ic]at gn
 have hc:=s53 false m L hL
 have hf:∀h,resolve true h 199 (eL false 2 aQ L)=some (eL false 2 aQ L):=fun h=>dR _ _ _ _ true h 199 (by decide)
 rw[e65,aM _ _ _ _ (by simp[t65])]
 simp[t65,gn,n1,hl,wf,e53,hc,hf,turn,aV]
 exact(Ext.refl (Nat.le_refl _) wf).push
end Go.Dm.Tc
/-
Floods at a broker uW own subscriptions: an advertisement comes,or its end;what a link's message does then;asked of the network.
-/
namespace Go.Dm.Tc
theorem _root_.Go.Dm.OwnR.wl0{lo:Nat}{h:aA}{v:DV}{ety sz:Nat}{xs:List DV}(w:OwnR lo h v ety sz xs){m:Nat}(hm:m≤lo):OwnR lo (Dm.wl h m) v ety sz xs:=by
 cases w with
 | nil hv hx=>exact .nil hv hx
 | arr id sp cap hv hg hl hi=>exact .arr id sp cap hv hg (Nat.le_trans hm hi) hi
structure Hg(b:aL):Prop where
 z:zS b
 ra:dO (b.aW.map (·.id))
 rs:dO b.seen
 own:b.jZ=[]
def lQ(b:aL)(lG:Int)(x:ID)(p:dY):aL×List uS :=
 if x∈b.seen then(b,[])else((dG b ⟨x,p,lG⟩).1,lJ b.bD lG 1 x.bJ x.seq 0 0 p)
def pX(b:aL)(lG:Int)(x:ID):aL×List uS :=
 if(fJ b x lG).2=true then((fJ b x lG).1,lJ b.bD lG 2 x.bJ x.seq 0 0 [])else(b,[])
theorem NU(b:aL)(xc xd lG:Int)(p:dY)(g:Hg b) :
  pcF D t58 [aX .none b,.int .i64 lG,.agg [.int .i64 xc,.int .i64 xd],fG p]=some (.tup [aX .none (lQ b lG ⟨xc,xd⟩ p).1,eL false 8 nL (lQ b lG ⟨xc,xd⟩ p).2]):=by
 have hlearn:=s6 .none b xc xd p lG g.z g.ra g.rs
 unfold pcF
 rw[aM _ _ _ _ (by simp[t58])]
 by_cases hq:(⟨xc,xd⟩:ID)∈b.seen
 ·have hb:dG b ⟨⟨xc,xd⟩,p,lG⟩=(b,false):=by simp[dG,hq]
  rw[hb]at hlearn
  simp[t58,e6,hlearn,turn,aV,sK,lQ,hq]
 ·have hb:(dG b ⟨⟨xc,xd⟩,p,lG⟩).2=true:=by simp[dG,hq]
  have hnear:(dG b ⟨⟨xc,xd⟩,p,lG⟩).1.bD=b.bD:=by unfold dG;split<;>rfl
  have howns:b.jZ=[]:=g.own
  rw[hb]at hlearn
  simp[t58,e6,hlearn,turn,lQ,hq]
  generalize hA:fc D _ _ _=A
  obtain⟨v1,K,rfl,o1,x1⟩:=WA hA (by have:=g.z.bD;first|omega|(rw[hnear];omega)) (by simp) (by simp)
  clear hA
  have a0:=x1.get 0 (by simp)
  have a1:=x1.get 1 (by simp)
  have a2:=x1.get 2 (by simp)
  have a3:=x1.get 3 (by simp)
  have al:=x1.lim
  simp at a0 a1 a2 a3 al o1
  try simp only[hnear]at o1
  have eW:=xA (but:=lG) (k:=1) (tc:=xc) (td:=xd) (ic:=0) (id:=0) (pd:=fG p) (ad:=.nsl) (.inl rfl) (.inl rfl) b.bD
  have hn:=x1.le
  simp at hn
  have l2:2<K.n:=by omega
  have r1:∀o,resolve false (K.set 2 o) 199 v1=some (eL false 8 nL (lJ b.bD lG 1 xc xd 0 0 p)):=fun o=>J7 (o1.aS (o:=o) x1.wf (by decide) l2) eW false (by decide)
  have hu:bA 199 (eL false 8 nL (lJ b.bD lG 1 xc xd 0 0 p))=true:=kP (fun y _=>(vB y).2) 199 (by decide)
  simp[a0,a3,howns]
  rw[aG NL.eq_1]
  simp[NM,a2,a3,al,l2,x1.wf,turn,aV,r1,hu,howns]
theorem VU(b:aL)(xc xd lG:Int)(g:Hg b) :
  pcF D t61 [aX .none b,.int .i64 lG,.agg [.int .i64 xc,.int .i64 xd]]=some (.tup [aX .none (pX b lG ⟨xc,xd⟩).1,eL false 8 nL (pX b lG ⟨xc,xd⟩).2]):=by
 have hf:=XU .none b xc xd lG g.z g.ra
 have hnear:(fJ b ⟨xc,xd⟩ lG).1.bD=b.bD:=by
  unfold fJ
  repeat' split
  all_goals rfl
 unfold pcF
 rw[aM _ _ _ _ (by simp[t61])]
 cases hq:(fJ b ⟨xc,xd⟩ lG).2 with
 | false =>
  have ha:pX b lG ⟨xc,xd⟩=(b,[]):=by simp[pX,hq]
  have hb:(fJ b ⟨xc,xd⟩ lG).1=b:=by
   unfold fJ at hq ⊢
   split
   ·rfl
   ·rename_i a he
    rw[he]at hq
    simp only at hq
    split
    ·rename_i hs;rw[if_pos hs]at hq;cases hq
    ·rfl
  rw[hq,hb]at hf
  rw[ha]
  simp[t61,WU,hf,turn,aV,sK]
 | true =>
  have ha:pX b lG ⟨xc,xd⟩=((fJ b ⟨xc,xd⟩ lG).1,lJ b.bD lG 2 xc xd 0 0 []):=by simp[pX,hq]
  rw[hq]at hf
  rw[ha]
  simp[t61,WU,hf,turn,aV]
  generalize hA:fc D _ _ _=A
  obtain⟨v1,K,rfl,o1,x1⟩:=WA hA (by have:=g.z.bD;first|omega|(rw[hnear];omega)) (by simp) (by simp)
  clear hA
  have a0:=x1.get 0 (by simp)
  have a1:=x1.get 1 (by simp)
  have a2:=x1.get 2 (by simp)
  have al:=x1.lim
  simp at a0 a1 a2 al o1
  try simp only[hnear]at o1
  have eW:=xA (but:=lG) (k:=2) (tc:=xc) (td:=xd) (ic:=0) (id:=0) (pd:=.nsl) (ad:=.nsl) (p:=[]) (.inr ⟨rfl,rfl⟩) (.inl rfl) b.bD
  have hn:=x1.le
  simp at hn
  have l2:2<K.n:=by omega
  have r1:∀o,resolve false (Dm.wl (K.set 2 o) 0) 199 v1=some (eL false 8 nL (lJ b.bD lG 2 xc xd 0 0 [])):=fun o=>J7 ((o1.aS (o:=o) x1.wf (by decide) l2).wl0 (Nat.zero_le _)) eW false (by decide)
  have hu:bA 199 (eL false 8 nL (lJ b.bD lG 2 xc xd 0 0 []))=true:=kP (fun y _=>(vB y).2) 199 (by decide)
  simp[a0,a1,a2,al,l2,x1.wf,turn,aV,r1,hu]
theorem JZ(b:aL)(q tc td sc sd:Int)(p:dY)(g:Hg b) :
  pcF D t63 [aX .none b,.int .i64 q,.agg [.int .i64 1,.int .i64 tc,.int .i64 td,.int .i64 sc,.int .i64 sd,fG p,.isl false 0 []]]=some (.tup [aX .none (lQ b q ⟨tc,td⟩ p).1,eL false 8 nL (lQ b q ⟨tc,td⟩ p).2,.isl false 0 []]):=by
 have h1:=NU b tc td q p g
 have hu2:∀os:List uS,bA 199 (eL false 8 nL os)=true:=fun os=>kP (fun y _=>(vB y).2) 199 (by decide)
 unfold pcF
 rw[aM _ _ _ _ (by simp[t63])]
 simp[t63,e58,h1,turn,aV,hu2]
theorem JY(b:aL)(q tc td sc sd:Int)(p:dY)(g:Hg b) :
  pcF D t63 [aX .none b,.int .i64 q,.agg [.int .i64 2,.int .i64 tc,.int .i64 td,.int .i64 sc,.int .i64 sd,fG p,.isl false 0 []]]=some (.tup [aX .none (pX b q ⟨tc,td⟩).1,eL false 8 nL (pX b q ⟨tc,td⟩).2,.isl false 0 []]):=by
 have h2:=VU b tc td q g
 have hu2:∀os:List uS,bA 199 (eL false 8 nL os)=true:=fun os=>kP (fun y _=>(vB y).2) 199 (by decide)
 unfold pcF
 rw[aM _ _ _ _ (by simp[t63])]
 simp[t63,e61,h2,turn,aV,hu2]
variable {h:aA} {nid bid q wid:Nat} {cr:DV} {m:Int} {L:List (Int×Int)} {B:List aL} {W:ID→List Msg} {X:List iY}
theorem Tk(h:aA):fP h .nsl=some (.nsl,h):=_root_.id rfl
def D6(pv:DV)(p:dY):Prop:=(pv=.nsl∧p=[])∨pv=eL false 5 wT p
theorem VY(b:aL)(xc xd:Int){pv:DV}{p:dY}(hv:D6 pv p)(g:Hg b)(h:aA)(i1 i2:Nat)(wf:WF h)(hl:h.lim≤h.n)(e1 e2:Nat)
  (g1:h.get i1=some (.arr e1 2 [.agg [.int .i64 xc,.int .i64 xd]] (some 1))) (g2:h.get i2=some (.arr e2 1 [pv] (some 1))) :
  ∃ H,fc D 57 [aX .none b,.ptr i1 2 0 0,.ptr i2 1 0 0] h=some (.tup [aX .none (lQ b (-1) ⟨xc,xd⟩ p).1,eL false 8 nL (lQ b (-1) ⟨xc,xd⟩ p).2],H)∧Ext h.n h H:=by
 have hF:=NU b xc xd (-1) p g
 have l1:=aC g1
 have l2:=aC g2
 have m1:¬i1=h.n:=by omega
 have m2:¬i2=h.n:=by omega
 have m3:¬i1=h.n+1:=by omega
 have m4:¬i2=h.n+1:=by omega
 rw[e57,aM _ _ _ _ (by simp[t57])]
 simp only[fG]at hF
 have Hj:h.lim≤h.n+1:=by omega
 rcases hv with⟨rfl,rfl⟩|rfl
 ·rw[show eL false 5 wT ([]:dY)=DV.isl false 0 []from rfl]at hF
  simp[t57,g1,g2,m1,m2,m3,m4,e58,hF,hl,Hj,wf,turn,Tk,aV]
  exact((Ext.refl (Nat.le_refl _) wf).push).push
 ·simp[t57,g1,g2,m1,m2,m3,m4,e58,hF,hl,Hj,wf,turn,Tk,aV]
  exact((Ext.refl (Nat.le_refl _) wf).push).push
theorem VZ(A:eV h nid bid q wid cr m L B W X)(wf:WF h)(hl:h.lim≤h.n)(k:Nat){b:aL}(hb:B[k]?=some b)(xc xd:Int){pv:DV}{p:dY}(hv:D6 pv p)(g:Hg b)
  (hw:(bO L).length≤1000000) (ho:∀o∈(lQ b (-1) ⟨xc,xd⟩ p).2,((k:Int),o.to)∈bO L∧o.kind≠5) (eN:(lQ b (-1) ⟨xc,xd⟩ p).2.length≤1000000) (hW:∀x,(W x).length+(lQ b (-1) ⟨xc,xd⟩ p).2.length≤300000) :
  ∃ H,fc D 19 [.ptr nid 5 0 0,.int .i64 k,.agg [.int .i64 xc,.int .i64 xd],pv] h=some (.nili,H)∧eV H nid bid q wid cr m L (B.set k (lQ b (-1) ⟨xc,xd⟩ p).1) (qT k W (lQ b (-1) ⟨xc,xd⟩ p).2) X∧Upd h H [bid,q,wid] [bid,q,wid]:=by
 have st:aO 1 pv=true:=by rcases hv with⟨rfl,rfl⟩|rfl<;>simp
 have ec:aF 1 pv=[pv]:=by rcases hv with⟨rfl,rfl⟩|rfl<;>simp
 have x:Ext h.n h ((h.push (.arr 24 2 [.agg [.int .i64 xc,.int .i64 xd]] (some 1))).push (.arr 35 1 [pv] (some 1))):=((Ext.refl (Nat.le_refl _) wf).push).push
 obtain⟨h1,e1,x1⟩:=VY b xc xd hv g _ h.n (h.n+1) x.wf (by have:=x.lim;have:=x.le;simp;omega) 24 35 (by simp[wf]) (by simp[wf])
 obtain⟨H,e2,A2,U⟩:=q56 (A.ext x) x.wf (by have:=x.lim;simp;omega) k hb _ _ _ e1 x1 hw ho eN hW
 rw[e19,aM _ _ _ _ (by simp[t19])]
 simp[t19,st,ec,e2,turn,aV]
 exact⟨A2,(((Upd.refl wf _).push _).push _).trans U⟩
end Go.Dm.Tc
/-
Networks,part 15: the parents of an advertisement.
-/
namespace Go.Dm.Tc
variable {h:aA} {nid bid q wid:Nat} {cr:DV} {m:Int} {L:List (Int×Int)} {B:List aL} {W:ID→List Msg} {X:List iY}
def wM(x:ID)(b:aL):Int:=match b.aW.find? (fun a=>a.id=x)with|some a=>a.eG|none=>-2
theorem l23(P:Res→Prop)(x:ID)(hB:(B.length:Int)=m)(hm:B.length≤1000)(hz:∀b∈B,zS b∧dO (b.aW.map (·.id)))(gid:Nat)(K0:aA)(A0:eV K0 nid bid q wid cr m L B W X)(X9:K0.lim≤K0.n)(gg0:K0.get gid=some (.arr 24 2 [.agg [.int .i64 x.bJ,.int .i64 x.seq]] (some 1))) :
  ∀(k i:Nat) (f:dV) (K:aA) (v:DV),i+k=B.length→f 0=.ptr nid 5 0 0→f 3=.ptr gid 2 0 0→f 5=v→f 12=.int .i64 m→f 13=.int .i64 i→Ext K0.n K0 K→OwnR K0.n K v 3 1 (((B.take i).map (wM x)).map bF) →
  (∀F H v',F 5=v'→Ext K0.n K0 H→OwnR K0.n H v' 3 1 ((B.map (wM x)).map bF)→P (run D 33 [] G6 F H)) →
  P (run D 33 [.block 0,.seq G6] (.loop G5) f K):=by
 intro k
 induction k with
 | zero =>
  intro i f K v hi f0 f3 f5 f12 f13 xx ow cQ
  have:¬((i:Int)<m):=by omega
  rw[aG G5.eq_1]
  simp[f12,f13,this]
  rw[List.take_of_length_le (by omega)]at ow
  exact cQ _ _ v (by simp[f5]) xx ow
 | succ k ih =>
  intro i f K v hi f0 f3 f5 f12 f13 xx ow cQ
  have A:=A0.ext xx
  have wf:=xx.wf
  have lK:=xx.lim
  have nK:=xx.le
  have hl:K.lim≤K.n:=by omega
  have gg:=(xx.get gid (aC gg0)).trans gg0
  have aZ:(i:Int)<m:=by omega
  have Nv:IntKind.i64.wrap ((i:Int)+1)=(i:Int)+1:=bC (by omega) (by omega)
  obtain⟨b,hb⟩:∃ b,B[i]?=some b:=⟨_,List.getElem?_eq_getElem (by omega)⟩
  obtain⟨z,ra⟩:=hz b (List.mem_of_getElem? hb)
  have OB:max K.n K.lim=K.n:=by omega
  obtain⟨v1,v2,v3,v4,v5,K1,e1,hh,x1⟩:=q67 (h:=wl K K.n) (nid:=nid) (bid:=bid) (q:=q) (cr:=cr) (m:=m) (L:=L) (B:=B) ⟨A.gn,A.gb⟩ wf (Nat.le_refl _) i hb z
  have gg1:=(x1.get gid (aC gg)).trans gg
  have xl:=x1.lim
  have xn:=x1.le
  simp at xl xn
  rw[aG G5.eq_1]
  have cD:K.lim≤K.n:=hl
  have Oc:K.lim≤K0.n:=by omega
  have q1:resolve true (wl K1 K.lim) 199 v1=_:=(hh.r1.wl0 cD).resolve (n:=199) true (fun y _=>(dD y).1) (by decide)
  have q2:resolve true (wl K1 K.lim) 199 v2=_:=(hh.r2.wl0 cD).resolve (n:=199) true (fun y _=>(fI y).1) (by decide)
  have q3:resolve true (wl K1 K.lim) 199 v3=_:=(hh.r3.wl0 cD).resolve (n:=199) true (fun y _=>(jO y).1) (by decide)
  have q4:resolve true (wl K1 K.lim) 199 v4=_:=(hh.r4.wl0 cD).resolve (n:=199) true (fun y _=>(fK y).1) (by decide)
  have q5:resolve true (wl K1 K.lim) 199 v5=_:=(hh.r5.wl0 cD).resolve (n:=199) true (fun y _=>(jA y).1) (by decide)
  have hF:pcF D t66 [.agg [.int .i64 b.me,eL true 1 bF b.bD,eL true 4 aH b.aW,eL true 2 eID b.seen,eL true 7 bQ b.entries,eL true 3 oV b.jZ],.agg [.int .i64 x.bJ,.int .i64 x.seq]]=some (.tup [aH ((b.aW.find? fun a=>a.id=x).getD vU),.bool (Y5 (b.aW.find? fun a=>a.id=x))]) :=
   s66 (.int .i64 b.me) (eL true 1 bF b.bD) (eL true 2 eID b.seen) (eL true 7 bQ b.entries) (eL true 3 oV b.jZ) true b.aW x.bJ x.seq ra (by have:=z.adv;omega) ((gU _ _).mono (by decide)) ((dR _ _ _ _).mono (by decide)) ((dR _ _ _ _).mono (by decide)) ((dR _ _ _ _).mono (by decide)) ((dR _ _ _ _).mono (by decide))
  have wf1:WF K1:=x1.wf
  have xK:Ext K.n K (wl K1 K.lim):=⟨x1.le,rfl,fun id eF=>x1.get id eF,wf1⟩
  have Sz:K.lim≤K1.n:=by omega
  have A1:=(A.ext xK)
  have bY:(B.take i).length=i:=by rw[List.length_take];omega
  have SC:(B.take (i+1)).map (wM x)=(B.take i).map (wM x)++[wM x b]:=by
   rw[List.take_succ,hb];simp
  have Fm:∀o,b.aW.find? (fun a=>a.id=x)=o→wM x b=(match o with|some a=>a.eG|none=>-2):=fun o e=>by rw[←e];rfl
  generalize b.aW.find? (fun a=>a.id=x)=o at hF Fm
  have Fm:=Fm o rfl
  cases o with
  | none =>
   simp only[Y5]at hF
   simp only at Fm
   simp[f0,f3,f5,f12,f13,aZ,OB,e1,gg,gg1,turn,e66,q1,q2,q3,q4,q5,hF,xl,vU,aH,wf1,Sz]
   generalize hA:bB _ _ _ _ _ _=A
   obtain⟨v',H,rfl,zY,oH,_⟩:=OwnR.append (((ow.ext xK).push).push) xK.wf.push.push (by simp;omega) (by simp;omega) hA (by simp;omega) (by decide)
   clear hA
   have xH:Ext K0.n K0 H:=xx.trans (((xK.push.push).lower nK).trans oH)
   simp[f13,Nv]
   generalize hF':upd _ 13 _=F
   refine ih (i+1) F H v' (by omega) (by rw[←hF'];simp[f0]) (by rw[←hF'];simp[f3]) (by rw[←hF'];simp) (by rw[←hF'];simp[f12]) (by rw[←hF'];simp) xH ?_ cQ
   rw[SC,List.map_append,Fm]
   simpa[bF]using zY
  | some a =>
   simp only[Y5]at hF
   simp only at Fm
   simp[f0,f3,f5,f12,f13,aZ,OB,e1,gg,gg1,turn,e66,q1,q2,q3,q4,q5,hF,xl,aH,wf1,Sz]
   generalize hA:bB _ _ _ _ _ _=A
   obtain⟨v',H,rfl,zY,oH,_⟩:=OwnR.append (((ow.ext xK).push).push) xK.wf.push.push (by simp;omega) (by simp;omega) hA (by simp;omega) (by decide)
   clear hA
   have xH:Ext K0.n K0 H:=xx.trans (((xK.push.push).lower nK).trans oH)
   simp[f13,Nv]
   generalize hF':upd _ 13 _=F
   refine ih (i+1) F H v' (by omega) (by rw[←hF'];simp[f0]) (by rw[←hF'];simp[f3]) (by rw[←hF'];simp) (by rw[←hF'];simp[f12]) (by rw[←hF'];simp) xH ?_ cQ
   rw[SC,List.map_append,Fm]
   simpa[bF]using zY
theorem q23(x:ID)(hB:(B.length:Int)=m)(hm:B.length≤1000)(hz:∀b∈B,zS b∧dO (b.aW.map (·.id)))(A:eV h nid bid q wid cr m L B W X)(wf:WF h)(hl:h.lim≤h.n)(hL:L.length≤1000000) :
  ∃ v H,fc D 23 [.ptr nid 5 0 0,.agg [.int .i64 x.bJ,.int .i64 x.seq]] h=some (v,H)∧OwnR h.n H v 3 1 ((B.map (wM x)).map bF)∧Ext h.n h H:=by
 have xp:Ext h.n h (h.push (.arr 24 2 [.agg [.int .i64 x.bJ,.int .i64 x.seq]] (some 1))):=(Ext.refl (Nat.le_refl _) wf).push
 obtain⟨H1,e1,x1⟩:=q65 (A.ext xp) xp.wf (by simp;omega) hL
 have xH:=xp.trans (x1.lower (by simp))
 rw[e23,aM _ _ _ _ (by simp[t23])]
 simp[t23,e1,-List.map_map]
 generalize hF:upd _ 13 _=F
 refine l23 (fun r=>∃ v H,fin [.t 4] r=some (v,H)∧OwnR h.n H v 3 1 ((B.map (wM x)).map bF)∧Ext h.n h H) x hB hm hz h.n H1 (A.ext xH) (by rw[xH.lim];have:=xH.le;omega) ((x1.get h.n (by simp)).trans (by simp)) B.length 0 F H1 .nsl (by omega) (by rw[←hF];simp) (by rw[←hF];simp) (by rw[←hF];simp) (by rw[←hF];simp) (by rw[←hF];simp) (Ext.refl (Nat.le_refl _) xH.wf) (.nil rfl rfl) fun F' H' v' k1 k2 k3=>?_
 exact⟨v',H',by simp[G6,k1],k3.lower xH.le,xH.trans (k2.lower xH.le)⟩
end Go.Dm.Tc
/-
Floods,plain: what waits and what is known while one advertisement spreads and is taken back.
-/
namespace Go.Dm.Tc
inductive FS where
 | fresh
 | has (q:Int)
 | gone (q:Int)
 deriving DecidableEq
def FS.sent:FS→Int→List Bool
 | .fresh,_=>[]
 | .has q,v=>if v=q then[]else[true]
 | .gone q,v=>if v=q then[]else[true,false]
structure FlI(m:Int)(L:List (Int×Int))(r:Int)(s:Int→FS)(W:Int→Int→List Bool)(con:Int→Int→Nat)(d:Int→Nat):Prop where
 root:s r=.has (-1)∨s r=.gone (-1)
 rng:∀v,s v≠.fresh→0≤v∧v<m
 par:∀v q,(s v=.has q∨s v=.gone q)→(q=-1∧v=r)∨(cI m L q v=true∧s q≠.fresh∧d q<d v)
 now:∀v q,s v=.has q→q≠-1→con q v=1
 wt:∀u v,W u v=if cI m L u v=true then((s u).sent v).drop (con u v)else[]
 cl:∀u v,con u v≤if cI m L u v=true then((s u).sent v).length else 0
 got:∀u v,1≤con u v→s v≠.fresh
def eQ(s:Int→FS)(v:Int)(x:FS):Int→FS:=fun y=>if y=v then x else s y
def lI(con:Int→Int→Nat)(u v:Int):Int→Int→Nat:=fun a b=>if a=u∧b=v then con a b+1 else con a b
def XH(m:Int)(L:List (Int×Int))(W W':Int→Int→List Bool)(u v:Int)(rest:List Bool)(tell:Int→List Bool):Prop :=
 ∀a b,W' a b=(if a=u∧b=v then rest else W a b)++(if a=v∧cI m L v b=true∧b≠u then tell b else[])
variable {m:Int} {L:List (Int×Int)} {r:Int} {s:Int→FS} {W W':Int→Int→List Bool} {con:Int→Int→Nat} {d:Int→Nat}
theorem Ti{a b:Int}(h:cI m L a b=true):a≠b:=(eC h).2.2
theorem FlI.start(hr:0≤r∧r<m):FlI m L r (eQ (fun _=>.fresh) r (.has (-1))) (fun u v=>if u=r∧cI m L r v=true then[true]else[]) (fun _ _=>0) (fun _=>0):=by
 refine⟨.inl (by simp[eQ]),fun v h=>?_,fun v q h=>?_,fun v q h hq=>?_,fun u v=>?_,fun u v=>Nat.zero_le _,fun u v h=>absurd h (by decide)⟩
 ·by_cases e:v=r
  ·rw[e];exact hr
  ·simp[eQ,e]at h
 ·by_cases e:v=r
  ·simp[eQ,e]at h;exact .inl ⟨h.symm,e⟩
  ·simp[eQ,e]at h
 ·by_cases e:v=r
  ·simp[eQ,e]at h;exact absurd h.symm hq
  ·simp[eQ,e]at h
 ·by_cases e:u=r
  ·subst e
   by_cases hl:cI m L u v=true
   ·have:=(eC hl).2.1
    have hv:¬v=-1:=by omega
    simp[eQ,hl,FS.sent,hv]
   ·simp[hl]
  ·simp[eQ,e,FS.sent]
theorem FlI.head(I:FlI m L r s W con d){u v:Int}{k:Bool}{rest:List Bool}(h:W u v=k::rest) :
  cI m L u v=true∧rest=((s u).sent v).drop (con u v+1)∧((k=true∧con u v=0∧s u≠.fresh)∨(k=false∧con u v=1∧rest=[]∧∃ q,s u=.gone q∧v≠q)):=by
 have hw:=I.wt u v
 rw[h]at hw
 split at hw
 ·rename_i hl
  have hd:rest=((s u).sent v).drop (con u v+1):=by
   rw[←List.drop_drop,←hw];rfl
  refine⟨hl,hd,?_⟩
  cases hs:s u with
  | fresh=>rw[hs]at hw;simp[FS.sent]at hw
  | has q =>
   rw[hs]at hw
   by_cases hv:v=q
   ·simp[FS.sent,hv]at hw
   ·simp only[FS.sent,if_neg hv]at hw
    have hc:con u v=0:=by
     rcases Nat.eq_zero_or_pos (con u v)with h0|h0
     ·exact h0
     ·obtain⟨j,hj⟩:∃ j,con u v=j+1:=⟨con u v-1,by omega⟩
      rw[hj]at hw;simp at hw
    rw[hc]at hw
    simp only[List.drop_zero,List.cons.injEq]at hw
    exact .inl ⟨hw.1,hc,by simp⟩
  | gone q =>
   rw[hs]at hw
   by_cases hv:v=q
   ·simp[FS.sent,hv]at hw
   ·simp only[FS.sent,if_neg hv]at hw
    rcases Nat.eq_zero_or_pos (con u v)with h0|h0
    ·rw[h0]at hw
     simp only[List.drop_zero,List.cons.injEq]at hw
     exact .inl ⟨hw.1,h0,by simp⟩
    ·obtain⟨j,hj⟩:∃ j,con u v=j+1:=⟨con u v-1,by omega⟩
     rw[hj]at hw
     rcases Nat.eq_zero_or_pos j with h1|h1
     ·subst h1
      simp at hw
      exact .inr ⟨hw.1,by omega,hw.2,q,rfl,hv⟩
     ·obtain⟨i,hi⟩:∃ i,j=i+1:=⟨j-1,by omega⟩
      subst hi;simp at hw
 ·cases hw
theorem FlI.up(I:FlI m L r s W con d){v q:Int}(h:s v=.has q∨s v=.gone q):s q≠.has v∧s q≠.gone v:=by
 have key:¬(s q=.has v∨s q=.gone v):=fun h2=>by
  rcases I.par v q h with⟨e1,e2⟩|⟨l1,_,d1⟩
  ·have:=I.rng q (by rcases h2 with h2|h2<;>rw[h2]<;>simp)
   omega
  ·rcases I.par q v h2 with⟨e1,e2⟩|⟨_,_,d2⟩
   ·have:=(eC l1).2.1;omega
   ·omega
 exact⟨fun e=>key (.inl e),fun e=>key (.inr e)⟩
theorem FlI.skip(I:FlI m L r s W con d){u v:Int}{k:Bool}{rest:List Bool}(h:W u v=k::rest)(h1:k=true→s v≠.fresh)(h2:k=false→s v≠.has u)
  (hW:∀a b,W' a b=if a=u∧b=v then rest else W a b):FlI m L r s W' (lI con u v) d:=by
 obtain⟨hl,hd,hc⟩:=I.head h
 refine⟨I.root,I.rng,I.par,fun w q hs hq=>?_,fun a b=>?_,fun a b=>?_,fun a b hb=>?_⟩
 ·by_cases e:q=u∧w=v
  ·obtain⟨rfl,rfl⟩:=e
   have:=I.now w q hs hq
   rcases hc with⟨_,h0,_⟩|⟨hk,_⟩
   ·omega
   ·exact absurd hs (h2 hk)
  ·simp only[lI,if_neg e];exact I.now w q hs hq
 ·rw[hW]
  by_cases e:a=u∧b=v
  ·obtain⟨rfl,rfl⟩:=e
   simp[lI,hl,hd]
  ·simp only[lI,if_neg e];exact I.wt a b
 ·by_cases e:a=u∧b=v
  ·obtain⟨rfl,rfl⟩:=e
   have hw:=I.wt a b
   rw[h,if_pos hl]at hw
   have:=congrArg List.length hw
   simp[List.length_drop]at this
   simp[lI,hl]
   omega
  ·simp only[lI,if_neg e];exact I.cl a b
 ·by_cases e:a=u∧b=v
  ·obtain⟨rfl,rfl⟩:=e
   rcases hc with⟨hk,_,_⟩|⟨_,SK,_⟩
   ·exact h1 hk
   ·exact I.got a b (by omega)
  ·simp only[lI,if_neg e]at hb;exact I.got a b hb
theorem FlI.learn(I:FlI m L r s W con d){u v:Int}{rest:List Bool}(h:W u v=true::rest)(hf:s v=.fresh)
  (hW:XH m L W W' u v rest (fun _=>[true])):FlI m L r (eQ s v (.has u)) W' (lI con u v) (fun y=>if y=v then d u+1 else d y):=by
 obtain⟨hl,hd,hc⟩:=I.head h
 have hc0:con u v=0∧s u≠.fresh:=by
  rcases hc with⟨_,h0,h1⟩|⟨hk,_⟩
  ·exact⟨h0,h1⟩
  ·cases hk
 have huv:=Ti hl
 have LO:r≠v:=by
  rintro rfl
  rcases I.root with e|e<;>(rw[e]at hf;cases hf)
 have cS:∀q,s q≠.fresh→q≠v:=fun q hq e=>hq (e ▸ hf)
 refine⟨?_,fun w hw=>?_,fun w q hs=>?_,fun w q hs hq=>?_,fun a b=>?_,fun a b=>?_,fun a b hb=>?_⟩
 ·simp only[eQ,if_neg LO];exact I.root
 ·by_cases e:w=v
  ·rw[e];exact(eC hl).2.1
  ·simp only[eQ,if_neg e]at hw;exact I.rng w hw
 ·by_cases e:w=v
  ·subst e
   have hq:q=u:=by simpa[eQ,eq_comm]using hs
   subst hq
   exact .inr ⟨hl,by simp only[eQ,if_neg huv];exact hc0.2,by simp[huv]⟩
  ·simp only[eQ,if_neg e]at hs
   rcases I.par w q hs with h1|⟨h1,h2,h3⟩
   ·exact .inl h1
   ·have:=cS q h2
    exact .inr ⟨h1,by simp only[eQ,if_neg this];exact h2,by simp[this,e,h3]⟩
 ·by_cases e:w=v
  ·subst e
   have zX:q=u:=by simpa[eQ,eq_comm]using hs
   subst zX
   simp[lI,hc0.1]
  ·simp only[eQ,if_neg e]at hs
   have:¬(q=u∧w=v):=fun x=>e x.2
   simp only[lI,if_neg this];exact I.now w q hs hq
 ·rw[hW]
  by_cases e:a=v
  ·subst e
   have n1:¬(a=u∧b=a):=fun x=>huv x.1.symm
   have hw:=I.wt a b
   have vM:=I.cl a b
   rw[hf]at hw vM
   have hw0:W a b=[]:=by rw[hw];simp[FS.sent]
   have hcl0:con a b=0:=by
    by_cases hx:cI m L a b=true<;>simpa[hx,FS.sent]using vM
   simp only[if_neg n1,hw0,lI,hcl0,eQ,if_true,List.drop_zero,List.nil_append,FS.sent,true_and]
   by_cases hx:cI m L a b=true<;>by_cases hy:b=u<;>simp[hx,hy]
  ·have n1:¬(a=v∧cI m L v b=true∧b≠u):=fun x=>e x.1
   rw[if_neg n1,List.append_nil]
   simp only[eQ,if_neg e]
   by_cases e2:a=u∧b=v
   ·obtain⟨rfl,rfl⟩:=e2
    simp[lI,hl,hd]
   ·simp only[lI,if_neg e2];exact I.wt a b
 ·by_cases e:a=v
  ·subst e
   have n1:¬(a=u∧b=a):=fun x=>huv x.1.symm
   have vM:=I.cl a b
   rw[hf]at vM
   have hcl0:con a b=0:=by
    by_cases hx:cI m L a b=true<;>simpa[hx,FS.sent]using vM
   simp[lI,n1,hcl0]
  ·simp only[eQ,if_neg e]
   by_cases e2:a=u∧b=v
   ·obtain⟨rfl,rfl⟩:=e2
    have hw:=I.wt a b
    rw[h,if_pos hl]at hw
    have:=congrArg List.length hw
    simp[List.length_drop]at this
    simp[lI,hl]
    omega
   ·simp only[lI,if_neg e2];exact I.cl a b
 ·by_cases e:b=v
  ·simp[eQ,e]
  ·have n1:¬(a=u∧b=v):=fun x=>e x.2
   simp only[lI,if_neg n1]at hb
   simp only[eQ,if_neg e];exact I.got a b hb
theorem FlI.off(I:FlI m L r s W con d){v q:Int}{con':Int→Int→Nat}(hs:s v=.has q)
  (hc:∀a b,con' a b=if a=q∧b=v∧q≠-1 then con a b+1 else con a b) (hg:q≠-1→W q v=[false])
  (hW:∀a b,W' a b=(if a=q∧b=v∧q≠-1 then[]else W a b)++(if a=v∧cI m L v b=true∧b≠q then[false]else[])) :
  FlI m L r (eQ s v (.gone q)) W' con' d:=by
 have hvq:v≠q:=fun e=>by
  rcases I.par v q (.inl hs)with⟨h1,h2⟩|⟨h1,_,_⟩
  ·have:=I.rng v (by rw[hs];simp);omega
  ·exact Ti h1 e.symm
 have hh:q≠-1→cI m L q v=true∧con q v=1∧[]=((s q).sent v).drop (con q v+1):=fun hq=>by
  obtain⟨h1,h2,h3⟩:=I.head (hg hq)
  rcases h3 with⟨hk,_⟩|⟨_,h4,_⟩
  ·cases hk
  ·exact⟨h1,h4,h2⟩
 refine⟨?_,fun w hw=>?_,fun w p hp=>?_,fun w p hp hq=>?_,fun a b=>?_,fun a b=>?_,fun a b hb=>?_⟩
 ·by_cases e:r=v
  ·subst e
   rcases I.root with h1|h1
   ·rw[hs]at h1;cases h1;simp[eQ]
   ·rw[hs]at h1;cases h1
  ·simp only[eQ,if_neg e];exact I.root
 ·by_cases e:w=v
  ·rw[e];exact I.rng v (by rw[hs];simp)
  ·simp only[eQ,if_neg e]at hw;exact I.rng w hw
 ·have LR:s w=.has p∨s w=.gone p:=by
   by_cases e:w=v
   ·subst e
    have:p=q:=by simpa[eQ,eq_comm]using hp
    rw[this];exact .inl hs
   ·simpa only[eQ,if_neg e]using hp
  rcases I.par w p LR with h1|⟨h1,h2,h3⟩
  ·exact .inl h1
  ·refine .inr ⟨h1,?_,h3⟩
   by_cases e:p=v
   ·simp[eQ,e]
   ·simp only[eQ,if_neg e];exact h2
 ·have e:w≠v:=fun e=>by simp[eQ,e]at hp
  simp only[eQ,if_neg e]at hp
  have n1:¬(p=q∧w=v∧q≠-1):=fun x=>e x.2.1
  rw[hc,if_neg n1];exact I.now w p hp hq
 ·rw[hW,hc]
  by_cases e:a=v
  ·subst e
   have n1:¬(a=q∧b=a∧q≠-1):=fun x=>hvq x.1
   have hw:=I.wt a b
   have vM:=I.cl a b
   rw[hs]at hw vM
   simp only[if_neg n1,eQ,if_true,true_and,FS.sent]at hw vM ⊢
   by_cases hx:cI m L a b=true
   ·by_cases hy:b=q
    ·simp[hx,hy]at hw ⊢;simp[hw]
    ·simp only[hx,hy,if_true,if_false,List.length_singleton]at hw vM
     rw[hw]
     simp only[hx,hy,if_true,if_false,ne_eq,not_false_eq_true,and_self]
     have:con a b=0∨con a b=1:=by omega
     rcases this with h0|h0<;>simp[h0]
   ·simp[hx]at hw ⊢;exact hw
  ·have n1:¬(a=v∧cI m L v b=true∧b≠q):=fun x=>e x.1
   rw[if_neg n1,List.append_nil]
   simp only[eQ,if_neg e]
   by_cases e2:a=q∧b=v∧q≠-1
   ·rw[if_pos e2,if_pos e2]
    obtain⟨rfl,rfl,hq⟩:=e2
    obtain⟨h1,h2,h3⟩:=hh hq
    rw[if_pos h1];exact h3
   ·rw[if_neg e2,if_neg e2];exact I.wt a b
 ·rw[hc]
  by_cases e:a=v
  ·subst e
   have n1:¬(a=q∧b=a∧q≠-1):=fun x=>hvq x.1
   have vM:=I.cl a b
   rw[hs]at vM
   simp only[if_neg n1,eQ,if_true,FS.sent]at vM ⊢
   by_cases hx:cI m L a b=true
   ·by_cases hy:b=q
    ·simpa[hx,hy]using vM
    ·simp[hx,hy]at vM ⊢;omega
   ·simpa[hx]using vM
  ·simp only[eQ,if_neg e]
   by_cases e2:a=q∧b=v∧q≠-1
   ·rw[if_pos e2]
    obtain⟨rfl,rfl,hq⟩:=e2
    obtain⟨h1,h2,h3⟩:=hh hq
    have hw:=I.wt a b
    rw[hg hq,if_pos h1]at hw
    have:=congrArg List.length hw
    simp[List.length_drop]at this
    rw[if_pos h1];omega
   ·rw[if_neg e2];exact I.cl a b
 ·have Cw:1≤con a b∨b=v:=by
   rw[hc]at hb
   by_cases e2:a=q∧b=v∧q≠-1
   ·exact .inr e2.2.1
   ·rw[if_neg e2]at hb;exact .inl hb
  by_cases e:b=v
  ·simp[eQ,e]
  ·simp only[eQ,if_neg e]
   exact I.got a b (Cw.resolve_right e)
def He(m:Int)(L:List (Int×Int)):Prop:=∀b:Nat,1≤b→(b:Int)<m→∃ u:Nat,u<b∧cI m L u b=true
theorem HO(hc:He m L){P:Int→Prop}(hp:∀a b,cI m L a b=true→P a→P b)(hr:0≤r∧r<m)(h:P r):∀v,0≤v→v<m→P v:=by
 have key:∀b:Nat,(b:Int)<m→(P b↔P 0):=by
  intro b
  induction b using Nat.strongRecOn with
  | _ b ih =>
   intro hb
   rcases Nat.eq_zero_or_pos b with e|e
   ·subst e;exact Iff.rfl
   ·obtain⟨u,hu,hl⟩:=hc b e hb
    have:=ih u hu (by omega)
    rw[←this]
    exact⟨fun h=>hp _ _ (by rw[xI];exact hl) h,fun h=>hp _ _ hl h⟩
 intro v h0 h1
 have e1:((r.toNat:Nat):Int)=r:=by omega
 have e2:((v.toNat:Nat):Int)=v:=by omega
 have k1:=key r.toNat (by omega)
 have k2:=key v.toNat (by omega)
 rw[e1]at k1
 rw[e2]at k2
 exact k2.2 (k1.1 h)
theorem Tf{m:Int}(under more:List Int):He m (sE m under more):=fun b h1 h2=>by
 obtain⟨u,hu,hl⟩:=Dq (m:=m) under (m-1).toNat (by omega) b h1 (by omega)
 exact⟨u,hu,Ay (Ap m _ _) hl⟩
theorem FlI.full(I:FlI m L r s W con d)(hq:∀u v,W u v=[]){u v:Int}(hl:cI m L u v=true):con u v=((s u).sent v).length:=by
 have h1:=I.wt u v
 have h2:=I.cl u v
 rw[hq,if_pos hl]at h1
 rw[if_pos hl]at h2
 have:=List.drop_eq_nil_iff.1 h1.symm
 omega
theorem FlI.all(I:FlI m L r s W con d)(hq:∀u v,W u v=[])(hc:He m L):∀v,0≤v→v<m→s v≠.fresh:=by
 have hrf:s r≠.fresh:=by rcases I.root with e|e<;>rw[e]<;>simp
 refine HO hc (P:=fun v=>s v≠.fresh) (fun a b hl ha=>?_) (I.rng r hrf) hrf
 have hf:=I.full hq hl
 cases hs:s a with
 | fresh=>exact absurd hs ha
 | has q =>
  by_cases e:b=q
  ·subst e
   rcases I.par a b (.inl hs)with⟨h1,_⟩|⟨_,h2,_⟩
   ·have:=(eC hl).2.1;omega
   ·exact h2
  ·rw[hs]at hf
   simp only[FS.sent,if_neg e,List.length_singleton]at hf
   exact I.got a b (by omega)
 | gone q =>
  by_cases e:b=q
  ·subst e
   rcases I.par a b (.inr hs)with⟨h1,_⟩|⟨_,h2,_⟩
   ·have:=(eC hl).2.1;omega
   ·exact h2
  ·rw[hs]at hf
   simp only[FS.sent,if_neg e,List.length_cons,List.length_nil]at hf
   exact I.got a b (by omega)
theorem FlI.live(I:FlI m L r s W con d)(hq:∀u v,W u v=[]):∀(n:Nat) (v q:Int),d v≤n→s v=.has q→s r=.has (-1):=by
 intro n
 induction n with
 | zero =>
  intro v q hd hs
  rcases I.par v q (.inl hs)with⟨h1,h2⟩|⟨_,_,h3⟩
  ·rw[←h2,hs,h1]
  ·omega
 | succ n ih =>
  intro v q hd hs
  rcases I.par v q (.inl hs)with⟨h1,h2⟩|⟨h1,h2,h3⟩
  ·rw[←h2,hs,h1]
  ·have cS:q≠-1:=by have:=(eC h1).1;omega
   have hf:=I.full hq h1
   rw[I.now v q hs cS]at hf
   cases hp:s q with
   | fresh=>exact absurd hp h2
   | has p=>exact ih q p (by omega) hp
   | gone p =>
    rw[hp]at hf
    by_cases e:v=p<;>simp[FS.sent,e]at hf
theorem FlI.ended(I:FlI m L r s W con d)(hq:∀u v,W u v=[])(hr:s r=.gone (-1))(v q:Int):s v≠.has q:=fun h=>by
 have:=I.live hq (d v) v q (Nat.le_refl _) h
 rw[hr]at this;cases this
def vX(ways:List (Int×Int))(con:Int→Int→Nat):Nat:=(ways.map fun w=>con w.1 w.2).sum
theorem CY{ways:List (Int×Int)}{c c':Int→Int→Nat}(h:∀w∈ways,c w.1 w.2=c' w.1 w.2):vX ways c=vX ways c':=by
 unfold vX;rw[List.map_congr_left h]
theorem Jl{u v:Int}:∀{ways:List (Int×Int)},ways.Nodup→(u,v)∈ways→vX ways (lI con u v)=vX ways con+1
 | [],_,h=>by cases h
 | w::t,hn,h=>by
  obtain⟨h1,h2⟩:=List.nodup_cons.1 hn
  by_cases e:w=(u,v)
  ·subst e
   have:vX t (lI con u v)=vX t con:=CY fun x hx=>by
    have:¬(x.1=u∧x.2=v):=fun e=>h1 (by obtain⟨a,b⟩:=x;simp only at e;rw[←e.1,←e.2];exact hx)
    simp only[lI,if_neg this]
   simp only[vX,List.map_cons,List.sum_cons]at this ⊢
   rw[this]
   simp[lI];omega
  ·have ht:(u,v)∈t:=(List.mem_cons.1 h).resolve_left fun e'=>e e'.symm
   have ih:=Jl h2 ht
   have:¬(w.1=u∧w.2=v):=fun e'=>e (by obtain⟨a,b⟩:=w;simp only at e';rw[e'.1,e'.2])
   simp only[vX,List.map_cons,List.sum_cons]at ih ⊢
   rw[ih]
   simp only[lI,if_neg this];omega
theorem Ma{k:Nat}:∀{ways:List (Int×Int)},(∀w∈ways,con w.1 w.2≤k)→vX ways con≤k*ways.length
 | [],_=>by simp[vX]
 | w::t,h=>by
  have ih:=Ma (ways:=t) fun x hx=>h x (List.mem_cons_of_mem _ hx)
  have:=h w (List.mem_cons_self ..)
  simp only[vX,List.map_cons,List.sum_cons,List.length_cons]at ih ⊢
  rw[Nat.mul_succ];omega
theorem FlI.con_le(I:FlI m L r s W con d)(u v:Int):con u v≤2:=by
 have:=I.cl u v
 refine Nat.le_trans this ?_
 split
 ·cases s u with
  | fresh=>simp[FS.sent]
  | has q=>by_cases e:v=q<;>simp[FS.sent,e]
  | gone q=>by_cases e:v=q<;>simp[FS.sent,e]
 ·decide
end Go.Dm.Tc
/-
Floods,plain: how much has come in the end;the parents are a tree.
-/
namespace Go.Dm.Tc
variable {m:Int} {L:List (Int×Int)} {r:Int} {s:Int→FS} {W W':Int→Int→List Bool} {con:Int→Int→Nat} {d:Int→Nat}
def NG(s:Int→FS):Prop:=∀v q,s v≠.gone q
theorem NG.start(r:Int):NG (eQ (fun _=>.fresh) r (.has (-1))):=fun v q=>by
 by_cases e:v=r<;>simp[eQ,e]
theorem NG.learn(h:NG s)(v u:Int):NG (eQ s v (.has u)):=fun w q=>by
 by_cases e:w=v
 ·simp[eQ,e]
 ·simp only[eQ,if_neg e];exact h w q
theorem FlI.only(I:FlI m L r s W con d)(h:NG s){u v:Int}{k:Bool}{rest:List Bool}(hw:W u v=k::rest):k=true∧rest=[]:=by
 obtain⟨hl,hd,hc⟩:=I.head hw
 rcases hc with⟨h1,h2,h3⟩|⟨_,_,_,q,h4,_⟩
 ·refine⟨h1,?_⟩
  rw[hd]
  cases hs:s u with
  | fresh=>rfl
  | has q=>by_cases e:v=q<;>simp[FS.sent,e]
  | gone q=>exact absurd hs (h u q)
 ·exact absurd h4 (h u q)
theorem FlI.rootHas(I:FlI m L r s W con d)(h:NG s):s r=.has (-1):=I.root.resolve_right (h r (-1))
def Cq(s:Int→FS)(v:Int):Int:=match s v with|.has q=>q|_=>-2
theorem FlI.allHas(I:FlI m L r s W con d)(h:NG s)(hq:∀u v,W u v=[])(hc:He m L){v:Int}(h0:0≤v)(h1:v<m):s v=.has (Cq s v):=by
 have:=I.all hq hc v h0 h1
 unfold Cq
 cases hs:s v with
 | fresh=>exact absurd hs this
 | has q=>rfl
 | gone q=>exact absurd hs (h v q)
def gK(m:Int):List Int:=(List.range m.toNat).map fun i:Nat=>(i:Int)
theorem Fe{m v:Int}:v∈gK m↔0≤v∧v<m:=by
 unfold gK
 rw[List.mem_map]
 constructor
 ·rintro⟨i,hi,rfl⟩
  rw[List.mem_range]at hi
  omega
 ·rintro⟨h0,h1⟩
  exact⟨v.toNat,by rw[List.mem_range];omega,by omega⟩
theorem T2(m:Int):(gK m).Nodup:=by
 unfold gK
 exact List.Pairwise.map _ (fun a b h e=>h (by omega)) List.nodup_range
theorem xB(m:Int):(gK m).length=m.toNat:=by simp[gK]
theorem Pq{u v:Int}(ok:bN m L):(u,v)∈bO L↔cI m L u v=true:=by
 rw[Yq]
 constructor
 ·intro h
  unfold cI
  rw[List.any_eq_true]
  rcases h with h|h
  ·have:=ok.rng _ h
   exact⟨(u,v),h,by simp[xG];simp at this;omega⟩
  ·have:=ok.rng _ h
   exact⟨(v,u),h,by simp[xG];simp at this;omega⟩
 ·intro h
  unfold cI at h
  rw[List.any_eq_true]at h
  obtain⟨⟨a,b⟩,h1,h2⟩:=h
  simp at h2
  rcases h2.2 with⟨e1,e2⟩|⟨e1,e2⟩
  ·subst e1;subst e2;exact .inl h1
  ·subst e1;subst e2;exact .inr h1
structure Lf(m:Int)(L:List (Int×Int))(r:Int)(p:List Int)(d:Int→Nat):Prop where
 len:(p.length:Int)=m
 rt:0≤r∧r<m
 at_:∀v,0≤v→v<m→(atL p v.toNat=-1∧v=r)∨(cI m L (atL p v.toNat) v=true∧d (atL p v.toNat)<d v∧v≠r)
theorem NF(f:Nat→Int){n i:Nat}(h:i<n):atL ((List.range n).map f) i=f i:=by
 rw[kB (by simpa using h)]
 simp
theorem FlI.tree(I:FlI m L r s W con d)(h:NG s)(hq:∀u v,W u v=[])(hc:He m L)(hr:0≤r∧r<m):Lf m L r ((gK m).map (Cq s)) d:=by
 refine⟨by simp[xB];omega,hr,fun v h0 h1=>?_⟩
 have e:atL ((gK m).map (Cq s)) v.toNat=Cq s v:=by
  unfold gK
  rw[List.map_map,NF _ (by omega)]
  have:((v.toNat:Nat):Int)=v:=by omega
  simp only[Function.comp_apply,this]
 rw[e]
 have hh:=I.allHas h hq hc h0 h1
 by_cases hv:v=r
 ·subst hv
  rcases I.par v _ (.inl hh)with⟨e1,_⟩|⟨e1,_,_⟩
  ·exact .inl ⟨e1,rfl⟩
  ·have:=I.rootHas h
   rw[hh]at this
   have e2:Cq s v=-1:=by injection this
   have:=(eC e1).1
   omega
 ·rcases I.par v _ (.inl hh)with⟨_,e1⟩|⟨e1,_,e3⟩
  ·exact absurd e1 hv
  ·exact .inr ⟨e1,e3,hv⟩
namespace Lf
variable {p:List Int}
theorem path(T:Lf m L r p d):∀(n:Nat) (v:Int),d v≤n→0≤v→v<m→∃ l,dZ p (n+1) v=some l∧l[0]?=some v∧l.getLast?=some r∧(∀(i:Nat) (a b:Int),l[i]?=some a→l[i+1]?=some b→cI m L a b=true):=by
 intro n
 induction n with
 | zero =>
  intro v hd h0 h1
  have hl:=T.len
  rcases T.at_ v h0 h1 with⟨e1,e2⟩|⟨_,e2,_⟩
  ·refine⟨[v],?_,rfl,by rw[e2];rfl,fun i a b h2 h3=>?_⟩
   ·rw[dZ,if_pos ⟨h0,by omega⟩,if_pos e1]
   ·simp at h3
  ·omega
 | succ n ih =>
  intro v hd h0 h1
  have hl:=T.len
  rcases T.at_ v h0 h1 with⟨e1,e2⟩|⟨e1,e2,e3⟩
  ·refine⟨[v],?_,rfl,by rw[e2];rfl,fun i a b h2 h3=>?_⟩
   ·rw[dZ,if_pos ⟨h0,by omega⟩,if_pos e1]
   ·simp at h3
  ·have hg:=eC e1
   obtain⟨l,k1,k2,k3,k4⟩:=ih (atL p v.toNat) (by omega) hg.1.1 hg.1.2
   have cS:¬atL p v.toNat=-1:=by omega
   have LW:l≠[]:=by rintro rfl;simp at k2
   refine⟨v::l,?_,rfl,?_,fun i a b h2 h3=>?_⟩
   ·rw[dZ,if_pos ⟨h0,by omega⟩,if_neg cS,k1];rfl
   ·rw[List.getLast?_cons];rw[k3];rfl
   ·rcases i with _|i
    ·simp at h2 h3
     rw[k2]at h3
     cases h2;cases h3
     rw[xI];exact e1
    ·simp at h2 h3
     exact k4 i a b h2 h3
theorem pathP(T:Lf m L r p d){v:Int}(h0:0≤v)(h1:v<m):∃ l,dZ p p.length v=some l∧Dm.Tc.pathP p p.length v=l∧l[0]?=some v∧l.getLast?=some r∧(∀(i:Nat) (a b:Int),l[i]?=some a→l[i+1]?=some b→cI m L a b=true):=by
 obtain⟨l,k1,k2,k3,k4⟩:=T.path (d v) v (Nat.le_refl _) h0 h1
 have hl:=(vD k1).1
 have e:dZ p p.length v=some l:=by
  have:=Yf (p:=p) (m:=max (d v+1) p.length) (Nat.le_max_right _ _) v
  rw[←this]
  exact lU k1 (Nat.le_max_left _ _)
 exact⟨l,e,by simp[Dm.Tc.pathP,e],k2,k3,k4⟩
theorem roots(T:Lf m L r p d):EF p=1:=by
 have hl:=T.len
 have hp:p=(gK m).map fun v=>atL p v.toNat:=by
  apply List.ext_getElem
  ·simp[xB];omega
  ·intro i h1 h2
   simp only[gK,List.map_map,List.getElem_map,List.getElem_range,Function.comp_apply,Int.toNat_natCast]
   exact(kB h1).symm
 have h1:(p.filter fun x=>decide (x=-1)).length=((gK m).filter fun v=>decide (atL p v.toNat=-1)).length:=by
  conv=>lhs;rw[hp,List.filter_map]
  rw[List.length_map];rfl
 have h2:((gK m).filter fun v=>decide (atL p v.toNat=-1)).length=1:=by
  have n1:((gK m).filter fun v=>decide (atL p v.toNat=-1)).Nodup:=List.Pairwise.filter _ (T2 m)
  have a1:=yX n1 (B:=[r]) fun x hx=>by
   obtain⟨Hh,hx2⟩:=List.mem_filter.1 hx
   have Hh:=Fe.1 Hh
   have hx2:atL p x.toNat=-1:=of_decide_eq_true hx2
   rcases T.at_ x Hh.1 Hh.2 with⟨_,e⟩|⟨e,_,_⟩
   ·rw[e];simp
   ·have:=(eC e).1;omega
  have a2:=yX (A:=[r]) (by simp) (B:=(gK m).filter fun v=>decide (atL p v.toNat=-1)) fun x hx=>by
   have e:x=r:=by simpa using hx
   subst e
   refine List.mem_filter.2 ⟨Fe.2 T.rt,decide_eq_true ?_⟩
   rcases T.at_ x T.rt.1 T.rt.2 with⟨e,_⟩|⟨_,_,e⟩
   ·exact e
   ·exact absurd rfl e
  exact Nat.le_antisymm a1 a2
 unfold EF
 rw[h1,h2];rfl
end Lf
theorem FlI.none(I:FlI m L r s W con d)(hq:∀u v,W u v=[])(hr:s r=.gone (-1))(v:Int):Cq s v=-2:=by
 unfold Cq
 cases hs:s v with
 | fresh=>rfl
 | has q=>exact absurd hs (I.ended hq hr v q)
 | gone q=>rfl
end Go.Dm.Tc
/-
Floods: brokers and queues of the program,by what is known and what waits;a link picked.
-/
namespace Go.Dm.Tc
def iJ(m:Int)(L:List (Int×Int))(x:ID)(p:dY)(v:Int):FS→aL
 | .fresh=>⟨v,eM m L v,[],[],[],[]⟩
 | .has q=>⟨v,eM m L v,[⟨x,p,q⟩],[x],[],[]⟩
 | .gone _=>⟨v,eM m L v,[],[x],[],[]⟩
def Nl(x:ID)(p:dY)(k:Bool):Msg:=if k then⟨1,x,⟨0,0⟩,p,[]⟩else⟨2,x,⟨0,0⟩,[],[]⟩
variable {m:Int} {L:List (Int×Int)} {r:Int} {s:Int→FS} {W W':Int→Int→List Bool} {con:Int→Int→Nat} {d:Int→Nat} {x:ID} {p:dY}
theorem vT(h7:m≤12)(v:Int)(t:FS):Hg (iJ m L x p v t):=by
 have:=vG m L h7 v
 cases t<;>exact⟨⟨by simp only[iJ];omega,by simp[iJ],by simp[iJ],by simp[iJ],by simp[iJ]⟩,by simp[iJ,dO],by simp[iJ,dO],rfl⟩
theorem Le(v u:Int):lQ (iJ m L x p v .fresh) u x p=(iJ m L x p v (.has u),lJ (eM m L v) u 1 x.bJ x.seq 0 0 p):=by
 simp[lQ,iJ,dG,sS,dQ]
theorem NH(v u:Int){t:FS}(h:t≠.fresh):lQ (iJ m L x p v t) u x p=(iJ m L x p v t,[]):=by
 cases t with
 | fresh=>exact absurd rfl h
 | has q=>simp[lQ,iJ]
 | gone q=>simp[lQ,iJ]
theorem MV(v u:Int):pX (iJ m L x p v (.has u)) u x=(iJ m L x p v (.gone u),lJ (eM m L v) u 2 x.bJ x.seq 0 0 []):=by
 simp[pX,iJ,fJ,uW]
theorem MU(v u:Int){t:FS}(h:t≠.has u):pX (iJ m L x p v t) u x=(iJ m L x p v t,[]):=by
 cases t with
 | fresh=>simp[pX,iJ,fJ]
 | has q =>
  have:¬q=u:=fun e=>h (by rw[e])
  simp[pX,iJ,fJ,this]
 | gone q=>simp[pX,iJ,fJ]
theorem Jq(v k:Int)(x:ID)(p:dY):∀(l:List Int) (Q:ID→List Msg),l.Nodup→∀a b,qT v Q (l.map fun n=>(⟨n,k,x,⟨0,0⟩,p⟩:uS)) ⟨a,b⟩=Q ⟨a,b⟩++(if a=v∧b∈l then[⟨k,x,⟨0,0⟩,p,[]⟩]else[])
 | [],Q,_,a,b=>by simp[qT]
 | n::l,Q,hn,a,b=>by
  obtain⟨h1,h2⟩:=List.nodup_cons.1 hn
  simp only[List.map_cons,qT]
  rw[Jq v k x p l _ h2 a b]
  by_cases e:a=v∧b=n
  ·obtain⟨rfl,rfl⟩:=e
   simp[vY,h1,FI]
  ·have e1:¬((⟨v,n⟩:ID)=⟨a,b⟩):=fun e'=>by injection e' with e1 e2;exact e ⟨e1.symm,e2.symm⟩
   have e2:(a=v∧b∈n::l)↔(a=v∧b∈l):=by
    rw[List.mem_cons]
    exact⟨fun h=>⟨h.1,h.2.resolve_left fun h3=>e ⟨h.1,h3⟩⟩,fun h=>⟨h.1,.inr h.2⟩⟩
   simp only[vY,if_neg e1,e2]
theorem tB(v u k:Int)(p:dY)(Q:ID→List Msg)(a b:Int):qT v Q (lJ (eM m L v) u k x.bJ x.seq 0 0 p) ⟨a,b⟩=Q ⟨a,b⟩++(if a=v∧cI m L v b=true∧b≠u then[⟨k,x,⟨0,0⟩,p,[]⟩]else[]):=by
 unfold lJ
 have IE:(eM m L v).Nodup:=(rY m L v).imp fun h e=>by omega
 rw[Jq v k ⟨x.bJ,x.seq⟩ p _ Q (List.Pairwise.filter _ IE) a b]
 have:(b∈(eM m L v).filter fun n=>!decide (n=u))↔(cI m L v b=true∧b≠u):=by
  rw[List.mem_filter,nV];simp
 simp only[this]
theorem Ab(ok:bN m L)(v u k:Int)(p:dY)(hk:k≠5):∀o∈lJ (eM m L v) u k x.bJ x.seq 0 0 p,(v,o.to)∈bO L∧o.kind≠5:=by
 intro o ho
 unfold lJ at ho
 obtain⟨n,hn,rfl⟩:=List.mem_map.1 ho
 exact⟨(Pq ok).2 (nV.1 (List.mem_filter.1 hn).1),hk⟩
theorem Ac(h7:m≤12)(v u k:Int)(p:dY):(lJ (eM m L v) u k x.bJ x.seq 0 0 p).length≤12:=by
 unfold lJ
 rw[List.length_map]
 exact Nat.le_trans (List.length_filter_le ..) (vG m L h7 v)
structure FlM(m:Int)(L:List (Int×Int))(r:Int)(x:ID)(p:dY)(B:List aL)(Q:ID→List Msg)(s:Int→FS)(W:Int→Int→List Bool)(con:Int→Int→Nat)(d:Int→Nat):Prop where
 I:FlI m L r s W con d
 len:B.length=m.toNat
 br:∀v:Nat,(v:Int)<m→B[v]?=some (iJ m L x p v (s v))
 ws:∀u v,Q ⟨u,v⟩=(W u v).map (Nl x p)
variable {B:List aL} {Q:ID→List Msg}
theorem FlM.short(F:FlM m L r x p B Q s W con d)(y:ID):(Q y).length≤2:=by
 rw[F.ws y.bJ y.seq,List.length_map,F.I.wt]
 split
 ·rw[List.length_drop]
  cases s y.bJ with
  | fresh=>simp[FS.sent]
  | has q=>by_cases e:y.seq=q<;>simp[FS.sent,e]<;>omega
  | gone q=>by_cases e:y.seq=q<;>simp[FS.sent,e]
 ·simp
theorem FlM.upd(F:FlM m L r x p B Q s W con d){v:Nat}(hv:(v:Int)<m){t:FS}{s':Int→FS}(hs:s'=eQ s v t):∀w:Nat,(w:Int)<m→(B.set v (iJ m L x p v t))[w]?=some (iJ m L x p w (s' w)):=by
 intro w hw
 rw[hs,List.getElem?_set]
 by_cases e:v=w
 ·subst e
  have:=F.len
  rw[if_pos rfl,if_pos (by omega)]
  simp[eQ]
 ·rw[if_neg e,F.br w hw]
  have:¬(w:Int)=v:=by omega
  simp[eQ,this]
theorem FlM.same(F:FlM m L r x p B Q s W con d){v:Nat}(hv:(v:Int)<m):B.set v (iJ m L x p v (s v))=B:=by
 apply List.ext_getElem?
 intro w
 rw[List.getElem?_set]
 by_cases e:v=w
 ·subst e
  have:=F.len
  rw[if_pos rfl,if_pos (by omega),F.br v hv]
 ·rw[if_neg e]
theorem FlM.step(ok:bN m L)(h7:m≤12)(F:FlM m L r x p B Q s W con d){u:Int}{v:Nat}{k:Bool}{rest:List Bool}(hw:W u v=k::rest) :
  (v:Int)<m∧cI m L u v=true∧∃ b' gF s' W' d',pcF D t63 [aX .none (iJ m L x p v (s v)),.int .i64 u,kA (Nl x p k)]=some (.tup [aX .none b',eL false 8 nL gF,.isl false 0 []]) ∧
   (∀o∈gF,((v:Int),o.to)∈bO L∧o.kind≠5)∧gF.length≤12 ∧
   FlM m L r x p (B.set v b') (qT v (vY Q ⟨u,v⟩ (rest.map (Nl x p))) gF) s' W' (lI con u v) d'∧(NG s→NG s')∧s' r=s r:=by
 obtain⟨hl,hd,hc⟩:=F.I.head hw
 have SB:(v:Int)<m:=(eC hl).2.1.2
 have hbare:=vT (L:=L) (x:=x) (p:=p) h7 v (s v)
 refine⟨SB,hl,?_⟩
 have hWid:∀a b,(vY Q ⟨u,v⟩ (rest.map (Nl x p))) ⟨a,b⟩=(if a=u∧b=v then rest else W a b).map (Nl x p):=fun a b=>by
  by_cases e:a=u∧b=(v:Int)
  ·rw[if_pos e,e.1,e.2];simp[vY]
  ·have e1:¬((⟨u,v⟩:ID)=⟨a,b⟩):=fun e'=>by injection e' with e1 e2;exact e ⟨e1.symm,e2.symm⟩
   rw[if_neg e];simp only[vY,if_neg e1];exact F.ws a b
 cases k with
 | true =>
  have tX:=JZ (iJ m L x p v (s v)) u x.bJ x.seq 0 0 p hbare
  have hm:kA (Nl x p true)=.agg [.int .i64 1,.int .i64 x.bJ,.int .i64 x.seq,.int .i64 0,.int .i64 0,fG p,.isl false 0 []]:=rfl
  rw[hm]
  by_cases hf:s v=.fresh
  ·rw[hf]at tX ⊢
   rw[Le]at tX
   have LO:r≠v:=by
    rintro rfl
    rcases F.I.root with e|e<;>(rw[e]at hf;cases hf)
   refine⟨_,_,eQ s v (.has u),_,_,tX,Ab ok v u 1 p (by decide),Ac h7 v u 1 p,⟨F.I.learn hw hf (W':=fun a b=>(if a=u∧b=v then rest else W a b)++(if a=v∧cI m L v b=true∧b≠u then[true]else[])) (fun a b=>rfl),by rw[List.length_set];exact F.len,F.upd (t:=.has u) SB rfl,fun a b=>?_⟩,fun h=>h.learn v u,by simp[eQ,LO]⟩
   rw[tB,hWid,List.map_append]
   congr 1
   split<;>rfl
  ·rw[NH v u hf]at tX
   refine⟨_,_,s,_,d,tX,by simp,by simp,⟨F.I.skip hw (fun _=>hf) (fun e=>by cases e) (W':=fun a b=>if a=u∧b=v then rest else W a b) (fun a b=>rfl),by rw[List.length_set];exact F.len,by rw[F.same SB];exact F.br,fun a b=>?_⟩,fun h=>h,rfl⟩
   exact hWid a b
 | false =>
  have tX:=JY (iJ m L x p v (s v)) u x.bJ x.seq 0 0 [] hbare
  have hm:kA (Nl x p false)=.agg [.int .i64 2,.int .i64 x.bJ,.int .i64 x.seq,.int .i64 0,.int .i64 0,fG [],.isl false 0 []]:=rfl
  rw[hm]
  by_cases hf:s v=.has u
  ·rw[hf]at tX ⊢
   rw[MV]at tX
   have hu:u≠-1:=by have:=(eC hl).1.1;omega
   have hrest:rest=[]:=by
    rcases hc with⟨h1,_⟩|⟨_,_,h1,_⟩
    ·cases h1
    ·exact h1
   have LO:r≠v:=by
    rintro rfl
    rcases F.I.root with e|e
    ·rw[e]at hf;cases hf;exact hu rfl
    ·rw[e]at hf;cases hf
   refine⟨_,_,eQ s v (.gone u),_,d,tX,Ab ok v u 2 [] (by decide),Ac h7 v u 2 [],⟨F.I.off (con':=lI con u v) (W':=fun a b=>(if a=u∧b=v then rest else W a b)++(if a=v∧cI m L v b=true∧b≠u then[false]else[])) hf (fun a b=>?_) (fun _=>by rw[hw,hrest]) (fun a b=>?_),by rw[List.length_set];exact F.len,F.upd (t:=.gone u) SB rfl,fun a b=>?_⟩,fun h=>absurd hf ?_,by simp[eQ,LO]⟩
   ·simp[lI,hu]
   ·simp[hu,hrest]
   ·rw[tB,hWid,List.map_append]
    congr 1
    split<;>rfl
   ·have:=F.I.only h hw
    cases this.1
  ·rw[MU v u hf]at tX
   refine⟨_,_,s,_,d,tX,by simp,by simp,⟨F.I.skip hw (fun e=>by cases e) (fun _=>hf) (W':=fun a b=>if a=u∧b=v then rest else W a b) (fun a b=>rfl),by rw[List.length_set];exact F.len,by rw[F.same SB];exact F.br,fun a b=>?_⟩,fun h=>h,rfl⟩
   exact hWid a b
variable {h:aA} {nid bid q wid:Nat} {cr:DV} {X:List iY}
theorem FlM.pick(ok:bN m L)(h7:m≤12)(hL:L.length≤1000)(F:FlM m L r x p B Q s W con d)(A:eV h nid bid q wid cr m L B Q X)(wf:WF h)(hl:h.lim≤h.n){u v:Int}{k:Bool}{rest:List Bool}(hw:W u v=k::rest) :
  ∃ H B' Q' s' W' d',fc D 22 [.ptr nid 5 0 0,.int .i64 u,.int .i64 v] h=some (.tup [.isl false 0 [],.nili],H)∧eV H nid bid q wid cr m L B' Q' X∧FlM m L r x p B' Q' s' W' (lI con u v) d'∧Upd h H [bid,q,wid] [bid,q,wid]∧(NG s→NG s')∧s' r=s r∧cI m L u v=true:=by
 have Hi:=(F.I.head hw).1
 obtain⟨w,rfl⟩:∃ w:Nat,v=(w:Int):=⟨v.toNat,by have:=(eC Hi).2.1;omega⟩
 obtain⟨SB,_,b',gF,s',W',d',h1,h2,h3,h4,h5,h6⟩:=F.step ok h7 hw
 have hww:(bO L).length≤1000000:=by rw[nW];omega
 obtain⟨H,e,A2,U⟩:=q22 A wf hl u w (F.br w SB) (ms:=Nl x p k) (r:=rest.map (Nl x p)) (by rw[F.ws,hw];rfl) gF h1 hww h2 (by omega) (fun y=>by have:=F.short y;omega)
 exact⟨H,_,_,s',W',d',e,A2,h4,U,h5,h6,Hi⟩
theorem FlM.start(ok:bN m L)(h7:m≤12)(hr:0≤r∧r<m){W0:ID→List Msg}(hW0:∀y,W0 y=[])(hB:∀v:Nat,(v:Int)<m→B[v]?=some (iJ m L x p v .fresh))(bY:B.length=m.toNat) :
  FlM m L r x p (B.set r.toNat (iJ m L x p r (.has (-1)))) (qT r W0 (lJ (eM m L r) (-1) 1 x.bJ x.seq 0 0 p)) (eQ (fun _=>.fresh) r (.has (-1))) (fun u v=>if u=r∧cI m L r v=true then[true]else[]) (fun _ _=>0) (fun _=>0):=by
 have hrr:((r.toNat:Nat):Int)=r:=by omega
 refine⟨FlI.start hr,by rw[List.length_set];exact bY,fun w hw=>?_,fun u v=>?_⟩
 ·rw[List.getElem?_set]
  by_cases e:r.toNat=w
  ·have e2:(w:Int)=r:=by omega
   rw[if_pos e,if_pos (by omega)]
   simp[eQ,e2]
  ·have:¬(w:Int)=r:=by omega
   rw[if_neg e,hB w hw]
   simp[eQ,this]
 ·rw[tB,hW0,List.nil_append]
  by_cases e:u=r∧cI m L r v=true
  ·have hv:=(eC e.2).2.1
   have:v≠-1:=by omega
   rw[if_pos ⟨e.1,e.2,this⟩,if_pos e];rfl
  ·rw[if_neg (fun e'=>e ⟨e'.1,e'.2.1⟩),if_neg e];rfl
theorem FlM.advert(ok:bN m L)(h7:m≤12)(hL:L.length≤1000)(hr:0≤r∧r<m){W0:ID→List Msg}(hW0:∀y,W0 y=[])(hB:∀v:Nat,(v:Int)<m→B[v]?=some (iJ m L x p v .fresh))(bY:B.length=m.toNat)
  (A:eV h nid bid q wid cr m L B W0 X) (wf:WF h) (hl:h.lim≤h.n) {pv:DV} (hv:D6 pv p) :
  ∃ H B' Q',fc D 19 [.ptr nid 5 0 0,.int .i64 r,.agg [.int .i64 x.bJ,.int .i64 x.seq],pv] h=some (.nili,H)∧eV H nid bid q wid cr m L B' Q' X∧FlM m L r x p B' Q' (eQ (fun _=>.fresh) r (.has (-1))) (fun u v=>if u=r∧cI m L r v=true then[true]else[]) (fun _ _=>0) (fun _=>0)∧Upd h H [bid,q,wid] [bid,q,wid]:=by
 obtain⟨w,rfl⟩:∃ w:Nat,r=(w:Int):=⟨r.toNat,by omega⟩
 have hf:=Le (m:=m) (L:=L) (x:=x) (p:=p) (w:Int) (-1)
 have hww:(bO L).length≤1000000:=by rw[nW];omega
 have aZ:=Ac (L:=L) (x:=x) h7 (w:Int) (-1) 1 p
 obtain⟨H,e,A2,U⟩:=VZ A wf hl w (hB w hr.2) x.bJ x.seq hv (vT h7 _ _) hww (by rw[hf];exact Ab ok _ _ 1 p (by decide)) (by rw[hf];simp only;omega) (fun y=>by rw[hf,hW0];simp;omega)
 rw[hf]at A2
 have:=FlM.start (x:=x) (p:=p) ok h7 hr hW0 hB bY
 exact⟨H,_,_,e,A2,this,U⟩
end Go.Dm.Tc
