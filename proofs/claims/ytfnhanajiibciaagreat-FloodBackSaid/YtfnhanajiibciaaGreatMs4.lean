/-
FloodBack: an advertisement spread and taken back: the law's walk.
-/
import Derived.Test.YtfnhanajiibciaaGreatMs3
set_option linter.all false
namespace Go.Dm.Tc
theorem toAll_len (near:List Int) (f k tc td ic id:Int) (p:Pred):(toAll near f k tc td ic id p).length=(butL near f).length:=by
 unfold toAll butL;rw [List.length_map]
set_option maxRecDepth 16000 in
set_option maxHeartbeats 4000000 in
theorem k7 (b d:Broker) (fr:Int) (offs:List OutS) (cnt:Nat) (hi:InvK b) (z:Sized b) (hd:{ d with seen:=b.seen }=b) (hol:offs.length=(butL b.near fr).length) (hcn:if fr=-1 then cnt=b.near.length else cnt+1=b.near.length) (f:FEnv) (h:Heap)
  (h7:f 7=.ptr 2 6 0 0) (h8:f 8=.int .i64 fr) (h12:f 12=.ptr 5 6 0 0) (h13:f 13=eL false 8 eOut offs) (h14:f 14=.int .i64 cnt)
  (g2:h.get 2=some (.arr 29 6 [eBroker .none b] (some 1))) (g5:h.get 5=some (.arr 29 6 [eBroker .none d] (some 1))) (hlim:h.lim=0) (hn:6≤h.n) (wf:WF h) :
  pcOut (fin [.t 6] (run D 142 [] t7k0 f h))=some (.bool true):=by
 have hR:=s45
 have hBt:=s44 false b.near fr (by have:=z.near;omega)
 have hSame:=kBrokers .none hi z .none b
 have hnl:=z.near
 obtain ⟨m,hmn⟩:∃ m,h.n=m+6:=⟨h.n - 6,by omega⟩
 obtain ⟨dm,dn,da,ds,de,dw⟩:=d
 have hdb:DV.agg [.int .i64 dm,eL false 1 cInt dn,eL false 4 eAdvert da,eL false 2 eID b.seen,eL false 7 eEntry de,eL false 3 eOwn dw]=eBroker .none b:=by rw [← hd];rfl
 have hdd:eBroker .none ⟨dm,dn,da,ds,de,dw⟩=DV.agg [.int .i64 dm,eL false 1 cInt dn,eL false 4 eAdvert da,eL false 2 eID ds,eL false 7 eEntry de,eL false 3 eOwn dw]:=rfl
 rw [hdd] at g5
 have tn1:Tags.none.near=false:=rfl
 have tn2:Tags.none.seen=false:=rfl
 simp only [t7k0]
 by_cases hf:fr=-1
 ·rw [if_pos hf] at hcn
  subst hf
  have w1:IntKind.i64.wrap ((b.near.length:Int) - cnt)=0:=by rw [wrap64 (by omega) (by omega)];omega
  have w2:IntKind.i64.wrap (b.near.length:Int)=b.near.length:=wrap64 (by omega) (by omega)
  simp [h7,h8,h12,h13,h14,g2,g5,hmn,hlim,wf,w1,w2,turn,hdb,tn1,tn2,e44,hBt,hol,e25,hSame,e45,hR]
 ·rw [if_neg hf] at hcn
  have w1:IntKind.i64.wrap ((cnt:Int)+1)=b.near.length:=by rw [wrap64 (by omega) (by omega)];omega
  simp [h7,h8,h12,h13,h14,g2,g5,hmn,hlim,wf,hf,w1,turn,hdb,tn1,tn2,e44,hBt,hol,e25,hSame,e45,hR]
def OffOk (fr:Int) (l:List OutS):Prop:=(∀ o∈l,o.to≠fr∧o.kind=2)∧(l.map (·.to)).Pairwise (· < ·)
set_option maxRecDepth 16000 in
set_option maxHeartbeats 4000000 in
theorem l7b (b d:Broker) (fr:Int) (offs:List OutS) (cnt:Nat) (hi:InvK b) (z:Sized b) (hd:{ d with seen:=b.seen }=b) (hol:offs.length=(butL b.near fr).length) (hcn:if fr=-1 then cnt=b.near.length else cnt+1=b.near.length) (hof:OffOk fr offs) :
  ∀ (rest:List OutS) (i:Nat) (f:FEnv) (h:Heap),offs.drop i=rest→f 7=.ptr 2 6 0 0→f 8=.int .i64 fr→f 12=.ptr 5 6 0 0→f 13=eL false 8 eOut offs→f 14=.int .i64 cnt→f 70=eL false 8 eOut offs→f 71=.int .i64 offs.length→f 72=.int .i64 i →
  h.get 2=some (.arr 29 6 [eBroker .none b] (some 1))→h.get 5=some (.arr 29 6 [eBroker .none d] (some 1))→h.lim=0→6≤h.n→WF h →
  pcOut (fin [.t 6] (run D 142 [.block 2,.seq t7k0] (.loop t7l1) f h))=some (.bool true):=by
 have hbl:(butL b.near fr).length≤1000000:=by have:=z.near;unfold butL;exact Nat.le_trans (List.length_filter_le ..) (by omega)
 intro rest
 induction rest with
 | nil =>
  intro i f h hdr h7 h8 h12 h13 h14 h70 h71 h72 g2 g5 hlim hn wf
  have hil:=drop_nil hdr
  have hlt:¬ (i < offs.length):=by omega
  rw [run_loop_of t7l1.eq_1]
  simp [h71,h72,hlt]
  refine k7 b d fr offs cnt hi z hd hol hcn _ _ ?_ ?_ ?_ ?_ ?_ g2 g5 hlim hn wf
  all_goals simp [h7,h8,h12,h13,h14]
 | cons o rest ih =>
  intro i f h hdr h7 h8 h12 h13 h14 h70 h71 h72 g2 g5 hlim hn wf
  obtain ⟨hlt,he,hdr'⟩:=drop_at hdr
  obtain ⟨m,hmn⟩:∃ m,h.n=m+6:=⟨h.n - 6,by omega⟩
  have ho:=hof.1 o (by rw [← he];exact List.getElem_mem hlt)
  obtain ⟨to,k,⟨tc,td⟩,⟨ic,id⟩,p⟩:=o
  obtain ⟨o1,rfl⟩:=ho
  simp only at o1
  rw [run_loop_of t7l1.eq_1]
  rcases i with _ | j
  ·simp [h70,h71,h72,h8,hlt,he,eOut,o1,hmn,hlim,wf,turn,t7s1]
   generalize hF:upd _ 72 _=F
   refine ih (0+1) F _ hdr' ?_ ?_ ?_ ?_ ?_ ?_ ?_ ?_ ?_ ?_ ?_ ?_ ?_
   all_goals first
    | (rw [← hF];simp [h7,h8,h12,h13,h14,h70,h71];done)
    | (simp [hmn,g2,g5,hlim,wf];done)
    | (simp [hmn] <;> omega)
  ·have hj:j < offs.length:=by omega
   have hlj:offs[j].to < offs[j+1].to:=by
    have:=List.pairwise_iff_getElem.1 hof.2 j (j+1) (by simp;omega) (by simp;omega) (by omega)
    simpa using this
   rw [he] at hlj
   have hge:¬ (to≤offs[j].to):=by simp only at hlj;omega
   have hw:IntKind.i64.wrap (j:Int)=(j:Int):=wrap64 (by omega) (by omega)
   have hlti:(j:Int)+1 < offs.length:=by omega
   simp [h70,h71,h72,h8,h13,hlt,he,eOut,o1,hmn,hlim,wf,turn,t7s1,hw,hj,hge,hlti]
   rw [wrap64 (by omega) (by omega)]
   generalize hF:upd _ 72 _=F
   refine ih (j+1+1) F _ hdr' ?_ ?_ ?_ ?_ ?_ ?_ ?_ ?_ ?_ ?_ ?_ ?_ ?_
   all_goals first
    | (rw [← hF];simp [h7,h8,h12,h13,h14,h70,h71];done)
    | (simp [hmn,g2,g5,hlim,wf];done)
    | (simp [hmn] <;> omega)
def OutBk (fr:Int) (o:OutS):Prop:=o.tree=⟨31,99⟩∧((o.to≠fr∧o.kind=1)∨(o.to=fr∧o.kind=3))
set_option maxRecDepth 16000 in
set_option maxHeartbeats 4000000 in
theorem l7a (b d:Broker) (fr:Int) (outs offs:List OutS) (N:Nat) (hi:InvK b) (z:Sized b) (hd:{ d with seen:=b.seen }=b) (hol:offs.length=(butL b.near fr).length) (hcn:if fr=-1 then N=b.near.length else N+1=b.near.length) (hof:OffOk fr offs) (hou:∀ o∈outs,OutBk fr o) (hul:outs.length≤1000000) :
  ∀ (rest:List OutS) (i cnt:Nat) (f:FEnv) (h:Heap),outs.drop i=rest→cnt+rest.countP (fun o=>decide (o.kind=1))=N→cnt≤i→f 7=.ptr 2 6 0 0→f 8=.int .i64 fr→f 9=.ptr 3 2 0 0→f 12=.ptr 5 6 0 0→f 13=eL false 8 eOut offs→f 14=.int .i64 cnt→f 41=eL false 8 eOut outs→f 42=.int .i64 outs.length→f 43=.int .i64 i →
  h.get 2=some (.arr 29 6 [eBroker .none b] (some 1))→h.get 3=some (.arr 37 2 [.agg [.int .i64 31,.int .i64 99]] (some 1))→h.get 5=some (.arr 29 6 [eBroker .none d] (some 1))→h.lim=0→6≤h.n→WF h →
  pcOut (fin [.t 6] (run D 142 [.block 0,.seq t7k1] (.loop t7l0) f h))=some (.bool true):=by
 intro rest
 induction rest with
 | nil =>
  intro i cnt f h hdr hcc hci h7 h8 h9 h12 h13 h14 h41 h42 h43 g2 g3 g5 hlim hn wf
  have hil:=drop_nil hdr
  have hlt:¬ (i < outs.length):=by omega
  have hcN:cnt=N:=by simpa using hcc
  subst hcN
  rw [run_loop_of t7l0.eq_1]
  simp [h42,h43,hlt,t7k1,h13]
  refine l7b b d fr offs cnt hi z hd hol hcn hof offs 0 _ _ rfl ?_ ?_ ?_ ?_ ?_ ?_ ?_ ?_ g2 g5 hlim hn wf
  all_goals simp [h7,h8,h12,h13,h14]
 | cons o rest ih =>
  intro i cnt f h hdr hcc hci h7 h8 h9 h12 h13 h14 h41 h42 h43 g2 g3 g5 hlim hn wf
  obtain ⟨hlt,he,hdr'⟩:=drop_at hdr
  obtain ⟨m,hmn⟩:∃ m,h.n=m+6:=⟨h.n - 6,by omega⟩
  have ho:=hou o (by rw [← he];exact List.getElem_mem hlt)
  obtain ⟨to,k,tr,⟨ic,id⟩,p⟩:=o
  obtain ⟨rfl,ho⟩:=ho
  simp only at ho
  rw [List.countP_cons] at hcc
  rw [run_loop_of t7l0.eq_1]
  rcases ho with ⟨o1,rfl⟩ | ⟨rfl,rfl⟩
  ·simp only [decide_true,if_true] at hcc
   have hw:IntKind.i64.wrap ((cnt:Int)+1)=(cnt:Int)+1:=wrap64 (by omega) (by omega)
   have hw2:IntKind.i64.wrap ((i:Int)+1)=(i:Int)+1:=wrap64 (by omega) (by omega)
   simp [h41,h42,h43,h8,h9,h14,hlt,he,eOut,o1,g3,hmn,hlim,wf,turn,t7s0,hw,hw2]
   generalize hF:upd _ 43 _=F
   refine ih (i+1) (cnt+1) F _ hdr' (by omega) (by omega) ?_ ?_ ?_ ?_ ?_ ?_ ?_ ?_ ?_ ?_ ?_ ?_ ?_ ?_ ?_
   all_goals first
    | (rw [← hF];simp [h7,h8,h9,h12,h13,h14,h41,h42];done)
    | (simp [hmn,g2,g3,g5,hlim,wf];done)
    | (simp [hmn] <;> omega)
  ·have hcc':cnt+rest.countP (fun o=>decide (o.kind=1))=N:=by simpa using hcc
   have hw2:IntKind.i64.wrap ((i:Int)+1)=(i:Int)+1:=wrap64 (by omega) (by omega)
   simp [h41,h42,h43,h8,h9,hlt,he,eOut,g3,hmn,hlim,wf,turn,t7s0,hw2]
   generalize hF:upd _ 43 _=F
   refine ih (i+1) cnt F _ hdr' hcc' (by omega) ?_ ?_ ?_ ?_ ?_ ?_ ?_ ?_ ?_ ?_ ?_ ?_ ?_ ?_ ?_
   all_goals first
    | (rw [← hF];simp [h7,h8,h9,h12,h13,h14,h41,h42];done)
    | (simp [hmn,g2,g3,g5,hlim,wf];done)
    | (simp [hmn] <;> omega)
theorem but_all {l:List Int} {x:Int} (h:x ∉ l):butL l x=l:=by
 unfold butL
 rw [List.filter_eq_self]
 intro a ha
 have:a≠x:=fun e=>h (by rw [← e];exact ha)
 simp [this]
theorem pairwise_of_rises:∀ {l:List Int},risesB (fun x y=>decide (x < y)) l=true→l.Pairwise (· < ·)
 | [],_=>.nil
 | [a],_=>List.pairwise_singleton ..
 | a::b::r,h=>by
  unfold risesB at h
  rw [Bool.and_eq_true] at h
  have hab:a < b:=by simpa using h.1
  have ih:=pairwise_of_rises h.2
  refine List.pairwise_cons.2 ⟨fun c hc=>?_,ih⟩
  rcases List.mem_cons.1 hc with rfl | hc
  ·exact hab
  ·have:=(List.pairwise_cons.1 ih).1 c hc
   omega
theorem but_one {l:List Int} {x:Int} (h:l.Pairwise (· < ·)) (hx:x∈l):(butL l x).length+1=l.length:=by
 induction l with
 | nil=>cases hx
 | cons a l ih =>
  have h':=List.pairwise_cons.1 h
  by_cases ha:a=x
  ·subst ha
   have hn:a ∉ l:=fun hm=>by have:=h'.1 a hm;omega
   have:butL (a::l) a=butL l a:=by simp [butL]
   rw [this,but_all hn];rfl
  ·have hm:x∈l:=by rcases List.mem_cons.1 hx with e | e;exact absurd e.symm ha;exact e
   have:butL (a::l) x=a::butL l x:=by simp [butL,ha]
   rw [this,List.length_cons,List.length_cons,ih h'.2 hm]
set_option maxRecDepth 16000 in
set_option maxHeartbeats 4000000 in
theorem s7 (k:BrokK) (frm:Int) (p:PK) (hk:∀ z∈k.steps,z.has.length≤9223372036854775807) (hp:p.has.length≤9223372036854775807) :
  pcF D t7 [eBrokK k,.int .i64 frm,ePK p]=some (.bool true):=by
 have hB:=s29 false k.near k.steps hk
 have hP:=s18 false false p.has p.vals hp
 obtain ⟨hi,hz⟩:=brokerK_keep k.near k.steps
 have hlow:=brokerK_low k.near k.steps
 generalize brokerK k.near k.steps=b at *
 have hq:=mkPred_ok p.has p.vals
 generalize mkPred p.has p.vals=q at *
 have z:=hz.sized (by decide)
 have hS:=s30 .none b frm z
 have hfk:=side_link b frm
 generalize sideB b frm=f at *
 have hx:(⟨31,99⟩:ID) ∉ b.seen:=fun hm=>by have:=hlow.seen _ hm;simp only at this;omega
 have hnl:(-1:Int) ∉ b.near:=fun hm=>by have:=hlow.near _ hm;omega
 have hlowS:b.adverts.length < 100000∧b.seen.length < 100000:=⟨by have:=hz.adv;omega,by have:=hz.seen;omega⟩
 have hV:=s42 b 31 99 f q hi (hz.zl (by decide) hz.own) hq hfk hlowS
 obtain ⟨hic,hzc⟩:=advertise_keep (x:=⟨31,99⟩) hi hz hfk hq
 obtain ⟨l',b1,b2,b3,b4,b5⟩:=back hi hfk hx hq
 have hU:=s43 (advertiseB b f ⟨31,99⟩ q).1 31 99 f hic (hzc.sized (by decide))
 generalize (advertiseB b f ⟨31,99⟩ q).1=c at *
 rw [b1] at hV
 rw [b4] at hU
 generalize (unadvertiseB c f ⟨31,99⟩).1=d at *
 have hta:∀ (k:Int) (p:Pred),∀ o∈toAll b.near f k 31 99 0 0 p,o.tree=⟨31,99⟩∧o.to≠f∧o.kind=k:=by
  intro k p o ho
  unfold toAll at ho
  obtain ⟨n,hn,rfl⟩:=List.mem_map.1 ho
  have:=(List.mem_filter.1 hn).2
  exact ⟨rfl,by simpa using this,rfl⟩
 have hou:∀ o∈toAll b.near f 1 31 99 0 0 q++l',OutBk f o:=by
  intro o ho
  rcases List.mem_append.1 ho with ho | ho
  ·obtain ⟨h1,h2,h3⟩:=hta 1 q o ho
   exact ⟨h1,.inl ⟨h2,h3⟩⟩
  ·obtain ⟨h1,h2,h3⟩:=b3 o ho
   exact ⟨h3,.inr ⟨h1,h2⟩⟩
 have hpw:=pairwise_of_rises hi.near
 have hof:OffOk f (toAll b.near f 2 31 99 0 0 []):=by
  refine ⟨fun o ho=>(hta 2 [] o ho).2,?_⟩
  have:(toAll b.near f 2 31 99 0 0 []).map (·.to)=butL b.near f:=by
   unfold toAll butL
   rw [List.map_map]
   exact List.map_id _
  rw [this]
  exact hpw.filter _
 have hcnt:(toAll b.near f 1 31 99 0 0 q++l').countP (fun o=>decide (o.kind=1))=(butL b.near f).length:=by
  rw [List.countP_append,← toAll_len b.near f 1 31 99 0 0 q]
  have h1:(toAll b.near f 1 31 99 0 0 q).countP (fun o=>decide (o.kind=1))=(toAll b.near f 1 31 99 0 0 q).length:=List.countP_eq_length.2 fun o ho=>by rw [(hta 1 q o ho).2.2];rfl
  have h2:l'.countP (fun o=>decide (o.kind=1))=0:=List.countP_eq_zero.2 fun o ho=>by rw [(b3 o ho).2.1];decide
  rw [h1,h2];rfl
 have hcn:if f=-1 then (butL b.near f).length=b.near.length else (butL b.near f).length+1=b.near.length:=by
  split
  ·rename_i hf;rw [but_all (by rw [hf];exact hnl)]
  ·rename_i hf
   refine but_one hpw ?_
   unfold linkB at hfk
   simpa [hf] using hfk
 have hul:(toAll b.near f 1 31 99 0 0 q++l').length≤1000000:=by
  have h1:=(toAll_ok b.near f 1 31 99 0 0 hq hz.near).2
  have h2:=hz.own
  rw [List.length_append];omega
 simp only at hV hU b5
 unfold pcF
 rw [goRun_eq _ _ _ _ (by simp [t7])]
 simp [t7,eBrokK,ePK,e29,hB,e30,hS,e18,hP,e42,hV,e43,hU,turn]
 refine l7a b d f _ _ _ hi z b5 (toAll_len ..) hcn hof hou hul _ 0 0 _ _ rfl (by simpa using hcnt) (by decide) ?_ ?_ ?_ ?_ ?_ ?_ ?_ ?_ ?_ ?_ ?_ ?_ ?_ ?_ ?_
 all_goals simp
end Go.Dm.Tc
/-
RouteTells: a subscription,its own or a link's,put in or taken out by the program and by the document: the law's walk.
-/
namespace Go.Dm.Tc
end Go.Dm.Tc
/-
RouteBack: plain laws: subscribed,and ended at once.
-/
namespace Go.Dm.Tc
def upIn (b:Broker) (t x:ID):Bool:=match entOf b t x with | some e=>e.up | none=>false
structure Subd (b nb:Broker) (x:ID) (q:Pred) (done:List Advert) (outs:List OutS):Prop where
 inv:InvK nb
 adv:nb.adverts=b.adverts
 near:nb.near=b.near
 seen:nb.seen=b.seen
 me:nb.me=b.me
 own:nb.owns=(subOwn b x q).owns
 keep:nb.entries.filter (fun e=>!decide (e.sub=x))=b.entries
 has:∀ a∈done,meetsP q a.pred=true→∃ u,entOf nb a.id x=some ⟨a.id,x,q,-1,u⟩
 from':∀ e∈nb.entries,e.sub=x→∃ a∈done,a.id=e.tree∧meetsP q a.pred=true
 len:nb.entries.length=b.entries.length+done.countP fun a=>meetsP q a.pred
 cnt:outs.length=done.countP fun a=>upIn nb a.id x
structure Ended (c nb:Broker) (x:ID) (done:List Advert) (outs:List OutS):Prop where
 inv:InvK nb
 adv:nb.adverts=c.adverts
 near:nb.near=c.near
 seen:nb.seen=c.seen
 me:nb.me=c.me
 own:nb.owns=(endOwn c x).owns
 ent:nb.entries=c.entries.filter fun e=>!(decide (e.sub=x) && done.any fun a=>decide (a.id=e.tree))
 cnt:outs.length=done.countP fun a=>upIn c a.id x
 kind:∀ o∈outs,o.kind=4∧o.id=x
end Go.Dm.Tc
/-
RouteBack: subscribed,and ended at once: the law's walk.
-/
namespace Go.Dm.Tc
structure Last (b c d e:Broker) (out back none again:List OutS) (n met:Nat):Prop where
 h1:out.length=n
 h2:back.length=n
 h3:c.entries.length=b.entries.length+met
 h4:d=b
 h5:none=[]
 h6:again=[]
 h7:e=c
end Go.Dm.Tc
