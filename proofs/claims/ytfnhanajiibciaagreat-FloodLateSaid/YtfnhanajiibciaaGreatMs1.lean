/-
What functions of the program compute, part 17: is a broker tight?
-/
import Derived.Test.YtfnhanajiibciaaGreatMs0
set_option linter.all false
namespace Go.Dm.Tc
def parentOf (b:Broker) (x:ID):Int:=((b.adverts.find? fun a=>a.id=x).getD advZero).parent
def tightE (b:Broker) (e:Entry):Bool:=e.up || decide (parentOf b e.tree=-1) || coveredB b.entries e.tree e.pred
def tightB (b:Broker):Bool:=b.entries.all (tightE b)
structure AskedP (b:Broker):Prop where
 unl:∀e∈b.entries,Unlike e.pred
 len:∀e∈b.entries,e.pred.length≤1000000
theorem l41 (t:Tags) (b:Broker) (hs:Sized b) (hp:AskedP b) (ra:Rising (b.adverts.map (·.id))) (h0:Heap) (g0:h0.get 0=some (.arr 29 6 [eBroker t b] (some 1))) (hlim:h0.lim=0) :
  ∀(rest:List Entry) (i:Nat) (f:FEnv) (h:Heap),b.entries.drop i=rest→f 1=.ptr 0 6 0 0→f 8=eL t.entries 7 eEntry b.entries→f 9=.int .i64 b.entries.length→f 10=.int .i64 i→Ext 1 h0 h →
  pcOut (fin [.t 2] (run D 39 [.block 0,.seq t41k0] (.loop t41l0) f h))=some (.bool (rest.all (tightE b))):=by
 obtain ⟨z1,z2,z3,z4,z5⟩:=hs
 have f1:=fun {α:Type} (t:Bool) (sz:Nat) (e:α→DV) (xs:List α)=>(flat_eL t sz e xs).mono (show 1≤20 by decide)
 intro rest
 induction rest with
 | nil =>
  intro i f h hd h1 h8 h9 h10 hx
  have hi:=drop_nil hd
  have:¬(i<b.entries.length):=by omega
  rw [run_loop_of t41l0.eq_1]
  simp [t41k0,h9,h10,this]
 | cons e rest ih =>
  intro i f h hd h1 h8 h9 h10 hx
  obtain ⟨hi,he,hd'⟩:=drop_at hd
  have hem:e∈b.entries:=by rw [←he];exact List.getElem_mem hi
  have hlH:h.lim=0:=hx.lim.trans hlim
  have hg0:=(hx.get 0 (by decide)).trans g0
  simp only [eBroker]at hg0
  have hnh:=hx.le
  have n0:¬0=h.n:=by omega
  have m0:¬h.n=0:=by omega
  have hw:IntKind.i64.wrap ((i:Int)+1)=(i:Int)+1:=wrap64 (by omega) (by omega)
  have hFd:=s23 (.int .i64 b.me) (eL t.near 1 cInt b.near) (eL t.seen 2 eID b.seen) (eL t.entries 7 eEntry b.entries) (eL t.owns 3 eOwn b.owns) t.adverts b.adverts e.tree.client e.tree.seq ra (by omega) ((flat_int _ _).mono (by decide)) (f1 _ _ _ _) (f1 _ _ _ _) (f1 _ _ _ _) (f1 _ _ _ _)
  have hCv:=s35 (.int .i64 b.me) (eL t.near 1 cInt b.near) (eL t.adverts 4 eAdvert b.adverts) (eL t.seen 2 eID b.seen) (eL t.owns 3 eOwn b.owns) t.entries b.entries e.tree.client e.tree.seq e.pred (by omega) (hp.unl e hem) (hp.len e hem) hp.len ((flat_int _ _).mono (by decide)) (f1 _ _ _ _) (f1 _ _ _ _) (f1 _ _ _ _) (f1 _ _ _ _)
  obtain ⟨a,ha⟩:∃ a,(b.adverts.find? fun a=>decide (a.id=⟨e.tree.client,e.tree.seq⟩)).getD advZero=a:=⟨_,rfl⟩
  have hpa:parentOf b e.tree=a.parent:=by unfold parentOf;rw [←ha]
  rw [ha]at hFd
  obtain ⟨C,hC⟩:∃ C,coveredB b.entries e.tree e.pred=C:=⟨_,rfl⟩
  rw [show coveredB b.entries ⟨e.tree.client,e.tree.seq⟩ e.pred=C from hC]at hCv
  rw [run_loop_of t41l0.eq_1]
  have hte:tightE b e=(e.up || decide (a.parent=-1) || C):=by unfold tightE;rw [hpa,hC]
  rw [List.all_cons,hte]
  have next:∀F H,F 1=.ptr 0 6 0 0→F 8=eL t.entries 7 eEntry b.entries→F 9=.int .i64 b.entries.length→F 10=.int .i64 ((i:Int)+1)→Ext 1 h0 H→pcOut (fin [.t 2] (run D 39 [.block 0,.seq t41k0] (.loop t41l0) F H))=some (.bool (rest.all (tightE b))):=fun F H a1 a2 a3 a4 a5=>ih (i+1) F H hd' a1 a2 a3 (by rw [a4];simp) a5
  simp only [eAdvert]at hFd
  cases hup:e.up with
  | true =>
   simp [h1,h8,h9,h10,hi,he,hlH,hg0,n0,m0,eEntry,hup,e23,hFd,turn,hw]
   exact next _ _ (by simp [h1]) (by simp [h8]) (by simp [h9]) (by simp) hx.push.push
  | false =>
   by_cases hpl:a.parent=-1
   ·simp [h1,h8,h9,h10,hi,he,hlH,hg0,n0,m0,eEntry,hup,e23,hFd,turn,hw,hpl]
    exact next _ _ (by simp [h1]) (by simp [h8]) (by simp [h9]) (by simp) hx.push.push
   ·cases C with
    | true =>
     simp [h1,h8,h9,h10,hi,he,hlH,hg0,n0,m0,eEntry,hup,e23,hFd,turn,hw,hpl,e35,hCv]
     exact next _ _ (by simp [h1]) (by simp [h8]) (by simp [h9]) (by simp) hx.push.push
    | false=>simp [h1,h8,h9,h10,hi,he,hlH,hg0,n0,m0,eEntry,hup,e23,hFd,turn,hw,hpl,e35,hCv]
theorem s41 (t:Tags) (b:Broker) (hs:Sized b) (hp:AskedP b) (ra:Rising (b.adverts.map (·.id))):pcF D t41 [eBroker t b]=some (.bool (tightB b)):=by
 unfold pcF
 rw [goRun_eq _ _ _ _ (by simp [t41])]
 simp only [eBroker]
 simp [t41]
 refine (l41 t b hs hp ra _ ?_ ?_ b.entries 0 _ _ rfl ?_ ?_ ?_ ?_ (Ext.refl ?_ ?_)).trans ?_<;>simp [eBroker,tightB]
end Go.Dm.Tc
/-
What the reference's functions compute,part 4: an entry's place;is a predicate covered?
-/
namespace Go.Dm.Tc
theorem l119 (h0:Heap) (a b c d:Int) (t:Bool) (l:List Entry) (hl:l.length≤1000000) (g1:h0.get 1=some (.arr 37 2 [.agg [.int .i64 a,.int .i64 b]] (some 1))) (g2:h0.get 2=some (.arr 37 2 [.agg [.int .i64 c,.int .i64 d]] (some 1))) (hlim:h0.lim=0) :
  ∀(rest:List Entry) (i:Nat) (f:FEnv) (h:Heap),l.drop i=rest→f 4=.ptr 1 2 0 0→f 5=.ptr 2 2 0 0→f 10=eL t 7 eEntry l→f 11=.int .i64 l.length→f 12=.int .i64 i→Ext 3 h0 h →
  pcOut (fin [.t 6] (run D 29 [.block 0,.seq t119k0] (.loop t119l0) f h))=some (.int .i64 (idxOf ((rest.findIdx? (isE ⟨a,b⟩ ⟨c,d⟩)).map (·+i)))):=by
 intro rest
 induction rest with
 | nil =>
  intro i f h hd h4 h5 h10 h11 h12 hx
  have hi:=drop_nil hd
  have:¬(i<l.length):=by omega
  rw [run_loop_of t119l0.eq_1]
  simp [t119k0,h11,h12,this,idxOf]
 | cons e rest ih =>
  intro i f h hd h4 h5 h10 h11 h12 hx
  obtain ⟨hi,he,hd'⟩:=drop_at hd
  have hg1:=(hx.get 1 (by decide)).trans g1
  have hg2:=(hx.get 2 (by decide)).trans g2
  have hnh:=hx.le
  have n1:¬1=h.n:=by omega
  have n2:¬2=h.n:=by omega
  have hl0:h.lim=0:=hx.lim.trans hlim
  have hw:IntKind.i64.wrap ((i:Int)+1)=(i:Int)+1:=wrap64 (by omega) (by omega)
  rw [run_loop_of t119l0.eq_1]
  have next:∀F H,isE ⟨a,b⟩ ⟨c,d⟩ e=false→F 4=.ptr 1 2 0 0→F 5=.ptr 2 2 0 0→F 10=eL t 7 eEntry l→F 11=.int .i64 l.length→F 12=.int .i64 ((i:Int)+1)→Ext 3 h0 H→pcOut (fin [.t 6] (run D 29 [.block 0,.seq t119k0] (.loop t119l0) F H))=some (.int .i64 (idxOf (((e::rest).findIdx? (isE ⟨a,b⟩ ⟨c,d⟩)).map (·+i)))):=fun F H q a1 a2 a3 a4 a5 a6=>by
   refine (ih (i+1) F H hd' a1 a2 a3 a4 (by rw [a5];simp) a6).trans ?_
   simp [List.findIdx?_cons,q]
   congr 2
   funext q
   simp
   omega
  by_cases h1:e.tree=⟨a,b⟩
  ·have hc1:e.tree.client=a:=by rw [h1]
   have hc2:e.tree.seq=b:=by rw [h1]
   by_cases h2:e.sub=⟨c,d⟩
   ·have hc3:e.sub.client=c:=by rw [h2]
    have hc4:e.sub.seq=d:=by rw [h2]
    have hq:isE ⟨a,b⟩ ⟨c,d⟩ e=true:=by simp [isE,h1,h2]
    simp [h4,h5,h10,h11,h12,hi,he,n1,n2,hg1,hg2,eEntry,hl0,hc1,hc2,hc3,hc4,hq,List.findIdx?_cons,idxOf]
   ·have h2':=id_ne h2
    simp only at h2'
    have hq:isE ⟨a,b⟩ ⟨c,d⟩ e=false:=by simp [isE,h2]
    simp [h4,h5,h10,h11,h12,hi,he,n1,n2,hg1,hg2,eEntry,hl0,hc1,hc2,h2',hw]
    exact next _ _ hq (by simp [h4]) (by simp [h5]) (by simp [h10]) (by simp [h11]) (by simp) hx.push
  ·have h1':=id_ne h1
   simp only at h1'
   have hq:isE ⟨a,b⟩ ⟨c,d⟩ e=false:=by simp [isE,h1]
   simp [h4,h5,h10,h11,h12,hi,he,n1,n2,hg1,hg2,eEntry,hl0,h1',hw]
   exact next _ _ hq (by simp [h4]) (by simp [h5]) (by simp [h10]) (by simp [h11]) (by simp) hx.push
theorem s119 (x0 x1 x2 x3 x5:DV) (t:Bool) (l:List Entry) (a b c d:Int) (hl:l.length≤1000000) :
  pcF D t119 [.agg [x0,x1,x2,x3,eL t 7 eEntry l,x5],.agg [.int .i64 a,.int .i64 b],.agg [.int .i64 c,.int .i64 d]]=some (.int .i64 (idxOf (l.findIdx? (isE ⟨a,b⟩ ⟨c,d⟩)))):=by
 unfold pcF
 rw [goRun_eq _ _ _ _ (by simp [t119])]
 simp [t119]
 refine (l119 _ a b c d t l hl ?_ ?_ ?_ l 0 _ _ rfl ?_ ?_ ?_ ?_ ?_ (Ext.refl ?_ ?_)).trans ?_<;>simp
def impliesC (a b:Cons):Bool :=
 if a.kind=1 then decide (b.kind=1) && decide (b.lo≤a.lo) && decide (a.hi≤b.hi)
 else if b.kind=2 then decide (a.kind=2) && (a.text == b.text)
 else decide (b.kind=3) && beginsS a.text b.text
theorem s158 (a b:Cons):pcF D t158 [.agg [.str a.name,.int .i64 a.kind,.int .i64 a.lo,.int .i64 a.hi,.str a.text],.agg [.str b.name,.int .i64 b.kind,.int .i64 b.lo,.int .i64 b.hi,.str b.text]]=some (.bool (impliesC a b)):=by
 obtain ⟨nm,k,lo,hi,tx⟩:=a
 obtain ⟨nm',k',lo',hi',tx'⟩:=b
 unfold pcF
 rw [goRun_eq _ _ _ _ (by simp [t158])]
 simp only
 by_cases k1:k=1
 ·subst k1
  by_cases j:k'=1
  ·by_cases h1:lo'≤lo
   ·simp [t158,impliesC,j,h1]
   ·simp [t158,impliesC,j,h1]
  ·simp [t158,impliesC,j]
 ·by_cases k2:k'=2
  ·subst k2
   by_cases j:k=2
   ·simp [t158,impliesC,j]
   ·simp [t158,impliesC,k1,j]
  ·by_cases k3:k'=3
   ·subst k3
    simp [t158,impliesC,k1,e188,s188]
   ·simp [t158,impliesC,k1,k2,k3]
theorem implies_wider {c x:Cons} (hx:rightOne x=true):impliesC x c=widerC c x:=by
 have hk:x.kind=1∨x.kind=2∨x.kind=3:=by
  unfold rightOne at hx
  rw [Bool.and_eq_true]at hx
  have:=hx.2
  split at this
  ·rename_i h;exact .inl h
  ·split at this
   ·rename_i h;exact .inr (.inr h)
   ·split at this
    ·rename_i h;exact .inr (.inl h)
    ·cases this
 unfold impliesC widerC holdsT
 rcases hk with h|h|h
 ·simp [h]
 ·by_cases h2:c.kind=2
  ·simp [h,h2]
  ·by_cases h3:c.kind=3<;>simp [h,h2,h3]
 ·by_cases h2:c.kind=2
  ·simp [h,h2]
  ·simp [h,h2]
end Go.Dm.Tc
/-
What the reference's functions compute,part 5: does a predicate cover another one? is it covered?
-/
namespace Go.Dm.Tc
def inC (x:Cons) (b:Pred):Bool:=b.any fun y=>decide (y.name=x.name) && impliesC y x
theorem l118 (S:List Fr) (b:Pred) (hl:b.length≤1000000) (a:Pred) (x:Cons) (n11:DV) (i12:DV) (id:Nat) :
  ∀(rest:Pred) (i:Nat) (acc:Bool) (f:FEnv) (h:Heap),b.drop i=rest→f 1=eL false 5 eCons b→f 10=eL false 5 eCons a→f 11=n11→f 12=i12→f 6=.ptr id 5 0 0→f 7=.bool acc→f 16=eL false 5 eCons b→f 17=.int .i64 b.length→f 18=.int .i64 i →
   h.get id=some (.arr 62 5 [eCons x] (some 1))→h.lim=0→WF h →
  ∃ f' h',run D 39 (.block 2::.seq t118k0::S) (.loop t118l0) f h=run D 39 S t118k0 f' h'∧f' 1=eL false 5 eCons b∧f' 10=eL false 5 eCons a∧f' 11=n11∧f' 12=i12∧f' 7=.bool (acc || inC x rest)∧h'.lim=0∧WF h':=by
 intro rest
 induction rest with
 | nil =>
  intro i acc f h hd h1 h10 h11 h12 h6 h7 h16 h17 h18 g hlim wf
  have hi:=drop_nil hd
  have:¬(i<b.length):=by omega
  rw [run_loop_of t118l0.eq_1]
  simp [h17,h18,this]
  exact ⟨_,_,rfl,by simp [h1],by simp [h10],by simp [h11],by simp [h12],by simp [h7,inC],hlim,wf⟩
 | cons y rest ih =>
  intro i acc f h hd h1 h10 h11 h12 h6 h7 h16 h17 h18 g hlim wf
  obtain ⟨hi,he,hd'⟩:=drop_at hd
  have hlt:=get_some_lt g
  have n0:¬id=h.n:=by omega
  have hw:IntKind.i64.wrap ((i:Int)+1)=(i:Int)+1:=wrap64 (by omega) (by omega)
  simp only [eCons]at g
  rw [run_loop_of t118l0.eq_1]
  have hin:(acc || inC x (y::rest))=((acc || (decide (y.name=x.name) && impliesC y x)) || inC x rest):=by simp [inC,Bool.or_assoc]
  rw [hin]
  have next:∀(F:FEnv) (acc':Bool),F 1=eL false 5 eCons b→F 10=eL false 5 eCons a→F 11=n11→F 12=i12→F 6=.ptr id 5 0 0→F 7=.bool acc'→F 16=eL false 5 eCons b→F 17=.int .i64 b.length→F 18=.int .i64 ((i:Int)+1) →
    ∃ f' h',run D 39 (.block 2::.seq t118k0::S) (.loop t118l0) F (h.push (.arr 62 5 [.agg [.str y.name,.int .i64 y.kind,.int .i64 y.lo,.int .i64 y.hi,.str y.text]] (some 1)))=run D 39 S t118k0 f' h'∧f' 1=eL false 5 eCons b∧f' 10=eL false 5 eCons a∧f' 11=n11∧f' 12=i12∧f' 7=.bool (acc' || inC x rest)∧h'.lim=0∧WF h':=fun F acc' a1 a2 a3 a4 a5 a6 a7 a8 a9 =>
   ih (i+1) acc' F _ hd' a1 a2 a3 a4 a5 a6 a7 a8 (by rw [a9];simp) (by rw [get_push,if_neg n0];exact g) hlim wf.push
  cases acc with
  | true =>
   simp [h1,h6,h7,h16,h17,h18,hi,he,eCons,hlim,n0,g,hw]
   generalize hF:upd _ 18 _=F
   have:=next F true (by rw [←hF];simp [h1]) (by rw [←hF];simp [h10]) (by rw [←hF];simp [h11]) (by rw [←hF];simp [h12]) (by rw [←hF];simp [h6]) (by rw [←hF];simp) (by rw [←hF];simp [h16,eCons]) (by rw [←hF];simp [h17]) (by rw [←hF];simp)
   simpa using this
  | false =>
   by_cases hn:y.name=x.name
   ·simp [h1,h6,h7,h16,h17,h18,hi,he,eCons,hlim,n0,g,hw,eq_true hn,beq_iff_eq.2 hn,e158,s158]
    generalize hF:upd _ 18 _=F
    have:=next F (impliesC y x) (by rw [←hF];simp [h1]) (by rw [←hF];simp [h10]) (by rw [←hF];simp [h11]) (by rw [←hF];simp [h12]) (by rw [←hF];simp [h6]) (by rw [←hF];simp) (by rw [←hF];simp [h16,eCons]) (by rw [←hF];simp [h17]) (by rw [←hF];simp)
    simpa using this
   ·simp [h1,h6,h7,h16,h17,h18,hi,he,eCons,hlim,n0,g,hw,hn]
    generalize hF:upd _ 18 _=F
    have:=next F false (by rw [←hF];simp [h1]) (by rw [←hF];simp [h10]) (by rw [←hF];simp [h11]) (by rw [←hF];simp [h12]) (by rw [←hF];simp [h6]) (by rw [←hF];simp) (by rw [←hF];simp [h16,eCons]) (by rw [←hF];simp [h17]) (by rw [←hF];simp)
    simpa using this
theorem m118 (a b:Pred) (hla:a.length≤1000000) (hl:b.length≤1000000) :
  ∀(rest:Pred) (i:Nat) (f:FEnv) (h:Heap),a.drop i=rest→f 1=eL false 5 eCons b→f 10=eL false 5 eCons a→f 11=.int .i64 a.length→f 12=.int .i64 i→h.lim=0→WF h →
  pcOut (fin [.t 4] (run D 39 [.block 0,.seq t118k2] (.loop t118l1) f h))=some (.bool (rest.all fun x=>inC x b)):=by
 intro rest
 induction rest with
 | nil =>
  intro i f h hd h1 h10 h11 h12 hlim wf
  have hi:=drop_nil hd
  have:¬(i<a.length):=by omega
  rw [run_loop_of t118l1.eq_1]
  simp [t118k2,h11,h12,this]
 | cons x rest ih =>
  intro i f h hd h1 h10 h11 h12 hlim wf
  obtain ⟨hi,he,hd'⟩:=drop_at hd
  have hw:IntKind.i64.wrap ((i:Int)+1)=(i:Int)+1:=wrap64 (by omega) (by omega)
  rw [run_loop_of t118l1.eq_1]
  simp [h1,h10,h11,h12,hi,he,eCons,hlim]
  generalize hF:upd _ 18 _=F
  obtain ⟨f',h',k1,k2,k3,k4,k5,k6,k7,k8⟩:=l118 (.block 1::.seq t118k1::.loop t118l1::[.block 0,.seq t118k2]) b hl a x (.int .i64 a.length) (.int .i64 i) h.n b 0 false F (h.push (.arr 62 5 [eCons x] (some 1))) rfl (by rw [←hF];simp [h1]) (by rw [←hF];simp [h10,eCons]) (by rw [←hF];simp [h11]) (by rw [←hF];simp [h12]) (by rw [←hF];simp) (by rw [←hF];simp) (by rw [←hF];simp [eCons]) (by rw [←hF];simp) (by rw [←hF];simp) (by simp) (by exact hlim) wf.push
  simp only [eCons]at k1
  rw [k1]
  clear hF k1
  simp only [Bool.false_or]at k6
  cases hq:inC x b with
  | false =>
   rw [hq]at k6
   simp [t118k0,k6,hq]
  | true =>
   rw [hq]at k6
   simp [t118k0,t118k1,k5,k6,hq,hw]
   refine (ih (i+1) _ h' hd' ?_ ?_ ?_ ?_ k7 k8).trans ?_<;>simp [k2,k3,k4]
theorem s118 (a b:Pred) (hla:a.length≤1000000) (hl:b.length≤1000000):pcF D t118 [ePred a,ePred b]=some (.bool (a.all fun x=>inC x b)):=by
 unfold pcF
 rw [goRun_eq _ _ _ _ (by simp [t118])]
 simp only [ePred]
 simp [t118]
 refine (m118 a b hla hl a 0 _ _ rfl ?_ ?_ ?_ ?_ ?_ ?_).trans ?_<;>simp
end Go.Dm.Tc
/-
Plain laws,part 3: names of right predicates are unlike;the two coverings are alike. The reference's Covered.
-/
namespace Go.Dm.Tc
theorem u8_lt {a b:UInt8}:(decide (a<b))=decide (a.toNat<b.toNat):=by
 by_cases h:a<b
 ·rw [decide_eq_true h,decide_eq_true (UInt8.lt_iff_toNat_lt.1 h)]
 ·rw [decide_eq_false h,decide_eq_false (fun q=>h (UInt8.lt_iff_toNat_lt.2 q))]
theorem bl_irr:∀a:List UInt8,Go.Op.bytesLess a a=false
 | []=>rfl
 | a::r=>by simp only [Go.Op.bytesLess,u8_lt,bl_irr r];simp
theorem bl_trans:∀{a b c:List UInt8},Go.Op.bytesLess a b=true→Go.Op.bytesLess b c=true→Go.Op.bytesLess a c=true
 | _,[],_,h,_=>by cases ‹List UInt8›<;>simp [Go.Op.bytesLess]at h
 | _,_::_,[],_,h=>by simp [Go.Op.bytesLess]at h
 | [],_::_,_::_,_,_=>rfl
 | a::x,b::y,c::z,h1,h2=>by
  simp only [Go.Op.bytesLess,u8_lt,Bool.or_eq_true,Bool.and_eq_true,decide_eq_true_iff,beq_iff_eq]at *
  rcases h1 with h1|⟨rfl,h1⟩
  ·rcases h2 with h2|⟨rfl,h2⟩
   ·exact .inl (by omega)
   ·exact .inl h1
  ·rcases h2 with h2|⟨rfl,h2⟩
   ·exact .inl h2
   ·exact .inr ⟨rfl,bl_trans h1 h2⟩
theorem rightA_names:∀{p:Pred} {prev:Option (List UInt8)},rightA prev p=true→(∀n,prev=some n→∀c∈p,Go.Op.bytesLess n c.name=true)∧p.Pairwise fun a b=>Go.Op.bytesLess a.name b.name=true
 | [],_,_=>⟨fun _ _ _ h=>(by cases h),List.Pairwise.nil⟩
 | c::r,prev,h=>by
  simp only [rightA,Bool.and_eq_true]at h
  obtain ⟨⟨_,h2⟩,h3⟩:=h
  obtain ⟨k1,k2⟩:=rightA_names h3
  refine ⟨fun n hn d hd=>?_,List.pairwise_cons.2 ⟨fun d hd=>k1 c.name rfl d hd,k2⟩⟩
  subst hn
  rcases List.mem_cons.1 hd with rfl|hd
  ·exact h2
  ·exact bl_trans h2 (k1 c.name rfl d hd)
theorem rightA_each:∀{p:Pred} {prev:Option (List UInt8)},rightA prev p=true→∀c∈p,rightOne c=true
 | [],_,_,_,h=>by cases h
 | c::r,prev,h,d,hd=>by
  simp only [rightA,Bool.and_eq_true]at h
  rcases List.mem_cons.1 hd with rfl|hd
  ·exact h.1.1
  ·exact rightA_each h.2 d hd
theorem PredOk.unlike {p:Pred} (h:PredOk p):Unlike p:=by
 have:=h.right
 unfold rightP at this
 rw [Bool.and_eq_true]at this
 refine (rightA_names this.1).2.imp fun {a b} hab e=>?_
 rw [e,bl_irr]at hab
 cases hab
theorem PredOk.each {p:Pred} (h:PredOk p):∀c∈p,rightOne c=true:=by
 have:=h.right
 unfold rightP at this
 rw [Bool.and_eq_true]at this
 exact rightA_each this.1
theorem PredOk.nil:PredOk []:=⟨rfl,⟨by decide,fun c h=>by cases h⟩,by decide⟩
theorem inC_find (x:Cons):∀{b:Pred},Unlike b→(∀y∈b,rightOne y=true)→inC x b=match b.find? (fun y=>decide (y.name=x.name)) with
  | some y=>widerC x y
  | none=>false
 | [],_,_=>rfl
 | y::r,hu,hr=>by
  unfold Unlike at hu
  rw [List.pairwise_cons]at hu
  unfold inC
  rw [List.any_cons,List.find?_cons]
  by_cases h:y.name=x.name
  ·rw [decide_eq_true h]
   have:(r.any fun y=>decide (y.name=x.name) && impliesC y x)=false:=by
    rw [List.any_eq_false]
    intro z hz
    have:¬z.name=x.name:=fun e=>hu.1 z hz (by rw [h,e])
    simp [this]
   rw [this,Bool.true_and,Bool.or_false]
   exact implies_wider (hr y (List.mem_cons_self ..))
  ·rw [decide_eq_false h,Bool.false_and,Bool.false_or]
   exact inC_find x hu.2 fun z hz=>hr z (List.mem_cons_of_mem _ hz)
theorem refCovers_eq (a:Pred) {b:Pred} (h:PredOk b):(a.all fun x=>inC x b)=coversP a b:=by
 unfold coversP
 congr 1
 funext x
 exact inC_find x h.unlike h.each
theorem s118_ok (a b:Pred) (hla:a.length≤1000000) (h:PredOk b):pcF D t118 [ePred a,ePred b]=some (.bool (coversP a b)):=by
 rw [←refCovers_eq a h]
 exact s118 a b hla (Nat.le_trans h.len (by decide))
theorem l36 (t:Bool) (l:List Entry) (c d:Int) (p:Pred) (hl:l.length≤1000000) (hp:PredOk p) (hle:∀e∈l,e.pred.length≤1000000) (h0:Heap) (g1:h0.get 1=some (.arr 37 2 [.agg [.int .i64 c,.int .i64 d]] (some 1))) (hlim:h0.lim=0) :
  ∀(rest:List Entry) (i:Nat) (f:FEnv) (h:Heap),l.drop i=rest→f 2=ePred p→f 4=.ptr 1 2 0 0→f 10=eL t 7 eEntry l→f 11=.int .i64 l.length→f 12=.int .i64 i→Ext 2 h0 h →
  pcOut (fin [.t 6] (run D 31 [.block 0,.seq t36k0] (.loop t36l0) f h))=some (.bool (coveredB rest ⟨c,d⟩ p)):=by
 intro rest
 induction rest with
 | nil =>
  intro i f h hd h2 h4 h10 h11 h12 hx
  have hi:=drop_nil hd
  have:¬(i<l.length):=by omega
  rw [run_loop_of t36l0.eq_1]
  simp [t36k0,h11,h12,this,coveredB,ofT]
 | cons e rest ih =>
  intro i f h hd h2 h4 h10 h11 h12 hx
  obtain ⟨hi,he,hd'⟩:=drop_at hd
  have hg1:=(hx.get 1 (by decide)).trans g1
  have hnh:=hx.le
  have n1:¬1=h.n:=by omega
  have hl0:h.lim=0:=hx.lim.trans hlim
  have hw:IntKind.i64.wrap ((i:Int)+1)=(i:Int)+1:=wrap64 (by omega) (by omega)
  have hcv:=s118_ok e.pred p (hle e (by rw [←he];exact List.getElem_mem hi)) hp
  have next:∀F H,F 2=ePred p→F 4=.ptr 1 2 0 0→F 10=eL t 7 eEntry l→F 11=.int .i64 l.length→F 12=.int .i64 ((i:Int)+1)→Ext 2 h0 H →
    pcOut (fin [.t 6] (run D 31 [.block 0,.seq t36k0] (.loop t36l0) F H))=some (.bool (coveredB rest ⟨c,d⟩ p)):=fun F H a1 a2 a3 a4 a5 a6=>ih (i+1) F H hd' a1 a2 a3 a4 (by rw [a5];simp) a6
  rw [run_loop_of t36l0.eq_1]
  by_cases ht:e.tree=⟨c,d⟩
  ·have hc1:e.tree.client=c:=by rw [ht]
   have hc2:e.tree.seq=d:=by rw [ht]
   have hcb:coveredB (e::rest) ⟨c,d⟩ p=((e.up && coversP e.pred p) || coveredB rest ⟨c,d⟩ p):=by simp [coveredB,ofT,ht]
   rw [hcb]
   cases hup:e.up with
   | false =>
    simp [h2,h4,h10,h11,h12,hi,he,n1,hg1,eEntry,hl0,hc1,hc2,hup,hw]
    exact next _ _ (by simp [h2]) (by simp [h4]) (by simp [h10]) (by simp [h11]) (by simp) hx.push
   | true =>
    cases hcp:coversP e.pred p with
    | false =>
     rw [hcp]at hcv
     simp [h2,h4,h10,h11,h12,hi,he,n1,hg1,eEntry,hl0,hc1,hc2,hup,hw,e118,hcv]
     exact next _ _ (by simp [h2]) (by simp [h4]) (by simp [h10]) (by simp [h11]) (by simp) hx.push
    | true =>
     rw [hcp]at hcv
     simp [h2,h4,h10,h11,h12,hi,he,n1,hg1,eEntry,hl0,hc1,hc2,hup,hw,e118,hcv]
  ·have h1':=id_ne ht
   simp only at h1'
   have hcb:coveredB (e::rest) ⟨c,d⟩ p=coveredB rest ⟨c,d⟩ p:=by simp [coveredB,ofT,ht]
   rw [hcb]
   simp [h2,h4,h10,h11,h12,hi,he,n1,hg1,eEntry,hl0,h1',hw]
   exact next _ _ (by simp [h2]) (by simp [h4]) (by simp [h10]) (by simp [h11]) (by simp) hx.push
theorem s36 (x0 x1 x2 x3 x5:DV) (t:Bool) (l:List Entry) (c d:Int) (p:Pred) (hl:l.length≤1000000) (hp:PredOk p) (hle:∀e∈l,e.pred.length≤1000000) :
  pcF D t36 [.agg [x0,x1,x2,x3,eL t 7 eEntry l,x5],.agg [.int .i64 c,.int .i64 d],ePred p]=some (.bool (coveredB l ⟨c,d⟩ p)):=by
 unfold pcF
 rw [goRun_eq _ _ _ _ (by simp [t36])]
 simp [t36]
 refine (l36 t l c d p hl hp hle _ ?_ ?_ l 0 _ _ rfl ?_ ?_ ?_ ?_ ?_ (Ext.refl ?_ ?_)).trans ?_<;>simp
end Go.Dm.Tc
/-
What functions of the program compute,part 18: an entry added.
-/
namespace Go.Dm.Tc
def insE (e:Entry) (l:List Entry):List Entry:=l.take (lowIdx (sgnE e.tree e.sub) l)++e::l.drop (lowIdx (sgnE e.tree e.sub) l)
def mayAdd (b:Broker) (e:Entry):Bool :=
 match b.adverts.find? (fun a=>a.id=e.tree) with
 | none=>false
 | some a=>!(b.entries.any (isE e.tree e.sub)) && !(decide (e.frm=a.parent) && !decide (a.parent=-1))
def upOf (b:Broker) (e:Entry):Bool:=!decide (parentOf b e.tree=-1) && !coveredB b.entries e.tree e.pred
def addB (b:Broker) (e:Entry):Broker×Bool :=
 if mayAdd b e=true then ({b with entries:=insE {e with up:=upOf b e} b.entries},upOf b e) else (b,false)
theorem find_any {l:List Entry} {t s:ID}:l.any (isE t s)=hasO (l.find? (isE t s)):=by
 cases h:l.find? (isE t s) with
 | none =>
  rw [List.any_eq_false.2]
  ·rfl
  ·intro x hx
   have:=List.find?_eq_none.1 h x hx
   simpa using this
 | some a=>exact List.any_eq_true.2 ⟨a,List.mem_of_find?_eq_some h,List.find?_some h⟩
set_option maxRecDepth 8000 in
theorem s31 (b:Broker) (e:Entry) (hs:Sized b) (hq:AskedP b) (hpo:PredOk e.pred) (ra:Rising (b.adverts.map (·.id))) (re:RisingE b.entries) :
  pcF D t31 [eBroker .none b,.agg [.int .i64 e.tree.client,.int .i64 e.tree.seq,.int .i64 e.sub.client,.int .i64 e.sub.seq,ePred e.pred,.int .i64 e.frm,.bool e.up]]=some (.tup [eBroker .none (addB b e).1,.bool (addB b e).2]):=by
 obtain ⟨me,near,adv,seen,ent,own⟩:=b
 obtain ⟨⟨tc,td⟩,⟨sc,sd⟩,p,frm,up⟩:=e
 obtain ⟨z1,z2,z3,z4,z5⟩:=hs
 simp only at z1 z2 z3 z4 z5 ra re hpo
 obtain ⟨R,hR⟩:∃ R,R=DV.tup [eBroker .none (addB ⟨me,near,adv,seen,ent,own⟩ ⟨⟨tc,td⟩,⟨sc,sd⟩,p,frm,up⟩).1,.bool (addB ⟨me,near,adv,seen,ent,own⟩ ⟨⟨tc,td⟩,⟨sc,sd⟩,p,frm,up⟩).2]:=⟨_,rfl⟩
 rw [←hR]
 have hal:adv.length≤1000000:=by omega
 have hel:ent.length≤1000000:=by omega
 have f1:=fun {α:Type} (t:Bool) (sz:Nat) (e:α→DV) (xs:List α)=>(flat_eL t sz e xs).mono (show 1≤20 by decide)
 have hFd:=fun u4=>s23 (.int .i64 me) (eL false 1 cInt near) (eL false 2 eID seen) (eL u4 7 eEntry ent) (eL false 3 eOwn own) false adv tc td ra hal ((flat_int _ _).mono (by decide)) (f1 _ _ _ _) (f1 _ _ _ _) (f1 _ _ _ _) (f1 _ _ _ _)
 have hPl:=fun u4=>s113 (.int .i64 me) (eL false 1 cInt near) (eL false 4 eAdvert adv) (eL false 2 eID seen) (eL false 3 eOwn own) u4 ent tc td sc sd re hel
 have hCv:=fun u4=>s35 (.int .i64 me) (eL false 1 cInt near) (eL false 4 eAdvert adv) (eL false 2 eID seen) (eL false 3 eOwn own) u4 ent tc td p hel hpo.unlike (Nat.le_trans hpo.len (by decide)) hq.len ((flat_int _ _).mono (by decide)) (f1 _ _ _ _) (f1 _ _ _ _) (f1 _ _ _ _) (f1 _ _ _ _)
 have hhit:=hitE re ⟨tc,td⟩ ⟨sc,sd⟩
 have hany:=find_any (l:=ent) (t:=⟨tc,td⟩) (s:=⟨sc,sd⟩)
 unfold pcF
 rw [goRun_eq _ _ _ _ (by simp [t31])]
 simp [t31,eBroker,Tags.none,e112]
 generalize hA:cloneHook _ _ _ _ _=A
 obtain ⟨v4,K,rfl,o4,x,_⟩:=clone_own (lo:=3) (elems_eL ..) (by simp) (by simp) (by simp) (by simp;omega) (by decide) hA
 clear hA
 have a0:=x.get 0 (by decide)
 have a1:=x.get 1 (by decide)
 have a2:=x.get 2 (by decide)
 have q0:=x.lim
 have w0:=x.wf
 have n0:=x.le
 simp at a0 a1 a2 q0
 have l0':0<K.n:=by omega
 obtain ⟨H,hH⟩:∃ H,H=K.set 0 (.arr 29 6 [.agg [.int .i64 me,eL false 1 cInt near,eL false 4 eAdvert adv,eL false 2 eID seen,v4,eL false 3 eOwn own]] (some 1)):=⟨_,rfl⟩
 have wH:WF H:=by rw [hH];exact w0.set
 have nH:H.n=K.n:=by rw [hH];rfl
 have lH:H.lim=0:=by rw [hH];exact q0
 have g0:H.get 0=some (.arr 29 6 [.agg [.int .i64 me,eL false 1 cInt near,eL false 4 eAdvert adv,eL false 2 eID seen,v4,eL false 3 eOwn own]] (some 1)):=by rw [hH,get_set w0 l0',if_pos rfl]
 have g1:H.get 1=some (.arr 58 7 [.agg [.int .i64 tc,.int .i64 td,.int .i64 sc,.int .i64 sd,ePred p,.int .i64 frm,.bool up]] (some 1)):=by rw [hH,get_set w0 l0',if_neg (by decide)];exact a1
 have g2:H.get 2=some (.arr 29 6 [.agg [.int .i64 0,.nsl,.nsl,.nsl,.nsl,.nsl]] (some 1)):=by rw [hH,get_set w0 l0',if_neg (by decide)];exact a2
 have st4:=o4.storable
 have ec4:=o4.ecells
 replace o4:Own 3 H v4 58 7 (ent.map eEntry):=by rw [hH];exact o4.setLow w0 (by decide) l0'
 simp [a0,a1,a2,q0,w0,l0',st4,ec4,turn]
 rw [←hH]
 clear hH
 have l0:0<H.n:=by omega
 have l1:1<H.n:=by omega
 have l2:2<H.n:=by omega
 have nn0:¬0=H.n:=by omega
 have nn1:¬1=H.n:=by omega
 have nn2:¬2=H.n:=by omega
 have mm0:¬H.n=0:=by omega
 have mm1:¬H.n=1:=by omega
 have mm2:¬H.n=2:=by omega
 have r1:resolve true H 199 v4=some (eL true 7 eEntry ent):=o4.resolve true (fun y _=>(plain_entry y).1) (by decide)
 have r1p:∀o,resolve true (H.push o) 199 v4=some (eL true 7 eEntry ent):=fun o=>o4.push.resolve true (fun y _=>(plain_entry y).1) (by decide)
 have r2:∀o o',resolve false ((H.set 2 o').push o) 198 v4=some (eL false 7 eEntry ent):=fun o o'=>((o4.setLow wH (by decide) l2).push).resolve false (fun y _=>(plain_entry y).1) (by decide)
 cases hq1:adv.find? (fun a=>decide (a.id=⟨tc,td⟩)) with
 | none =>
  rw [hq1]at hFd
  have hmay:mayAdd ⟨me,near,adv,seen,ent,own⟩ ⟨⟨tc,td⟩,⟨sc,sd⟩,p,frm,up⟩=false:=by simp [mayAdd,hq1]
  simp [g0,g1,g2,lH,wH,nn0,nn1,nn2,mm0,mm1,mm2,l0,l1,l2,e23,hFd,e113,hPl,hhit,r1,r2,eAdvert,turn,resultsOf,hasO,advZero,r1p]
  simp [hR,addB,hmay,eBroker,Tags.none]
 | some a =>
  rw [hq1]at hFd
  simp only [eAdvert,Option.getD_some]at hFd
  cases hq2:ent.find? (isE ⟨tc,td⟩ ⟨sc,sd⟩) with
  | some e2 =>
   rw [hq2]at hhit hany
   simp only at hhit
   have hhit':=hhit.1
   have hmay:mayAdd ⟨me,near,adv,seen,ent,own⟩ ⟨⟨tc,td⟩,⟨sc,sd⟩,p,frm,up⟩=false:=by simp only [mayAdd,hq1,hany];simp [hasO]
   simp [g0,g1,g2,lH,wH,nn0,nn1,nn2,mm0,mm1,mm2,l0,l1,l2,e23,hFd,e113,hPl,r1,r2,eAdvert,turn,resultsOf,hasO,r1p,hhit']
   simp [hR,addB,hmay,eBroker,Tags.none]
  | none =>
   rw [hq2]at hhit hany
   simp only at hhit
   by_cases hfp:frm=a.parent∧¬a.parent=-1
   ·have hmay:mayAdd ⟨me,near,adv,seen,ent,own⟩ ⟨⟨tc,td⟩,⟨sc,sd⟩,p,frm,up⟩=false:=by simp only [mayAdd,hq1,hany];simp [hfp.1,hfp.2]
    have hf1:=hfp.1
    have hf2:=hfp.2
    subst hf1
    simp [g0,g1,g2,lH,wH,nn0,nn1,nn2,mm0,mm1,mm2,l0,l1,l2,e23,hFd,e113,hPl,hhit,r1,r2,eAdvert,turn,resultsOf,hasO,r1p,hf2]
    simp [hR,addB,hmay,eBroker,Tags.none]
   ·have hmay:mayAdd ⟨me,near,adv,seen,ent,own⟩ ⟨⟨tc,td⟩,⟨sc,sd⟩,p,frm,up⟩=true:=by
     simp only [mayAdd,hq1,hany,hasO]
     by_cases h1:frm=a.parent
     ·have h2:a.parent=-1:=by
       by_cases h2:a.parent=-1
       ·exact h2
       ·exact absurd ⟨h1,h2⟩ hfp
      simp [h2]
     ·simp [h1]
    have hpar:parentOf ⟨me,near,adv,seen,ent,own⟩ ⟨tc,td⟩=a.parent:=by simp [parentOf,hq1]
    by_cases hpl:a.parent=-1
    ·have hup:upOf ⟨me,near,adv,seen,ent,own⟩ ⟨⟨tc,td⟩,⟨sc,sd⟩,p,frm,up⟩=false:=by simp [upOf,hpar,hpl]
     by_cases hfm:frm=a.parent
     ·simp [g0,g1,g2,lH,wH,nn0,nn1,nn2,mm0,mm1,mm2,l0,l1,l2,e23,hFd,e113,hPl,hhit,r1,eAdvert,turn,r1p,hasO,eq_true hpl,eq_true hfm]
      generalize hA:fc D _ _ _=A
      have o4i:=o4.push (o:=.arr 42 4 [.agg [.int .i64 a.id.client,.int .i64 a.id.seq,ePred a.pred,.int .i64 a.parent]] (some 1))
      obtain ⟨v4',K2,rfl,p4,x2,_⟩:=q114 hA 3 ent ⟨⟨tc,td⟩,⟨sc,sd⟩,p,frm,false⟩ (vety:=58) (c:=1) (by
        have:=((o4i.setLow (id:=1) (o:=.arr 58 7 [.agg [.int .i64 tc,.int .i64 td,.int .i64 sc,.int .i64 sd,ePred p,.int .i64 frm,.bool false]] (some 1)) wH.push (by decide) (by simp;omega)).push (o:=.arr 58 7 [.agg [.int .i64 tc,.int .i64 td,.int .i64 sc,.int .i64 sd,ePred p,.int .i64 frm,.bool false]] (some 1)))
        simpa [l1,wH] using this) (by simp [eEntry,nn0,nn1,nn2,mm0,mm1,mm2,l0,l1,l2,wH]) (lowIdx_le _ _) hel (by simp [wH]) (by simp;omega) (by simp [lH])
      clear hA
      have b0:=x2.get 0 (by decide)
      have b1:=x2.get 1 (by decide)
      have b2:=x2.get 2 (by decide)
      have q2:=x2.lim
      have w2:=x2.wf
      have n2:=x2.le
      simp [g0,g1,g2,lH,wH,nn0,nn1,nn2,mm0,mm1,mm2,l0,l1,l2]at b0 b1 b2 q2
      have h20:0<K2.n:=by omega
      have h22:2<K2.n:=by omega
      have r4':=fun o o'=>((p4.setLow (o:=o) w2 (by decide) h20).setLow (o:=o') w2.set (by decide) h22).resolve (n:=198) false (fun y _=>(plain_entry y).1) (by decide)
      simp [b0,b1,b2,q2,w2,h20,h22,p4.storable,p4.ecells,turn,r4',resultsOf]
      simp [hR,addB,hmay,hup,eBroker,Tags.none,insE]
     ·simp [g0,g1,g2,lH,wH,nn0,nn1,nn2,mm0,mm1,mm2,l0,l1,l2,e23,hFd,e113,hPl,hhit,r1,eAdvert,turn,r1p,hasO,eq_true hpl,hfm]
      generalize hA:fc D _ _ _=A
      have o4i:=o4.push (o:=.arr 42 4 [.agg [.int .i64 a.id.client,.int .i64 a.id.seq,ePred a.pred,.int .i64 a.parent]] (some 1))
      obtain ⟨v4',K2,rfl,p4,x2,_⟩:=q114 hA 3 ent ⟨⟨tc,td⟩,⟨sc,sd⟩,p,frm,false⟩ (vety:=58) (c:=1) (by
        have:=((o4i.setLow (id:=1) (o:=.arr 58 7 [.agg [.int .i64 tc,.int .i64 td,.int .i64 sc,.int .i64 sd,ePred p,.int .i64 frm,.bool false]] (some 1)) wH.push (by decide) (by simp;omega)).push (o:=.arr 58 7 [.agg [.int .i64 tc,.int .i64 td,.int .i64 sc,.int .i64 sd,ePred p,.int .i64 frm,.bool false]] (some 1)))
        simpa [l1,wH] using this) (by simp [eEntry,nn0,nn1,nn2,mm0,mm1,mm2,l0,l1,l2,wH]) (lowIdx_le _ _) hel (by simp [wH]) (by simp;omega) (by simp [lH])
      clear hA
      have b0:=x2.get 0 (by decide)
      have b1:=x2.get 1 (by decide)
      have b2:=x2.get 2 (by decide)
      have q2:=x2.lim
      have w2:=x2.wf
      have n2:=x2.le
      simp [g0,g1,g2,lH,wH,nn0,nn1,nn2,mm0,mm1,mm2,l0,l1,l2]at b0 b1 b2 q2
      have h20:0<K2.n:=by omega
      have h22:2<K2.n:=by omega
      have r4':=fun o o'=>((p4.setLow (o:=o) w2 (by decide) h20).setLow (o:=o') w2.set (by decide) h22).resolve (n:=198) false (fun y _=>(plain_entry y).1) (by decide)
      simp [b0,b1,b2,q2,w2,h20,h22,p4.storable,p4.ecells,turn,r4',resultsOf]
      simp [hR,addB,hmay,hup,eBroker,Tags.none,insE]
    ·have hfne:¬frm=a.parent:=fun e=>hfp ⟨e,hpl⟩
     cases hC:coveredB ent ⟨tc,td⟩ p with
     | true =>
      rw [hC]at hCv
      have hup:upOf ⟨me,near,adv,seen,ent,own⟩ ⟨⟨tc,td⟩,⟨sc,sd⟩,p,frm,up⟩=false:=by simp [upOf,hC]
      simp [g0,g1,g2,lH,wH,nn0,nn1,nn2,mm0,mm1,mm2,l0,l1,l2,e23,hFd,e113,hPl,hhit,r1,eAdvert,turn,r1p,hasO,hpl,hfne,e35,hCv]
      generalize hA:fc D _ _ _=A
      have o4i:=o4.push (o:=.arr 42 4 [.agg [.int .i64 a.id.client,.int .i64 a.id.seq,ePred a.pred,.int .i64 a.parent]] (some 1))
      obtain ⟨v4',K2,rfl,p4,x2,_⟩:=q114 hA 3 ent ⟨⟨tc,td⟩,⟨sc,sd⟩,p,frm,false⟩ (vety:=58) (c:=1) (by
        have:=((o4i.setLow (id:=1) (o:=.arr 58 7 [.agg [.int .i64 tc,.int .i64 td,.int .i64 sc,.int .i64 sd,ePred p,.int .i64 frm,.bool false]] (some 1)) wH.push (by decide) (by simp;omega)).push (o:=.arr 58 7 [.agg [.int .i64 tc,.int .i64 td,.int .i64 sc,.int .i64 sd,ePred p,.int .i64 frm,.bool false]] (some 1)))
        simpa [l1,wH] using this) (by simp [eEntry,nn0,nn1,nn2,mm0,mm1,mm2,l0,l1,l2,wH]) (lowIdx_le _ _) hel (by simp [wH]) (by simp;omega) (by simp [lH])
      clear hA
      have b0:=x2.get 0 (by decide)
      have b1:=x2.get 1 (by decide)
      have b2:=x2.get 2 (by decide)
      have q2:=x2.lim
      have w2:=x2.wf
      have n2:=x2.le
      simp [g0,g1,g2,lH,wH,nn0,nn1,nn2,mm0,mm1,mm2,l0,l1,l2]at b0 b1 b2 q2
      have h20:0<K2.n:=by omega
      have h22:2<K2.n:=by omega
      have r4':=fun o o'=>((p4.setLow (o:=o) w2 (by decide) h20).setLow (o:=o') w2.set (by decide) h22).resolve (n:=198) false (fun y _=>(plain_entry y).1) (by decide)
      simp [b0,b1,b2,q2,w2,h20,h22,p4.storable,p4.ecells,turn,r4',resultsOf]
      simp [hR,addB,hmay,hup,eBroker,Tags.none,insE]
     | false =>
      rw [hC]at hCv
      have hup:upOf ⟨me,near,adv,seen,ent,own⟩ ⟨⟨tc,td⟩,⟨sc,sd⟩,p,frm,up⟩=true:=by simp [upOf,hpar,hpl,hC]
      simp [g0,g1,g2,lH,wH,nn0,nn1,nn2,mm0,mm1,mm2,l0,l1,l2,e23,hFd,e113,hPl,hhit,r1,eAdvert,turn,r1p,hasO,hpl,hfne,e35,hCv]
      generalize hA:fc D _ _ _=A
      have o4i:=o4.push (o:=.arr 42 4 [.agg [.int .i64 a.id.client,.int .i64 a.id.seq,ePred a.pred,.int .i64 a.parent]] (some 1))
      obtain ⟨v4',K2,rfl,p4,x2,_⟩:=q114 hA 3 ent ⟨⟨tc,td⟩,⟨sc,sd⟩,p,frm,true⟩ (vety:=58) (c:=1) (by
        have:=((o4i.setLow (id:=1) (o:=.arr 58 7 [.agg [.int .i64 tc,.int .i64 td,.int .i64 sc,.int .i64 sd,ePred p,.int .i64 frm,.bool true]] (some 1)) wH.push (by decide) (by simp;omega)).push (o:=.arr 58 7 [.agg [.int .i64 tc,.int .i64 td,.int .i64 sc,.int .i64 sd,ePred p,.int .i64 frm,.bool true]] (some 1)))
        simpa [l1,wH] using this) (by simp [eEntry,nn0,nn1,nn2,mm0,mm1,mm2,l0,l1,l2,wH]) (lowIdx_le _ _) hel (by simp [wH]) (by simp;omega) (by simp [lH])
      clear hA
      have b0:=x2.get 0 (by decide)
      have b1:=x2.get 1 (by decide)
      have b2:=x2.get 2 (by decide)
      have q2:=x2.lim
      have w2:=x2.wf
      have n2:=x2.le
      simp [g0,g1,g2,lH,wH,nn0,nn1,nn2,mm0,mm1,mm2,l0,l1,l2]at b0 b1 b2 q2
      have h20:0<K2.n:=by omega
      have h22:2<K2.n:=by omega
      have r4':=fun o o'=>((p4.setLow (o:=o) w2 (by decide) h20).setLow (o:=o') w2.set (by decide) h22).resolve (n:=198) false (fun y _=>(plain_entry y).1) (by decide)
      simp [b0,b1,b2,q2,w2,h20,h22,p4.storable,p4.ecells,turn,r4',resultsOf]
      simp [hR,addB,hmay,hup,eBroker,Tags.none,insE]
end Go.Dm.Tc
/-
What the reference's functions compute,part 6: an entry added.
-/
namespace Go.Dm.Tc
theorem l37 (S:List Fr) (h:Heap) (x0 x1 x2 x3 x5:DV) (l:List Entry) (tc td sc sd:Int) (p q r:DV) (hl:l.length≤1000000)
  (g0:h.get 0=some (.arr 29 6 [.agg [x0,x1,x2,x3,eL false 7 eEntry l,x5]] (some 1))) (g1:h.get 1=some (.arr 58 7 [.agg [.int .i64 tc,.int .i64 td,.int .i64 sc,.int .i64 sd,p,q,r]] (some 1))) (hlim:h.lim=0) :
  ∀(n i:Nat) (f:FEnv),lowIdx (sgnE ⟨tc,td⟩ ⟨sc,sd⟩) l-i=n→i≤lowIdx (sgnE ⟨tc,td⟩ ⟨sc,sd⟩) l→f 2=.ptr 0 6 0 0→f 3=.ptr 1 7 0 0→f 7=.int .i64 i →
  ∃ f',run D 115 (.block 0::.seq t37k0::S) (.loop t37l0) f h=run D 115 S t37k0 f' h∧f' 2=.ptr 0 6 0 0∧f' 3=.ptr 1 7 0 0∧f' 4=f 4∧f' 5=f 5∧f' 7=.int .i64 (lowIdx (sgnE ⟨tc,td⟩ ⟨sc,sd⟩) l):=by
 intro n
 induction n with
 | zero =>
  intro i f hn hi h2 h3 h7
  have hlo:lowIdx (sgnE ⟨tc,td⟩ ⟨sc,sd⟩) l=i:=by omega
  rw [run_loop_of t37l0.eq_1]
  by_cases hlt:i<l.length
  ·have hsx:=low_step (sgnE ⟨tc,td⟩ ⟨sc,sd⟩) hi (List.getElem?_eq_getElem hlt)
   have hnn:¬sgnE ⟨tc,td⟩ ⟨sc,sd⟩ l[i]<0:=fun hc=>by have:=hsx.1 hc;omega
   rw [sgnE_lt]at hnn
   obtain ⟨e,he⟩:∃ e,l[i]=e:=⟨_,rfl⟩
   rw [he]at hnn
   have hn1:ltID ⟨e.tree.client,e.tree.seq⟩ ⟨tc,td⟩=false:=by
    cases hq:ltID e.tree ⟨tc,td⟩ with
    | false=>rfl
    | true=>exact absurd (.inl hq) hnn
   by_cases ht:e.tree=⟨tc,td⟩
   ·have hc1:e.tree.client=tc:=by rw [ht]
    have hc2:e.tree.seq=td:=by rw [ht]
    have hn2:ltID ⟨e.sub.client,e.sub.seq⟩ ⟨sc,sd⟩=false:=by
     cases hq:ltID e.sub ⟨sc,sd⟩ with
     | false=>rfl
     | true=>exact absurd (.inr ⟨ht,hq⟩) hnn
    simp [h2,h3,h7,g0,g1,hlt,he,hlim,eEntry,e76,s76,hn1,hn2]
    simp only [hc1,hc2]at hn1
    simp [hc1,hc2,hn1,e76,s76,hn2]
    exact ⟨_,rfl,by simp [h2],by simp [h3],by simp,by simp,by simp [h7,hlo]⟩
   ·have h1':=id_ne ht
    simp only at h1'
    simp [h2,h3,h7,g0,g1,hlt,he,hlim,eEntry,e76,s76,hn1,h1']
    exact ⟨_,rfl,by simp [h2],by simp [h3],by simp,by simp,by simp [h7,hlo]⟩
  ·simp [h2,h3,h7,g0,g1,hlt]
   exact ⟨_,rfl,by simp [h2],by simp [h3],by simp,by simp,by simp [h7,hlo]⟩
 | succ n ih =>
  intro i f hn hi h2 h3 h7
  have hlt:i<l.length:=by have:=lowIdx_le (sgnE ⟨tc,td⟩ ⟨sc,sd⟩) l;omega
  obtain ⟨e,he⟩:∃ e,l[i]=e:=⟨_,rfl⟩
  have hyes:sgnE ⟨tc,td⟩ ⟨sc,sd⟩ e<0:=by
   have:=low_lt (sgnE ⟨tc,td⟩ ⟨sc,sd⟩) (l:=l) (i:=i) (a:=l[i]) (by omega) (List.getElem?_eq_getElem hlt)
   rw [he]at this
   exact of_decide_eq_true this
  rw [sgnE_lt]at hyes
  have hw:IntKind.i64.wrap ((i:Int)+1)=(i:Int)+1:=wrap64 (by omega) (by omega)
  rw [run_loop_of t37l0.eq_1]
  have next:∀F,F 2=.ptr 0 6 0 0→F 3=.ptr 1 7 0 0→F 4=f 4→F 5=f 5→F 7=.int .i64 ((i:Int)+1) →
    ∃ f',run D 115 (.block 0::.seq t37k0::S) (.loop t37l0) F h=run D 115 S t37k0 f' h∧f' 2=.ptr 0 6 0 0∧f' 3=.ptr 1 7 0 0∧f' 4=f 4∧f' 5=f 5∧f' 7=.int .i64 (lowIdx (sgnE ⟨tc,td⟩ ⟨sc,sd⟩) l):=fun F a1 a2 a3 a4 a5=>by
   obtain ⟨f',k1,k2,k3,k4,k5,k6⟩:=ih (i+1) F (by omega) (by omega) a1 a2 (by rw [a5];simp)
   exact ⟨f',k1,k2,k3,by rw [k4,a3],by rw [k5,a4],k6⟩
  cases hq:ltID e.tree ⟨tc,td⟩ with
  | true =>
   have hq':ltID ⟨e.tree.client,e.tree.seq⟩ ⟨tc,td⟩=true:=hq
   simp [h2,h3,h7,g0,g1,hlt,he,hlim,eEntry,e76,s76,hq',hw]
   generalize hF:upd _ 7 _=F
   exact next F (by rw [←hF];simp [h2]) (by rw [←hF];simp [h3]) (by rw [←hF];simp) (by rw [←hF];simp) (by rw [←hF];simp)
  | false =>
   obtain ⟨ht,hs⟩:=hyes.resolve_left (by rw [hq];simp)
   have hq':ltID ⟨e.tree.client,e.tree.seq⟩ ⟨tc,td⟩=false:=hq
   have hs':ltID ⟨e.sub.client,e.sub.seq⟩ ⟨sc,sd⟩=true:=hs
   have hc1:e.tree.client=tc:=by rw [ht]
   have hc2:e.tree.seq=td:=by rw [ht]
   simp only [hc1,hc2]at hq'
   simp [h2,h3,h7,g0,g1,hlt,he,hlim,eEntry,e76,s76,hc1,hc2,hq',hs',hw]
   generalize hF:upd _ 7 _=F
   exact next F (by rw [←hF];simp [h2]) (by rw [←hF];simp [h3]) (by rw [←hF];simp) (by rw [←hF];simp) (by rw [←hF];simp)
end Go.Dm.Tc
/-
What the reference's functions compute,part 7: an entry added,all of it.
-/
namespace Go.Dm.Tc
set_option maxRecDepth 8000 in
theorem v37 (me:Int) (near:List Int) (adv:List Advert) (seen:List ID) (ent:List Entry) (own:List OwnS) (tc td sc sd:Int) (p:Pred) (frm:Int) (U:Bool) (hel:ent.length≤100000) (F:FEnv) (H:Heap)
  (g0:H.get 0=some (.arr 29 6 [.agg [.int .i64 me,eL false 1 cInt near,eL false 4 eAdvert adv,eL false 2 eID seen,eL false 7 eEntry ent,eL false 3 eOwn own]] (some 1)))
  (g1:H.get 1=some (.arr 58 7 [.agg [.int .i64 tc,.int .i64 td,.int .i64 sc,.int .i64 sd,ePred p,.int .i64 frm,.bool U]] (some 1)))
  (g2:H.get 2=some (.arr 29 6 [.agg [.int .i64 0,.nsl,.nsl,.nsl,.nsl,.nsl]] (some 1))) (hlim:H.lim=0) (hn:3≤H.n) (wf:WF H) (h2:F 2=.ptr 0 6 0 0) (h3:F 3=.ptr 1 7 0 0) (h4:F 4=.ptr 2 6 0 0) (h7:F 7=.int .i64 0) :
  pcOut (fin [.cell 4 (some 6),.t 5] (run D 115 [.block 0,.seq t37k0] (.loop t37l0) F H))=some (.tup [eBroker .none ⟨me,near,adv,seen,insE ⟨⟨tc,td⟩,⟨sc,sd⟩,p,frm,U⟩ ent,own⟩,.bool U]):=by
 obtain ⟨f1,k1,k2,k3,k4,k5,k6⟩:=l37 [] H (.int .i64 me) (eL false 1 cInt near) (eL false 4 eAdvert adv) (eL false 2 eID seen) (eL false 3 eOwn own) ent tc td sc sd (ePred p) (.int .i64 frm) (.bool U) (by omega) g0 g1 hlim _ 0 F rfl (by omega) h2 h3 h7
 rw [k1]
 rw [h4]at k4
 clear k1
 have hlow:=lowIdx_le (sgnE ⟨tc,td⟩ ⟨sc,sd⟩) ent
 have v0:¬0=H.n:=by omega
 have v1:¬1=H.n:=by omega
 have v2:¬2=H.n:=by omega
 have v3:¬H.n=0:=by omega
 have v4:¬H.n=1:=by omega
 simp [t37k0,k2,k3,k4,k6,hlow,g0,g1,g2,hlim,wf,v0,v1,v2,v3,v4]
 generalize hA:appendD _ _ _ _ _ _=A
 obtain ⟨i1,K1,rfl,o1,x1,y1,j1⟩:=(OwnI.fresh (lo:=3) (ety:=58) (sz:=7) (xs:=[]) (cap:=some 0) (by omega) hn).append (n:=0) rfl wf.push (by simp;omega) (by simp [hlim]) hA (by simp;omega) (by decide)
 clear hA
 have a0:=x1.get 0 (by decide)
 have a1:=x1.get 1 (by decide)
 have a2:=x1.get 2 (by decide)
 have q1:=x1.lim
 have w1:=x1.wf
 have n1:=x1.le
 have u1:=o1.lo
 have m0:¬0=i1:=by omega
 have m1:¬i1=0:=by omega
 have m2:¬i1=1:=by omega
 have m3:¬1=i1:=by omega
 simp [g0,g1,g2,v0,v1,v2,hlim]at a0 a1 a2 q1 o1
 simp [k2,k3,g0,g1,a0,a1,a2,q1,m0,m1,m2,m3,v3,v4,hlow]
 generalize hA:appendD _ _ _ _ _ _=A
 obtain ⟨i2,K2,rfl,o2,x2,y2,j2⟩:=(o1.push (o:=_)).append (by simp [hlow]) (by simp [w1]) (by simp;omega) (by simp [q1]) hA (by simp;omega) (by decide)
 clear hA
 have b0:=x2.get 0 (by decide)
 have b1:=x2.get 1 (by decide)
 have b2:=x2.get 2 (by decide)
 have q2:=x2.lim
 have w2:=x2.wf
 have n2:=x2.le
 have u2:=o2.lo
 have c0:¬0=K1.n:=by omega
 have c1:¬1=K1.n:=by omega
 have c2:¬2=K1.n:=by omega
 have m4:¬i2=0:=by omega
 have m5:¬i2=1:=by omega
 simp [a0,a1,a2,q1,c0,c1,c2]at b0 b1 b2 q2 o2
 simp [k2,k3,k6,g0,g1,a0,b0,b1,b2,q2,m0,m1,m2,m3,m4,m5,v3,v4,hlow]
 generalize hA:appendD _ _ _ _ _ _=A
 obtain ⟨i3,K3,rfl,o3,x3,y3,j3⟩:=o2.append (by simp [hlow]) w2 n2 (by omega) hA (by simp;omega) (by decide)
 clear hA
 have d0:=x3.get 0 (by decide)
 have d1:=x3.get 1 (by decide)
 have d2:=x3.get 2 (by decide)
 have q3:=x3.lim
 have w3:=x3.wf
 have n3:=x3.le
 have l3:0<K3.n:=by omega
 have l32:2<K3.n:=by omega
 rw [b0]at d0
 rw [b1]at d1
 rw [b2]at d2
 rw [q2]at q3
 have hlen:(List.take (lowIdx (sgnE ⟨tc,td⟩ ⟨sc,sd⟩) ent) (List.map eEntry ent)++DV.agg [.int .i64 tc,.int .i64 td,.int .i64 sc,.int .i64 sd,ePred p,.int .i64 frm,.bool U]::List.drop (lowIdx (sgnE ⟨tc,td⟩ ⟨sc,sd⟩) ent) (List.map eEntry ent))=(insE ⟨⟨tc,td⟩,⟨sc,sd⟩,p,frm,U⟩ ent).map eEntry:=by simp [insE,eEntry]
 simp only [List.append_assoc,List.singleton_append]at o3
 rw [hlen]at o3
 have hmin:min (lowIdx (sgnE ⟨tc,td⟩ ⟨sc,sd⟩) ent) ent.length=lowIdx (sgnE ⟨tc,td⟩ ⟨sc,sd⟩) ent:=by omega
 have hln:(insE ⟨⟨tc,td⟩,⟨sc,sd⟩,p,frm,U⟩ ent).length=lowIdx (sgnE ⟨tc,td⟩ ⟨sc,sd⟩) ent+1+(ent.length-lowIdx (sgnE ⟨tc,td⟩ ⟨sc,sd⟩) ent):=by simp [insE,hmin];omega
 have r4:=fun o o'=>((o3.toR.setLow (o:=o) w3 (by decide) l3).setLow (o:=o') w3.set (by decide) l32).resolve (n:=198) false (fun y _=>(plain_entry y).1) (by decide)
 simp only [List.length_map,hln]at r4
 simp [k2,k3,k4,g0,d0,d1,d2,q3,w3,l3,l32,turn,hmin,v3,v4,m1,m4,r4,resultsOf]
 simp [eBroker,Tags.none]
set_option maxRecDepth 8000 in
theorem s37 (b:Broker) (e:Entry) (hs:Sized b) (hq:AskedP b) (hpo:PredOk e.pred):
  pcF D t37 [eBroker .none b,.agg [.int .i64 e.tree.client,.int .i64 e.tree.seq,.int .i64 e.sub.client,.int .i64 e.sub.seq,ePred e.pred,.int .i64 e.frm,.bool e.up]]=some (.tup [eBroker .none (addB b e).1,.bool (addB b e).2]):=by
 obtain ⟨me,near,adv,seen,ent,own⟩:=b
 obtain ⟨⟨tc,td⟩,⟨sc,sd⟩,p,frm,up⟩:=e
 obtain ⟨z1,z2,z3,z4,z5⟩:=hs
 simp only at z1 z2 z3 z4 z5 hpo
 obtain ⟨R,hR⟩:∃ R,R=DV.tup [eBroker .none (addB ⟨me,near,adv,seen,ent,own⟩ ⟨⟨tc,td⟩,⟨sc,sd⟩,p,frm,up⟩).1,.bool (addB ⟨me,near,adv,seen,ent,own⟩ ⟨⟨tc,td⟩,⟨sc,sd⟩,p,frm,up⟩).2]:=⟨_,rfl⟩
 rw [←hR]
 have hal:adv.length≤1000000:=by omega
 have hel:ent.length≤1000000:=by omega
 have hfi:=find_idx (fun a:Advert=>decide (a.id=⟨tc,td⟩)) adv
 have hfe:=find_idx (isE ⟨tc,td⟩ ⟨sc,sd⟩) ent
 have hany:=find_any (l:=ent) (t:=⟨tc,td⟩) (s:=⟨sc,sd⟩)
 have hEn:=s119 (.int .i64 me) (eL false 1 cInt near) (eL false 4 eAdvert adv) (eL false 2 eID seen) (eL false 3 eOwn own) false ent tc td sc sd hel
 have hCv:=s36 (.int .i64 me) (eL false 1 cInt near) (eL false 4 eAdvert adv) (eL false 2 eID seen) (eL false 3 eOwn own) false ent tc td p hel hpo hq.len
 unfold pcF
 rw [goRun_eq _ _ _ _ (by simp [t37])]
 cases hq1:adv.find? (fun a=>decide (a.id=⟨tc,td⟩)) with
 | none =>
  rw [hq1]at hfi
  simp only at hfi
  have hmay:mayAdd ⟨me,near,adv,seen,ent,own⟩ ⟨⟨tc,td⟩,⟨sc,sd⟩,p,frm,up⟩=false:=by simp [mayAdd,hq1]
  simp [t37,eBroker,Tags.none,e24,s24,hal,hfi,idxOf,turn,resultsOf]
  simp [hR,addB,hmay,eBroker,Tags.none]
 | some a =>
  rw [hq1]at hfi
  simp only at hfi
  obtain ⟨j,hj,hja⟩:=hfi
  have hjn:¬(j:Int)<0:=by omega
  cases hq2:ent.find? (isE ⟨tc,td⟩ ⟨sc,sd⟩) with
  | some e2 =>
   rw [hq2]at hfe hany
   simp only at hfe
   obtain ⟨k,hk,_⟩:=hfe
   rw [hk]at hEn
   have hk0:(0:Int)≤(k:Int):=by omega
   have hmay:mayAdd ⟨me,near,adv,seen,ent,own⟩ ⟨⟨tc,td⟩,⟨sc,sd⟩,p,frm,up⟩=false:=by simp only [mayAdd,hq1,hany];simp [hasO]
   simp [t37,eBroker,Tags.none,e24,s24,hal,hj,hjn,idxOf,e119,hEn,hk0,turn,resultsOf]
   simp [hR,addB,hmay,eBroker,Tags.none]
  | none =>
   rw [hq2]at hfe hany
   simp only at hfe
   rw [hfe]at hEn
   by_cases hfp:frm=a.parent∧¬a.parent=-1
   ·have hmay:mayAdd ⟨me,near,adv,seen,ent,own⟩ ⟨⟨tc,td⟩,⟨sc,sd⟩,p,frm,up⟩=false:=by simp only [mayAdd,hq1,hany];simp [hfp.1,hfp.2]
    have hf1:=hfp.1
    have hf2:=hfp.2
    subst hf1
    simp [t37,eBroker,Tags.none,e24,s24,hal,hj,hjn,hja,eAdvert,idxOf,e119,hEn,hf2,turn,resultsOf]
    simp [hR,addB,hmay,eBroker,Tags.none]
   ·have hmay:mayAdd ⟨me,near,adv,seen,ent,own⟩ ⟨⟨tc,td⟩,⟨sc,sd⟩,p,frm,up⟩=true:=by
     simp only [mayAdd,hq1,hany,hasO]
     by_cases h1:frm=a.parent
     ·have h2:a.parent=-1:=by
       by_cases h2:a.parent=-1
       ·exact h2
       ·exact absurd ⟨h1,h2⟩ hfp
      simp [h2]
     ·simp [h1]
    have hpar:parentOf ⟨me,near,adv,seen,ent,own⟩ ⟨tc,td⟩=a.parent:=by simp [parentOf,hq1]
    have hfin:∀U F H,upOf ⟨me,near,adv,seen,ent,own⟩ ⟨⟨tc,td⟩,⟨sc,sd⟩,p,frm,up⟩=U→H.get 0=some (.arr 29 6 [.agg [.int .i64 me,eL false 1 cInt near,eL false 4 eAdvert adv,eL false 2 eID seen,eL false 7 eEntry ent,eL false 3 eOwn own]] (some 1))→H.get 1=some (.arr 58 7 [.agg [.int .i64 tc,.int .i64 td,.int .i64 sc,.int .i64 sd,ePred p,.int .i64 frm,.bool U]] (some 1)) →
      H.get 2=some (.arr 29 6 [.agg [.int .i64 0,.nsl,.nsl,.nsl,.nsl,.nsl]] (some 1))→H.lim=0→3≤H.n→WF H→F 2=.ptr 0 6 0 0→F 3=.ptr 1 7 0 0→F 4=.ptr 2 6 0 0→F 7=.int .i64 0 →
      pcOut (fin [.cell 4 (some 6),.t 5] (run D 115 [.block 0,.seq t37k0] (.loop t37l0) F H))=some R:=fun U F H u a0 a1 a2 a3 a4 a5 a6 a7 a8 a9=>by
     rw [v37 me near adv seen ent own tc td sc sd p frm U z4 F H a0 a1 a2 a3 a4 a5 a6 a7 a8 a9,hR]
     simp [addB,hmay,u]
    by_cases hpl:a.parent=-1
    ·have hup:upOf ⟨me,near,adv,seen,ent,own⟩ ⟨⟨tc,td⟩,⟨sc,sd⟩,p,frm,up⟩=false:=by simp [upOf,hpar,hpl]
     by_cases hfm:frm=-1
     ·simp [t37,eBroker,Tags.none,e24,s24,hal,hj,hjn,hja,eAdvert,idxOf,e119,hEn,hpl,eq_true hfm,turn]
      refine hfin false _ _ hup ?_ ?_ ?_ ?_ ?_ ?_ ?_ ?_ ?_ ?_<;>simp
     ·simp [t37,eBroker,Tags.none,e24,s24,hal,hj,hjn,hja,eAdvert,idxOf,e119,hEn,hpl,hfm,turn]
      refine hfin false _ _ hup ?_ ?_ ?_ ?_ ?_ ?_ ?_ ?_ ?_ ?_<;>simp
    ·have hfne:¬frm=a.parent:=fun e=>hfp ⟨e,hpl⟩
     cases hC:coveredB ent ⟨tc,td⟩ p with
     | true =>
      rw [hC]at hCv
      have hup:upOf ⟨me,near,adv,seen,ent,own⟩ ⟨⟨tc,td⟩,⟨sc,sd⟩,p,frm,up⟩=false:=by simp [upOf,hC]
      by_cases hfm:frm=-1
      ·simp [t37,eBroker,Tags.none,e24,s24,hal,hj,hjn,hja,eAdvert,idxOf,e119,hEn,hpl,hfne,eq_true hfm,e36,hCv,turn]
       refine hfin false _ _ hup ?_ ?_ ?_ ?_ ?_ ?_ ?_ ?_ ?_ ?_<;>simp
      ·simp [t37,eBroker,Tags.none,e24,s24,hal,hj,hjn,hja,eAdvert,idxOf,e119,hEn,hpl,hfne,hfm,e36,hCv,turn]
       refine hfin false _ _ hup ?_ ?_ ?_ ?_ ?_ ?_ ?_ ?_ ?_ ?_<;>simp
     | false =>
      rw [hC]at hCv
      have hup:upOf ⟨me,near,adv,seen,ent,own⟩ ⟨⟨tc,td⟩,⟨sc,sd⟩,p,frm,up⟩=true:=by simp [upOf,hpar,hpl,hC]
      by_cases hfm:frm=-1
      ·simp [t37,eBroker,Tags.none,e24,s24,hal,hj,hjn,hja,eAdvert,idxOf,e119,hEn,hpl,hfne,eq_true hfm,e36,hCv,turn]
       refine hfin true _ _ hup ?_ ?_ ?_ ?_ ?_ ?_ ?_ ?_ ?_ ?_<;>simp
      ·simp [t37,eBroker,Tags.none,e24,s24,hal,hj,hjn,hja,eAdvert,idxOf,e119,hEn,hpl,hfne,hfm,e36,hCv,turn]
       refine hfin true _ _ hup ?_ ?_ ?_ ?_ ?_ ?_ ?_ ?_ ?_ ?_<;>simp
end Go.Dm.Tc
/-
Two rows of one element type side by side: what is put behind one leaves the other one alone.
-/
namespace Go.Dm.Tc
def takeL (tree:ID):List Entry→List Entry→List Entry→List Entry×List Entry
 | done,[],ups=>(done,ups)
 | done,e::r,ups=>if e.tree=tree∧e.up=false∧coveredB (done++e::r) tree e.pred=false then takeL tree (done++[{e with up:=true}]) r (ups++[{e with up:=true}]) else takeL tree (done++[e]) r ups
def takeB (b : Broker) (tree sub : ID) (frm : Int) : Broker × List Entry × Bool :=
  match b.entries.find? (isE tree sub) with
  | none => (b, [], false)
  | some e => if e.frm = frm then
      (if e.up = true then ({ b with entries := (takeL tree [] (b.entries.filter fun x => !isE tree sub x) []).1 }, (takeL tree [] (b.entries.filter fun x => !isE tree sub x) []).2, true)
       else ({ b with entries := b.entries.filter fun x => !isE tree sub x }, [], false))
    else (b, [], false)
end Go.Dm.Tc
/-
What functions of the program compute,part 19: an entry taken out (the loop).
-/
namespace Go.Dm.Tc
end Go.Dm.Tc
/-
What functions of the program compute,part 20: an entry taken out.
-/
namespace Go.Dm.Tc
end Go.Dm.Tc
/-
What the reference's functions compute,part 8: an entry taken out (the loop).
-/
namespace Go.Dm.Tc
end Go.Dm.Tc
/-
What the reference's functions compute,part 9: an entry taken out.
-/
namespace Go.Dm.Tc
end Go.Dm.Tc
/-
What every broker keeps that calls made: plain laws (learned,forgotten,added,taken out).
-/
namespace Go.Dm.Tc
theorem find_key {α:Type} (key:α→ID) {l:List α} (h:Rising (l.map key)) (x:ID) (a:α):l.find? (fun b=>decide (key b=x))=some a↔a∈l∧key a=x:=by
 constructor
 ·intro hf
  exact ⟨List.mem_of_find?_eq_some hf,by simpa using List.find?_some hf⟩
 ·rintro ⟨hm,hk⟩
  cases hf:l.find? (fun b=>decide (key b=x)) with
  | none=>exact absurd hk (by have:=List.find?_eq_none.1 hf a hm;simpa using this)
  | some b =>
   have hb:=List.mem_of_find?_eq_some hf
   have hkb:key b=x:=by simpa using List.find?_some hf
   have:b=a:=by
    by_cases e:b=a
    ·exact e
    ·exfalso
     unfold Rising at h
     rw [List.pairwise_map]at h
     obtain ⟨i,hi,rfl⟩:=List.mem_iff_getElem.1 hb
     obtain ⟨j,hj,rfl⟩:=List.mem_iff_getElem.1 hm
     rcases Nat.lt_trichotomy i j with hlt|he|hlt
     ·have:=List.pairwise_iff_getElem.1 h i j hi hj hlt
      rw [hkb,hk,cmpID_lt]at this;omega
     ·subst he;exact e rfl
     ·have:=List.pairwise_iff_getElem.1 h j i hj hi hlt
      rw [hkb,hk,cmpID_lt]at this;omega
   rw [this]
theorem find_key_none {α:Type} (key:α→ID) {l:List α} (x:ID):l.find? (fun b=>decide (key b=x))=none↔∀a∈l,key a≠x:=by
 rw [List.find?_eq_none]
 exact ⟨fun h a ha=>by simpa using h a ha,fun h a ha=>by simpa using h a ha⟩
theorem advOf_some {b:Broker} (h:Rising (b.adverts.map (·.id))) {x:ID} {a:Advert}:advOf b x=some a↔a∈b.adverts∧a.id=x:=find_key (fun a:Advert=>a.id) h x a
theorem advOf_none {b:Broker} {x:ID}:advOf b x=none↔∀a∈b.adverts,a.id≠x:=find_key_none (fun a:Advert=>a.id) x
theorem parentOf_eq (b:Broker) (x:ID):parentOf b x=((advOf b x).getD advZero).parent:=rfl
theorem coveredB_iff {l:List Entry} {t:ID} {p:Pred}:coveredB l t p=true↔∃ e∈l,e.tree=t∧e.up=true∧coversP e.pred p=true:=by
 unfold coveredB ofT
 rw [List.any_eq_true]
 constructor
 ·rintro ⟨e,he,h⟩
  have:=List.mem_filter.1 he
  rw [Bool.and_eq_true]at h
  exact ⟨e,this.1,by simpa using this.2,h.1,h.2⟩
 ·rintro ⟨e,he,h1,h2,h3⟩
  exact ⟨e,List.mem_filter.2 ⟨he,by simpa using h1⟩,by rw [h2,h3];rfl⟩
theorem insE_mem {e x:Entry} {l:List Entry}:x∈insE e l↔x=e∨x∈l:=by
 unfold insE
 rw [List.mem_append,List.mem_cons]
 constructor
 ·rintro (h|h|h)
  ·exact .inr (List.mem_of_mem_take h)
  ·exact .inl h
  ·exact .inr (List.mem_of_mem_drop h)
 ·rintro (h|h)
  ·exact .inr (.inl h)
  ·rw [←List.take_append_drop (lowIdx (sgnE e.tree e.sub) l) l,List.mem_append]at h
   exact h.elim .inl fun h=>.inr (.inr h)
theorem insE_len (e:Entry) (l:List Entry):(insE e l).length=l.length+1:=by
 unfold insE
 rw [List.length_append,List.length_cons,List.length_take,List.length_drop]
 have:=lowIdx_le (sgnE e.tree e.sub) l
 omega
theorem sgnE_gt {t s:ID} {a:Entry} (h1:¬sgnE t s a<0) (h2:¬(a.tree=t∧a.sub=s)) (e:Entry) (he:e.tree=t) (he2:e.sub=s):sgnE a.tree a.sub e<0:=by
 rw [sgnE_lt,ltID_iff,ltID_iff]at *
 rw [he,he2]
 rw [ID.ext',ID.ext']at h2
 rw [ID.ext']at *
 omega
theorem insE_rising {e:Entry} {l:List Entry} (h:RisingE l) (hn:∀x∈l,isE e.tree e.sub x=false):RisingE (insE e l):=by
 unfold RisingE insE
 rw [List.pairwise_append,List.pairwise_cons]
 generalize hk:lowIdx (sgnE e.tree e.sub) l=k
 have hlow:∀b∈l.take k,sgnE e.tree e.sub b<0:=by
  intro b hb
  obtain ⟨i,hi,rfl⟩:=List.mem_iff_getElem.1 hb
  rw [List.getElem_take]
  rw [List.length_take]at hi
  have:=List.not_of_lt_findIdx (p:=fun x=>!decide (sgnE e.tree e.sub x<0)) (xs:=l) (i:=i) (by unfold lowIdx at hk;omega)
  simpa using this
 have hhigh:∀b∈l.drop k,sgnE b.tree b.sub e<0:=by
  intro b hb
  obtain ⟨i,hi,rfl⟩:=List.mem_iff_getElem.1 hb
  rw [List.length_drop]at hi
  rw [List.getElem_drop]
  have hkl:k<l.length:=by omega
  have h1:¬sgnE e.tree e.sub l[k]<0:=by
   have:=List.findIdx_getElem (p:=fun x=>!decide (sgnE e.tree e.sub x<0)) (xs:=l) (w:=by unfold lowIdx at hk;omega)
   have hk':List.findIdx (fun x=>!decide (sgnE e.tree e.sub x<0)) l=k:=hk
   simp only [hk']at this
   simpa using this
  have h2:¬sgnE e.tree e.sub l[k+i]<0:=fun hc=>h1 (monoE h _ _ k (k+i) hkl (by omega) (by omega) hc)
  refine sgnE_gt h2 ?_ e rfl rfl
  have:=hn l[k+i] (List.getElem_mem _)
  simpa [isE] using this
 refine ⟨h.sublist (List.take_sublist ..),⟨fun b hb=>hhigh b hb,h.sublist (List.drop_sublist ..)⟩,?_⟩
 intro x hx y hy
 rcases List.mem_cons.1 hy with rfl|hy
 ·exact hlow x hx
 ·exact sgnE_trans (hlow x hx) (by have:=hhigh y hy;omega)
structure InvK (b:Broker):Prop where
 near:risesB (fun x y=>decide (x<y)) b.near=true
 loc:∀x∈b.near,0≤x
 ra:Rising (b.adverts.map (·.id))
 rs:Rising b.seen
 ro:Rising (b.owns.map (·.id))
 re:RisingE b.entries
 sub:∀a∈b.adverts,a.id∈b.seen
 par:∀a∈b.adverts,linkB b a.parent=true
 pa:∀a∈b.adverts,PredOk a.pred
 po:∀o∈b.owns,PredOk o.pred
 ent:∀e∈b.entries,rightEnt b e=true
 pe:∀e∈b.entries,PredOk e.pred
 tight:tightB b=true
structure SzK (b:Broker) (n:Nat):Prop where
 near:b.near.length≤1000
 adv:b.adverts.length≤n
 seen:b.seen.length≤n
 own:b.owns.length≤n
 ent:b.entries.length≤n*n
theorem SzK.sized {b:Broker} {n:Nat} (h:SzK b n) (hn:n≤300):Sized b:=by
 have:=Nat.mul_le_mul hn hn
 obtain ⟨h1,h2,h3,h4,h5⟩:=h
 exact ⟨by omega,by omega,by omega,by omega,by omega⟩
theorem SzK.mono {b:Broker} {n m:Nat} (h:SzK b n) (hn:n≤m):SzK b m:=by
 have:=Nat.mul_le_mul hn hn
 obtain ⟨h1,h2,h3,h4,h5⟩:=h
 exact ⟨h1,by omega,by omega,by omega,by omega⟩
theorem InvK.asked {b:Broker} (h:InvK b):AskedP b:=⟨fun e he=>(h.pe e he).unlike,fun e he=>Nat.le_trans (h.pe e he).len (by decide)⟩
theorem InvK.right {b:Broker} (h:InvK b):rightB b=true:=by
 unfold rightB rightRows
 rw [h.near,of_rising (key:=fun a:Advert=>a.id) h.ra,of_rising (key:=fun a:OwnS=>a.id) h.ro,of_risesE h.re,show risesB (fun x y=>ltID x y) b.seen=true from of_rising (key:=fun a:ID=>a) (by simpa using h.rs)]
 have h1:(b.adverts.any fun a=>!rightAdv b a)=false:=by
  rw [List.any_eq_false]
  intro a ha
  simp [rightAdv,h.sub a ha,h.par a ha,(h.pa a ha).right]
 have h2:(b.entries.any fun e=>!rightEnt b e)=false:=by
  rw [List.any_eq_false]
  intro e he
  simp [h.ent e he]
 have h3:(b.owns.any fun o=>!rightP o.pred)=false:=by
  rw [List.any_eq_false]
  intro o ho
  simp [(h.po o ho).right]
 rw [h1,h2,h3]
 rfl
theorem rightEnt_iff {b:Broker} {e:Entry}:rightEnt b e=true↔∃ a,advOf b e.tree=some a∧linkB b e.frm=true∧(e.frm=a.parent→a.parent=-1)∧(e.up=true→a.parent≠-1)∧rightP e.pred=true:=by
 unfold rightEnt advOf
 cases b.adverts.find? (fun a=>a.id=e.tree) with
 | none=>simp
 | some a =>
  simp only [Option.some.injEq,exists_eq_left',Bool.and_eq_true,Bool.or_eq_true,Bool.not_eq_true',Bool.and_eq_false_iff,decide_eq_true_eq,decide_eq_false_iff_not]
  constructor
  ·rintro ⟨⟨⟨h1,h2⟩,h3⟩,h4⟩
   exact ⟨h1,fun q=>h2.resolve_left (fun hn=>hn q),fun q=>h3.resolve_left (by rw [q];decide),h4⟩
  ·rintro ⟨h1,h2,h3,h4⟩
   refine ⟨⟨⟨h1,?_⟩,?_⟩,h4⟩
   ·by_cases q:e.frm=a.parent
    ·exact .inr (h2 q)
    ·exact .inl q
   ·cases q:e.up with
    | false=>exact .inl rfl
    | true=>exact .inr (h3 q)
theorem tightB_iff {b:Broker}:tightB b=true↔∀e∈b.entries,e.up=true∨parentOf b e.tree=-1∨coveredB b.entries e.tree e.pred=true:=by
 unfold tightB
 rw [List.all_eq_true]
 simp only [tightE,Bool.or_eq_true,decide_eq_true_eq,or_assoc]
theorem linkB_near {b b':Broker} (h:b'.near=b.near) (n:Int):linkB b' n=linkB b n:=by unfold linkB;rw [h]
theorem rightEnt_same {b b':Broker} {e:Entry} (h:b'.near=b.near) (ha:advOf b' e.tree=advOf b e.tree):rightEnt b' e=rightEnt b e:=by
 rw [Bool.eq_iff_iff,rightEnt_iff,rightEnt_iff,ha]
 simp only [linkB_near h]
theorem InvK.start {me:Int} {near:List Int} (hn:risesB (fun x y=>decide (x<y)) near=true) (hl:∀x∈near,0≤x):InvK ⟨me,near,[],[],[],[]⟩ :=
 ⟨hn,hl,.nil,.nil,.nil,.nil,fun a h=>(by cases h),fun a h=>(by cases h),fun a h=>(by cases h),fun a h=>(by cases h),fun a h=>(by cases h),fun a h=>(by cases h),rfl⟩
theorem SzK.start {me:Int} {near:List Int} (hn:near.length≤1000):SzK ⟨me,near,[],[],[],[]⟩ 0:=⟨hn,Nat.le_refl _,Nat.le_refl _,Nat.le_refl _,Nat.le_refl _⟩
theorem advOf_learn {b:Broker} (h:InvK b) (a:Advert) (hn:a.id ∉ b.seen) (x:ID):advOf (learnB b a).1 x=if a.id=x then some a else advOf b x:=by
 have hnew:∀c∈b.adverts,c.id≠a.id:=fun c hc e=>hn (by rw [←e];exact h.sub c hc)
 have hr:Rising ((learnB b a).1.adverts.map (·.id)):=by
  unfold learnB;rw [if_neg hn]
  exact ins_rising (fun a:Advert=>a.id) a h.ra hnew
 have hm:∀c,c∈(learnB b a).1.adverts↔c=a∨c∈b.adverts:=by
  intro c
  unfold learnB;rw [if_neg hn]
  exact ins_mem (fun a:Advert=>a.id) a b.adverts c
 by_cases e:a.id=x
 ·rw [if_pos e,advOf_some hr,hm];exact ⟨.inl rfl,e⟩
 ·rw [if_neg e]
  cases hq:advOf b x with
  | none =>
   rw [advOf_none]at hq ⊢
   intro c hc
   rcases (hm c).1 hc with rfl|hc
   ·exact e
   ·exact hq c hc
  | some c =>
   rw [advOf_some h.ra]at hq
   rw [advOf_some hr,hm]
   exact ⟨.inr hq.1,hq.2⟩
theorem InvK.learn {b:Broker} (h:InvK b) {a:Advert} (hp:linkB b a.parent=true) (hr:PredOk a.pred):InvK (learnB b a).1:=by
 by_cases hn:a.id∈b.seen
 ·unfold learnB;rw [if_pos hn];exact h
 ·have ho:=advOf_learn h a hn
  have hE:(learnB b a).1.entries=b.entries:=by unfold learnB;rw [if_neg hn]
  have hN:(learnB b a).1.near=b.near:=by unfold learnB;rw [if_neg hn]
  have hO:(learnB b a).1.owns=b.owns:=by unfold learnB;rw [if_neg hn]
  have hA:(learnB b a).1.adverts=insAt (fun a=>a.id) a b.adverts:=by unfold learnB;rw [if_neg hn]
  have hS:(learnB b a).1.seen=insAt (fun x=>x) a.id b.seen:=by unfold learnB;rw [if_neg hn]
  have hother:∀e∈b.entries,advOf (learnB b a).1 e.tree=advOf b e.tree:=by
   intro e he
   rw [ho,if_neg]
   intro hc
   obtain ⟨c,hc1,_⟩:=rightEnt_iff.1 (h.ent e he)
   rw [advOf_some h.ra]at hc1
   exact hn (by rw [hc,←hc1.2];exact h.sub c hc1.1)
  refine ⟨by rw [hN];exact h.near,by rw [hN];exact h.loc,?_,?_,by rw [hO];exact h.ro,by rw [hE];exact h.re,?_,?_,?_,by rw [hO];exact h.po,?_,by rw [hE];exact h.pe,?_⟩
  ·rw [hA];exact ins_rising (fun a:Advert=>a.id) a h.ra fun c hc e=>hn (by rw [←e];exact h.sub c hc)
  ·rw [hS]
   have:=ins_rising (fun x:ID=>x) a.id (l:=b.seen) (by simpa using h.rs) (fun c hc e=>hn (by rw [←e];exact hc))
   simpa using this
  ·intro c hc
   rw [hA,ins_mem]at hc
   rw [hS,ins_mem]
   rcases hc with rfl|hc
   ·exact .inl rfl
   ·exact .inr (h.sub c hc)
  ·intro c hc
   rw [linkB_near hN]
   rw [hA,ins_mem]at hc
   rcases hc with rfl|hc
   ·exact hp
   ·exact h.par c hc
  ·intro c hc
   rw [hA,ins_mem]at hc
   rcases hc with rfl|hc
   ·exact hr
   ·exact h.pa c hc
  ·intro e he
   rw [hE]at he
   rw [rightEnt_same hN (hother e he)];exact h.ent e he
  ·rw [tightB_iff,hE]
   intro e he
   rw [parentOf_eq,hother e he,←parentOf_eq]
   exact tightB_iff.1 h.tight e he
theorem SzK.learn {b:Broker} {n:Nat} (h:SzK b n) (a:Advert):SzK (learnB b a).1 (n+1):=by
 have h':=h.mono (Nat.le_succ n)
 unfold learnB
 split
 ·exact h'
 ·obtain ⟨h1,h2,h3,h4,h5⟩:=h'
  exact ⟨h1,by simp only [ins_len];have:=h.adv;omega,by simp only [ins_len];have:=h.seen;omega,h4,h5⟩
theorem mayAdd_iff {b:Broker} {e:Entry}:mayAdd b e=true↔∃ a,advOf b e.tree=some a∧(∀x∈b.entries,isE e.tree e.sub x=false)∧(e.frm=a.parent→a.parent=-1):=by
 unfold mayAdd advOf
 cases b.adverts.find? (fun a=>a.id=e.tree) with
 | none=>simp
 | some a =>
  simp only [Option.some.injEq,exists_eq_left',Bool.and_eq_true,Bool.not_eq_true',Bool.and_eq_false_iff,List.any_eq_false,Bool.not_eq_true,decide_eq_false_iff_not,Bool.not_eq_false',decide_eq_true_eq]
  refine and_congr Iff.rfl ⟨fun h q=>h.resolve_left (fun hn=>hn q),fun h=>?_⟩
  by_cases q:e.frm=a.parent
  ·exact .inr (h q)
  ·exact .inl q
theorem covered_mono {l l':List Entry} {t:ID} {p:Pred} (h:∀e∈l,e∈l') (hc:coveredB l t p=true):coveredB l' t p=true:=by
 rw [coveredB_iff]at *
 obtain ⟨e,he,h2⟩:=hc
 exact ⟨e,h e he,h2⟩
theorem InvK.add {b:Broker} (h:InvK b) {e:Entry} (hl:linkB b e.frm=true) (hp:PredOk e.pred):InvK (addB b e).1:=by
 by_cases hm:mayAdd b e=true
 ·obtain ⟨a,ha,hno,hfp⟩:=mayAdd_iff.1 hm
  unfold addB
  rw [if_pos hm]
  have hpar:parentOf b e.tree=a.parent:=by rw [parentOf_eq,ha];rfl
  refine ⟨h.near,h.loc,h.ra,h.rs,h.ro,?_,h.sub,h.par,h.pa,h.po,?_,?_,?_⟩
  ·exact insE_rising (e:={e with up:=upOf b e}) h.re hno
  ·intro x hx
   rw [insE_mem]at hx
   have hs:∀y,rightEnt {b with entries:=insE {e with up:=upOf b e} b.entries} y=rightEnt b y:=fun y=>rightEnt_same rfl rfl
   rw [hs]
   rcases hx with rfl|hx
   ·rw [rightEnt_iff]
    refine ⟨a,ha,hl,hfp,?_,hp.right⟩
    intro hu hpp
    simp only [upOf,hpar,hpp]at hu
    simp at hu
   ·exact h.ent x hx
  ·intro x hx
   rw [insE_mem]at hx
   rcases hx with rfl|hx
   ·exact hp
   ·exact h.pe x hx
  ·rw [tightB_iff]
   intro x hx
   have hs:∀y,parentOf {b with entries:=insE {e with up:=upOf b e} b.entries} y=parentOf b y:=fun y=>rfl
   rw [hs]
   have hx':=hx
   rw [insE_mem]at hx
   rcases hx with rfl|hx
   ·by_cases hpp:a.parent=-1
    ·exact .inr (.inl (by rw [hpar,hpp]))
    ·cases hcv:coveredB b.entries e.tree e.pred with
     | true=>exact .inr (.inr (covered_mono (fun y hy=>insE_mem.2 (.inr hy)) hcv))
     | false=>left;simp [upOf,hpar,hpp,hcv]
   ·rcases tightB_iff.1 h.tight x hx with h1|h1|h1
    ·exact .inl h1
    ·exact .inr (.inl h1)
    ·exact .inr (.inr (covered_mono (fun y hy=>insE_mem.2 (.inr hy)) h1))
 ·unfold addB
  rw [if_neg hm];exact h
inductive Raised (t:ID):List Entry→List Entry→Prop where
 | nil:Raised t [] []
 | keep (e:Entry) {l l':List Entry} (h:Raised t l l'):Raised t (e::l) (e::l')
 | up (e:Entry) {l l':List Entry} (ht:e.tree=t) (hu:e.up=false) (h:Raised t l l'):Raised t (e::l) ({e with up:=true}::l')
theorem Raised.refl (t:ID):∀l,Raised t l l
 | []=>.nil
 | e::l=>.keep e (Raised.refl t l)
theorem Raised.append {t:ID} {a a' b b':List Entry} (h:Raised t a a') (k:Raised t b b'):Raised t (a++b) (a'++b'):=by
 induction h with
 | nil=>exact k
 | keep e _ ih=>exact .keep e ih
 | up e ht hu _ ih=>exact .up e ht hu ih
theorem Raised.len {t:ID} {a a':List Entry} (h:Raised t a a'):a'.length=a.length:=by
 induction h with
 | nil=>rfl
 | keep e _ ih=>simp [ih]
 | up e ht hu _ ih=>simp [ih]
theorem Raised.mem {t:ID} {a a':List Entry} (h:Raised t a a') {x:Entry} (hx:x∈a'):x∈a∨∃ e∈a,e.tree=t∧e.up=false∧x={e with up:=true}:=by
 induction h with
 | nil=>cases hx
 | keep e _ ih =>
  rcases List.mem_cons.1 hx with rfl|hx
  ·exact .inl (List.mem_cons_self ..)
  ·rcases ih hx with h|⟨y,hy,h⟩
   ·exact .inl (List.mem_cons_of_mem _ h)
   ·exact .inr ⟨y,List.mem_cons_of_mem _ hy,h⟩
 | up e ht hu _ ih =>
  rcases List.mem_cons.1 hx with rfl|hx
  ·exact .inr ⟨e,List.mem_cons_self ..,ht,hu,rfl⟩
  ·rcases ih hx with h|⟨y,hy,h⟩
   ·exact .inl (List.mem_cons_of_mem _ h)
   ·exact .inr ⟨y,List.mem_cons_of_mem _ hy,h⟩
theorem Raised.of_mem {t:ID} {a a':List Entry} (h:Raised t a a') {x:Entry} (hx:x∈a):x∈a'∨(x.tree=t∧x.up=false∧{x with up:=true}∈a'):=by
 induction h with
 | nil=>cases hx
 | keep e _ ih =>
  rcases List.mem_cons.1 hx with rfl|hx
  ·exact .inl (List.mem_cons_self ..)
  ·rcases ih hx with h|⟨h1,h2,h3⟩
   ·exact .inl (List.mem_cons_of_mem _ h)
   ·exact .inr ⟨h1,h2,List.mem_cons_of_mem _ h3⟩
 | up e ht hu _ ih =>
  rcases List.mem_cons.1 hx with rfl|hx
  ·exact .inr ⟨ht,hu,List.mem_cons_self ..⟩
  ·rcases ih hx with h|⟨h1,h2,h3⟩
   ·exact .inl (List.mem_cons_of_mem _ h)
   ·exact .inr ⟨h1,h2,List.mem_cons_of_mem _ h3⟩
theorem Raised.rising {t:ID} {a a':List Entry} (h:Raised t a a') (hr:RisingE a):RisingE a':=by
 induction h with
 | nil=>exact hr
 | keep e h ih =>
  unfold RisingE at *
  rw [List.pairwise_cons]at *
  refine ⟨fun x hx=>?_,ih hr.2⟩
  rcases h.mem hx with hx|⟨y,hy,_,_,rfl⟩
  ·exact hr.1 x hx
  ·exact hr.1 y hy
 | up e ht hu h ih =>
  unfold RisingE at *
  rw [List.pairwise_cons]at *
  refine ⟨fun x hx=>?_,ih hr.2⟩
  have:∀t s,sgnE t s {e with up:=true}=sgnE t s e:=fun t s=>rfl
  rw [this]
  rcases h.mem hx with hx|⟨y,hy,_,_,rfl⟩
  ·exact hr.1 x hx
  ·exact hr.1 y hy
theorem Raised.covered {t:ID} {a a':List Entry} (h:Raised t a a') {t':ID} {p:Pred} (hc:coveredB a t' p=true):coveredB a' t' p=true:=by
 rw [coveredB_iff]at *
 obtain ⟨e,he,h1,h2,h3⟩:=hc
 rcases h.of_mem he with hx|⟨_,hx,_⟩
 ·exact ⟨e,hx,h1,h2,h3⟩
 ·rw [h2]at hx;cases hx
theorem takeL_raised (t:ID):∀(rest done ups:List Entry),∃ r',(takeL t done rest ups).1=done++r'∧Raised t rest r'∧(∀x∈r',x.tree=t→x.up=true∨coveredB (done++r') t x.pred=true) ∧
  ∃ u',(takeL t done rest ups).2=ups++u'∧∀x∈u',x∈r'∧x.tree=t∧x.up=true∧{x with up:=false}∈rest∧coveredB (done++rest) t x.pred=false:=by
 intro rest
 induction rest with
 | nil=>intro done ups;exact ⟨[],by simp [takeL],.nil,(fun x hx=>by cases hx),[],by simp [takeL],(fun x hx=>by cases hx)⟩
 | cons e rest ih =>
  intro done ups
  unfold takeL
  by_cases hc:e.tree=t∧e.up=false∧coveredB (done++e::rest) t e.pred=false
  ·rw [if_pos hc]
   obtain ⟨r',h1,h2,h3,u',h4,h5⟩:=ih (done++[{e with up:=true}]) (ups++[{e with up:=true}])
   refine ⟨{e with up:=true}::r',by rw [h1];simp,.up e hc.1 hc.2.1 h2,?_,{e with up:=true}::u',by rw [h4];simp,?_⟩
   ·intro x hx ht
    rcases List.mem_cons.1 hx with rfl|hx
    ·exact .inl rfl
    ·have:=h3 x hx ht
     simpa using this
   ·intro x hx
    rcases List.mem_cons.1 hx with rfl|hx
    ·have he:({{e with up:=true} with up:=false}:Entry)=e:=by obtain ⟨a1,a2,a3,a4,a5⟩:=e;simp only at hc;rw [hc.2.1]
     exact ⟨List.mem_cons_self ..,hc.1,rfl,by rw [he];exact List.mem_cons_self ..,hc.2.2⟩
    ·obtain ⟨k1,k2,k3,k4,k5⟩:=h5 x hx
     refine ⟨List.mem_cons_of_mem _ k1,k2,k3,List.mem_cons_of_mem _ k4,?_⟩
     have hR:Raised t (done++e::rest) (done++[{e with up:=true}]++rest):=by
      rw [List.append_assoc]
      exact (Raised.refl t done).append (.up e hc.1 hc.2.1 (.refl t rest))
     cases hq:coveredB (done++e::rest) t x.pred with
     | false=>rfl
     | true=>rw [hR.covered hq]at k5;cases k5
  ·rw [if_neg hc]
   obtain ⟨r',h1,h2,h3,u',h4,h5⟩:=ih (done++[e]) ups
   refine ⟨e::r',by rw [h1];simp,.keep e h2,?_,u',h4,?_⟩
   ·intro x hx ht
    rcases List.mem_cons.1 hx with rfl|hx
    ·cases hu:x.up with
     | true=>exact .inl rfl
     | false =>
      cases hq:coveredB (done++x::rest) t x.pred with
      | true=>exact .inr (((Raised.refl t done).append (.keep x h2)).covered hq)
      | false=>exact absurd ⟨ht,hu,hq⟩ hc
    ·have:=h3 x hx ht
     simpa using this
   ·intro x hx
    obtain ⟨k1,k2,k3,k4,k5⟩:=h5 x hx
    exact ⟨List.mem_cons_of_mem _ k1,k2,k3,List.mem_cons_of_mem _ k4,by simpa using k5⟩
theorem take_cases {b:Broker} (h:InvK b) (t s:ID) (q:Int) :
  ((takeB b t s q)=(b,[],false)∧∀e∈b.entries,isE t s e=true→e.frm≠q) ∨
  (∃ e∈b.entries,isE t s e=true∧e.frm=q∧e.up=false∧takeB b t s q=({b with entries:=b.entries.filter fun x=>!isE t s x},[],false)) ∨
  (∃ e∈b.entries,isE t s e=true∧e.frm=q∧e.up=true∧∃ r' u',takeB b t s q=({b with entries:=r'},u',true)∧Raised t (b.entries.filter fun x=>!isE t s x) r' ∧
   (∀x∈r',x.tree=t→x.up=true∨coveredB r' t x.pred=true)∧∀x∈u',x∈r'∧x.tree=t∧x.up=true∧{x with up:=false}∈b.entries.filter (fun x=>!isE t s x)∧coveredB (b.entries.filter fun x=>!isE t s x) t x.pred=false):=by
 unfold takeB
 cases hf:b.entries.find? (isE t s) with
 | none =>
  left
  refine ⟨rfl,fun e he hi=>?_⟩
  have:=List.find?_eq_none.1 hf e he
  exact absurd hi this
 | some e =>
  have he:=List.mem_of_find?_eq_some hf
  have hi:=List.find?_some hf
  by_cases hq:e.frm=q
  ·simp only [if_pos hq]
   cases hu:e.up with
   | false =>
    right;left
    exact ⟨e,he,hi,hq,hu,by simp⟩
   | true =>
    right;right
    obtain ⟨r',h1,h2,h3,u',h4,h5⟩:=takeL_raised t (b.entries.filter fun x=>!isE t s x) [] []
    refine ⟨e,he,hi,hq,hu,r',u',by simp [h1,h4],h2,by simpa using h3,by simpa using h5⟩
  ·left
   refine ⟨by simp only [if_neg hq],fun x hx hix=>?_⟩
   have hkey:x=e:=by
    by_cases hxe:x=e
    ·exact hxe
    ·exfalso
     have k1:x.tree=t∧x.sub=s:=by simpa [isE] using hix
     have k2:e.tree=t∧e.sub=s:=by simpa [isE] using hi
     obtain ⟨i,hi1,rfl⟩:=List.mem_iff_getElem.1 hx
     obtain ⟨j,hj1,rfl⟩:=List.mem_iff_getElem.1 he
     rcases Nat.lt_trichotomy i j with hlt|he|hlt
     ·have:=List.pairwise_iff_getElem.1 h.re i j hi1 hj1 hlt
      rw [k2.1,k2.2,sgnE_eq.2 k1]at this;omega
     ·subst he;exact hxe rfl
     ·have:=List.pairwise_iff_getElem.1 h.re j i hj1 hi1 hlt
      rw [k1.1,k1.2,sgnE_eq.2 k2]at this;omega
   rw [hkey];exact hq
theorem InvK.entries {b b':Broker} (h:InvK b) (hb:b'={b with entries:=b'.entries}) (hre:RisingE b'.entries) (he:∀e∈b'.entries,∃ d∈b.entries,e.tree=d.tree∧e.pred=d.pred∧e.frm=d.frm∧(e.up=true→parentOf b e.tree≠-1))
  (ht:∀e∈b'.entries,e.up=true∨parentOf b e.tree=-1∨coveredB b'.entries e.tree e.pred=true):InvK b':=by
 have hA:b'.adverts=b.adverts:=by rw [hb]
 have hN:b'.near=b.near:=by rw [hb]
 have hS:b'.seen=b.seen:=by rw [hb]
 have hO:b'.owns=b.owns:=by rw [hb]
 have ho:∀x,advOf b' x=advOf b x:=fun x=>by unfold advOf;rw [hA]
 refine ⟨by rw [hN];exact h.near,by rw [hN];exact h.loc,by rw [hA];exact h.ra,by rw [hS];exact h.rs,by rw [hO];exact h.ro,hre,by rw [hA,hS];exact h.sub,?_,by rw [hA];exact h.pa,by rw [hO];exact h.po,?_,?_,?_⟩
 ·intro a ha;rw [linkB_near hN];rw [hA]at ha;exact h.par a ha
 ·intro e hm
  obtain ⟨d,hd,k1,k2,k3,k4⟩:=he e hm
  rw [rightEnt_same hN (ho _),rightEnt_iff]
  obtain ⟨a,a1,a2,a3,a4,a5⟩:=rightEnt_iff.1 (h.ent d hd)
  refine ⟨a,by rw [k1];exact a1,by rw [k3];exact a2,by rw [k3];exact a3,fun hu=>?_,by rw [k2];exact a5⟩
  have:=k4 hu
  rw [parentOf_eq,k1,a1]at this
  exact this
 ·intro e hm
  obtain ⟨d,hd,_,k2,_⟩:=he e hm
  rw [k2];exact h.pe d hd
 ·rw [tightB_iff]
  intro e hm
  have:parentOf b' e.tree=parentOf b e.tree:=by rw [parentOf_eq,ho,←parentOf_eq]
  rw [this]
  exact ht e hm
theorem InvK.up {b:Broker} (h:InvK b) {e:Entry} (he:e∈b.entries) (hu:e.up=true):parentOf b e.tree≠-1:=by
 obtain ⟨a,a1,_,_,a4,_⟩:=rightEnt_iff.1 (h.ent e he)
 rw [parentOf_eq,a1]
 exact a4 hu
theorem InvK.take {b:Broker} (h:InvK b) (t s:ID) (q:Int):InvK (takeB b t s q).1:=by
 have hsub:∀x∈b.entries.filter (fun x=>!isE t s x),x∈b.entries:=fun x hx=>(List.mem_filter.1 hx).1
 have hrf:RisingE (b.entries.filter fun x=>!isE t s x):=h.re.sublist (List.filter_sublist ..)
 rcases take_cases h t s q with ⟨hc,_⟩|⟨e,he,hi,_,hu,hc⟩|⟨e,he,hi,_,hu,r',u',hc,hR,htt,_⟩
 ·rw [hc];exact h
 ·rw [hc]
  refine h.entries rfl hrf ?_ ?_
  ·intro x hx
   exact ⟨x,hsub x hx,rfl,rfl,rfl,fun hux=>h.up (hsub x hx) hux⟩
  ·intro x hx
   rcases tightB_iff.1 h.tight x (hsub x hx) with h1|h1|h1
   ·exact .inl h1
   ·exact .inr (.inl h1)
   ·refine .inr (.inr ?_)
    rw [coveredB_iff]at *
    obtain ⟨d,hd,k1,k2,k3⟩:=h1
    refine ⟨d,List.mem_filter.2 ⟨hd,?_⟩,k1,k2,k3⟩
    cases hid:isE t s d with
    | false=>rfl
    | true =>
     exfalso
     have q1:d.tree=t∧d.sub=s:=by simpa [isE] using hid
     have q2:e.tree=t∧e.sub=s:=by simpa [isE] using hi
     have:d=e:=by
      by_cases hde:d=e
      ·exact hde
      ·exfalso
       obtain ⟨i,hi1,rfl⟩:=List.mem_iff_getElem.1 hd
       obtain ⟨j,hj1,rfl⟩:=List.mem_iff_getElem.1 he
       rcases Nat.lt_trichotomy i j with hlt|hee|hlt
       ·have:=List.pairwise_iff_getElem.1 h.re i j hi1 hj1 hlt
        rw [q2.1,q2.2,sgnE_eq.2 q1]at this;omega
       ·subst hee;exact hde rfl
       ·have:=List.pairwise_iff_getElem.1 h.re j i hj1 hi1 hlt
        rw [q1.1,q1.2,sgnE_eq.2 q2]at this;omega
     rw [this,hu]at k2;cases k2
 ·have hpt:parentOf b t≠-1:=by
   have:=h.up he hu
   have q2:e.tree=t∧e.sub=s:=by simpa [isE] using hi
   rw [q2.1]at this;exact this
  rw [hc]
  refine h.entries rfl (hR.rising hrf) ?_ ?_
  ·intro x hx
   rcases hR.mem hx with hx|⟨y,hy,h1,h2,rfl⟩
   ·exact ⟨x,hsub x hx,rfl,rfl,rfl,fun hux=>h.up (hsub x hx) hux⟩
   ·exact ⟨y,hsub y hy,rfl,rfl,rfl,fun _=>by rw [h1];exact hpt⟩
  ·intro x hx
   by_cases hxt:x.tree=t
   ·rcases htt x hx hxt with k|k
    ·exact .inl k
    ·exact .inr (.inr (by rw [hxt];exact k))
   ·have hx':x∈b.entries.filter fun x=>!isE t s x:=by
     rcases hR.mem hx with hx|⟨y,hy,h1,h2,rfl⟩
     ·exact hx
     ·exact absurd h1 hxt
    rcases tightB_iff.1 h.tight x (hsub x hx') with h1|h1|h1
    ·exact .inl h1
    ·exact .inr (.inl h1)
    ·refine .inr (.inr (hR.covered ?_))
     rw [coveredB_iff]at *
     obtain ⟨d,hd,k1,k2,k3⟩:=h1
     refine ⟨d,List.mem_filter.2 ⟨hd,?_⟩,k1,k2,k3⟩
     have:¬(d.tree=t∧d.sub=s):=fun hh=>hxt (by rw [←k1];exact hh.1)
     simp [isE,this]
theorem take_len {b:Broker} (h:InvK b) (t s:ID) (q:Int):(takeB b t s q).1.entries.length≤b.entries.length:=by
 rcases take_cases h t s q with ⟨hc,_⟩|⟨e,_,_,_,_,hc⟩|⟨e,_,_,_,_,r',u',hc,hR,_⟩
 ·rw [hc];exact Nat.le_refl _
 ·rw [hc];exact List.length_filter_le ..
 ·rw [hc]
  show r'.length≤_
  rw [hR.len];exact List.length_filter_le ..
theorem take_rest (b:Broker) (t s:ID) (q:Int):(takeB b t s q).1={b with entries:=(takeB b t s q).1.entries}:=by
 unfold takeB
 split
 ·rfl
 ·split
  ·split<;>rfl
  ·rfl
theorem add_rest (b:Broker) (e:Entry):(addB b e).1={b with entries:=(addB b e).1.entries}:=by
 unfold addB
 split<;>rfl
theorem add_len (b:Broker) (e:Entry):(addB b e).1.entries.length≤b.entries.length+1:=by
 unfold addB
 split
 ·simp only [insE_len];exact Nat.le_refl _
 ·exact Nat.le_succ _
theorem SzK.take {b:Broker} {n:Nat} (h:SzK b n) (hi:InvK b) (t s:ID) (q:Int):SzK (takeB b t s q).1 n:=by
 have h1:=take_len hi t s q
 rw [take_rest]at h1 ⊢
 obtain ⟨a1,a2,a3,a4,a5⟩:=h
 exact ⟨a1,a2,a3,a4,Nat.le_trans h1 a5⟩
theorem SzK.add {b:Broker} {n:Nat} (h:SzK b n) (e:Entry):SzK (addB b e).1 (n+1):=by
 have h1:=add_len b e
 rw [add_rest]at h1 ⊢
 obtain ⟨a1,a2,a3,a4,a5⟩:=h
 have:(n+1)*(n+1)=n*n+n+n+1:=by rw [Nat.add_mul,Nat.mul_add];omega
 exact ⟨a1,Nat.le_succ_of_le a2,Nat.le_succ_of_le a3,Nat.le_succ_of_le a4,by simp only at h1 ⊢;omega⟩
end Go.Dm.Tc
/-
Brokers as one datum: what the machine's steps do to it;what functions answer of a broker that calls made.
-/
namespace Go.Dm.Tc
theorem agg_bC (t:Tags) (b:Broker):DV.agg (bCells t b)=eBroker t b:=_root_.id rfl
theorem ecells_eB (sz:Nat) (t:Tags) (b:Broker):ecells sz (eBroker t b)=bCells t b:=_root_.id rfl
theorem bC_len (t:Tags) (b:Broker):(bCells t b).length=6:=_root_.id rfl
theorem bC_take (t:Tags) (b:Broker):(bCells t b).take 6=bCells t b:=_root_.id rfl
theorem bC_0 (t:Tags) (b:Broker):(bCells t b)[0]?=some (.int .i64 b.me):=_root_.id rfl
theorem bC_1 (t:Tags) (b:Broker):(bCells t b)[1]?=some (eL t.near 1 cInt b.near):=_root_.id rfl
theorem bC_2 (t:Tags) (b:Broker):(bCells t b)[2]?=some (eL t.adverts 4 eAdvert b.adverts):=_root_.id rfl
theorem bC_3 (t:Tags) (b:Broker):(bCells t b)[3]?=some (eL t.seen 2 eID b.seen):=_root_.id rfl
theorem bC_4 (t:Tags) (b:Broker):(bCells t b)[4]?=some (eL t.entries 7 eEntry b.entries):=_root_.id rfl
theorem bC_5 (t:Tags) (b:Broker):(bCells t b)[5]?=some (eL t.owns 3 eOwn b.owns):=_root_.id rfl
theorem bCg_0 (t:Tags) (b:Broker) (h:0<(bCells t b).length):(bCells t b)[0]=.int .i64 b.me:=_root_.id rfl
theorem bCg_1 (t:Tags) (b:Broker) (h:1<(bCells t b).length):(bCells t b)[1]=eL t.near 1 cInt b.near:=_root_.id rfl
theorem bCg_2 (t:Tags) (b:Broker) (h:2<(bCells t b).length):(bCells t b)[2]=eL t.adverts 4 eAdvert b.adverts:=_root_.id rfl
theorem bCg_3 (t:Tags) (b:Broker) (h:3<(bCells t b).length):(bCells t b)[3]=eL t.seen 2 eID b.seen:=_root_.id rfl
theorem bCg_4 (t:Tags) (b:Broker) (h:4<(bCells t b).length):(bCells t b)[4]=eL t.entries 7 eEntry b.entries:=_root_.id rfl
theorem bCg_5 (t:Tags) (b:Broker) (h:5<(bCells t b).length):(bCells t b)[5]=eL t.owns 3 eOwn b.owns:=_root_.id rfl
theorem storable_eB (t:Tags) (b:Broker):storable 6 (eBroker t b)=true:=_root_.id rfl
theorem res_eB (tg:Bool) (h:Heap) (n:Nat) (t:Tags) (b:Broker):resolve tg h (n+2) (eBroker t b)=some (eBroker t b):=by
 simp [eBroker]
theorem ul_eB (n:Nat) (b:Broker):unlent (n+24) (eBroker .none b)=true:=by
 simp [eBroker,Tags.none]
theorem frA_eB (h:Heap) (t:Tags) (b:Broker):freezeA h (eBroker t b)=some (eBroker t b,h):=by
 simp [eBroker,frA_agg,mapH_cons,mapH_nil,fr_int,fr_eL,consH_some,consL_some,aggH_some]
theorem fieldV_eB (off:Nat) (n:Option Nat) (t:Tags) (b:Broker):fieldV off n (eBroker t b)=pickCells n (bCells t b) off:=_root_.id rfl
attribute [simp] agg_bC ecells_eB bC_len bC_take bC_0 bC_1 bC_2 bC_3 bC_4 bC_5 bCg_0 bCg_1 bCg_2 bCg_3 bCg_4 bCg_5 storable_eB res_eB ul_eB frA_eB fieldV_eB frA_int frA_eL frA_pred frA_str frA_agg mapH_nil mapH_cons fr_int fr_bool fr_nsl fr_eL fr_pred fr_isl consH_some consL_some aggH_some
section
variable {b:Broker} (t:Tags)
def entOf (b:Broker) (t s:ID):Option Entry:=b.entries.find? (isE t s)
theorem kEF (h:InvK b) (z:Sized b) (p q c d:Int):pcF D t32 [eBroker t b,.agg [.int .i64 p,.int .i64 q],.agg [.int .i64 c,.int .i64 d]]=some (.tup [eEntry ((entOf b ⟨p,q⟩ ⟨c,d⟩).getD entZero),.bool (hasO (entOf b ⟨p,q⟩ ⟨c,d⟩))]) :=
 s32 _ _ _ _ _ _ _ p q c d h.re (by have:=z.ent;omega) ((flat_int _ _).mono (by decide)) ((flat_eL _ _ _ _).mono (by decide)) ((flat_eL _ _ _ _).mono (by decide)) ((flat_eL _ _ _ _).mono (by decide)) ((flat_eL _ _ _ _).mono (by decide))
theorem kOf (z:Sized b) (c d:Int):pcF D t40 [eBroker t b,.agg [.int .i64 c,.int .i64 d]]=some (eL false 7 eEntry (ofT ⟨c,d⟩ b.entries)) :=
 s40 _ _ _ _ _ _ _ c d (by have:=z.ent;omega)
theorem kLearn (h:InvK b) (z:Sized b) (c d:Int) (p:Pred) (q:Int):pcF D t19 [eBroker t b,.agg [.int .i64 c,.int .i64 d,ePred p,.int .i64 q]]=some (.tup [eBroker .none (learnB b ⟨⟨c,d⟩,p,q⟩).1,.bool (learnB b ⟨⟨c,d⟩,p,q⟩).2]):=s19 t b c d p q z h.ra h.rs
theorem kAdd (h:InvK b) (z:Sized b) (tc td sc sd:Int) {p:Pred} (hp:PredOk p) (q:Int) (u:Bool):pcF D t31 [eBroker .none b,.agg [.int .i64 tc,.int .i64 td,.int .i64 sc,.int .i64 sd,ePred p,.int .i64 q,.bool u]]=some (.tup [eBroker .none (addB b ⟨⟨tc,td⟩,⟨sc,sd⟩,p,q,u⟩).1,.bool (addB b ⟨⟨tc,td⟩,⟨sc,sd⟩,p,q,u⟩).2]) :=
 s31 b ⟨⟨tc,td⟩,⟨sc,sd⟩,p,q,u⟩ z h.asked hp h.ra h.re
theorem kRAdd (h:InvK b) (z:Sized b) (tc td sc sd:Int) {p:Pred} (hp:PredOk p) (q:Int) (u:Bool):pcF D t37 [eBroker .none b,.agg [.int .i64 tc,.int .i64 td,.int .i64 sc,.int .i64 sd,ePred p,.int .i64 q,.bool u]]=some (.tup [eBroker .none (addB b ⟨⟨tc,td⟩,⟨sc,sd⟩,p,q,u⟩).1,.bool (addB b ⟨⟨tc,td⟩,⟨sc,sd⟩,p,q,u⟩).2]) :=
 s37 b ⟨⟨tc,td⟩,⟨sc,sd⟩,p,q,u⟩ z h.asked hp
theorem kTight (h:InvK b) (z:Sized b):pcF D t41 [eBroker t b]=some (.bool true):=by rw [←h.tight];exact s41 t b z h.asked h.ra
end
end Go.Dm.Tc
/-
What the laws' arguments are: numbers of which predicates,steps,brokers are made.
-/
namespace Go.Dm.Tc
structure PK where
 has:List Int
 vals:List Int
def ePK (p:PK):DV:=.agg [eL false 1 cInt p.has,eL false 1 cInt p.vals]
def PK.pred (p:PK):Pred:=mkPred p.has p.vals
structure StepK where
 kind:Int
 frm:Int
 tree:Int
 client:Int
 seq:Int
 has:List Int
 vals:List Int
structure BrokK where
 near:Int
 steps:List StepK
end Go.Dm.Tc
/-
More plain laws of brokers: one entry for a tree and a number;what covers itself;what comes of an entry taken out,of one added.
-/
namespace Go.Dm.Tc
theorem ent_unique {l:List Entry} (h:RisingE l) {d e:Entry} (hd:d∈l) (he:e∈l) (ht:d.tree=e.tree) (hs:d.sub=e.sub):d=e:=by
 by_cases hde:d=e
 ·exact hde
 ·exfalso
  obtain ⟨i,hi,rfl⟩:=List.mem_iff_getElem.1 hd
  obtain ⟨j,hj,rfl⟩:=List.mem_iff_getElem.1 he
  rcases Nat.lt_trichotomy i j with hlt|hee|hlt
  ·have:=List.pairwise_iff_getElem.1 h i j hi hj hlt
   rw [sgnE_eq.2 ⟨ht,hs⟩]at this;omega
  ·subst hee;exact hde rfl
  ·have:=List.pairwise_iff_getElem.1 h j i hj hi hlt
   rw [sgnE_eq.2 ⟨ht.symm,hs.symm⟩]at this;omega
theorem isE_iff {t s:ID} {e:Entry}:isE t s e=true↔e.tree=t∧e.sub=s:=by simp [isE]
theorem isE_not {t s:ID} {e:Entry}:isE t s e=false↔¬(e.tree=t∧e.sub=s):=by simp [isE]
theorem entOf_some {b:Broker} (h:RisingE b.entries) {t s:ID} {e:Entry}:entOf b t s=some e↔e∈b.entries∧e.tree=t∧e.sub=s:=by
 constructor
 ·intro hf
  exact ⟨List.mem_of_find?_eq_some hf,isE_iff.1 (List.find?_some hf)⟩
 ·rintro ⟨hm,ht,hs⟩
  cases hf:entOf b t s with
  | none=>exact absurd (isE_iff.2 ⟨ht,hs⟩) (by have:=List.find?_eq_none.1 hf e hm;simpa using this)
  | some d =>
   have hd:=List.mem_of_find?_eq_some hf
   have hd2:=isE_iff.1 (List.find?_some hf)
   rw [ent_unique h hd hm (hd2.1.trans ht.symm) (hd2.2.trans hs.symm)]
theorem entOf_none {b:Broker} {t s:ID}:entOf b t s=none↔∀e∈b.entries,¬(e.tree=t∧e.sub=s):=by
 unfold entOf
 rw [List.find?_eq_none]
 exact ⟨fun h e he=>isE_not.1 (by simpa using h e he),fun h e he=>by rw [isE_not.2 (h e he)];simp⟩
theorem covers_nil (p:Pred):coversP [] p=true:=rfl
theorem add_yes {b:Broker} {e:Entry} {a:Advert} (ha:advOf b e.tree=some a) (hn:entOf b e.tree e.sub=none) (hf:e.frm=a.parent→a.parent=-1):addB b e=({b with entries:=insE {e with up:=upOf b e} b.entries},upOf b e):=by
 unfold addB
 rw [if_pos (mayAdd_iff.2 ⟨a,ha,fun x hx=>isE_not.2 (entOf_none.1 hn x hx),hf⟩)]
end Go.Dm.Tc
/-
What functions compute,part 30: texts compared;the search among constraints;two constraints in one.
-/
namespace Go.Dm.Tc
theorem u8_eq {a b:UInt8} (h1:¬a<b) (h2:¬b<a):a=b:=by
 rw [UInt8.lt_iff_toNat_lt]at h1 h2
 exact UInt8.toNat_inj.1 (by omega)
theorem cmpB_lt:∀{a b:List UInt8},Go.Lib.compareBytes a b<0↔Go.Op.bytesLess a b=true
 | [],[]=>by simp [Go.Lib.compareBytes,Go.Op.bytesLess]
 | [],b::bs=>by simp [Go.Lib.compareBytes,Go.Op.bytesLess]
 | a::az,[]=>by simp [Go.Lib.compareBytes,Go.Op.bytesLess]
 | a::az,b::bz=>by
  have ih:=cmpB_lt (a:=az) (b:=bz)
  unfold Go.Lib.compareBytes Go.Op.bytesLess
  by_cases h1:a<b
  ·simp [h1]
  ·by_cases h2:b<a
   ·have:a≠b:=fun e=>by subst e;exact h1 h2
    simp [h1,h2,this]
   ·have:=u8_eq h1 h2
    simp [h1,h2,this,ih]
theorem cmpB_eq:∀{a b:List UInt8},Go.Lib.compareBytes a b=0↔a=b
 | [],[]=>by simp [Go.Lib.compareBytes]
 | [],b::bs=>by simp [Go.Lib.compareBytes]
 | a::az,[]=>by simp [Go.Lib.compareBytes]
 | a::az,b::bz=>by
  have ih:=cmpB_eq (a:=az) (b:=bz)
  unfold Go.Lib.compareBytes
  by_cases h1:a<b
  ·have:a≠b:=fun e=>by subst e;have:=u8_lt (a:=a) (b:=a);simp_all
   simp [h1,this]
  ·by_cases h2:b<a
   ·have:a≠b:=fun e=>by subst e;exact h1 h2
    simp [h1,h2,this]
   ·have:=u8_eq h1 h2
    simp [h1,h2,this,ih]
theorem s208 (a b:List UInt8):pcF D t208 [.str a,.str b]=some (.int .i64 (Go.Lib.compareBytes a b)):=by
 unfold pcF
 rw [goRun_eq _ _ _ _ (by simp [t208])]
 simp [t208,e213,compareHook]
theorem s193 (a b:List UInt8):pcF D t193 [.str a,.str b]=some (.int .i64 (Go.Lib.compareBytes a b)):=by
 unfold pcF
 rw [goRun_eq _ _ _ _ (by simp [t193])]
 simp [t193,e208,s208]
def cmpN (s:List UInt8) (c:Cons):Int:=Go.Lib.compareBytes c.name s
theorem s192 (c:Cons) (s:List UInt8):pcF D t192 [eCons c,.str s]=some (.int .i64 (cmpN s c)):=by
 unfold pcF
 rw [goRun_eq _ _ _ _ (by simp [t192])]
 simp [t192,eCons,e193,s193,cmpN]
theorem l191 (t:Bool) (xs:List Cons) (s:List UInt8) (g:Nat) (cap:List DV) (cm:Cons→Int) (hg:∀x∈xs,∀h,fc D g ([eCons x,.str s]++cap) h=some (.int .i64 (cm x),h)) (hl:xs.length≤1000000)
  (hm:∀i j (hi:i<xs.length) (hj:j<xs.length),i≤j→cm xs[j]<0→cm xs[i]<0) (h:Heap) :
  ∀(n i j:Nat) (f:FEnv),j-i=n→i≤j→j≤xs.length→f 0=eL t 5 eCons xs→f 1=.str s→f 2=.func g cap→f 8=.int .i64 xs.length→f 9=.int .i64 i→f 10=.int .i64 j →
  (∀q (hq:q<i),(hq':q<xs.length)→cm xs[q]<0)→(∀q (hq:q<xs.length),j≤q→¬cm xs[q]<0) →
  pcOut (fin [.t 6,.t 7] (run D 49 [.block 0,.seq t191k0] (.loop t191l0) f h))=some (.tup [.int .i64 (lowIdx cm xs),.bool (hitAt cm xs)]):=by
 intro n
 induction n using Nat.strongRecOn with
 | ind n ih =>
  intro i j f hn hij hj h0 h1 h2 h8 h9 h10 hlow hhigh
  rw [run_loop_of t191l0.eq_1]
  by_cases hlt:i<j
  ·have hk:(i+j) / 2<xs.length:=by omega
   have hke:xs[(i+j) / 2]?=some xs[(i+j) / 2]:=List.getElem?_eq_getElem hk
   have hgx:=hg xs[(i+j) / 2] (List.getElem_mem hk)
   simp only [eCons,List.cons_append,List.nil_append]at hgx
   have w1:IntKind.i64.wrap ((i:Int)+j)=((i:Int)+j):=wrap64 (by omega) (by omega)
   have w2:IntKind.u64.wrap ((i:Int)+j)=((i:Int)+j):=wrapu64 (by omega) (by omega)
   have w3:IntKind.i64.wrap (((i+j) / 2:Nat):Int)=((i+j) / 2:Nat):=wrap64 (by omega) (by omega)
   have w4:IntKind.i64.wrap ((((i+j) / 2:Nat):Int)+1)=((((i+j) / 2:Nat):Int)+1):=wrap64 (by omega) (by omega)
   by_cases hc:cm xs[(i+j) / 2]<0
   ·simp [h0,h1,h2,h8,h9,h10,hlt,hk,hke,hgx,eCons,w1,w2,w3,w4,hc,-Int.natCast_ediv]
    refine ih (j-((i+j) / 2+1)) (by omega) ((i+j) / 2+1) j _ rfl (by omega) hj ?_ ?_ ?_ ?_ ?_ ?_ ?_ hhigh<;>try simp [h0,h1,h2,h8,h10]
    intro q hq hq'
    exact hm q ((i+j) / 2) hq' hk (by omega) hc
   ·simp [h0,h1,h2,h8,h9,h10,hlt,hk,hke,hgx,eCons,w1,w2,w3,w4,hc,-Int.natCast_ediv]
    refine ih ((i+j) / 2-i) (by omega) i ((i+j) / 2) _ rfl (by omega) (by omega) ?_ ?_ ?_ ?_ ?_ ?_ hlow ?_<;>try simp [h0,h1,h2,h8,h9]
    intro q hq hq'
    exact Int.not_lt.1 fun hx=>hc (hm ((i+j) / 2) q hk hq hq' hx)
  ·have hij':i=j:=by omega
   subst hij'
   have hlo:lowIdx cm xs=i:=lowIdx_eq hj (fun q hq=>hlow q hq (by omega)) (fun hq=>hhigh i hq (Nat.le_refl i))
   by_cases hi:i<xs.length
   ·have hgx:=hg xs[i] (List.getElem_mem hi)
    simp only [eCons,List.cons_append,List.nil_append]at hgx
    have hke:xs[i]?=some xs[i]:=List.getElem?_eq_getElem hi
    simp [t191k0,h0,h1,h2,h8,h9,h10,hi,hke,hgx,eCons,hlo,hitAt,resultsOf]
    rfl
   ·simp [t191k0,h0,h1,h2,h8,h9,h10,hi,hlo,hitAt,resultsOf]
theorem s191 (t:Bool) (xs:List Cons) (s:List UInt8) (hl:xs.length≤1000000) (hm:∀i j (hi:i<xs.length) (hj:j<xs.length),i≤j→cmpN s xs[j]<0→cmpN s xs[i]<0) :
  pcF D t191 [eL t 5 eCons xs,.str s,.func 192 []]=some (.tup [.int .i64 (lowIdx (cmpN s) xs),.bool (hitAt (cmpN s) xs)]):=by
 have hg:∀x∈xs,∀h,fc D 192 ([eCons x,.str s]++[]) h=some (.int .i64 (cmpN s x),h):=fun x _ h=>by
  have:=s192 x s
  simp only [eCons]at this
  simp [eCons,e192,this]
 unfold pcF
 rw [goRun_eq _ _ _ _ (by simp [t191])]
 simp [t191]
 refine l191 t xs s 192 [] (cmpN s) hg hl hm _ xs.length 0 xs.length _ (by omega) (by omega) (by omega) ?_ ?_ ?_ ?_ ?_ ?_ ?_ ?_<;>simp
 intro q hq hq'
 omega
def mxI (a b:Int):Int:=if a<b then b else a
def mnI (a b:Int):Int:=if b<a then b else a
def joinC (a b:Cons):Option Cons :=
 if a.kind=1 then (if b.kind=1∧mxI a.lo b.lo≤mnI a.hi b.hi then some {a with lo:=mxI a.lo b.lo,hi:=mnI a.hi b.hi} else none)
 else if b.kind=1 then none
 else if a.kind=2 then (if holdsT b a.text=true then some a else none)
 else if b.kind=2 then (if holdsT a b.text=true then some b else none)
 else if a.text.length<b.text.length then (if beginsS b.text a.text=true then some b else none)
 else (if beginsS a.text b.text=true then some a else none)
def consZero:Cons:=⟨[],0,0,0,[]⟩
def Kind3 (k:Int):Prop:=k=1∨k=2∨k=3
set_option maxRecDepth 8000 in
theorem s194 (a b:Cons) (ha:Kind3 a.kind) (hb:Kind3 b.kind):pcF D t194 [eCons a,eCons b]=some (.tup [eCons ((joinC a b).getD consZero),.bool (hasO (joinC a b))]):=by
 obtain ⟨nm,k,lo,hi,tx⟩:=a
 obtain ⟨nm',k',lo',hi',tx'⟩:=b
 simp only [Kind3]at ha hb
 unfold pcF
 rw [goRun_eq _ _ _ _ (by simp [t194])]
 rcases ha with rfl|rfl|rfl
 ·rcases hb with rfl|rfl|rfl
  ·by_cases h:mnI hi hi'<mxI lo lo'
   ·have h':¬mxI lo lo'≤mnI hi hi':=by omega
    simp only [mnI,mxI]at h h'
    simp [t194,eCons,joinC,mnI,mxI,h,h',turn,resultsOf,hasO,consZero]
   ·have h':mxI lo lo'≤mnI hi hi':=by omega
    simp only [mnI,mxI]at h h'
    simp [t194,eCons,joinC,mnI,mxI,h,h',turn,resultsOf,hasO,consZero]
  ·simp [t194,eCons,joinC,turn,resultsOf,hasO,consZero]
  ·simp [t194,eCons,joinC,turn,resultsOf,hasO,consZero]
 ·rcases hb with rfl|rfl|rfl
  ·simp [t194,eCons,joinC,turn,resultsOf,hasO,consZero]
  ·have hh:=s167 nm' 2 lo' hi' tx' tx
   cases hq:holdsT ⟨nm',2,lo',hi',tx'⟩ tx<;>rw [hq]at hh<;>simp [t194,eCons,joinC,turn,resultsOf,hasO,consZero,e168,s168,eVal,e167,hh,hq]
  ·have hh:=s167 nm' 3 lo' hi' tx' tx
   cases hq:holdsT ⟨nm',3,lo',hi',tx'⟩ tx<;>rw [hq]at hh<;>simp [t194,eCons,joinC,turn,resultsOf,hasO,consZero,e168,s168,eVal,e167,hh,hq]
 ·rcases hb with rfl|rfl|rfl
  ·simp [t194,eCons,joinC,turn,resultsOf,hasO,consZero]
  ·have hh:=s167 nm 3 lo hi tx tx'
   cases hq:holdsT ⟨nm,3,lo,hi,tx⟩ tx'<;>rw [hq]at hh<;>simp [t194,eCons,joinC,turn,resultsOf,hasO,consZero,e168,s168,eVal,e167,hh,hq]
  ·by_cases hl:tx.length<tx'.length
   ·have hh:=s167 nm 3 lo hi tx tx'
    have hd:holdsT ⟨nm,3,lo,hi,tx⟩ tx'=beginsS tx' tx:=rfl
    rw [hd]at hh
    have hl':(tx.length:Int)<tx'.length:=by omega
    cases hq:beginsS tx' tx<;>rw [hq]at hh<;>simp [t194,eCons,joinC,turn,resultsOf,hasO,consZero,e168,s168,eVal,e167,hh,hq,hl,hl']
   ·have hh:=s167 nm' 3 lo' hi' tx' tx
    have hd:holdsT ⟨nm',3,lo',hi',tx'⟩ tx=beginsS tx tx':=rfl
    rw [hd]at hh
    have hl':¬(tx.length:Int)<tx'.length:=by omega
    cases hq:beginsS tx tx'<;>rw [hq]at hh<;>simp [t194,eCons,joinC,turn,resultsOf,hasO,consZero,e168,s168,eVal,e167,hh,hq,hl,hl']
end Go.Dm.Tc
/-
What functions compute,part 31: a predicate made of constraints.
-/
namespace Go.Dm.Tc
def NameUp (p:Pred):Prop:=(p.map (·.name)).Pairwise fun a b=>Go.Op.bytesLess a b=true
theorem cmpB_gt {a b:List UInt8} (h1:¬Go.Lib.compareBytes a b<0) (h2:Go.Lib.compareBytes a b≠0):Go.Op.bytesLess b a=true:=by
 have go:∀(a b:List UInt8),Go.Op.bytesLess a b=true∨a=b∨Go.Op.bytesLess b a=true:=by
  intro a
  induction a with
  | nil=>intro b;cases b<;>simp [Go.Op.bytesLess]
  | cons x a ih =>
   intro b
   cases b with
   | nil=>simp [Go.Op.bytesLess]
   | cons y b =>
    simp only [Go.Op.bytesLess]
    by_cases h1:x<y
    ·simp [h1]
    ·by_cases h2:y<x
     ·simp [h2]
     ·have:=u8_eq h1 h2
      subst this
      rcases ih b with h|h|h<;>simp [h]
 rcases go a b with h|h|h
 ·exact absurd (cmpB_lt.2 h) h1
 ·exact absurd (cmpB_eq.2 h) h2
 ·exact h
theorem NameUp.mono {p:Pred} (h:NameUp p) (s:List UInt8):∀i j (hi:i<p.length) (hj:j<p.length),i≤j→cmpN s p[j]<0→cmpN s p[i]<0:=by
 intro i j hi hj hij hc
 unfold cmpN at *
 rw [cmpB_lt]at *
 rcases Nat.lt_or_eq_of_le hij with hlt|rfl
 ·have:=List.pairwise_iff_getElem.1 h i j (by simpa using hi) (by simpa using hj) hlt
  simp only [List.getElem_map]at this
  exact bl_trans this hc
 ·exact hc
theorem lowI_lt {α:Type} {cm:α→Int} {xs:List α} {q:Nat} (hq:q<lowIdx cm xs) (hl:q<xs.length):cm xs[q]<0:=by
 have:=List.not_of_lt_findIdx hq
 simpa using this
theorem low_at {α:Type} {cm:α→Int} {xs:List α} (hl:lowIdx cm xs<xs.length):¬cm xs[lowIdx cm xs]<0:=by
 intro hc
 have h1:(fun x=>!decide (cm x<0)) (xs[lowIdx cm xs])=true:=List.findIdx_getElem (w:=hl)
 have h2:(!decide (cm xs[lowIdx cm xs]<0))=true:=h1
 rw [decide_eq_true hc]at h2
 cases h2
def insC (out:Pred) (c:Cons):Option Pred :=
 if hitAt (cmpN c.name) out=true then (match out[lowIdx (cmpN c.name) out]? with
  | some x=>(match joinC x c with|some b=>some (out.set (lowIdx (cmpN c.name) out) b)|none=>none)
  | none=>none)
 else if out.length=5 then none else some (out.take (lowIdx (cmpN c.name) out)++c::out.drop (lowIdx (cmpN c.name) out))
def makeC:Pred→Pred→Option Pred
 | out,[]=>some out
 | out,c::r=>match insC out c with
  | some o=>makeC o r
  | none=>none
theorem joinC_name {a b x:Cons} (hn:a.name=b.name) (h:joinC a b=some x):x.name=a.name:=by
 unfold joinC at h
 repeat' split at h
 all_goals first
  | (cases h;done)
  | (cases h;first|rfl|exact hn.symm)
theorem joinC_kind {a b x:Cons} (ha:Kind3 a.kind) (hb:Kind3 b.kind) (h:joinC a b=some x):Kind3 x.kind:=by
 unfold joinC at h
 repeat' split at h
 all_goals first
  | (cases h;done)
  | (cases h;first|exact ha|exact hb)
theorem hit_get {cm:Cons→Int} {out:Pred} (h:hitAt cm out=true):∃ x,out[lowIdx cm out]?=some x∧cm x=0∧lowIdx cm out<out.length:=by
 unfold hitAt at h
 split at h
 ·rename_i x hx
  exact ⟨x,hx,by simpa using h,(List.getElem?_eq_some_iff.1 hx).1⟩
 ·cases h
theorem insC_ok {out:Pred} {c:Cons} {o:Pred} (hu:NameUp out) (hk:∀x∈out,Kind3 x.kind) (hl:out.length≤5) (hc:Kind3 c.kind) (h:insC out c=some o):NameUp o∧(∀x∈o,Kind3 x.kind)∧o.length≤5:=by
 unfold insC at h
 split at h
 ·rename_i hh
  obtain ⟨x,hx,hx0,hlt⟩:=hit_get hh
  rw [hx]at h
  simp only at h
  split at h
  ·rename_i b hb
   cases h
   have hxm:x∈out:=List.mem_of_getElem? hx
   have hnm:b.name=x.name:=joinC_name (cmpB_eq.1 hx0) hb
   refine ⟨?_,fun y hy=>?_,by simpa using hl⟩
   ·unfold NameUp at hu ⊢
    have:(out.set (lowIdx (cmpN c.name) out) b).map (·.name)=out.map (·.name):=by
     rw [List.map_set]
     refine List.ext_getElem? fun i=>?_
     rw [List.getElem?_set]
     split
     ·rename_i e;subst e
      simp only [List.length_map,hlt,if_true,List.getElem?_map,hx,Option.map_some,hnm]
     ·rfl
    rw [this];exact hu
   ·rcases List.mem_or_eq_of_mem_set hy with h1|h1
    ·exact hk y h1
    ·subst h1;exact joinC_kind (hk x hxm) hc hb
  ·cases h
 ·rename_i hh
  split at h
  ·cases h
  ·rename_i h5
   cases h
   refine ⟨?_,fun y hy=>?_,by simp;omega⟩
   ·unfold NameUp at hu ⊢
    generalize hkk:lowIdx (cmpN c.name) out=k at *
    rw [List.map_append,List.map_cons,List.map_take,List.map_drop,List.pairwise_append,List.pairwise_cons]
    have hlow:∀n∈(out.map (·.name)).take k,Go.Op.bytesLess n c.name=true:=by
     intro n hn
     obtain ⟨i,hi,rfl⟩:=List.mem_iff_getElem.1 hn
     simp only [List.length_take,List.length_map]at hi
     simp only [List.getElem_take,List.getElem_map]
     have:=lowI_lt (cm:=cmpN c.name) (xs:=out) (q:=i) (by rw [hkk];omega) (by omega)
     exact cmpB_lt.1 this
    have hhigh:∀n∈(out.map (·.name)).drop k,Go.Op.bytesLess c.name n=true:=by
     intro n hn
     obtain ⟨i,hi,rfl⟩:=List.mem_iff_getElem.1 hn
     simp only [List.length_drop,List.length_map]at hi
     simp only [List.getElem_drop,List.getElem_map]
     have hk1:k<out.length:=by omega
     have h0:¬cmpN c.name out[k]<0:=by
      have:=low_at (cm:=cmpN c.name) (xs:=out) (by rw [hkk];exact hk1)
      simp only [hkk]at this
      exact this
     have h1:cmpN c.name out[k]≠0:=by
      intro e
      apply hh
      unfold hitAt
      rw [hkk,List.getElem?_eq_getElem hk1]
      simp [e]
     have h2:=cmpB_gt h0 h1
     by_cases hi0:i=0
     ·subst hi0;simpa using h2
     ·have:=List.pairwise_iff_getElem.1 hu k (k+i) (by simpa using hk1) (by simp;omega) (by omega)
      simp only [List.getElem_map]at this
      exact bl_trans h2 this
    refine ⟨hu.sublist (List.take_sublist ..),⟨hhigh,hu.sublist (List.drop_sublist ..)⟩,?_⟩
    intro x hx y hy
    rcases List.mem_cons.1 hy with rfl|hy
    ·exact hlow x hx
    ·exact bl_trans (hlow x hx) (hhigh y hy)
   ·rcases List.mem_append.1 hy with h1|h1
    ·exact hk y (List.mem_of_mem_take h1)
    ·rcases List.mem_cons.1 h1 with rfl|h1
     ·exact hc
     ·exact hk y (List.mem_of_mem_drop h1)
theorem res_if200 (t:Bool) (h:Heap) (ty:Nat) (k:IntKind) (m:Int):resolve t h 200 (.iface ty (.int k m))=some (.iface ty (.int k m)):=rfl
theorem s190 (s:List UInt8) (i:Int) (ty:Nat) (e:Int):∃ T v,pcF D t190 [.str s,.int .i64 i,.iface ty (.int .i64 e)]=some (.iface T v)∧(∀h,resolve false h 199 (.iface T v)=some (.iface T v))∧unlent 199 (.iface T v)=true:=by
 unfold pcF
 rw [goRun_eq _ _ _ _ (by simp [t190])]
 simp [t190,nilEq,flipV]
 exact ⟨_,_,rfl,fun _=>rfl,rfl⟩
end Go.Dm.Tc
/-
What functions compute,part 32: pred.Make.
-/
namespace Go.Dm.Tc
theorem l160 (S:List Fr) (t:Bool) (l:Pred) (hl:l.length≤1000000) (hr:∀c∈l,rightOne c=true∧c.name.length≤1000000) (P:Res→Prop) :
  ∀(rest:Pred) (i:Nat) (f:FEnv) (h:Heap),l.drop i=rest→f 0=eL t 5 eCons l→f 3=.nili→f 13=eL t 5 eCons l→f 14=.int .i64 l.length→f 15=.int .i64 i→h.lim=0→WF h →
  (∀f' h',f' 0=eL t 5 eCons l→f' 3=.nili→h'.lim=0→WF h'→P (run D 75 S t160k1 f' h')) →
  P (run D 75 (.block 0::.seq t160k1::S) (.loop t160l0) f h):=by
 intro rest
 induction rest with
 | nil =>
  intro i f h hd h0 h3 h13 h14 h15 hlim wf hP
  have hi:=drop_nil hd
  have:¬(i<l.length):=by omega
  rw [run_loop_of t160l0.eq_1]
  simp [h14,h15,this]
  refine hP _ _ ?_ ?_ hlim wf<;>simp [h0,h3]
 | cons c rest ih =>
  intro i f h hd h0 h3 h13 h14 h15 hlim wf hP
  obtain ⟨hi,he,hd'⟩:=drop_at hd
  have hc:=hr c (by rw [←he];exact List.getElem_mem hi)
  have hs:=s151 c.name c.kind c.lo c.hi c.text hc.2
  have hc1:rightOne ⟨c.name,c.kind,c.lo,c.hi,c.text⟩=true:=hc.1
  rw [hc1]at hs
  rw [run_loop_of t160l0.eq_1]
  simp [h13,h14,h15,hi,he,eCons,hlim,wf,turn,e151,hs]
  rw [wrap64 (by omega) (by omega)]
  generalize hF:upd _ 15 _=F
  refine ih (i+1) F _ hd' ?_ ?_ ?_ ?_ ?_ ?_ ?_ hP
  ·rw [←hF];simp [h0]
  ·rw [←hF];simp [h3]
  ·rw [←hF];simp [h13]
  ·rw [←hF];simp [h14]
  ·rw [←hF];simp
  ·simp [hlim]
  ·simp [wf]
def MakeOut (o:Option Pred) (r:Option DV):Prop :=
 match o with
 | some out=>r=some (.tup [eL false 5 eCons out,.nili])
 | none=>∃ T v,r=some (.tup [.isl false 0 [],.iface T v])
theorem m160 (t:Bool) (l:Pred) (hl:l.length≤1000000) (hr:∀c∈l,Kind3 c.kind) :
  ∀(rest:Pred) (i:Nat) (out:Pred) (v:DV) (f:FEnv) (h:Heap),l.drop i=rest→NameUp out→(∀c∈out,Kind3 c.kind)→out.length≤5→f 3=.nili→f 27=eL t 5 eCons l→f 28=.int .i64 l.length→f 29=.int .i64 i→f 6=v →
  Own 0 h v 62 5 (out.map eCons)→h.lim=0→WF h →
  MakeOut (makeC out rest) (pcOut (fin [.t 2,.t 3] (run D 75 [.block 2,.seq t160k0] (.loop t160l1) f h))):=by
 intro rest
 induction rest with
 | nil =>
  intro i out v f h hd hu hk h5 h3 h27 h28 h29 h6 ho hlim wf
  have hi:=drop_nil hd
  have:¬(i<l.length):=by omega
  have r1:resolve false h 199 v=some (eL false 5 eCons out):=ho.toR.resolve false (fun y _=>(plain_con y).1) (by decide)
  rw [run_loop_of t160l1.eq_1]
  simp [t160k0,h28,h29,this,h6,h3,makeC,MakeOut,resultsOf,r1]
  exact unl_eL (fun y _=>(plain_con y).2) 199 (by decide)
 | cons c rest ih =>
  intro i out v f h hd hu hk h5 h3 h27 h28 h29 h6 ho hlim wf
  obtain ⟨hi,he,hd'⟩:=drop_at hd
  have hc:=hr c (by rw [←he];exact List.getElem_mem hi)
  have n0:0≤h.n:=Nat.zero_le _
  have r1:∀o,resolve true (h.push o) 200 v=some (eL true 5 eCons out):=fun o=>ho.push.toR.resolve true (fun y _=>(plain_con y).1) (by decide)
  have hs:=s191 true out c.name (by omega) (hu.mono c.name)
  rw [run_loop_of t160l1.eq_1]
  cases hh:hitAt (cmpN c.name) out with
  | true =>
   obtain ⟨x,hx,hx0,hlt⟩:=hit_get hh
   rw [hh]at hs
   cases ho with
   | nil hv hx=>simp at hx;subst hx;simp at hlt
   | arr id hv hg hlm hlo =>
    have hix:indexAddrV 5 v (.int .i64 (lowIdx (cmpN c.name) out:Nat))=some (.ptr id 5 (lowIdx (cmpN c.name) out) 0):=by rw [hv];simp [indexAddrV,asI,hlt]
    have hidn:=get_some_lt hg
    have hne:¬id=h.n:=by omega
    have hne':¬h.n=id:=by omega
    have hne2:¬id=h.n+1:=by omega
    have hidn2:id<h.n+1+1:=by omega
    have hxm:x∈out:=List.mem_of_getElem? hx
    have hb:=s194 x c (hk x hxm) hc
    have hx':out[lowIdx (cmpN c.name) out]=x:=by rw [List.getElem?_eq_getElem hlt]at hx;exact Option.some.inj hx
    cases hj:joinC x c with
    | none =>
     rw [hj]at hb
     simp only [eCons,Option.getD,hasO]at hb
     obtain ⟨T,w,hw,hw1,hw2⟩:=s190 [112,114,101,100] i 225 5
     simp [h27,h28,h29,hi,he,h6,h3,r1,hlim,wf,turn,e191,hs,hg,hix,hidn,hlt,hx',hne,hne',hne2,hidn2,e194,hb,e190,hw,hw1,hw2,res_if200,resultsOf,eCons,makeC,insC,hh,hx,hj,MakeOut]
    | some b =>
     rw [hj]at hb
     simp only [eCons,Option.getD,hasO]at hb
     have hin:insC out c=some (out.set (lowIdx (cmpN c.name) out) b):=by simp [insC,hh,hx,hj]
     obtain ⟨g1,g2,g3⟩:=insC_ok hu hk h5 hc hin
     have hmk:makeC out (c::rest)=makeC (out.set (lowIdx (cmpN c.name) out) b) rest:=by simp only [makeC,hin]
     have hidn1:id<h.n+1:=by omega
     rw [hmk]
     simp [h27,h28,h29,hi,he,h6,h3,r1,hlim,wf,turn,e191,hs,hg,hix,hidn,hidn1,hlt,hx',hne,hne',hne2,hidn2,e194,hb,eCons]
     rw [wrap64 (by omega) (by omega)]
     generalize hF:upd _ 29 _=F
     refine ih (i+1) _ v F _ hd' g1 g2 g3 ?_ ?_ ?_ ?_ ?_ (.arr id (by rw [hv];simp) ?_ ?_ (Nat.zero_le _)) ?_ ?_
     ·rw [←hF];simp [h3]
     ·rw [←hF];simp [h27]
     ·rw [←hF];simp [h28]
     ·rw [←hF];simp
     ·rw [←hF];simp [h6]
     ·simp [hne,hne',hne2,hidn,wf,List.map_set,eCons]
     ·simp [hlim]
     ·simp [hlim]
     ·simp [wf]
  | false =>
   rw [hh]at hs
   by_cases hf:out.length=5
   ·obtain ⟨T,w,hw,hw1,hw2⟩:=s190 [112,114,101,100] i 225 7
    have hl5:lenV (h.push (.arr 62 5 [eCons c] (some 1))) 1 v=some (.int .i64 out.length):=by simpa using ho.push.toR.lenV
    simp only [eCons]at hl5
    simp [h27,h28,h29,hi,he,h6,h3,r1,hlim,wf,turn,e191,hs,hl5,hf,e190,hw,hw1,hw2,res_if200,resultsOf,eCons,makeC,insC,hh,MakeOut]
   ·have hl5:lenV (h.push (.arr 62 5 [eCons c] (some 1))) 1 v=some (.int .i64 out.length):=by simpa using ho.push.toR.lenV
    simp only [eCons]at hl5
    have hf':¬(out.length:Int)=5:=by omega
    have hin:insC out c=some (out.take (lowIdx (cmpN c.name) out)++c::out.drop (lowIdx (cmpN c.name) out)):=by simp [insC,hh,hf]
    obtain ⟨g1,g2,g3⟩:=insC_ok hu hk h5 hc hin
    have hmk:makeC out (c::rest)=makeC (out.take (lowIdx (cmpN c.name) out)++c::out.drop (lowIdx (cmpN c.name) out)) rest:=by simp only [makeC,hin]
    rw [hmk]
    simp [h27,h28,h29,hi,he,h6,h3,r1,hlim,wf,turn,e191,hs,hl5,hf,hf',eCons]
    generalize hA:fc D _ _ _=A
    obtain ⟨v',K,rfl,p,x,_⟩:=q195 hA 0 out c (vety:=62) (c:=1) ho.push.push (by simp [eCons]) (lowIdx_le _ _) (by omega) (by simp [wf]) (Nat.zero_le _) (by simp [hlim])
    clear hA
    simp [h29]
    rw [wrap64 (by omega) (by omega)]
    generalize hF:upd _ 29 _=F
    refine ih (i+1) _ v' F K hd' g1 g2 g3 ?_ ?_ ?_ ?_ ?_ p ?_ x.wf
    ·rw [←hF];simp [h3]
    ·rw [←hF];simp [h27]
    ·rw [←hF];simp [h28]
    ·rw [←hF];simp
    ·rw [←hF];simp
    ·rw [x.lim];simp [hlim]
theorem s160 (t:Bool) (l:Pred) (hl:l.length≤1000000) (hr:∀c∈l,rightOne c=true∧c.name.length≤1000000) (hk:∀c∈l,Kind3 c.kind):MakeOut (makeC [] l) (pcF D t160 [eL t 5 eCons l]):=by
 unfold pcF
 rw [goRun_eq _ _ _ _ (by simp [t160])]
 simp [t160]
 generalize hF:upd _ 15 _=F
 refine l160 [] t l hl hr (fun r=>MakeOut (makeC [] l) (pcOut (fin [.t 2,.t 3] r))) l 0 F heap0 rfl ?_ ?_ ?_ ?_ ?_ ?_ ?_ fun f' h' k0 k3 klim kwf=>?_
 ·rw [←hF];simp
 ·rw [←hF];simp
 ·rw [←hF];simp
 ·rw [←hF];simp
 ·rw [←hF];simp
 ·simp
 ·simp
 ·simp [t160k1,k0]
  refine m160 t l hl hk l 0 [] .nsl _ h' rfl (by simp [NameUp]) (by simp) (by simp) ?_ ?_ ?_ ?_ ?_ (.nil rfl rfl) klim kwf<;>simp [k3]
end Go.Dm.Tc
/-
What functions compute,part 33: rel.Sample,rel.Joint,rel.Meets.
-/
namespace Go.Dm.Tc
def sampleC (c:Cons):DV:=if c.kind=1 then .agg [.str c.name,.bool false,.int .i64 c.lo,.str []] else .agg [.str c.name,.bool true,.int .i64 0,.str c.text]
theorem plain_sample (c:Cons):Flat 20 (sampleC c)∧Unl 22 (sampleC c):=by
 unfold sampleC
 split
 ·exact ⟨flat_cells (by simp [flat_str,flat_bool,flat_int]),unl_cells (by
   intro x hx
   simp only [List.mem_cons,List.not_mem_nil,or_false]at hx
   rcases hx with rfl|rfl|rfl|rfl
   ·exact (unl_str _).mono (by decide)
   ·exact (unl_bool _).mono (by decide)
   ·exact (unl_int _ _).mono (by decide)
   ·exact (unl_str _).mono (by decide))⟩
 ·exact ⟨flat_cells (by simp [flat_str,flat_bool,flat_int]),unl_cells (by
   intro x hx
   simp only [List.mem_cons,List.not_mem_nil,or_false]at hx
   rcases hx with rfl|rfl|rfl|rfl
   ·exact (unl_str _).mono (by decide)
   ·exact (unl_bool _).mono (by decide)
   ·exact (unl_int _ _).mono (by decide)
   ·exact (unl_str _).mono (by decide))⟩
theorem s196 (n:Int):pcF D t196 [.int .i64 n]=some (.agg [.bool false,.int .i64 n,.str []]):=by
 unfold pcF
 rw [goRun_eq _ _ _ _ (by simp [t196])]
 simp [t196,turn]
theorem l161 (t:Bool) (p:Pred) (hl:p.length≤1000000) :
  ∀(rest done:Pred) (i:Nat) (v:DV) (f:FEnv) (h:Heap),p.drop i=rest→p=done++rest→f 3=v→f 7=eL t 5 eCons p→f 8=.int .i64 p.length→f 9=.int .i64 i→OwnR 0 h v 206 4 (done.map sampleC)→h.lim=0→WF h →
  pcOut (fin [.t 2] (run D 31 [.block 0,.seq t161k0] (.loop t161l0) f h))=some (eL false 4 sampleC p):=by
 intro rest
 induction rest with
 | nil =>
  intro done i v f h hd hp h3 h7 h8 h9 ho hlim wf
  have hi:=drop_nil hd
  have:¬(i<p.length):=by omega
  have hp':done=p:=by simpa using hp.symm
  subst hp'
  have r1:resolve false h 200 v=some (eL false 4 sampleC done):=ho.resolve false (fun y _=>(plain_sample y).1) (by decide)
  rw [run_loop_of t161l0.eq_1]
  simp [t161k0,h8,h9,this,h3,r1]
  exact unl_eL (fun y _=>(plain_sample y).2) 200 (by decide)
 | cons c rest ih =>
  intro done i v f h hd hp h3 h7 h8 h9 ho hlim wf
  obtain ⟨hi,he,hd'⟩:=drop_at hd
  have hp':p=(done++[c])++rest:=by simpa using hp
  have hdl:done.length+1≤1000000:=by have:=congrArg List.length hp';simp at this;omega
  have hvt:=s168 c.text
  simp only [eVal]at hvt
  rw [run_loop_of t161l0.eq_1]
  by_cases hk:c.kind=1
  ·simp [h3,h7,h8,h9,hi,he,eCons,hlim,wf,turn,e168,hvt,e196,s196,hk]
   generalize hA:appendD _ _ _ _ _ _=A
   obtain ⟨v',K,rfl,p',x,_⟩:=OwnR.append (ho.push.push.push) (by simp [wf]) (Nat.zero_le _) (by simp [hlim]) hA (by simp;omega) (by decide)
   clear hA
   simp [h9]
   rw [wrap64 (by omega) (by omega)]
   generalize hF:upd _ 9 _=F
   refine ih (done++[c]) (i+1) v' F K hd' hp' ?_ ?_ ?_ ?_ ?_ ?_ x.wf
   ·rw [←hF];simp
   ·rw [←hF];simp [h7]
   ·rw [←hF];simp [h8]
   ·rw [←hF];simp
   ·simpa [sampleC,hk] using p'
   ·rw [x.lim];simp [hlim]
  ·simp [h3,h7,h8,h9,hi,he,eCons,hlim,wf,turn,e168,hvt,hk]
   generalize hA:appendD _ _ _ _ _ _=A
   obtain ⟨v',K,rfl,p',x,_⟩:=OwnR.append (ho.push.push.push) (by simp [wf]) (Nat.zero_le _) (by simp [hlim]) hA (by simp;omega) (by decide)
   clear hA
   simp [h9]
   rw [wrap64 (by omega) (by omega)]
   generalize hF:upd _ 9 _=F
   refine ih (done++[c]) (i+1) v' F K hd' hp' ?_ ?_ ?_ ?_ ?_ ?_ x.wf
   ·rw [←hF];simp
   ·rw [←hF];simp [h7]
   ·rw [←hF];simp [h8]
   ·rw [←hF];simp
   ·simpa [sampleC,hk] using p'
   ·rw [x.lim];simp [hlim]
theorem s161 (t:Bool) (p:Pred) (hl:p.length≤1000000):pcF D t161 [eL t 5 eCons p]=some (eL false 4 sampleC p):=by
 unfold pcF
 rw [goRun_eq _ _ _ _ (by simp [t161])]
 simp [t161]
 refine l161 t p hl p [] 0 .nsl _ heap0 rfl rfl ?_ ?_ ?_ ?_ (.nil rfl rfl) ?_ ?_<;>simp
def meetsP (a b:Pred):Bool:=hasO (makeC [] (a++b))
theorem right_kind {c:Cons} (h:rightOne c=true):Kind3 c.kind:=by
 unfold rightOne at h
 unfold Kind3
 simp only [Bool.and_eq_true]at h
 have h2:=h.2
 repeat' split at h2
 all_goals first
  | (rename_i e;exact .inl e)
  | (rename_i e;exact .inr (.inr e))
  | (rename_i e;exact .inr (.inl e))
  | (cases h2;done)
theorem rightA_mem:∀{p:Pred} {n:Option (List UInt8)},rightA n p=true→∀c∈p,rightOne c=true
 | [],_,_,c,h=>by cases h
 | x::r,n,h,c,hc=>by
  simp only [rightA,Bool.and_eq_true]at h
  rcases List.mem_cons.1 hc with rfl|hc
  ·exact h.1.1
  ·exact rightA_mem h.2 c hc
theorem PredOk.one {p:Pred} (h:PredOk p):∀c∈p,rightOne c=true∧c.name.length≤1000000:=by
 intro c hc
 have h1:=h.right
 unfold rightP at h1
 simp only [Bool.and_eq_true]at h1
 exact ⟨rightA_mem h1.1 c hc,h.names.2 c hc⟩
theorem makeC_len:∀(l:Pred) {out o:Pred},out.length≤5→makeC out l=some o→o.length≤5
 | [],out,o,h,he=>by simp only [makeC,Option.some.injEq]at he;subst he;exact h
 | c::r,out,o,h,he=>by
  simp only [makeC]at he
  split at he
  ·rename_i o1 h1
   refine makeC_len r ?_ he
   unfold insC at h1
   repeat' split at h1
   all_goals first
    | (cases h1;done)
    | (cases h1;simp only [List.length_set];exact h)
    | (cases h1;simp only [List.length_append,List.length_cons,List.length_take,List.length_drop];omega)
  ·cases he
theorem s123 (a b:Pred) (ha:PredOk a) (hb:PredOk b):∃ x,pcF D t123 [ePred a,ePred b]=some (.tup [x,.bool (meetsP a b)]):=by
 have hla:=ha.len
 have hlb:=hb.len
 have hone:∀c∈a++b,rightOne c=true∧c.name.length≤1000000:=fun c hc=>(List.mem_append.1 hc).elim (ha.one c) (hb.one c)
 have hm:=s160 true (a++b) (by simp;omega) hone fun c hc=>right_kind (hone c hc).1
 unfold pcF
 rw [goRun_eq _ _ _ _ (by simp [t123])]
 simp only [ePred]
 simp [t123]
 generalize hA:appendD _ _ _ _ _ _=A
 obtain ⟨v1,K1,rfl,p1,x1,_⟩:=OwnR.append (lo:=0) (OwnR.fresh (lo:=0) (xs:=[]) (by simp) (by simp)) (by simp) (Nat.zero_le _) (by simp) hA (by simp;omega) (by decide)
 clear hA
 simp
 generalize hA:appendD _ _ _ _ _ _=A
 obtain ⟨v2,K2,rfl,p2,x2,_⟩:=OwnR.append p1 x1.wf (Nat.zero_le _) (by rw [x1.lim];simp) hA (by simp;omega) (by decide)
 clear hA
 have hp:OwnR 0 K2 v2 62 5 ((a++b).map eCons):=by simpa using p2
 have r1:resolve true K2 200 v2=some (eL true 5 eCons (a++b)):=hp.resolve true (fun y _=>(plain_con y).1) (by decide)
 unfold meetsP
 cases hk:makeC [] (a++b) with
 | none =>
  rw [hk]at hm
  obtain ⟨T,w,hw⟩:=hm
  simp [e160,r1,hw,hasO,nilEq,flipV,resultsOf]
 | some out =>
  rw [hk]at hm
  simp only [MakeOut]at hm
  have hol:out.length≤1000000:=by
   have:=makeC_len (a++b) (out:=[]) (by simp) hk
   omega
  have hs:=s161 false out hol
  have hu:unlent 199 (eL false 4 sampleC out)=true:=unl_eL (fun y _=>(plain_sample y).2) 199 (by decide)
  simp [e160,r1,hm,hasO,nilEq,flipV,resultsOf,e161,hs,hu]
theorem s47 (a b:Pred) (ha:PredOk a) (hb:PredOk b):pcF D t47 [ePred a,ePred b]=some (.bool (meetsP a b)):=by
 obtain ⟨x,hx⟩:=s123 a b ha hb
 unfold pcF
 rw [goRun_eq _ _ _ _ (by simp [t47])]
 simp [t47,e123,hx]
end Go.Dm.Tc
/-
What the reference's functions compute,part 9: two constraints in one.
-/
namespace Go.Dm.Tc
theorem s206 (nm:List UInt8) (k lo hi:Int) (tx:List UInt8) (s:List UInt8) :
  pcF D t206 [.agg [.str nm,.int .i64 k,.int .i64 lo,.int .i64 hi,.str tx],.agg [.bool true,.int .i64 0,.str s]]=some (.bool (holdsT ⟨nm,k,lo,hi,tx⟩ s)):=by
 unfold pcF
 rw [goRun_eq _ _ _ _ (by simp [t206])]
 by_cases k1:k=1
 ·subst k1
  simp [t206,holdsT]
 ·by_cases k2:k=2
  ·subst k2
   simp [t206,holdsT]
  ·by_cases k3:k=3
   ·subst k3
    simp [t206,holdsT,e188,s188]
   ·simp [t206,holdsT,k1,k2,k3]
def joinX (a b:Cons):Cons :=
 if a.kind=1∧b.kind=1 then {a with lo:=mxI a.lo b.lo,hi:=mnI a.hi b.hi}
 else if a.kind=1∨b.kind=1 then a
 else if a.kind=2 then a
 else if b.kind=2 then b
 else if b.text.length≤a.text.length then a else b
set_option maxRecDepth 8000 in
theorem s189 (a b:Cons) (ha:Kind3 a.kind) (hb:Kind3 b.kind):pcF D t189 [eCons a,eCons b]=some (.tup [eCons (joinX a b),.bool (hasO (joinC a b))]):=by
 obtain ⟨nm,k,lo,hi,tx⟩:=a
 obtain ⟨nm',k',lo',hi',tx'⟩:=b
 simp only [Kind3]at ha hb
 unfold pcF
 rw [goRun_eq _ _ _ _ (by simp [t189])]
 rcases ha with rfl|rfl|rfl
 ·rcases hb with rfl|rfl|rfl
  ·by_cases h:mnI hi hi'<mxI lo lo'
   ·have h':¬mxI lo lo'≤mnI hi hi':=by omega
    simp only [mnI,mxI]at h h'
    simp [t189,eCons,joinC,joinX,mnI,mxI,h,h',turn,resultsOf,hasO]
   ·have h':mxI lo lo'≤mnI hi hi':=by omega
    simp only [mnI,mxI]at h h'
    simp [t189,eCons,joinC,joinX,mnI,mxI,h,h',turn,resultsOf,hasO]
  ·simp [t189,eCons,joinC,joinX,turn,resultsOf,hasO]
  ·simp [t189,eCons,joinC,joinX,turn,resultsOf,hasO]
 ·rcases hb with rfl|rfl|rfl
  ·simp [t189,eCons,joinC,joinX,turn,resultsOf,hasO]
  ·have hh:=s206 nm' 2 lo' hi' tx' tx
   cases hq:holdsT ⟨nm',2,lo',hi',tx'⟩ tx<;>rw [hq]at hh<;>simp [t189,eCons,joinC,joinX,turn,resultsOf,hasO,e206,hh,hq]
  ·have hh:=s206 nm' 3 lo' hi' tx' tx
   cases hq:holdsT ⟨nm',3,lo',hi',tx'⟩ tx<;>rw [hq]at hh<;>simp [t189,eCons,joinC,joinX,turn,resultsOf,hasO,e206,hh,hq]
 ·rcases hb with rfl|rfl|rfl
  ·simp [t189,eCons,joinC,joinX,turn,resultsOf,hasO]
  ·have hh:=s206 nm 3 lo hi tx tx'
   cases hq:holdsT ⟨nm,3,lo,hi,tx⟩ tx'<;>rw [hq]at hh<;>simp [t189,eCons,joinC,joinX,turn,resultsOf,hasO,e206,hh,hq]
  ·by_cases hl:tx.length<tx'.length
   ·have hl':¬(tx'.length:Int)≤tx.length:=by omega
    have hl2:¬tx'.length≤tx.length:=by omega
    cases hq:beginsS tx' tx<;>simp [t189,eCons,joinC,joinX,turn,resultsOf,hasO,e188,s188,hq,hl,hl',hl2]
   ·have hl':(tx'.length:Int)≤tx.length:=by omega
    have hl2:tx'.length≤tx.length:=by omega
    cases hq:beginsS tx tx'<;>simp [t189,eCons,joinC,joinX,turn,resultsOf,hasO,e188,s188,hq,hl,hl',hl2]
theorem joinX_eq {a b x:Cons} (ha:Kind3 a.kind) (hb:Kind3 b.kind) (h:joinC a b=some x):joinX a b=x:=by
 obtain ⟨nm,k,lo,hi,tx⟩:=a
 obtain ⟨nm',k',lo',hi',tx'⟩:=b
 simp only [Kind3]at ha hb
 rcases ha with rfl|rfl|rfl<;>rcases hb with rfl|rfl|rfl<;>simp [joinC,joinX]at h ⊢
 all_goals first
  | exact h.2
  | (obtain ⟨_,h⟩:=h;exact h)
  | (split at h<;>simp at h<;>simp_all<;>omega)
end Go.Dm.Tc
/-
What the reference's functions compute,part 10: a predicate made of constraints.
-/
namespace Go.Dm.Tc
def insR (out:Pred) (c:Cons):Option Pred :=
 if hitAt (cmpN c.name) out=true then (match out[lowIdx (cmpN c.name) out]? with
  | some x=>(match joinC x c with|some b=>some (out.set (lowIdx (cmpN c.name) out) b)|none=>none)
  | none=>none)
 else some (out.take (lowIdx (cmpN c.name) out)++c::out.drop (lowIdx (cmpN c.name) out))
def makeR:Pred→Pred→Option Pred
 | out,[]=>some out
 | out,c::r=>match insR out c with
  | some o=>makeR o r
  | none=>none
theorem insR_len {out:Pred} {c:Cons} {o:Pred} (h:insR out c=some o):out.length≤o.length∧o.length≤out.length+1:=by
 unfold insR at h
 have:=lowIdx_le (cmpN c.name) out
 repeat' split at h
 all_goals first
  | (cases h;done)
  | (cases h;simp only [List.length_set];omega)
  | (cases h;simp only [List.length_append,List.length_cons,List.length_take,List.length_drop];omega)
theorem makeR_len:∀(l:Pred) {out o:Pred},makeR out l=some o→out.length≤o.length
 | [],out,o,he=>by simp only [makeR,Option.some.injEq]at he;subst he;exact Nat.le_refl _
 | c::r,out,o,he=>by
  simp only [makeR]at he
  split at he
  ·rename_i o1 h1;exact Nat.le_trans (insR_len h1).1 (makeR_len r he)
  ·cases he
theorem makeR_C:∀(l:Pred) {out:Pred},out.length≤5→hasO (makeC out l)=(match makeR out l with|some o=>decide (o.length≤5)|none=>false)
 | [],out,h=>by simp [makeC,makeR,hasO,h]
 | c::r,out,h=>by
  simp only [makeC,makeR]
  by_cases hh:hitAt (cmpN c.name) out=true
  ·have e:insC out c=insR out c:=by
    unfold insC insR
    rw [if_pos hh,if_pos hh]
    try rfl
   rw [e]
   cases hi:insR out c with
   | none=>rfl
   | some o =>
    have hl:o.length≤5:=by
     unfold insR at hi
     rw [if_pos hh]at hi
     repeat' split at hi
     all_goals first
      | (cases hi;done)
      | (cases hi;simpa using h)
    exact makeR_C r hl
  ·by_cases h5:out.length=5
   ·have e1:insC out c=none:=by simp only [insC,hh,h5];rfl
    rw [e1]
    cases hi:insR out c with
    | none=>rfl
    | some o =>
     have hl:6≤o.length:=by
      unfold insR at hi
      rw [if_neg hh]at hi
      cases hi
      have:=lowIdx_le (cmpN c.name) out
      simp only [List.length_append,List.length_cons,List.length_take,List.length_drop]
      omega
     simp only [hasO]
     cases hm:makeR o r with
     | none=>rfl
     | some p =>
      have:=makeR_len r hm
      simp only
      rw [decide_eq_false (by omega)]
   ·have e:insC out c=insR out c:=by simp only [insC,insR,if_neg hh,if_neg h5]
    rw [e]
    cases hi:insR out c with
    | none=>rfl
    | some o=>exact makeR_C r (by have:=(insR_len hi).2;omega)
theorem insR_kind {out:Pred} {c:Cons} {o:Pred} (hk:∀x∈out,Kind3 x.kind) (hc:Kind3 c.kind) (h:insR out c=some o):∀x∈o,Kind3 x.kind:=by
 unfold insR at h
 split at h
 ·rename_i hh
  obtain ⟨x,hx,hx0,hlt⟩:=hit_get hh
  rw [hx]at h
  simp only at h
  split at h
  ·rename_i b hb
   cases h
   intro y hy
   rcases List.mem_or_eq_of_mem_set hy with h1|h1
   ·exact hk y h1
   ·subst h1;exact joinC_kind (hk x (List.mem_of_getElem? hx)) hc hb
  ·cases h
 ·cases h
  intro y hy
  rcases List.mem_append.1 hy with h1|h1
  ·exact hk y (List.mem_of_mem_take h1)
  ·rcases List.mem_cons.1 h1 with rfl|h1
   ·exact hc
   ·exact hk y (List.mem_of_mem_drop h1)
theorem _root_.Go.Dm.OwnR.mapId {lo:Nat} {h:Heap} {v:DV} {ety sz:Nat} {xs:List DV} (w:OwnR lo h v ety sz xs):Dm.mapId v=none:=by
 cases w with
 | nil hv _=>subst hv;rfl
 | arr _ _ _ hv=>subst hv;rfl
theorem n159 (S:List Fr) (H:Heap) (out:Pred) (c:Cons) (v:DV) (cid:Nat) (cp:Option Nat) (hl:out.length≤1000000) (gc:H.get cid=some (.arr 62 5 [eCons c] cp)) (ho:OwnR 0 H v 62 5 (out.map eCons)) (P:Res→Prop) :
  ∀(n j:Nat) (f:FEnv),lowIdx (cmpN c.name) out-j=n→j≤lowIdx (cmpN c.name) out→f 4=v→f 6=.ptr cid 5 0 0→f 7=.int .i64 j →
  (∀F:FEnv,F 7=.int .i64 (lowIdx (cmpN c.name) out:Nat)→(∀r,r<13→r≠7→F r=f r)→P (run D 78 S t159k0 F H)) →
  P (run D 78 (.block 2::.seq t159k0::S) (.loop t159l0) f H):=by
 intro n
 have hlen:=ho.lenV
 simp only [List.length_map]at hlen
 simp only [eCons]at gc
 have hmv:=ho.mapId
 have k:∀r q:Nat,r<13→13≤q→¬r=q:=fun r q h1 h2=>by omega
 induction n with
 | zero =>
  intro j f hn hj h4 h6 h7 hP
  have hlo:lowIdx (cmpN c.name) out=j:=by omega
  rw [run_loop_of t159l0.eq_1]
  by_cases hlt:j<out.length
  ·have hnot:Go.Op.bytesLess out[j].name c.name=false:=by
    have:=low_at (cm:=cmpN c.name) (xs:=out) (by omega)
    simp only [hlo]at this
    have h2:=mt cmpB_lt.2 this
    simpa using h2
   obtain ⟨id,sp,cap,hv,hg,_,_,hix,hx⟩:=ho.index (i:=j) (x:=eCons out[j]) (by simp [hlt]) .i64
   simp only [eCons]at hx
   simp [h4,h6,h7,hlen,hlt,hix,hg,hx,gc,hnot,hmv,-List.getElem?_map]
   exact hP _ (by simp [h7,hlo]) fun r hr hne=>by simp [k r _ hr]
  ·simp [h4,h6,h7,hlen,hlt,hmv]
   exact hP _ (by simp [h7,hlo]) fun r hr hne=>by simp [k r _ hr]
 | succ n ih =>
  intro j f hn hj h4 h6 h7 hP
  have hlt:j<out.length:=by have:=lowIdx_le (cmpN c.name) out;omega
  have hyes:Go.Op.bytesLess out[j].name c.name=true:=cmpB_lt.1 (lowI_lt (cm:=cmpN c.name) (by omega) hlt)
  obtain ⟨id,sp,cap,hv,hg,_,_,hix,hx⟩:=ho.index (i:=j) (x:=eCons out[j]) (by simp [hlt]) .i64
  simp only [eCons]at hx
  rw [run_loop_of t159l0.eq_1]
  simp [h4,h6,h7,hlen,hlt,hix,hg,hx,gc,hyes,hmv,-List.getElem?_map]
  rw [wrap64 (by omega) (by omega)]
  generalize hF:upd _ 7 _=F
  refine ih (j+1) F (by omega) (by omega) (by rw [←hF];simp [h4]) (by rw [←hF];simp [h6]) (by rw [←hF];simp) fun F' a b=>hP F' a fun r hr hne=>?_
  rw [b r hr hne,←hF]
  simp [k r _ hr,hne]
end Go.Dm.Tc
