/-
What functions of the program compute, part 15: an entry's place; an entry found; a tree's entries.
-/
import Derived.Test.YtfnhanajiibciaaGreatMs0
set_option linter.all false
namespace Go.Dm.Tc
def sgnE (tree sub:ID) (e:Entry):Int:=if e.tree=tree∧e.sub=sub then 0 else if ltID e.tree tree=true∨(e.tree=tree∧ltID e.sub sub=true) then -1 else 1
theorem ltID_iff {a b:ID}:ltID a b=true↔a.client<b.client∨a.client=b.client∧a.seq<b.seq:=by
 unfold ltID;rw [decide_eq_true_iff,cmpID_lt]
theorem ID.ext' {a b:ID}:a=b↔a.client=b.client∧a.seq=b.seq:=by cases a;cases b;simp
theorem sgnE_lt {tree sub:ID} {e:Entry}:sgnE tree sub e<0↔ltID e.tree tree=true∨(e.tree=tree∧ltID e.sub sub=true):=by
 unfold sgnE
 split
 ·rename_i h
  rw [h.1,h.2,ltID_iff,ltID_iff]
  constructor
  ·intro q;omega
  ·rintro (q|⟨_,q⟩)<;>omega
 ·split
  ·rename_i h;exact ⟨fun _=>h,fun _=>by decide⟩
  ·rename_i h;exact ⟨fun q=>by omega,fun q=>absurd q h⟩
theorem sgnE_eq {tree sub:ID} {e:Entry}:sgnE tree sub e=0↔e.tree=tree∧e.sub=sub:=by
 unfold sgnE
 split
 ·rename_i h;exact ⟨fun _=>h,fun _=>rfl⟩
 ·rename_i h
  split<;>exact ⟨fun q=>by omega,fun q=>absurd q h⟩
theorem ltE_sgn (a b:Entry):ltE a b=true↔sgnE b.tree b.sub a<0:=by
 rw [sgnE_lt,ltID_iff,ltID_iff]
 unfold ltE cmpE orI
 rw [decide_eq_true_iff]
 split
 ·rename_i h
  rw [cmpID_eq]at h
  rw [cmpID_lt,h]
  constructor
  ·intro q;exact .inr ⟨rfl,q⟩
  ·rintro (q|⟨_,q⟩)
   ·omega
   ·exact q
 ·rename_i h
  rw [cmpID_eq]at h
  rw [cmpID_lt]
  constructor
  ·intro q;exact .inl q
  ·rintro (q|⟨q,_⟩)
   ·exact q
   ·exact absurd q h
def RisingE (l:List Entry):Prop:=l.Pairwise fun a b=>sgnE b.tree b.sub a<0
theorem sgnE_trans {t s:ID} {a b:Entry} (h1:sgnE b.tree b.sub a<0) (h2:sgnE t s b≤0):sgnE t s a<0:=by
 rw [sgnE_lt,ltID_iff,ltID_iff]at *
 by_cases h0:sgnE t s b=0
 ·rw [sgnE_eq]at h0
  rw [h0.1,h0.2]at h1
  exact h1
 ·have h3:sgnE t s b<0:=by omega
  rw [sgnE_lt,ltID_iff,ltID_iff]at h3
  rw [ID.ext']at *
  omega
theorem monoE {l:List Entry} (h:RisingE l) (t s:ID):∀i j (hi:i<l.length) (hj:j<l.length),i≤j→sgnE t s l[j]<0→sgnE t s l[i]<0:=by
 intro i j hi hj hij hlt
 rcases Nat.lt_or_eq_of_le hij with hl|rfl
 ·exact sgnE_trans (List.pairwise_iff_getElem.1 h i j hi hj hl) (by omega)
 ·exact hlt
theorem of_risesE:∀{l:List Entry},RisingE l→risesB ltE l=true
 | [],_=>rfl
 | [a],_=>rfl
 | a::b::r,h=>by
  unfold RisingE at h
  rw [List.pairwise_cons]at h
  simp only [risesB,Bool.and_eq_true]
  exact ⟨(ltE_sgn a b).2 (h.1 b (List.mem_cons_self ..)),of_risesE (l:=b::r) h.2⟩
def isE (tree sub:ID) (e:Entry):Bool:=decide (e.tree=tree∧e.sub=sub)
end Go.Dm.Tc
/-
What functions of the program compute,part 16: an entry found;a tree's entries;is a predicate covered?
-/
namespace Go.Dm.Tc
def ofT (tree:ID) (l:List Entry):List Entry:=l.filter fun e=>decide (e.tree=tree)
def coveredB (l:List Entry) (tree:ID) (p:Pred):Bool:=(ofT tree l).any fun e=>e.up && coversP e.pred p
end Go.Dm.Tc
/-
What functions of the program compute,part 17: is a broker tight?
-/
namespace Go.Dm.Tc
def parentOf (b:Broker) (x:ID):Int:=((b.adverts.find? fun a=>a.id=x).getD advZero).parent
def tightE (b:Broker) (e:Entry):Bool:=e.up || decide (parentOf b e.tree=-1) || coveredB b.entries e.tree e.pred
def tightB (b:Broker):Bool:=b.entries.all (tightE b)
structure AskedP (b:Broker):Prop where
 unl:∀e∈b.entries,Unlike e.pred
 len:∀e∈b.entries,e.pred.length≤1000000
end Go.Dm.Tc
/-
What the reference's functions compute,part 4: an entry's place;is a predicate covered?
-/
namespace Go.Dm.Tc
theorem l119 (h0:Heap) (a b c d:Int) (t:Bool) (l:List Entry) (hl:l.length≤1000000) (g1:h0.get 1=some (.arr 37 2 [.agg [.int .i64 a,.int .i64 b]] (some 1))) (g2:h0.get 2=some (.arr 37 2 [.agg [.int .i64 c,.int .i64 d]] (some 1))) (hlim:h0.lim=0) :
  ∀(rest:List Entry) (i:Nat) (f:FEnv) (h:Heap),l.drop i=rest→f 4=.ptr 1 2 0 0→f 5=.ptr 2 2 0 0→f 10=eL t 7 eEntry l→f 11=.int .i64 l.length→f 12=.int .i64 i→Ext 3 h0 h →
  pcOut (fin [.t 6] (run D 29 [.block 0,.seq t119k0] (.loop t119l0) f h))=some (.int .i64 (idxOf ((rest.findIdx? (isE ⟨a,b⟩ ⟨c,d⟩)).map (·+i)))):=by
 intro rest
 induction rest with
 | nil =>
  intro i f h hd h4 h5 h10 h11 h12 hx
  have hi:=drop_nil hd
  have:¬(i<l.length):=by omega
  rw [run_loop_of t119l0.eq_1]
  simp [t119k0,h11,h12,this,idxOf]
 | cons e rest ih =>
  intro i f h hd h4 h5 h10 h11 h12 hx
  obtain ⟨hi,he,hd'⟩:=drop_at hd
  have hg1:=(hx.get 1 (by decide)).trans g1
  have hg2:=(hx.get 2 (by decide)).trans g2
  have hnh:=hx.le
  have n1:¬1=h.n:=by omega
  have n2:¬2=h.n:=by omega
  have hl0:h.lim=0:=hx.lim.trans hlim
  have hw:IntKind.i64.wrap ((i:Int)+1)=(i:Int)+1:=wrap64 (by omega) (by omega)
  rw [run_loop_of t119l0.eq_1]
  have next:∀F H,isE ⟨a,b⟩ ⟨c,d⟩ e=false→F 4=.ptr 1 2 0 0→F 5=.ptr 2 2 0 0→F 10=eL t 7 eEntry l→F 11=.int .i64 l.length→F 12=.int .i64 ((i:Int)+1)→Ext 3 h0 H→pcOut (fin [.t 6] (run D 29 [.block 0,.seq t119k0] (.loop t119l0) F H))=some (.int .i64 (idxOf (((e::rest).findIdx? (isE ⟨a,b⟩ ⟨c,d⟩)).map (·+i)))):=fun F H q a1 a2 a3 a4 a5 a6=>by
   refine (ih (i+1) F H hd' a1 a2 a3 a4 (by rw [a5];simp) a6).trans ?_
   simp [List.findIdx?_cons,q]
   congr 2
   funext q
   simp
   omega
  by_cases h1:e.tree=⟨a,b⟩
  ·have hc1:e.tree.client=a:=by rw [h1]
   have hc2:e.tree.seq=b:=by rw [h1]
   by_cases h2:e.sub=⟨c,d⟩
   ·have hc3:e.sub.client=c:=by rw [h2]
    have hc4:e.sub.seq=d:=by rw [h2]
    have hq:isE ⟨a,b⟩ ⟨c,d⟩ e=true:=by simp [isE,h1,h2]
    simp [h4,h5,h10,h11,h12,hi,he,n1,n2,hg1,hg2,eEntry,hl0,hc1,hc2,hc3,hc4,hq,List.findIdx?_cons,idxOf]
   ·have h2':=id_ne h2
    simp only at h2'
    have hq:isE ⟨a,b⟩ ⟨c,d⟩ e=false:=by simp [isE,h2]
    simp [h4,h5,h10,h11,h12,hi,he,n1,n2,hg1,hg2,eEntry,hl0,hc1,hc2,h2',hw]
    exact next _ _ hq (by simp [h4]) (by simp [h5]) (by simp [h10]) (by simp [h11]) (by simp) hx.push
  ·have h1':=id_ne h1
   simp only at h1'
   have hq:isE ⟨a,b⟩ ⟨c,d⟩ e=false:=by simp [isE,h1]
   simp [h4,h5,h10,h11,h12,hi,he,n1,n2,hg1,hg2,eEntry,hl0,h1',hw]
   exact next _ _ hq (by simp [h4]) (by simp [h5]) (by simp [h10]) (by simp [h11]) (by simp) hx.push
theorem s119 (x0 x1 x2 x3 x5:DV) (t:Bool) (l:List Entry) (a b c d:Int) (hl:l.length≤1000000) :
  pcF D t119 [.agg [x0,x1,x2,x3,eL t 7 eEntry l,x5],.agg [.int .i64 a,.int .i64 b],.agg [.int .i64 c,.int .i64 d]]=some (.int .i64 (idxOf (l.findIdx? (isE ⟨a,b⟩ ⟨c,d⟩)))):=by
 unfold pcF
 rw [goRun_eq _ _ _ _ (by simp [t119])]
 simp [t119]
 refine (l119 _ a b c d t l hl ?_ ?_ ?_ l 0 _ _ rfl ?_ ?_ ?_ ?_ ?_ (Ext.refl ?_ ?_)).trans ?_<;>simp
def impliesC (a b:Cons):Bool :=
 if a.kind=1 then decide (b.kind=1) && decide (b.lo≤a.lo) && decide (a.hi≤b.hi)
 else if b.kind=2 then decide (a.kind=2) && (a.text == b.text)
 else decide (b.kind=3) && beginsS a.text b.text
theorem s158 (a b:Cons):pcF D t158 [.agg [.str a.name,.int .i64 a.kind,.int .i64 a.lo,.int .i64 a.hi,.str a.text],.agg [.str b.name,.int .i64 b.kind,.int .i64 b.lo,.int .i64 b.hi,.str b.text]]=some (.bool (impliesC a b)):=by
 obtain ⟨nm,k,lo,hi,tx⟩:=a
 obtain ⟨nm',k',lo',hi',tx'⟩:=b
 unfold pcF
 rw [goRun_eq _ _ _ _ (by simp [t158])]
 simp only
 by_cases k1:k=1
 ·subst k1
  by_cases j:k'=1
  ·by_cases h1:lo'≤lo
   ·simp [t158,impliesC,j,h1]
   ·simp [t158,impliesC,j,h1]
  ·simp [t158,impliesC,j]
 ·by_cases k2:k'=2
  ·subst k2
   by_cases j:k=2
   ·simp [t158,impliesC,j]
   ·simp [t158,impliesC,k1,j]
  ·by_cases k3:k'=3
   ·subst k3
    simp [t158,impliesC,k1,e188,s188]
   ·simp [t158,impliesC,k1,k2,k3]
theorem implies_wider {c x:Cons} (hx:rightOne x=true):impliesC x c=widerC c x:=by
 have hk:x.kind=1∨x.kind=2∨x.kind=3:=by
  unfold rightOne at hx
  rw [Bool.and_eq_true]at hx
  have:=hx.2
  split at this
  ·rename_i h;exact .inl h
  ·split at this
   ·rename_i h;exact .inr (.inr h)
   ·split at this
    ·rename_i h;exact .inr (.inl h)
    ·cases this
 unfold impliesC widerC holdsT
 rcases hk with h|h|h
 ·simp [h]
 ·by_cases h2:c.kind=2
  ·simp [h,h2]
  ·by_cases h3:c.kind=3<;>simp [h,h2,h3]
 ·by_cases h2:c.kind=2
  ·simp [h,h2]
  ·simp [h,h2]
end Go.Dm.Tc
/-
What the reference's functions compute,part 5: does a predicate cover another one? is it covered?
-/
namespace Go.Dm.Tc
def inC (x:Cons) (b:Pred):Bool:=b.any fun y=>decide (y.name=x.name) && impliesC y x
theorem l118 (S:List Fr) (b:Pred) (hl:b.length≤1000000) (a:Pred) (x:Cons) (n11:DV) (i12:DV) (id:Nat) :
  ∀(rest:Pred) (i:Nat) (acc:Bool) (f:FEnv) (h:Heap),b.drop i=rest→f 1=eL false 5 eCons b→f 10=eL false 5 eCons a→f 11=n11→f 12=i12→f 6=.ptr id 5 0 0→f 7=.bool acc→f 16=eL false 5 eCons b→f 17=.int .i64 b.length→f 18=.int .i64 i →
   h.get id=some (.arr 62 5 [eCons x] (some 1))→h.lim=0→WF h →
  ∃ f' h',run D 39 (.block 2::.seq t118k0::S) (.loop t118l0) f h=run D 39 S t118k0 f' h'∧f' 1=eL false 5 eCons b∧f' 10=eL false 5 eCons a∧f' 11=n11∧f' 12=i12∧f' 7=.bool (acc || inC x rest)∧h'.lim=0∧WF h':=by
 intro rest
 induction rest with
 | nil =>
  intro i acc f h hd h1 h10 h11 h12 h6 h7 h16 h17 h18 g hlim wf
  have hi:=drop_nil hd
  have:¬(i<b.length):=by omega
  rw [run_loop_of t118l0.eq_1]
  simp [h17,h18,this]
  exact ⟨_,_,rfl,by simp [h1],by simp [h10],by simp [h11],by simp [h12],by simp [h7,inC],hlim,wf⟩
 | cons y rest ih =>
  intro i acc f h hd h1 h10 h11 h12 h6 h7 h16 h17 h18 g hlim wf
  obtain ⟨hi,he,hd'⟩:=drop_at hd
  have hlt:=get_some_lt g
  have n0:¬id=h.n:=by omega
  have hw:IntKind.i64.wrap ((i:Int)+1)=(i:Int)+1:=wrap64 (by omega) (by omega)
  simp only [eCons]at g
  rw [run_loop_of t118l0.eq_1]
  have hin:(acc || inC x (y::rest))=((acc || (decide (y.name=x.name) && impliesC y x)) || inC x rest):=by simp [inC,Bool.or_assoc]
  rw [hin]
  have next:∀(F:FEnv) (acc':Bool),F 1=eL false 5 eCons b→F 10=eL false 5 eCons a→F 11=n11→F 12=i12→F 6=.ptr id 5 0 0→F 7=.bool acc'→F 16=eL false 5 eCons b→F 17=.int .i64 b.length→F 18=.int .i64 ((i:Int)+1) →
    ∃ f' h',run D 39 (.block 2::.seq t118k0::S) (.loop t118l0) F (h.push (.arr 62 5 [.agg [.str y.name,.int .i64 y.kind,.int .i64 y.lo,.int .i64 y.hi,.str y.text]] (some 1)))=run D 39 S t118k0 f' h'∧f' 1=eL false 5 eCons b∧f' 10=eL false 5 eCons a∧f' 11=n11∧f' 12=i12∧f' 7=.bool (acc' || inC x rest)∧h'.lim=0∧WF h':=fun F acc' a1 a2 a3 a4 a5 a6 a7 a8 a9 =>
   ih (i+1) acc' F _ hd' a1 a2 a3 a4 a5 a6 a7 a8 (by rw [a9];simp) (by rw [get_push,if_neg n0];exact g) hlim wf.push
  cases acc with
  | true =>
   simp [h1,h6,h7,h16,h17,h18,hi,he,eCons,hlim,n0,g,hw]
   generalize hF:upd _ 18 _=F
   have:=next F true (by rw [←hF];simp [h1]) (by rw [←hF];simp [h10]) (by rw [←hF];simp [h11]) (by rw [←hF];simp [h12]) (by rw [←hF];simp [h6]) (by rw [←hF];simp) (by rw [←hF];simp [h16,eCons]) (by rw [←hF];simp [h17]) (by rw [←hF];simp)
   simpa using this
  | false =>
   by_cases hn:y.name=x.name
   ·simp [h1,h6,h7,h16,h17,h18,hi,he,eCons,hlim,n0,g,hw,eq_true hn,beq_iff_eq.2 hn,e158,s158]
    generalize hF:upd _ 18 _=F
    have:=next F (impliesC y x) (by rw [←hF];simp [h1]) (by rw [←hF];simp [h10]) (by rw [←hF];simp [h11]) (by rw [←hF];simp [h12]) (by rw [←hF];simp [h6]) (by rw [←hF];simp) (by rw [←hF];simp [h16,eCons]) (by rw [←hF];simp [h17]) (by rw [←hF];simp)
    simpa using this
   ·simp [h1,h6,h7,h16,h17,h18,hi,he,eCons,hlim,n0,g,hw,hn]
    generalize hF:upd _ 18 _=F
    have:=next F false (by rw [←hF];simp [h1]) (by rw [←hF];simp [h10]) (by rw [←hF];simp [h11]) (by rw [←hF];simp [h12]) (by rw [←hF];simp [h6]) (by rw [←hF];simp) (by rw [←hF];simp [h16,eCons]) (by rw [←hF];simp [h17]) (by rw [←hF];simp)
    simpa using this
theorem m118 (a b:Pred) (hla:a.length≤1000000) (hl:b.length≤1000000) :
  ∀(rest:Pred) (i:Nat) (f:FEnv) (h:Heap),a.drop i=rest→f 1=eL false 5 eCons b→f 10=eL false 5 eCons a→f 11=.int .i64 a.length→f 12=.int .i64 i→h.lim=0→WF h →
  pcOut (fin [.t 4] (run D 39 [.block 0,.seq t118k2] (.loop t118l1) f h))=some (.bool (rest.all fun x=>inC x b)):=by
 intro rest
 induction rest with
 | nil =>
  intro i f h hd h1 h10 h11 h12 hlim wf
  have hi:=drop_nil hd
  have:¬(i<a.length):=by omega
  rw [run_loop_of t118l1.eq_1]
  simp [t118k2,h11,h12,this]
 | cons x rest ih =>
  intro i f h hd h1 h10 h11 h12 hlim wf
  obtain ⟨hi,he,hd'⟩:=drop_at hd
  have hw:IntKind.i64.wrap ((i:Int)+1)=(i:Int)+1:=wrap64 (by omega) (by omega)
  rw [run_loop_of t118l1.eq_1]
  simp [h1,h10,h11,h12,hi,he,eCons,hlim]
  generalize hF:upd _ 18 _=F
  obtain ⟨f',h',k1,k2,k3,k4,k5,k6,k7,k8⟩:=l118 (.block 1::.seq t118k1::.loop t118l1::[.block 0,.seq t118k2]) b hl a x (.int .i64 a.length) (.int .i64 i) h.n b 0 false F (h.push (.arr 62 5 [eCons x] (some 1))) rfl (by rw [←hF];simp [h1]) (by rw [←hF];simp [h10,eCons]) (by rw [←hF];simp [h11]) (by rw [←hF];simp [h12]) (by rw [←hF];simp) (by rw [←hF];simp) (by rw [←hF];simp [eCons]) (by rw [←hF];simp) (by rw [←hF];simp) (by simp) (by exact hlim) wf.push
  simp only [eCons]at k1
  rw [k1]
  clear hF k1
  simp only [Bool.false_or]at k6
  cases hq:inC x b with
  | false =>
   rw [hq]at k6
   simp [t118k0,k6,hq]
  | true =>
   rw [hq]at k6
   simp [t118k0,t118k1,k5,k6,hq,hw]
   refine (ih (i+1) _ h' hd' ?_ ?_ ?_ ?_ k7 k8).trans ?_<;>simp [k2,k3,k4]
theorem s118 (a b:Pred) (hla:a.length≤1000000) (hl:b.length≤1000000):pcF D t118 [ePred a,ePred b]=some (.bool (a.all fun x=>inC x b)):=by
 unfold pcF
 rw [goRun_eq _ _ _ _ (by simp [t118])]
 simp only [ePred]
 simp [t118]
 refine (m118 a b hla hl a 0 _ _ rfl ?_ ?_ ?_ ?_ ?_ ?_).trans ?_<;>simp
end Go.Dm.Tc
/-
Plain laws,part 3: names of right predicates are unlike;the two coverings are alike. The reference's Covered.
-/
namespace Go.Dm.Tc
theorem u8_lt {a b:UInt8}:(decide (a<b))=decide (a.toNat<b.toNat):=by
 by_cases h:a<b
 ·rw [decide_eq_true h,decide_eq_true (UInt8.lt_iff_toNat_lt.1 h)]
 ·rw [decide_eq_false h,decide_eq_false (fun q=>h (UInt8.lt_iff_toNat_lt.2 q))]
theorem bl_irr:∀a:List UInt8,Go.Op.bytesLess a a=false
 | []=>rfl
 | a::r=>by simp only [Go.Op.bytesLess,u8_lt,bl_irr r];simp
theorem bl_trans:∀{a b c:List UInt8},Go.Op.bytesLess a b=true→Go.Op.bytesLess b c=true→Go.Op.bytesLess a c=true
 | _,[],_,h,_=>by cases ‹List UInt8›<;>simp [Go.Op.bytesLess]at h
 | _,_::_,[],_,h=>by simp [Go.Op.bytesLess]at h
 | [],_::_,_::_,_,_=>rfl
 | a::x,b::y,c::z,h1,h2=>by
  simp only [Go.Op.bytesLess,u8_lt,Bool.or_eq_true,Bool.and_eq_true,decide_eq_true_iff,beq_iff_eq]at *
  rcases h1 with h1|⟨rfl,h1⟩
  ·rcases h2 with h2|⟨rfl,h2⟩
   ·exact .inl (by omega)
   ·exact .inl h1
  ·rcases h2 with h2|⟨rfl,h2⟩
   ·exact .inl h2
   ·exact .inr ⟨rfl,bl_trans h1 h2⟩
theorem rightA_names:∀{p:Pred} {prev:Option (List UInt8)},rightA prev p=true→(∀n,prev=some n→∀c∈p,Go.Op.bytesLess n c.name=true)∧p.Pairwise fun a b=>Go.Op.bytesLess a.name b.name=true
 | [],_,_=>⟨fun _ _ _ h=>(by cases h),List.Pairwise.nil⟩
 | c::r,prev,h=>by
  simp only [rightA,Bool.and_eq_true]at h
  obtain ⟨⟨_,h2⟩,h3⟩:=h
  obtain ⟨k1,k2⟩:=rightA_names h3
  refine ⟨fun n hn d hd=>?_,List.pairwise_cons.2 ⟨fun d hd=>k1 c.name rfl d hd,k2⟩⟩
  subst hn
  rcases List.mem_cons.1 hd with rfl|hd
  ·exact h2
  ·exact bl_trans h2 (k1 c.name rfl d hd)
theorem rightA_each:∀{p:Pred} {prev:Option (List UInt8)},rightA prev p=true→∀c∈p,rightOne c=true
 | [],_,_,_,h=>by cases h
 | c::r,prev,h,d,hd=>by
  simp only [rightA,Bool.and_eq_true]at h
  rcases List.mem_cons.1 hd with rfl|hd
  ·exact h.1.1
  ·exact rightA_each h.2 d hd
theorem PredOk.unlike {p:Pred} (h:PredOk p):Unlike p:=by
 have:=h.right
 unfold rightP at this
 rw [Bool.and_eq_true]at this
 refine (rightA_names this.1).2.imp fun {a b} hab e=>?_
 rw [e,bl_irr]at hab
 cases hab
theorem PredOk.each {p:Pred} (h:PredOk p):∀c∈p,rightOne c=true:=by
 have:=h.right
 unfold rightP at this
 rw [Bool.and_eq_true]at this
 exact rightA_each this.1
theorem PredOk.nil:PredOk []:=⟨rfl,⟨by decide,fun c h=>by cases h⟩,by decide⟩
theorem inC_find (x:Cons):∀{b:Pred},Unlike b→(∀y∈b,rightOne y=true)→inC x b=match b.find? (fun y=>decide (y.name=x.name)) with
  | some y=>widerC x y
  | none=>false
 | [],_,_=>rfl
 | y::r,hu,hr=>by
  unfold Unlike at hu
  rw [List.pairwise_cons]at hu
  unfold inC
  rw [List.any_cons,List.find?_cons]
  by_cases h:y.name=x.name
  ·rw [decide_eq_true h]
   have:(r.any fun y=>decide (y.name=x.name) && impliesC y x)=false:=by
    rw [List.any_eq_false]
    intro z hz
    have:¬z.name=x.name:=fun e=>hu.1 z hz (by rw [h,e])
    simp [this]
   rw [this,Bool.true_and,Bool.or_false]
   exact implies_wider (hr y (List.mem_cons_self ..))
  ·rw [decide_eq_false h,Bool.false_and,Bool.false_or]
   exact inC_find x hu.2 fun z hz=>hr z (List.mem_cons_of_mem _ hz)
theorem refCovers_eq (a:Pred) {b:Pred} (h:PredOk b):(a.all fun x=>inC x b)=coversP a b:=by
 unfold coversP
 congr 1
 funext x
 exact inC_find x h.unlike h.each
theorem s118_ok (a b:Pred) (hla:a.length≤1000000) (h:PredOk b):pcF D t118 [ePred a,ePred b]=some (.bool (coversP a b)):=by
 rw [←refCovers_eq a h]
 exact s118 a b hla (Nat.le_trans h.len (by decide))
theorem l36 (t:Bool) (l:List Entry) (c d:Int) (p:Pred) (hl:l.length≤1000000) (hp:PredOk p) (hle:∀e∈l,e.pred.length≤1000000) (h0:Heap) (g1:h0.get 1=some (.arr 37 2 [.agg [.int .i64 c,.int .i64 d]] (some 1))) (hlim:h0.lim=0) :
  ∀(rest:List Entry) (i:Nat) (f:FEnv) (h:Heap),l.drop i=rest→f 2=ePred p→f 4=.ptr 1 2 0 0→f 10=eL t 7 eEntry l→f 11=.int .i64 l.length→f 12=.int .i64 i→Ext 2 h0 h →
  pcOut (fin [.t 6] (run D 31 [.block 0,.seq t36k0] (.loop t36l0) f h))=some (.bool (coveredB rest ⟨c,d⟩ p)):=by
 intro rest
 induction rest with
 | nil =>
  intro i f h hd h2 h4 h10 h11 h12 hx
  have hi:=drop_nil hd
  have:¬(i<l.length):=by omega
  rw [run_loop_of t36l0.eq_1]
  simp [t36k0,h11,h12,this,coveredB,ofT]
 | cons e rest ih =>
  intro i f h hd h2 h4 h10 h11 h12 hx
  obtain ⟨hi,he,hd'⟩:=drop_at hd
  have hg1:=(hx.get 1 (by decide)).trans g1
  have hnh:=hx.le
  have n1:¬1=h.n:=by omega
  have hl0:h.lim=0:=hx.lim.trans hlim
  have hw:IntKind.i64.wrap ((i:Int)+1)=(i:Int)+1:=wrap64 (by omega) (by omega)
  have hcv:=s118_ok e.pred p (hle e (by rw [←he];exact List.getElem_mem hi)) hp
  have next:∀F H,F 2=ePred p→F 4=.ptr 1 2 0 0→F 10=eL t 7 eEntry l→F 11=.int .i64 l.length→F 12=.int .i64 ((i:Int)+1)→Ext 2 h0 H →
    pcOut (fin [.t 6] (run D 31 [.block 0,.seq t36k0] (.loop t36l0) F H))=some (.bool (coveredB rest ⟨c,d⟩ p)):=fun F H a1 a2 a3 a4 a5 a6=>ih (i+1) F H hd' a1 a2 a3 a4 (by rw [a5];simp) a6
  rw [run_loop_of t36l0.eq_1]
  by_cases ht:e.tree=⟨c,d⟩
  ·have hc1:e.tree.client=c:=by rw [ht]
   have hc2:e.tree.seq=d:=by rw [ht]
   have hcb:coveredB (e::rest) ⟨c,d⟩ p=((e.up && coversP e.pred p) || coveredB rest ⟨c,d⟩ p):=by simp [coveredB,ofT,ht]
   rw [hcb]
   cases hup:e.up with
   | false =>
    simp [h2,h4,h10,h11,h12,hi,he,n1,hg1,eEntry,hl0,hc1,hc2,hup,hw]
    exact next _ _ (by simp [h2]) (by simp [h4]) (by simp [h10]) (by simp [h11]) (by simp) hx.push
   | true =>
    cases hcp:coversP e.pred p with
    | false =>
     rw [hcp]at hcv
     simp [h2,h4,h10,h11,h12,hi,he,n1,hg1,eEntry,hl0,hc1,hc2,hup,hw,e118,hcv]
     exact next _ _ (by simp [h2]) (by simp [h4]) (by simp [h10]) (by simp [h11]) (by simp) hx.push
    | true =>
     rw [hcp]at hcv
     simp [h2,h4,h10,h11,h12,hi,he,n1,hg1,eEntry,hl0,hc1,hc2,hup,hw,e118,hcv]
  ·have h1':=id_ne ht
   simp only at h1'
   have hcb:coveredB (e::rest) ⟨c,d⟩ p=coveredB rest ⟨c,d⟩ p:=by simp [coveredB,ofT,ht]
   rw [hcb]
   simp [h2,h4,h10,h11,h12,hi,he,n1,hg1,eEntry,hl0,h1',hw]
   exact next _ _ (by simp [h2]) (by simp [h4]) (by simp [h10]) (by simp [h11]) (by simp) hx.push
theorem s36 (x0 x1 x2 x3 x5:DV) (t:Bool) (l:List Entry) (c d:Int) (p:Pred) (hl:l.length≤1000000) (hp:PredOk p) (hle:∀e∈l,e.pred.length≤1000000) :
  pcF D t36 [.agg [x0,x1,x2,x3,eL t 7 eEntry l,x5],.agg [.int .i64 c,.int .i64 d],ePred p]=some (.bool (coveredB l ⟨c,d⟩ p)):=by
 unfold pcF
 rw [goRun_eq _ _ _ _ (by simp [t36])]
 simp [t36]
 refine (l36 t l c d p hl hp hle _ ?_ ?_ l 0 _ _ rfl ?_ ?_ ?_ ?_ ?_ (Ext.refl ?_ ?_)).trans ?_<;>simp
end Go.Dm.Tc
/-
What functions of the program compute,part 18: an entry added.
-/
namespace Go.Dm.Tc
def insE (e:Entry) (l:List Entry):List Entry:=l.take (lowIdx (sgnE e.tree e.sub) l)++e::l.drop (lowIdx (sgnE e.tree e.sub) l)
def mayAdd (b:Broker) (e:Entry):Bool :=
 match b.adverts.find? (fun a=>a.id=e.tree) with
 | none=>false
 | some a=>!(b.entries.any (isE e.tree e.sub)) && !(decide (e.frm=a.parent) && !decide (a.parent=-1))
def upOf (b:Broker) (e:Entry):Bool:=!decide (parentOf b e.tree=-1) && !coveredB b.entries e.tree e.pred
def addB (b:Broker) (e:Entry):Broker×Bool :=
 if mayAdd b e=true then ({b with entries:=insE {e with up:=upOf b e} b.entries},upOf b e) else (b,false)
theorem find_any {l:List Entry} {t s:ID}:l.any (isE t s)=hasO (l.find? (isE t s)):=by
 cases h:l.find? (isE t s) with
 | none =>
  rw [List.any_eq_false.2]
  ·rfl
  ·intro x hx
   have:=List.find?_eq_none.1 h x hx
   simpa using this
 | some a=>exact List.any_eq_true.2 ⟨a,List.mem_of_find?_eq_some h,List.find?_some h⟩
end Go.Dm.Tc
/-
What the reference's functions compute,part 6: an entry added.
-/
namespace Go.Dm.Tc
theorem l37 (S:List Fr) (h:Heap) (x0 x1 x2 x3 x5:DV) (l:List Entry) (tc td sc sd:Int) (p q r:DV) (hl:l.length≤1000000)
  (g0:h.get 0=some (.arr 29 6 [.agg [x0,x1,x2,x3,eL false 7 eEntry l,x5]] (some 1))) (g1:h.get 1=some (.arr 58 7 [.agg [.int .i64 tc,.int .i64 td,.int .i64 sc,.int .i64 sd,p,q,r]] (some 1))) (hlim:h.lim=0) :
  ∀(n i:Nat) (f:FEnv),lowIdx (sgnE ⟨tc,td⟩ ⟨sc,sd⟩) l-i=n→i≤lowIdx (sgnE ⟨tc,td⟩ ⟨sc,sd⟩) l→f 2=.ptr 0 6 0 0→f 3=.ptr 1 7 0 0→f 7=.int .i64 i →
  ∃ f',run D 115 (.block 0::.seq t37k0::S) (.loop t37l0) f h=run D 115 S t37k0 f' h∧f' 2=.ptr 0 6 0 0∧f' 3=.ptr 1 7 0 0∧f' 4=f 4∧f' 5=f 5∧f' 7=.int .i64 (lowIdx (sgnE ⟨tc,td⟩ ⟨sc,sd⟩) l):=by
 intro n
 induction n with
 | zero =>
  intro i f hn hi h2 h3 h7
  have hlo:lowIdx (sgnE ⟨tc,td⟩ ⟨sc,sd⟩) l=i:=by omega
  rw [run_loop_of t37l0.eq_1]
  by_cases hlt:i<l.length
  ·have hsx:=low_step (sgnE ⟨tc,td⟩ ⟨sc,sd⟩) hi (List.getElem?_eq_getElem hlt)
   have hnn:¬sgnE ⟨tc,td⟩ ⟨sc,sd⟩ l[i]<0:=fun hc=>by have:=hsx.1 hc;omega
   rw [sgnE_lt]at hnn
   obtain ⟨e,he⟩:∃ e,l[i]=e:=⟨_,rfl⟩
   rw [he]at hnn
   have hn1:ltID ⟨e.tree.client,e.tree.seq⟩ ⟨tc,td⟩=false:=by
    cases hq:ltID e.tree ⟨tc,td⟩ with
    | false=>rfl
    | true=>exact absurd (.inl hq) hnn
   by_cases ht:e.tree=⟨tc,td⟩
   ·have hc1:e.tree.client=tc:=by rw [ht]
    have hc2:e.tree.seq=td:=by rw [ht]
    have hn2:ltID ⟨e.sub.client,e.sub.seq⟩ ⟨sc,sd⟩=false:=by
     cases hq:ltID e.sub ⟨sc,sd⟩ with
     | false=>rfl
     | true=>exact absurd (.inr ⟨ht,hq⟩) hnn
    simp [h2,h3,h7,g0,g1,hlt,he,hlim,eEntry,e76,s76,hn1,hn2]
    simp only [hc1,hc2]at hn1
    simp [hc1,hc2,hn1,e76,s76,hn2]
    exact ⟨_,rfl,by simp [h2],by simp [h3],by simp,by simp,by simp [h7,hlo]⟩
   ·have h1':=id_ne ht
    simp only at h1'
    simp [h2,h3,h7,g0,g1,hlt,he,hlim,eEntry,e76,s76,hn1,h1']
    exact ⟨_,rfl,by simp [h2],by simp [h3],by simp,by simp,by simp [h7,hlo]⟩
  ·simp [h2,h3,h7,g0,g1,hlt]
   exact ⟨_,rfl,by simp [h2],by simp [h3],by simp,by simp,by simp [h7,hlo]⟩
 | succ n ih =>
  intro i f hn hi h2 h3 h7
  have hlt:i<l.length:=by have:=lowIdx_le (sgnE ⟨tc,td⟩ ⟨sc,sd⟩) l;omega
  obtain ⟨e,he⟩:∃ e,l[i]=e:=⟨_,rfl⟩
  have hyes:sgnE ⟨tc,td⟩ ⟨sc,sd⟩ e<0:=by
   have:=low_lt (sgnE ⟨tc,td⟩ ⟨sc,sd⟩) (l:=l) (i:=i) (a:=l[i]) (by omega) (List.getElem?_eq_getElem hlt)
   rw [he]at this
   exact of_decide_eq_true this
  rw [sgnE_lt]at hyes
  have hw:IntKind.i64.wrap ((i:Int)+1)=(i:Int)+1:=wrap64 (by omega) (by omega)
  rw [run_loop_of t37l0.eq_1]
  have next:∀F,F 2=.ptr 0 6 0 0→F 3=.ptr 1 7 0 0→F 4=f 4→F 5=f 5→F 7=.int .i64 ((i:Int)+1) →
    ∃ f',run D 115 (.block 0::.seq t37k0::S) (.loop t37l0) F h=run D 115 S t37k0 f' h∧f' 2=.ptr 0 6 0 0∧f' 3=.ptr 1 7 0 0∧f' 4=f 4∧f' 5=f 5∧f' 7=.int .i64 (lowIdx (sgnE ⟨tc,td⟩ ⟨sc,sd⟩) l):=fun F a1 a2 a3 a4 a5=>by
   obtain ⟨f',k1,k2,k3,k4,k5,k6⟩:=ih (i+1) F (by omega) (by omega) a1 a2 (by rw [a5];simp)
   exact ⟨f',k1,k2,k3,by rw [k4,a3],by rw [k5,a4],k6⟩
  cases hq:ltID e.tree ⟨tc,td⟩ with
  | true =>
   have hq':ltID ⟨e.tree.client,e.tree.seq⟩ ⟨tc,td⟩=true:=hq
   simp [h2,h3,h7,g0,g1,hlt,he,hlim,eEntry,e76,s76,hq',hw]
   generalize hF:upd _ 7 _=F
   exact next F (by rw [←hF];simp [h2]) (by rw [←hF];simp [h3]) (by rw [←hF];simp) (by rw [←hF];simp) (by rw [←hF];simp)
  | false =>
   obtain ⟨ht,hs⟩:=hyes.resolve_left (by rw [hq];simp)
   have hq':ltID ⟨e.tree.client,e.tree.seq⟩ ⟨tc,td⟩=false:=hq
   have hs':ltID ⟨e.sub.client,e.sub.seq⟩ ⟨sc,sd⟩=true:=hs
   have hc1:e.tree.client=tc:=by rw [ht]
   have hc2:e.tree.seq=td:=by rw [ht]
   simp only [hc1,hc2]at hq'
   simp [h2,h3,h7,g0,g1,hlt,he,hlim,eEntry,e76,s76,hc1,hc2,hq',hs',hw]
   generalize hF:upd _ 7 _=F
   exact next F (by rw [←hF];simp [h2]) (by rw [←hF];simp [h3]) (by rw [←hF];simp) (by rw [←hF];simp) (by rw [←hF];simp)
end Go.Dm.Tc
/-
What the reference's functions compute,part 7: an entry added,all of it.
-/
namespace Go.Dm.Tc
set_option maxRecDepth 8000 in
theorem v37 (me:Int) (near:List Int) (adv:List Advert) (seen:List ID) (ent:List Entry) (own:List OwnS) (tc td sc sd:Int) (p:Pred) (frm:Int) (U:Bool) (hel:ent.length≤100000) (F:FEnv) (H:Heap)
  (g0:H.get 0=some (.arr 29 6 [.agg [.int .i64 me,eL false 1 cInt near,eL false 4 eAdvert adv,eL false 2 eID seen,eL false 7 eEntry ent,eL false 3 eOwn own]] (some 1)))
  (g1:H.get 1=some (.arr 58 7 [.agg [.int .i64 tc,.int .i64 td,.int .i64 sc,.int .i64 sd,ePred p,.int .i64 frm,.bool U]] (some 1)))
  (g2:H.get 2=some (.arr 29 6 [.agg [.int .i64 0,.nsl,.nsl,.nsl,.nsl,.nsl]] (some 1))) (hlim:H.lim=0) (hn:3≤H.n) (wf:WF H) (h2:F 2=.ptr 0 6 0 0) (h3:F 3=.ptr 1 7 0 0) (h4:F 4=.ptr 2 6 0 0) (h7:F 7=.int .i64 0) :
  pcOut (fin [.cell 4 (some 6),.t 5] (run D 115 [.block 0,.seq t37k0] (.loop t37l0) F H))=some (.tup [eBroker .none ⟨me,near,adv,seen,insE ⟨⟨tc,td⟩,⟨sc,sd⟩,p,frm,U⟩ ent,own⟩,.bool U]):=by
 obtain ⟨f1,k1,k2,k3,k4,k5,k6⟩:=l37 [] H (.int .i64 me) (eL false 1 cInt near) (eL false 4 eAdvert adv) (eL false 2 eID seen) (eL false 3 eOwn own) ent tc td sc sd (ePred p) (.int .i64 frm) (.bool U) (by omega) g0 g1 hlim _ 0 F rfl (by omega) h2 h3 h7
 rw [k1]
 rw [h4]at k4
 clear k1
 have hlow:=lowIdx_le (sgnE ⟨tc,td⟩ ⟨sc,sd⟩) ent
 have v0:¬0=H.n:=by omega
 have v1:¬1=H.n:=by omega
 have v2:¬2=H.n:=by omega
 have v3:¬H.n=0:=by omega
 have v4:¬H.n=1:=by omega
 simp [t37k0,k2,k3,k4,k6,hlow,g0,g1,g2,hlim,wf,v0,v1,v2,v3,v4]
 generalize hA:appendD _ _ _ _ _ _=A
 obtain ⟨i1,K1,rfl,o1,x1,y1,j1⟩:=(OwnI.fresh (lo:=3) (ety:=58) (sz:=7) (xs:=[]) (cap:=some 0) (by omega) hn).append (n:=0) rfl wf.push (by simp;omega) (by simp [hlim]) hA (by simp;omega) (by decide)
 clear hA
 have a0:=x1.get 0 (by decide)
 have a1:=x1.get 1 (by decide)
 have a2:=x1.get 2 (by decide)
 have q1:=x1.lim
 have w1:=x1.wf
 have n1:=x1.le
 have u1:=o1.lo
 have m0:¬0=i1:=by omega
 have m1:¬i1=0:=by omega
 have m2:¬i1=1:=by omega
 have m3:¬1=i1:=by omega
 simp [g0,g1,g2,v0,v1,v2,hlim]at a0 a1 a2 q1 o1
 simp [k2,k3,g0,g1,a0,a1,a2,q1,m0,m1,m2,m3,v3,v4,hlow]
 generalize hA:appendD _ _ _ _ _ _=A
 obtain ⟨i2,K2,rfl,o2,x2,y2,j2⟩:=(o1.push (o:=_)).append (by simp [hlow]) (by simp [w1]) (by simp;omega) (by simp [q1]) hA (by simp;omega) (by decide)
 clear hA
 have b0:=x2.get 0 (by decide)
 have b1:=x2.get 1 (by decide)
 have b2:=x2.get 2 (by decide)
 have q2:=x2.lim
 have w2:=x2.wf
 have n2:=x2.le
 have u2:=o2.lo
 have c0:¬0=K1.n:=by omega
 have c1:¬1=K1.n:=by omega
 have c2:¬2=K1.n:=by omega
 have m4:¬i2=0:=by omega
 have m5:¬i2=1:=by omega
 simp [a0,a1,a2,q1,c0,c1,c2]at b0 b1 b2 q2 o2
 simp [k2,k3,k6,g0,g1,a0,b0,b1,b2,q2,m0,m1,m2,m3,m4,m5,v3,v4,hlow]
 generalize hA:appendD _ _ _ _ _ _=A
 obtain ⟨i3,K3,rfl,o3,x3,y3,j3⟩:=o2.append (by simp [hlow]) w2 n2 (by omega) hA (by simp;omega) (by decide)
 clear hA
 have d0:=x3.get 0 (by decide)
 have d1:=x3.get 1 (by decide)
 have d2:=x3.get 2 (by decide)
 have q3:=x3.lim
 have w3:=x3.wf
 have n3:=x3.le
 have l3:0<K3.n:=by omega
 have l32:2<K3.n:=by omega
 rw [b0]at d0
 rw [b1]at d1
 rw [b2]at d2
 rw [q2]at q3
 have hlen:(List.take (lowIdx (sgnE ⟨tc,td⟩ ⟨sc,sd⟩) ent) (List.map eEntry ent)++DV.agg [.int .i64 tc,.int .i64 td,.int .i64 sc,.int .i64 sd,ePred p,.int .i64 frm,.bool U]::List.drop (lowIdx (sgnE ⟨tc,td⟩ ⟨sc,sd⟩) ent) (List.map eEntry ent))=(insE ⟨⟨tc,td⟩,⟨sc,sd⟩,p,frm,U⟩ ent).map eEntry:=by simp [insE,eEntry]
 simp only [List.append_assoc,List.singleton_append]at o3
 rw [hlen]at o3
 have hmin:min (lowIdx (sgnE ⟨tc,td⟩ ⟨sc,sd⟩) ent) ent.length=lowIdx (sgnE ⟨tc,td⟩ ⟨sc,sd⟩) ent:=by omega
 have hln:(insE ⟨⟨tc,td⟩,⟨sc,sd⟩,p,frm,U⟩ ent).length=lowIdx (sgnE ⟨tc,td⟩ ⟨sc,sd⟩) ent+1+(ent.length-lowIdx (sgnE ⟨tc,td⟩ ⟨sc,sd⟩) ent):=by simp [insE,hmin];omega
 have r4:=fun o o'=>((o3.toR.setLow (o:=o) w3 (by decide) l3).setLow (o:=o') w3.set (by decide) l32).resolve (n:=198) false (fun y _=>(plain_entry y).1) (by decide)
 simp only [List.length_map,hln]at r4
 simp [k2,k3,k4,g0,d0,d1,d2,q3,w3,l3,l32,turn,hmin,v3,v4,m1,m4,r4,resultsOf]
 simp [eBroker,Tags.none]
set_option maxRecDepth 8000 in
theorem s37 (b:Broker) (e:Entry) (hs:Sized b) (hq:AskedP b) (hpo:PredOk e.pred):
  pcF D t37 [eBroker .none b,.agg [.int .i64 e.tree.client,.int .i64 e.tree.seq,.int .i64 e.sub.client,.int .i64 e.sub.seq,ePred e.pred,.int .i64 e.frm,.bool e.up]]=some (.tup [eBroker .none (addB b e).1,.bool (addB b e).2]):=by
 obtain ⟨me,near,adv,seen,ent,own⟩:=b
 obtain ⟨⟨tc,td⟩,⟨sc,sd⟩,p,frm,up⟩:=e
 obtain ⟨z1,z2,z3,z4,z5⟩:=hs
 simp only at z1 z2 z3 z4 z5 hpo
 obtain ⟨R,hR⟩:∃ R,R=DV.tup [eBroker .none (addB ⟨me,near,adv,seen,ent,own⟩ ⟨⟨tc,td⟩,⟨sc,sd⟩,p,frm,up⟩).1,.bool (addB ⟨me,near,adv,seen,ent,own⟩ ⟨⟨tc,td⟩,⟨sc,sd⟩,p,frm,up⟩).2]:=⟨_,rfl⟩
 rw [←hR]
 have hal:adv.length≤1000000:=by omega
 have hel:ent.length≤1000000:=by omega
 have hfi:=find_idx (fun a:Advert=>decide (a.id=⟨tc,td⟩)) adv
 have hfe:=find_idx (isE ⟨tc,td⟩ ⟨sc,sd⟩) ent
 have hany:=find_any (l:=ent) (t:=⟨tc,td⟩) (s:=⟨sc,sd⟩)
 have hEn:=s119 (.int .i64 me) (eL false 1 cInt near) (eL false 4 eAdvert adv) (eL false 2 eID seen) (eL false 3 eOwn own) false ent tc td sc sd hel
 have hCv:=s36 (.int .i64 me) (eL false 1 cInt near) (eL false 4 eAdvert adv) (eL false 2 eID seen) (eL false 3 eOwn own) false ent tc td p hel hpo hq.len
 unfold pcF
 rw [goRun_eq _ _ _ _ (by simp [t37])]
 cases hq1:adv.find? (fun a=>decide (a.id=⟨tc,td⟩)) with
 | none =>
  rw [hq1]at hfi
  simp only at hfi
  have hmay:mayAdd ⟨me,near,adv,seen,ent,own⟩ ⟨⟨tc,td⟩,⟨sc,sd⟩,p,frm,up⟩=false:=by simp [mayAdd,hq1]
  simp [t37,eBroker,Tags.none,e24,s24,hal,hfi,idxOf,turn,resultsOf]
  simp [hR,addB,hmay,eBroker,Tags.none]
 | some a =>
  rw [hq1]at hfi
  simp only at hfi
  obtain ⟨j,hj,hja⟩:=hfi
  have hjn:¬(j:Int)<0:=by omega
  cases hq2:ent.find? (isE ⟨tc,td⟩ ⟨sc,sd⟩) with
  | some e2 =>
   rw [hq2]at hfe hany
   simp only at hfe
   obtain ⟨k,hk,_⟩:=hfe
   rw [hk]at hEn
   have hk0:(0:Int)≤(k:Int):=by omega
   have hmay:mayAdd ⟨me,near,adv,seen,ent,own⟩ ⟨⟨tc,td⟩,⟨sc,sd⟩,p,frm,up⟩=false:=by simp only [mayAdd,hq1,hany];simp [hasO]
   simp [t37,eBroker,Tags.none,e24,s24,hal,hj,hjn,idxOf,e119,hEn,hk0,turn,resultsOf]
   simp [hR,addB,hmay,eBroker,Tags.none]
  | none =>
   rw [hq2]at hfe hany
   simp only at hfe
   rw [hfe]at hEn
   by_cases hfp:frm=a.parent∧¬a.parent=-1
   ·have hmay:mayAdd ⟨me,near,adv,seen,ent,own⟩ ⟨⟨tc,td⟩,⟨sc,sd⟩,p,frm,up⟩=false:=by simp only [mayAdd,hq1,hany];simp [hfp.1,hfp.2]
    have hf1:=hfp.1
    have hf2:=hfp.2
    subst hf1
    simp [t37,eBroker,Tags.none,e24,s24,hal,hj,hjn,hja,eAdvert,idxOf,e119,hEn,hf2,turn,resultsOf]
    simp [hR,addB,hmay,eBroker,Tags.none]
   ·have hmay:mayAdd ⟨me,near,adv,seen,ent,own⟩ ⟨⟨tc,td⟩,⟨sc,sd⟩,p,frm,up⟩=true:=by
     simp only [mayAdd,hq1,hany,hasO]
     by_cases h1:frm=a.parent
     ·have h2:a.parent=-1:=by
       by_cases h2:a.parent=-1
       ·exact h2
       ·exact absurd ⟨h1,h2⟩ hfp
      simp [h2]
     ·simp [h1]
    have hpar:parentOf ⟨me,near,adv,seen,ent,own⟩ ⟨tc,td⟩=a.parent:=by simp [parentOf,hq1]
    have hfin:∀U F H,upOf ⟨me,near,adv,seen,ent,own⟩ ⟨⟨tc,td⟩,⟨sc,sd⟩,p,frm,up⟩=U→H.get 0=some (.arr 29 6 [.agg [.int .i64 me,eL false 1 cInt near,eL false 4 eAdvert adv,eL false 2 eID seen,eL false 7 eEntry ent,eL false 3 eOwn own]] (some 1))→H.get 1=some (.arr 58 7 [.agg [.int .i64 tc,.int .i64 td,.int .i64 sc,.int .i64 sd,ePred p,.int .i64 frm,.bool U]] (some 1)) →
      H.get 2=some (.arr 29 6 [.agg [.int .i64 0,.nsl,.nsl,.nsl,.nsl,.nsl]] (some 1))→H.lim=0→3≤H.n→WF H→F 2=.ptr 0 6 0 0→F 3=.ptr 1 7 0 0→F 4=.ptr 2 6 0 0→F 7=.int .i64 0 →
      pcOut (fin [.cell 4 (some 6),.t 5] (run D 115 [.block 0,.seq t37k0] (.loop t37l0) F H))=some R:=fun U F H u a0 a1 a2 a3 a4 a5 a6 a7 a8 a9=>by
     rw [v37 me near adv seen ent own tc td sc sd p frm U z4 F H a0 a1 a2 a3 a4 a5 a6 a7 a8 a9,hR]
     simp [addB,hmay,u]
    by_cases hpl:a.parent=-1
    ·have hup:upOf ⟨me,near,adv,seen,ent,own⟩ ⟨⟨tc,td⟩,⟨sc,sd⟩,p,frm,up⟩=false:=by simp [upOf,hpar,hpl]
     by_cases hfm:frm=-1
     ·simp [t37,eBroker,Tags.none,e24,s24,hal,hj,hjn,hja,eAdvert,idxOf,e119,hEn,hpl,eq_true hfm,turn]
      refine hfin false _ _ hup ?_ ?_ ?_ ?_ ?_ ?_ ?_ ?_ ?_ ?_<;>simp
     ·simp [t37,eBroker,Tags.none,e24,s24,hal,hj,hjn,hja,eAdvert,idxOf,e119,hEn,hpl,hfm,turn]
      refine hfin false _ _ hup ?_ ?_ ?_ ?_ ?_ ?_ ?_ ?_ ?_ ?_<;>simp
    ·have hfne:¬frm=a.parent:=fun e=>hfp ⟨e,hpl⟩
     cases hC:coveredB ent ⟨tc,td⟩ p with
     | true =>
      rw [hC]at hCv
      have hup:upOf ⟨me,near,adv,seen,ent,own⟩ ⟨⟨tc,td⟩,⟨sc,sd⟩,p,frm,up⟩=false:=by simp [upOf,hC]
      by_cases hfm:frm=-1
      ·simp [t37,eBroker,Tags.none,e24,s24,hal,hj,hjn,hja,eAdvert,idxOf,e119,hEn,hpl,hfne,eq_true hfm,e36,hCv,turn]
       refine hfin false _ _ hup ?_ ?_ ?_ ?_ ?_ ?_ ?_ ?_ ?_ ?_<;>simp
      ·simp [t37,eBroker,Tags.none,e24,s24,hal,hj,hjn,hja,eAdvert,idxOf,e119,hEn,hpl,hfne,hfm,e36,hCv,turn]
       refine hfin false _ _ hup ?_ ?_ ?_ ?_ ?_ ?_ ?_ ?_ ?_ ?_<;>simp
     | false =>
      rw [hC]at hCv
      have hup:upOf ⟨me,near,adv,seen,ent,own⟩ ⟨⟨tc,td⟩,⟨sc,sd⟩,p,frm,up⟩=true:=by simp [upOf,hpar,hpl,hC]
      by_cases hfm:frm=-1
      ·simp [t37,eBroker,Tags.none,e24,s24,hal,hj,hjn,hja,eAdvert,idxOf,e119,hEn,hpl,hfne,eq_true hfm,e36,hCv,turn]
       refine hfin true _ _ hup ?_ ?_ ?_ ?_ ?_ ?_ ?_ ?_ ?_ ?_<;>simp
      ·simp [t37,eBroker,Tags.none,e24,s24,hal,hj,hjn,hja,eAdvert,idxOf,e119,hEn,hpl,hfne,hfm,e36,hCv,turn]
       refine hfin true _ _ hup ?_ ?_ ?_ ?_ ?_ ?_ ?_ ?_ ?_ ?_<;>simp
end Go.Dm.Tc
/-
Two rows of one element type side by side: what is put behind one leaves the other one alone.
-/
namespace Go.Dm.Tc
def NotAt (v:DV) (k:Nat):Prop:=∀sz off len,v≠.sl k sz off len
theorem append_frame {lo:Nat} {h:Heap} {v:DV} {ety sz bytes:Nat} {xs ys:List DV} {A:Option (DV×Heap)} (w:OwnR lo h v ety sz xs) (wf:WF h) (hlo:lo≤h.n) (hlim:h.lim≤h.n) (hA:appendD h ety sz bytes v ys=A)
  (hb:(xs.length+ys.length)*bytes≤140737488355328) (hb1:1≤bytes) :
  ∃ v' h',A=some (v',h')∧OwnR lo h' v' ety sz (xs++ys)∧Ext lo h h'∧(∀k,k<h.n→NotAt v k→h'.get k=h.get k)∧(∀k,k<h.n→NotAt v k→NotAt v' k):=by
 have hm:xs.length+ys.length≤140737488355328:=Nat.le_trans (Nat.le_mul_of_pos_right _ hb1) hb
 by_cases hy:ys=[]
 ·subst hy
  refine ⟨v,h,?_,by simpa using w,.refl hlo wf,fun _ _ _=>rfl,fun _ _ q=>q⟩
  rw [←hA]
  cases w with
  | nil hv hx=>subst hv;rfl
  | arr id sp cap hv hg _ _=>subst hv;rfl
 ·have hye:ys.isEmpty=false:=by cases ys<;>simp_all
  have hyl:0<ys.length:=List.length_pos_iff.2 hy
  cases w with
  | nil hv hx =>
   subst hv;subst hx
   simp only [List.length_nil,Nat.zero_add]at hb hm
   refine ⟨.sl h.n sz 0 ys.length,h.push (.arr ety sz ys none),?_,.arr h.n [] none rfl (by simp [get_push]) (by exact hlim) hlo,(Ext.refl hlo wf).push,fun k hk _=>by rw [get_push,if_neg (by omega)],fun k hk _ sz' off' len' e=>by injection e;omega⟩
   rw [←hA]
   simp only [appendD,hye]
   rw [if_neg (by simp),if_pos ⟨hb,by omega⟩]
  | arr id sp cap hv hg hl hi =>
   subst hv
   have hlt:=get_some_lt hg
   have hne:∀k,NotAt (.sl id sz 0 xs.length) k→k≠id:=fun k q e=>by subst e;exact q _ _ _ rfl
   by_cases hin:xs.length+ys.length≤(xs++sp).length
   ·refine ⟨.sl id sz 0 (xs.length+ys.length),h.set id (.arr ety sz (splice (xs++sp) ys xs.length) cap),?_,.arr id (sp.drop ys.length) cap (by simp) ?_ (by exact hl) hi,(Ext.refl hlo wf).set hi hlt,fun k _ q=>by rw [get_set wf hlt,if_neg (hne k q)],fun k _ q sz' off' len' e=>by injection e with e1;exact hne k q e1.symm⟩
    ·rw [←hA];exact appendD_in hg hin hl hb hb1 hy
    ·rw [get_set wf hlt,if_pos rfl]
     simp only [splice,List.take_left',List.append_assoc]
     congr 3
     rw [List.drop_append]
     simp
   ·cases cap with
    | none =>
     refine ⟨.sl h.n sz 0 (xs.length+ys.length),(h.set id .dead).push (.arr ety sz (xs++ys) none),?_,.arr h.n [] none (by simp) ?_ (by exact hlim) hlo,((Ext.refl hlo wf).set hi hlt).push,fun k hk q=>by rw [get_push,if_neg (by show ¬k=h.n;omega),get_set wf hlt,if_neg (hne k q)],fun k hk _ sz' off' len' e=>by injection e;omega⟩
     ·rw [←hA]
      simp only [appendD,hye,hg]
      simp only [Bool.false_eq_true,if_false,true_and,Nat.zero_add,List.drop_zero]
      rw [if_pos ⟨by simp,hb,by omega⟩,if_neg hin,if_pos hl]
      simp
     ·simpa using get_push_new (h:=h.set id .dead)
    | some c =>
     refine ⟨.sl h.n sz 0 (xs.length+ys.length),h.push (.arr ety sz (xs++ys) none),?_,.arr h.n [] none (by simp) ?_ (by exact hlim) hlo,(Ext.refl hlo wf).push,fun k hk _=>by rw [get_push,if_neg (by omega)],fun k hk _ sz' off' len' e=>by injection e;omega⟩
     ·rw [←hA]
      rw [appendD_new hg (by simp) (by omega) hb hb1 hy]
      simp
     ·simpa using get_push_new (h:=h)
def takeL (tree:ID):List Entry→List Entry→List Entry→List Entry×List Entry
 | done,[],ups=>(done,ups)
 | done,e::r,ups=>if e.tree=tree∧e.up=false∧coveredB (done++e::r) tree e.pred=false then takeL tree (done++[{e with up:=true}]) r (ups++[{e with up:=true}]) else takeL tree (done++[e]) r ups
def takeB (b : Broker) (tree sub : ID) (frm : Int) : Broker × List Entry × Bool :=
  match b.entries.find? (isE tree sub) with
  | none => (b, [], false)
  | some e => if e.frm = frm then
      (if e.up = true then ({ b with entries := (takeL tree [] (b.entries.filter fun x => !isE tree sub x) []).1 }, (takeL tree [] (b.entries.filter fun x => !isE tree sub x) []).2, true)
       else ({ b with entries := b.entries.filter fun x => !isE tree sub x }, [], false))
    else (b, [], false)
end Go.Dm.Tc
/-
What functions of the program compute,part 19: an entry taken out (the loop).
-/
namespace Go.Dm.Tc
theorem own_set {lo:Nat} {h:Heap} {v:DV} {ety sz:Nat} {xs:List DV} (w:OwnR lo h v ety sz xs) (wf:WF h) {id:Nat} {o:DO} (hlt:id<h.n) (na:NotAt v id):OwnR lo (h.set id o) v ety sz xs:=by
 cases w with
 | nil hv hx=>exact .nil hv hx
 | arr k sp cap hv hg hl hi =>
  have hne:¬k=id:=fun e=>by subst e;exact na _ _ _ hv
  exact .arr k sp cap hv (by rw [get_set wf hlt,if_neg hne];exact hg) hl hi
theorem not_low {lo:Nat} {h:Heap} {v:DV} {ety sz:Nat} {xs:List DV} (w:OwnR lo h v ety sz xs) {k:Nat} (hk:k<lo):NotAt v k:=by
 intro a b c e
 cases w with
 | nil hv hx=>rw [hv]at e;cases e
 | arr id sp cap hv hg hl hi=>rw [hv]at e;injection e;omega
end Go.Dm.Tc
/-
What functions of the program compute,part 20: an entry taken out.
-/
namespace Go.Dm.Tc
theorem dropE_at {l:List Entry} (hr:RisingE l) {t s:ID} {i:Nat} {a:Entry} (hi:l[i]?=some a) (ha:isE t s a=true):l.take i++l.drop (i+1)=l.filter fun x=>!isE t s x:=by
 have hlt:i<l.length:=by
  by_cases h:i<l.length
  ·exact h
  ·rw [List.getElem?_eq_none (by omega)]at hi;cases hi
 have hia:l[i]=a:=by rw [List.getElem?_eq_getElem hlt]at hi;exact Option.some.inj hi
 have ha':a.tree=t∧a.sub=s:=by simpa [isE] using ha
 have h0:sgnE t s a=0:=sgnE_eq.2 ha'
 have hne:∀j (hj:j<l.length),j≠i→isE t s l[j]=false:=by
  intro j hj hji
  cases he:isE t s l[j] with
  | false=>rfl
  | true =>
   have he':l[j].tree=t∧l[j].sub=s:=by simpa [isE] using he
   rcases Nat.lt_or_gt_of_ne hji with h|h
   ·have:=List.pairwise_iff_getElem.1 hr j i hj hlt h
    rw [hia,ha'.1,ha'.2,sgnE_eq.2 he']at this
    omega
   ·have:=List.pairwise_iff_getElem.1 hr i j hlt hj h
    rw [hia,he'.1,he'.2,h0]at this
    omega
 have h1:(l.take i).filter (fun x=>!isE t s x)=l.take i:=by
  rw [List.filter_eq_self]
  intro y hy
  obtain ⟨j,hj,rfl⟩:=List.mem_iff_getElem.1 hy
  rw [List.length_take]at hj
  have:=hne j (by omega) (by omega)
  simpa using this
 have h2:(l.drop (i+1)).filter (fun x=>!isE t s x)=l.drop (i+1):=by
  rw [List.filter_eq_self]
  intro y hy
  obtain ⟨j,hj,rfl⟩:=List.mem_iff_getElem.1 hy
  rw [List.length_drop]at hj
  have:=hne (i+1+j) (by omega) (by omega)
  simpa using this
 have h3:(l.drop i).filter (fun x=>!isE t s x)=l.drop (i+1):=by
  rw [List.drop_eq_getElem_cons hlt,List.filter_cons,hia,ha,h2];simp
 calc l.take i++l.drop (i+1)=(l.take i++l.drop i).filter (fun x=>!isE t s x):=by rw [List.filter_append,h1,h3]
  _=_:=by rw [List.take_append_drop]
end Go.Dm.Tc
/-
What the reference's functions compute,part 8: an entry taken out (the loop).
-/
namespace Go.Dm.Tc
theorem not_high {lo:Nat} {h:Heap} {v:DV} {ety sz:Nat} {xs:List DV} (w:OwnR lo h v ety sz xs) {k:Nat} (hk:h.n≤k):NotAt v k:=by
 intro a b c e
 cases w with
 | nil hv hx=>rw [hv]at e;cases e
 | arr id sp cap hv hg hl hi=>rw [hv]at e;injection e with e1;have:=get_some_lt hg;omega
set_option maxRecDepth 8000 in
set_option maxHeartbeats 3200000 in
theorem l38 (S:List Fr) (me:Int) (near:List Int) (adv:List Advert) (seen:List ID) (own:List OwnS) (tc td:Int) (n:Nat) (zb:DO) :
  ∀(rest done ups:List Entry) (i4:Nat) (f:FEnv) (h:Heap),done.length+rest.length=n→n≤100000→ups.length≤done.length→(∀e∈done++rest,PredOk e.pred) →
   f 4=.ptr 0 6 0 0→f 5=.ptr 1 2 0 0→f 8=.ptr 3 6 0 0→f 57=.int .i64 n→f 58=.int .i64 done.length →
   h.get 0=some (.arr 29 6 [.agg [.int .i64 me,eL false 1 cInt near,eL false 4 eAdvert adv,eL false 2 eID seen,.sl i4 7 0 n,eL false 3 eOwn own]] (some 1))→h.get 1=some (.arr 37 2 [.agg [.int .i64 tc,.int .i64 td]] (some 1))→h.get 3=some zb →
   OwnI 4 h i4 58 7 ((done++rest).map eEntry)→OwnR 4 h (f 13) 58 7 (ups.map eEntry)→NotAt (f 13) i4→h.lim=0→4≤h.n→WF h →
  ∃ i5 f' h',run D 104 (.block 0::.seq t38k0::S) (.loop t38l0) f h=run D 104 S t38k0 f' h'∧f' 4=.ptr 0 6 0 0∧f' 8=.ptr 3 6 0 0 ∧
   h'.get 0=some (.arr 29 6 [.agg [.int .i64 me,eL false 1 cInt near,eL false 4 eAdvert adv,eL false 2 eID seen,.sl i5 7 0 n,eL false 3 eOwn own]] (some 1))∧h'.get 3=some zb ∧
   OwnI 4 h' i5 58 7 ((takeL ⟨tc,td⟩ done rest ups).1.map eEntry)∧OwnR 4 h' (f' 13) 58 7 ((takeL ⟨tc,td⟩ done rest ups).2.map eEntry)∧(takeL ⟨tc,td⟩ done rest ups).1.length=n∧h'.lim=0∧4≤h'.n∧WF h':=by
 intro rest
 induction rest with
 | nil =>
  intro done ups i4 f h hn hn1 hu hp h4 h5 h8 h57 h58 g0 g1 g3 o4 o9 na hlim hn4 wf
  have:¬(done.length<n):=by simp at hn;omega
  rw [run_loop_of t38l0.eq_1]
  simp [h57,h58,this]
  refine ⟨i4,_,_,rfl,by simp [h4],by simp [h8],g0,g3,?_,?_,?_,hlim,hn4,wf⟩
  ·simpa [takeL] using o4
  ·simpa [takeL] using o9
  ·simpa [takeL] using hn
 | cons e rest ih =>
  intro done ups i4 f h hn hn1 hu hp h4 h5 h8 h57 h58 g0 g1 g3 o4 o9 na hlim hn4 wf
  have hlt:done.length<n:=by simp at hn;omega
  have hid:=o4.lt
  have hlo:=o4.lo
  have hL:(done++e::rest).length=n:=by simp at hn ⊢;omega
  have o4':=o4
  obtain ⟨⟨sp,cap,g4⟩,hl4,_⟩:=o4
  have hw:IntKind.i64.wrap ((done.length:Int)+1)=(done.length:Int)+1:=wrap64 (by omega) (by omega)
  have n0:¬0=h.n:=by omega
  have n1:¬1=h.n:=by omega
  have n3:¬3=h.n:=by omega
  have n4:¬i4=h.n:=by omega
  have m0:¬h.n=0:=by omega
  have m1:¬h.n=1:=by omega
  have i0:¬0=i4:=by omega
  have i1:¬1=i4:=by omega
  have i3:¬3=i4:=by omega
  have j0:¬i4=0:=by omega
  have j1:¬i4=1:=by omega
  have hia:∀i,indexAddrV 7 (.sl i 7 0 n) (.int .i64 (done.length:Int))=some (.ptr i 7 done.length 0):=fun i=>by simp [indexAddrV,asI,hlt]
  have hel:(List.map eEntry (done++e::rest)++sp)[done.length]?=some (eEntry e):=by
   rw [List.getElem?_append_left (by simp),List.getElem?_map,List.getElem?_append_right (Nat.le_refl _)];simp
  have hpe:=hp e (by simp)
  have hCv:=s36 (.int .i64 me) (eL false 1 cInt near) (eL false 4 eAdvert adv) (eL false 2 eID seen) (eL false 3 eOwn own) true (done++e::rest) tc td e.pred (by omega) hpe (fun x hx=>Nat.le_trans (hp x hx).len (by decide))
  have r4:∀o,resolve true (h.push o) 199 (.sl i4 7 0 n)=some (eL true 7 eEntry (done++e::rest)):=fun o=>by
   have:=(o4'.toR.push (o:=o)).resolve (n:=199) true (fun y _=>(plain_entry y).1) (by decide)
   rw [List.length_map,hL]at this
   exact this
  simp only [eEntry]at hel
  have hstep:∀F o,takeL ⟨tc,td⟩ done (e::rest) ups=takeL ⟨tc,td⟩ (done++[e]) rest ups→F 4=.ptr 0 6 0 0→F 5=.ptr 1 2 0 0→F 8=.ptr 3 6 0 0→F 57=.int .i64 n→F 58=.int .i64 ((done.length:Int)+1)→F 13=f 13 →
    ∃ i5 f' h',run D 104 (.block 0::.seq t38k0::S) (.loop t38l0) F (h.push o)=run D 104 S t38k0 f' h'∧f' 4=.ptr 0 6 0 0∧f' 8=.ptr 3 6 0 0 ∧
   h'.get 0=some (.arr 29 6 [.agg [.int .i64 me,eL false 1 cInt near,eL false 4 eAdvert adv,eL false 2 eID seen,.sl i5 7 0 n,eL false 3 eOwn own]] (some 1))∧h'.get 3=some zb ∧
   OwnI 4 h' i5 58 7 ((takeL ⟨tc,td⟩ done (e::rest) ups).1.map eEntry)∧OwnR 4 h' (f' 13) 58 7 ((takeL ⟨tc,td⟩ done (e::rest) ups).2.map eEntry)∧(takeL ⟨tc,td⟩ done (e::rest) ups).1.length=n∧h'.lim=0∧4≤h'.n∧WF h':=by
   intro F o ht a4 a5 a8 a57 a58 a9
   rw [ht]
   refine ih (done++[e]) ups i4 F _ (by simp at hn ⊢;omega) hn1 (by simp;omega) (by simpa using hp) a4 a5 a8 a57 (by rw [a58];simp) ?_ ?_ ?_ ?_ ?_ ?_ hlim (by show 4≤h.n+1;omega) wf.push
   ·rw [get_push,if_neg n0];exact g0
   ·rw [get_push,if_neg n1];exact g1
   ·rw [get_push,if_neg n3];exact g3
   ·have:=o4'.push (o:=o)
    simpa using this
   ·rw [a9];exact o9.push
   ·rw [a9];exact na
  rw [run_loop_of t38l0.eq_1]
  by_cases ht:e.tree=⟨tc,td⟩
  ·have hc1:e.tree.client=tc:=by rw [ht]
   have hc2:e.tree.seq=td:=by rw [ht]
   cases hup:e.up with
   | true =>
    have hno:takeL ⟨tc,td⟩ done (e::rest) ups=takeL ⟨tc,td⟩ (done++[e]) rest ups:=by simp [takeL,hup]
    simp [h4,h5,h57,h58,hlt,hia,g4,hel,eEntry,hlim,n0,n1,n4,m0,m1,g0,g1,hc1,hc2,hup,hw]
    generalize hF:upd _ 58 _=F
    exact hstep F _ hno (by rw [←hF];simp [h4]) (by rw [←hF];simp [h5]) (by rw [←hF];simp [h8]) (by rw [←hF];simp [h57]) (by rw [←hF];simp) (by rw [←hF];simp)
   | false =>
    cases hC:coveredB (done++e::rest) ⟨tc,td⟩ e.pred with
    | true =>
     rw [hC]at hCv
     have hno:takeL ⟨tc,td⟩ done (e::rest) ups=takeL ⟨tc,td⟩ (done++[e]) rest ups:=by simp only [takeL];rw [if_neg];rw [hC];simp
     simp [h4,h5,h57,h58,hlt,hia,g4,hel,eEntry,hlim,n0,n1,n4,m0,m1,g0,g1,hc1,hc2,hup,hw,-res_sl_eq,r4,e36,hCv]
     generalize hF:upd _ 58 _=F
     exact hstep F _ hno (by rw [←hF];simp [h4]) (by rw [←hF];simp [h5]) (by rw [←hF];simp [h8]) (by rw [←hF];simp [h57]) (by rw [←hF];simp) (by rw [←hF];simp)
    | false =>
     rw [hC]at hCv
     have hyes:takeL ⟨tc,td⟩ done (e::rest) ups=takeL ⟨tc,td⟩ (done++[{e with up:=true}]) rest (ups++[{e with up:=true}]):=by simp only [takeL];rw [if_pos ⟨ht,hup,hC⟩]
     have n41:¬i4=h.n+1:=by omega
     have hele:elemsO 7 7 0 n (some (.arr 58 7 (List.map eEntry done++DV.agg [.int .i64 tc,.int .i64 td,.int .i64 e.sub.client,.int .i64 e.sub.seq,ePred e.pred,.int .i64 e.frm,.bool false]::(List.map eEntry rest++sp)) cap))=some (List.map eEntry (done++e::rest)):=by
      have hl:(List.map eEntry (done++e::rest)).length=n:=by simpa using hL
      have hll:List.map eEntry done++DV.agg [.int .i64 tc,.int .i64 td,.int .i64 e.sub.client,.int .i64 e.sub.seq,ePred e.pred,.int .i64 e.frm,.bool false]::(List.map eEntry rest++sp)=List.map eEntry (done++e::rest)++sp:=by simp [eEntry,hc1,hc2,hup]
      rw [hll,elemsO_some,if_pos ⟨rfl,rfl,by simp at hl ⊢;omega⟩,List.drop_zero,List.take_left' hl]
     simp [h4,h5,h57,h58,hlt,hia,g4,hel,eEntry,hlim,n0,n1,n4,n41,m0,m1,i0,i1,i3,j0,j1,g0,g1,hc1,hc2,hup,hw,-res_sl_eq,r4,e36,hCv,hl4,hid,wf,turn,-elemsO_some,hele]
     generalize hA:appendD _ _ _ _ _ _=A
     obtain ⟨v5,K1,rfl,o5,x5,_,_⟩:=append_frame (lo:=h.n+1) (xs:=[]) (.arr (h.n+1) [] (some 0) rfl (by simp) (by simp [hlim]) (Nat.le_refl _)) (by simp [wf]) (by simp) (by simp [hlim]) hA (by simp;simp at hL;omega) (by decide)
     clear hA
     have hlow5:∀k,k<h.n→K1.get k=h.get k:=fun k hk=>by
      rw [x5.get k (by omega)]
      have a1:¬k=h.n+1:=by omega
      have a2:¬k=h.n:=by omega
      simp [a1,a2]
     have hn5:=x5.le
     have wf5:=x5.wf
     have lim5:K1.lim=0:=by rw [x5.lim];simp [hlim]
     have o9k:OwnR 4 K1 (f 13) 58 7 (ups.map eEntry):=o9.ext ⟨by omega,by rw [lim5,hlim],hlow5,wf5⟩
     cases o5 with
     | nil hv hx=>simp at hx
     | arr i5 sp5 cap5 hv hg5 hl5 hi5 =>
      have na5:NotAt (f 13) i5:=not_high o9 (by omega)
      have hid5:=get_some_lt hg5
      subst hv
      have b0:=(hlow5 0 (by omega)).trans g0
      have b1:=(hlow5 1 (by omega)).trans g1
      have b3:=(hlow5 3 (by omega)).trans g3
      have hln5:(([]:List DV)++(List.map eEntry done++DV.agg [.int .i64 tc,.int .i64 td,.int .i64 e.sub.client,.int .i64 e.sub.seq,ePred e.pred,.int .i64 e.frm,.bool false]::List.map eEntry rest)).length=n:=by simp;simpa using hL
      rw [hln5]
      rw [List.nil_append]at hg5
      have k50:¬i5=0:=by omega
      have k05:¬0=i5:=by omega
      have l05:0<K1.n:=by omega
      have hli5:K1.lim≤i5:=hl5
      have hel5:(List.map eEntry done++DV.agg [.int .i64 tc,.int .i64 td,.int .i64 e.sub.client,.int .i64 e.sub.seq,ePred e.pred,.int .i64 e.frm,.bool false]::List.map eEntry rest++sp5)[done.length]?=some (DV.agg [.int .i64 tc,.int .i64 td,.int .i64 e.sub.client,.int .i64 e.sub.seq,ePred e.pred,.int .i64 e.frm,.bool false]):=by
       rw [List.append_assoc,List.getElem?_append_right (by simp)];simp
      simp [h4,h58,b0,lim5,wf5,l05,hia,hg5,k50,k05,hid5,hli5,hel5,turn]
      generalize hA:appendD _ _ _ _ _ _=A
      obtain ⟨v',h',rfl,o9',x9,fr9,na9⟩:=append_frame ((own_set (own_set o9k wf5 l05 (not_low o9k (by decide))) wf5.set hid5 na5).push) (by simp [wf5]) (by simp;omega) (by simp [lim5]) hA (by simp;omega) (by decide)
      clear hA
      have y0:=fr9 0 (by simp) (not_low o9k (by decide))
      have y1:=fr9 1 (by simp;omega) (not_low o9k (by decide))
      have y3:=fr9 3 (by simp;omega) (not_low o9k (by decide))
      have y4:=fr9 i5 (by simp;omega) na5
      have ny:=na9 i5 (by simp;omega) na5
      have yl:=x9.lim
      have yw:=x9.wf
      have yn:=x9.le
      have e0:¬0=K1.n:=by omega
      have e1:¬1=K1.n:=by omega
      have e3:¬3=K1.n:=by omega
      have e5:¬i5=K1.n:=by omega
      have d1:¬1=i5:=by omega
      have d3:¬3=i5:=by omega
      simp [wf5,hid5,l05,e0,e1,e3,e5,k50,k05,d1,d3,b0,b1,b3,lim5]at y0 y1 y3 y4 yl
      simp [h58,hw]
      generalize hF:upd _ 58 _=F
      rw [hyes]
      refine ih (done++[{e with up:=true}]) (ups++[{e with up:=true}]) i5 F h' (by simp at hn ⊢;omega) hn1 (by simp;omega) ?_ ?_ ?_ ?_ ?_ ?_ y0 y1 y3 ⟨⟨sp5,cap5,?_⟩,?_,by omega⟩ ?_ ?_ yl yn yw
      ·intro x hx
       simp only [List.append_assoc,List.singleton_append,List.mem_append,List.mem_cons]at hx
       rcases hx with hx|rfl|hx
       ·exact hp x (by simp [hx])
       ·exact hpe
       ·exact hp x (by simp [hx])
      ·rw [←hF];simp [h4]
      ·rw [←hF];simp [h5]
      ·rw [←hF];simp [h8]
      ·rw [←hF];simp [h57]
      ·rw [←hF];simp
      ·rw [y4];simp [eEntry,hc1,hc2]
      ·rw [yl];exact Nat.zero_le _
      ·rw [←hF];simp;simpa [eEntry,hc1,hc2] using o9'
      ·rw [←hF];simp;exact ny
  ·have h1':=id_ne ht
   simp only at h1'
   have hno:takeL ⟨tc,td⟩ done (e::rest) ups=takeL ⟨tc,td⟩ (done++[e]) rest ups:=by simp [takeL,ht]
   simp [h4,h5,h57,h58,hlt,hia,g4,hel,eEntry,hlim,n0,n1,n4,m0,m1,g0,g1,h1',hw]
   generalize hF:upd _ 58 _=F
   exact hstep F _ hno (by rw [←hF];simp [h4]) (by rw [←hF];simp [h5]) (by rw [←hF];simp [h8]) (by rw [←hF];simp [h57]) (by rw [←hF];simp) (by rw [←hF];simp)
end Go.Dm.Tc
/-
What the reference's functions compute,part 9: an entry taken out.
-/
namespace Go.Dm.Tc
set_option maxRecDepth 8000 in
set_option maxHeartbeats 1600000 in
theorem s38 (b:Broker) (tc td sc sd frm:Int) (hs:Sized b) (hq:∀e∈b.entries,PredOk e.pred) (re:RisingE b.entries) :
  pcF D t38 [eBroker .none b,.agg [.int .i64 tc,.int .i64 td],.agg [.int .i64 sc,.int .i64 sd],.int .i64 frm]=some (.tup [eBroker .none (takeB b ⟨tc,td⟩ ⟨sc,sd⟩ frm).1,eL false 7 eEntry (takeB b ⟨tc,td⟩ ⟨sc,sd⟩ frm).2.1,.bool (takeB b ⟨tc,td⟩ ⟨sc,sd⟩ frm).2.2]):=by
 obtain ⟨me,near,adv,seen,ent,own⟩:=b
 obtain ⟨z1,z2,z3,z4,z5⟩:=hs
 simp only at z1 z2 z3 z4 z5 re hq
 obtain ⟨R,hR⟩:∃ R,R=DV.tup [eBroker .none (takeB ⟨me,near,adv,seen,ent,own⟩ ⟨tc,td⟩ ⟨sc,sd⟩ frm).1,eL false 7 eEntry (takeB ⟨me,near,adv,seen,ent,own⟩ ⟨tc,td⟩ ⟨sc,sd⟩ frm).2.1,.bool (takeB ⟨me,near,adv,seen,ent,own⟩ ⟨tc,td⟩ ⟨sc,sd⟩ frm).2.2]:=⟨_,rfl⟩
 rw [←hR]
 have hel:ent.length≤1000000:=by omega
 have hEn:=s119 (.int .i64 me) (eL false 1 cInt near) (eL false 4 eAdvert adv) (eL false 2 eID seen) (eL false 3 eOwn own) false ent tc td sc sd hel
 have hfe:=find_idx (isE ⟨tc,td⟩ ⟨sc,sd⟩) ent
 unfold pcF
 rw [goRun_eq _ _ _ _ (by simp [t38])]
 cases hq2:ent.find? (isE ⟨tc,td⟩ ⟨sc,sd⟩) with
 | none =>
  rw [hq2]at hfe
  simp only at hfe
  rw [hfe]at hEn
  have htk:takeB ⟨me,near,adv,seen,ent,own⟩ ⟨tc,td⟩ ⟨sc,sd⟩ frm=(⟨me,near,adv,seen,ent,own⟩,[],false):=by simp [takeB,hq2]
  simp [t38,eBroker,Tags.none,e119,hEn,idxOf,turn,resultsOf]
  simp [hR,htk,eBroker,Tags.none,eL_nil]
 | some e =>
  rw [hq2]at hfe
  simp only at hfe
  obtain ⟨i,hi,hh2⟩:=hfe
  rw [hi]at hEn
  have hneg:¬(i:Int)<0:=by omega
  have hilt:i<ent.length:=by
   by_cases h:i<ent.length
   ·exact h
   ·rw [List.getElem?_eq_none (by omega)]at hh2;cases hh2
  have hw:IntKind.i64.wrap ((i:Int)+1)=(i:Int)+1:=wrap64 (by omega) (by omega)
  have hil:i≤ent.length:=Nat.le_of_lt hilt
  by_cases hfr:e.frm=frm
  ·have hdr:=dropE_at re hh2 (List.find?_some hq2)
   obtain ⟨fl,hfl⟩:∃ fl,(ent.filter fun x=>!isE ⟨tc,td⟩ ⟨sc,sd⟩ x)=fl:=⟨_,rfl⟩
   rw [hfl]at hdr
   simp [t38,eBroker,Tags.none,e119,hEn,hneg,idxOf,hh2,eEntry,eq_true hfr,hil,hw,turn]
   generalize hA:appendD _ _ _ _ _ _=A
   obtain ⟨i1,K1,rfl,o1,x1,y1,j1⟩:=(OwnI.fresh (lo:=4) (ety:=58) (sz:=7) (xs:=[]) (cap:=some 0) (by simp) (by simp)).append (n:=0) rfl (by simp) (by simp) (by simp) hA (by simp;omega) (by decide)
   clear hA
   have a0:=x1.get 0 (by decide)
   have a1:=x1.get 1 (by decide)
   have a3:=x1.get 3 (by decide)
   have q1:=x1.lim
   have w1:=x1.wf
   have n1:=x1.le
   have u1:=o1.lo
   have m0:¬0=i1:=by omega
   have m1:¬i1=0:=by omega
   have m2:¬i1=1:=by omega
   have m3:¬1=i1:=by omega
   simp at a0 a1 a3 q1 o1
   simp [a0,a1,a3,q1,m0,m1,m2,m3,hil,hw,hilt,Nat.succ_le_of_lt hilt]
   generalize hA:appendD _ _ _ _ _ _=A
   obtain ⟨i2,K2,rfl,o2,x2,y2,j2⟩:=o1.append (by simp [hil]) w1 n1 (by omega) hA (by simp;omega) (by decide)
   clear hA
   have b0:=x2.get 0 (by decide)
   have b1:=x2.get 1 (by decide)
   have b3:=x2.get 3 (by decide)
   have q2:=x2.lim
   have w2:=x2.wf
   have n2:=x2.le
   have u2:=o2.lo
   rw [a0]at b0
   rw [a1]at b1
   rw [a3]at b3
   rw [q1]at q2
   have l2:0<K2.n:=by omega
   have l23:3<K2.n:=by omega
   have hlen:(List.take i (List.map eEntry ent)++List.drop (i+1) (List.map eEntry ent))=fl.map eEntry:=by rw [←hdr];simp
   rw [hlen]at o2
   have hlw:fl.length=i+(ent.length-(i+1)):=by rw [←hdr];simp [Nat.min_eq_left hil]
   have hmn:min i ent.length+(ent.length-(i+1))=fl.length:=by rw [hlw,Nat.min_eq_left hil]
   have hfln:fl.length≤100000:=by rw [←hfl];exact Nat.le_trans (List.length_filter_le ..) z4
   have hflp:∀x∈fl,PredOk x.pred:=fun x hx=>hq x (by rw [←hfl]at hx;exact (List.mem_filter.1 hx).1)
   have hmn2:i+(ent.length-(i+1))=fl.length:=hlw.symm
   have r4:=fun o o'=>((o2.toR.setLow (o:=o) w2 (by decide) l2).setLow (o:=o') w2.set (by decide) l23).resolve (n:=198) false (fun y _=>(plain_entry y).1) (by decide)
   simp only [List.length_map]at r4
   cases hup:e.up with
   | false =>
    have htk:takeB ⟨me,near,adv,seen,ent,own⟩ ⟨tc,td⟩ ⟨sc,sd⟩ frm=(⟨me,near,adv,seen,fl,own⟩,[],false):=by simp [takeB,hq2,hfr,hup,hfl]
    simp [b0,b3,q2,w2,l2,l23,hup,hmn,hmn2,Nat.min_eq_left hil,-res_sl_eq,r4,turn,resultsOf]
    simp [hR,htk,eBroker,Tags.none,eL_nil]
   | true =>
    have htk:takeB ⟨me,near,adv,seen,ent,own⟩ ⟨tc,td⟩ ⟨sc,sd⟩ frm=(⟨me,near,adv,seen,(takeL ⟨tc,td⟩ [] fl []).1,own⟩,(takeL ⟨tc,td⟩ [] fl []).2,true):=by simp [takeB,hq2,hfr,hup,hfl]
    simp [b0,b3,q2,w2,l2,l23,hup,hmn,hmn2,Nat.min_eq_left hil,turn]
    generalize hF:upd _ 58 _=F
    have j2:¬i2=0:=by omega
    have o3:OwnI 4 (K2.set 0 (.arr 29 6 [.agg [.int .i64 me,eL false 1 cInt near,eL false 4 eAdvert adv,eL false 2 eID seen,.sl i2 7 0 fl.length,eL false 3 eOwn own]] (some 1))) i2 58 7 (fl.map eEntry):=o2.setLow w2 (by decide) l2
    obtain ⟨i5,f1,K4,k1,k2,k3,c0,c3,o5,o9,hln4,q4,n4,w4⟩:=l38 [] me near adv seen own tc td fl.length (.arr 29 6 [.agg [.int .i64 0,.nsl,.nsl,.nsl,.nsl,.nsl]] (some 1)) fl [] [] i2 F _ (by simp) hfln (by simp) (by simpa using hflp) (by rw [←hF];simp) (by rw [←hF];simp) (by rw [←hF];simp) (by rw [←hF];simp) (by rw [←hF];simp)
     (by simp [w2,l2]) (by simp [w2,l2,b1]) (by simp [w2,l2,b3]) o3 (by rw [←hF];simp;exact .nil rfl rfl) (by rw [←hF];simp;intro a b c e;cases e) q2 (by exact n2) w2.set
    rw [k1]
    clear hF k1
    have y0:0<K4.n:=by omega
    have y3:3<K4.n:=by omega
    have s5:=fun o'=>(o5.toR.setLow (o:=o') w4 (by decide) y3).resolve (n:=198) false (fun y _=>(plain_entry y).1) (by decide)
    have s9:=fun o'=>(o9.setLow (o:=o') w4 (by decide) y3).resolve (n:=199) false (fun y _=>(plain_entry y).1) (by decide)
    simp only [List.length_map,hln4]at s5
    simp [t38k0,k2,k3,c0,c3,q4,w4,y3,turn,-res_sl_eq,s5,s9,resultsOf]
    simp [hR,htk,eBroker,Tags.none]
  ·have htk:takeB ⟨me,near,adv,seen,ent,own⟩ ⟨tc,td⟩ ⟨sc,sd⟩ frm=(⟨me,near,adv,seen,ent,own⟩,[],false):=by simp [takeB,hq2,hfr]
   simp [t38,eBroker,Tags.none,e119,hEn,hneg,idxOf,hh2,eEntry,hfr,turn,resultsOf]
   simp [hR,htk,eBroker,Tags.none,eL_nil,eEntry]
end Go.Dm.Tc
/-
What every broker keeps that calls made: plain laws (learned,forgotten,added,taken out).
-/
namespace Go.Dm.Tc
theorem find_key {α:Type} (key:α→ID) {l:List α} (h:Rising (l.map key)) (x:ID) (a:α):l.find? (fun b=>decide (key b=x))=some a↔a∈l∧key a=x:=by
 constructor
 ·intro hf
  exact ⟨List.mem_of_find?_eq_some hf,by simpa using List.find?_some hf⟩
 ·rintro ⟨hm,hk⟩
  cases hf:l.find? (fun b=>decide (key b=x)) with
  | none=>exact absurd hk (by have:=List.find?_eq_none.1 hf a hm;simpa using this)
  | some b =>
   have hb:=List.mem_of_find?_eq_some hf
   have hkb:key b=x:=by simpa using List.find?_some hf
   have:b=a:=by
    by_cases e:b=a
    ·exact e
    ·exfalso
     unfold Rising at h
     rw [List.pairwise_map]at h
     obtain ⟨i,hi,rfl⟩:=List.mem_iff_getElem.1 hb
     obtain ⟨j,hj,rfl⟩:=List.mem_iff_getElem.1 hm
     rcases Nat.lt_trichotomy i j with hlt|he|hlt
     ·have:=List.pairwise_iff_getElem.1 h i j hi hj hlt
      rw [hkb,hk,cmpID_lt]at this;omega
     ·subst he;exact e rfl
     ·have:=List.pairwise_iff_getElem.1 h j i hj hi hlt
      rw [hkb,hk,cmpID_lt]at this;omega
   rw [this]
theorem find_key_none {α:Type} (key:α→ID) {l:List α} (x:ID):l.find? (fun b=>decide (key b=x))=none↔∀a∈l,key a≠x:=by
 rw [List.find?_eq_none]
 exact ⟨fun h a ha=>by simpa using h a ha,fun h a ha=>by simpa using h a ha⟩
theorem advOf_some {b:Broker} (h:Rising (b.adverts.map (·.id))) {x:ID} {a:Advert}:advOf b x=some a↔a∈b.adverts∧a.id=x:=find_key (fun a:Advert=>a.id) h x a
theorem advOf_none {b:Broker} {x:ID}:advOf b x=none↔∀a∈b.adverts,a.id≠x:=find_key_none (fun a:Advert=>a.id) x
theorem parentOf_eq (b:Broker) (x:ID):parentOf b x=((advOf b x).getD advZero).parent:=rfl
theorem coveredB_iff {l:List Entry} {t:ID} {p:Pred}:coveredB l t p=true↔∃ e∈l,e.tree=t∧e.up=true∧coversP e.pred p=true:=by
 unfold coveredB ofT
 rw [List.any_eq_true]
 constructor
 ·rintro ⟨e,he,h⟩
  have:=List.mem_filter.1 he
  rw [Bool.and_eq_true]at h
  exact ⟨e,this.1,by simpa using this.2,h.1,h.2⟩
 ·rintro ⟨e,he,h1,h2,h3⟩
  exact ⟨e,List.mem_filter.2 ⟨he,by simpa using h1⟩,by rw [h2,h3];rfl⟩
theorem insE_mem {e x:Entry} {l:List Entry}:x∈insE e l↔x=e∨x∈l:=by
 unfold insE
 rw [List.mem_append,List.mem_cons]
 constructor
 ·rintro (h|h|h)
  ·exact .inr (List.mem_of_mem_take h)
  ·exact .inl h
  ·exact .inr (List.mem_of_mem_drop h)
 ·rintro (h|h)
  ·exact .inr (.inl h)
  ·rw [←List.take_append_drop (lowIdx (sgnE e.tree e.sub) l) l,List.mem_append]at h
   exact h.elim .inl fun h=>.inr (.inr h)
theorem insE_len (e:Entry) (l:List Entry):(insE e l).length=l.length+1:=by
 unfold insE
 rw [List.length_append,List.length_cons,List.length_take,List.length_drop]
 have:=lowIdx_le (sgnE e.tree e.sub) l
 omega
theorem sgnE_gt {t s:ID} {a:Entry} (h1:¬sgnE t s a<0) (h2:¬(a.tree=t∧a.sub=s)) (e:Entry) (he:e.tree=t) (he2:e.sub=s):sgnE a.tree a.sub e<0:=by
 rw [sgnE_lt,ltID_iff,ltID_iff]at *
 rw [he,he2]
 rw [ID.ext',ID.ext']at h2
 rw [ID.ext']at *
 omega
theorem insE_rising {e:Entry} {l:List Entry} (h:RisingE l) (hn:∀x∈l,isE e.tree e.sub x=false):RisingE (insE e l):=by
 unfold RisingE insE
 rw [List.pairwise_append,List.pairwise_cons]
 generalize hk:lowIdx (sgnE e.tree e.sub) l=k
 have hlow:∀b∈l.take k,sgnE e.tree e.sub b<0:=by
  intro b hb
  obtain ⟨i,hi,rfl⟩:=List.mem_iff_getElem.1 hb
  rw [List.getElem_take]
  rw [List.length_take]at hi
  have:=List.not_of_lt_findIdx (p:=fun x=>!decide (sgnE e.tree e.sub x<0)) (xs:=l) (i:=i) (by unfold lowIdx at hk;omega)
  simpa using this
 have hhigh:∀b∈l.drop k,sgnE b.tree b.sub e<0:=by
  intro b hb
  obtain ⟨i,hi,rfl⟩:=List.mem_iff_getElem.1 hb
  rw [List.length_drop]at hi
  rw [List.getElem_drop]
  have hkl:k<l.length:=by omega
  have h1:¬sgnE e.tree e.sub l[k]<0:=by
   have:=List.findIdx_getElem (p:=fun x=>!decide (sgnE e.tree e.sub x<0)) (xs:=l) (w:=by unfold lowIdx at hk;omega)
   have hk':List.findIdx (fun x=>!decide (sgnE e.tree e.sub x<0)) l=k:=hk
   simp only [hk']at this
   simpa using this
  have h2:¬sgnE e.tree e.sub l[k+i]<0:=fun hc=>h1 (monoE h _ _ k (k+i) hkl (by omega) (by omega) hc)
  refine sgnE_gt h2 ?_ e rfl rfl
  have:=hn l[k+i] (List.getElem_mem _)
  simpa [isE] using this
 refine ⟨h.sublist (List.take_sublist ..),⟨fun b hb=>hhigh b hb,h.sublist (List.drop_sublist ..)⟩,?_⟩
 intro x hx y hy
 rcases List.mem_cons.1 hy with rfl|hy
 ·exact hlow x hx
 ·exact sgnE_trans (hlow x hx) (by have:=hhigh y hy;omega)
structure InvK (b:Broker):Prop where
 near:risesB (fun x y=>decide (x<y)) b.near=true
 loc:∀x∈b.near,0≤x
 ra:Rising (b.adverts.map (·.id))
 rs:Rising b.seen
 ro:Rising (b.owns.map (·.id))
 re:RisingE b.entries
 sub:∀a∈b.adverts,a.id∈b.seen
 par:∀a∈b.adverts,linkB b a.parent=true
 pa:∀a∈b.adverts,PredOk a.pred
 po:∀o∈b.owns,PredOk o.pred
 ent:∀e∈b.entries,rightEnt b e=true
 pe:∀e∈b.entries,PredOk e.pred
 tight:tightB b=true
structure SzK (b:Broker) (n:Nat):Prop where
 near:b.near.length≤1000
 adv:b.adverts.length≤n
 seen:b.seen.length≤n
 own:b.owns.length≤n
 ent:b.entries.length≤n*n
theorem SzK.sized {b:Broker} {n:Nat} (h:SzK b n) (hn:n≤300):Sized b:=by
 have:=Nat.mul_le_mul hn hn
 obtain ⟨h1,h2,h3,h4,h5⟩:=h
 exact ⟨by omega,by omega,by omega,by omega,by omega⟩
theorem SzK.mono {b:Broker} {n m:Nat} (h:SzK b n) (hn:n≤m):SzK b m:=by
 have:=Nat.mul_le_mul hn hn
 obtain ⟨h1,h2,h3,h4,h5⟩:=h
 exact ⟨h1,by omega,by omega,by omega,by omega⟩
theorem InvK.asked {b:Broker} (h:InvK b):AskedP b:=⟨fun e he=>(h.pe e he).unlike,fun e he=>Nat.le_trans (h.pe e he).len (by decide)⟩
theorem InvK.sizedP {b:Broker} (h:InvK b):SizedP b:=⟨fun a ha=>(h.pa a ha).names.1,fun a ha=>(h.pe a ha).names.1,fun a ha=>(h.po a ha).names.1⟩
theorem InvK.sizedN {b:Broker} (h:InvK b):SizedN b:=⟨fun a ha=>(h.pa a ha).names,fun a ha=>(h.pe a ha).names,fun a ha=>(h.po a ha).names⟩
theorem InvK.right {b:Broker} (h:InvK b):rightB b=true:=by
 unfold rightB rightRows
 rw [h.near,of_rising (key:=fun a:Advert=>a.id) h.ra,of_rising (key:=fun a:OwnS=>a.id) h.ro,of_risesE h.re,show risesB (fun x y=>ltID x y) b.seen=true from of_rising (key:=fun a:ID=>a) (by simpa using h.rs)]
 have h1:(b.adverts.any fun a=>!rightAdv b a)=false:=by
  rw [List.any_eq_false]
  intro a ha
  simp [rightAdv,h.sub a ha,h.par a ha,(h.pa a ha).right]
 have h2:(b.entries.any fun e=>!rightEnt b e)=false:=by
  rw [List.any_eq_false]
  intro e he
  simp [h.ent e he]
 have h3:(b.owns.any fun o=>!rightP o.pred)=false:=by
  rw [List.any_eq_false]
  intro o ho
  simp [(h.po o ho).right]
 rw [h1,h2,h3]
 rfl
theorem rightEnt_iff {b:Broker} {e:Entry}:rightEnt b e=true↔∃ a,advOf b e.tree=some a∧linkB b e.frm=true∧(e.frm=a.parent→a.parent=-1)∧(e.up=true→a.parent≠-1)∧rightP e.pred=true:=by
 unfold rightEnt advOf
 cases b.adverts.find? (fun a=>a.id=e.tree) with
 | none=>simp
 | some a =>
  simp only [Option.some.injEq,exists_eq_left',Bool.and_eq_true,Bool.or_eq_true,Bool.not_eq_true',Bool.and_eq_false_iff,decide_eq_true_eq,decide_eq_false_iff_not]
  constructor
  ·rintro ⟨⟨⟨h1,h2⟩,h3⟩,h4⟩
   exact ⟨h1,fun q=>h2.resolve_left (fun hn=>hn q),fun q=>h3.resolve_left (by rw [q];decide),h4⟩
  ·rintro ⟨h1,h2,h3,h4⟩
   refine ⟨⟨⟨h1,?_⟩,?_⟩,h4⟩
   ·by_cases q:e.frm=a.parent
    ·exact .inr (h2 q)
    ·exact .inl q
   ·cases q:e.up with
    | false=>exact .inl rfl
    | true=>exact .inr (h3 q)
theorem tightB_iff {b:Broker}:tightB b=true↔∀e∈b.entries,e.up=true∨parentOf b e.tree=-1∨coveredB b.entries e.tree e.pred=true:=by
 unfold tightB
 rw [List.all_eq_true]
 simp only [tightE,Bool.or_eq_true,decide_eq_true_eq,or_assoc]
theorem linkB_near {b b':Broker} (h:b'.near=b.near) (n:Int):linkB b' n=linkB b n:=by unfold linkB;rw [h]
theorem rightEnt_same {b b':Broker} {e:Entry} (h:b'.near=b.near) (ha:advOf b' e.tree=advOf b e.tree):rightEnt b' e=rightEnt b e:=by
 rw [Bool.eq_iff_iff,rightEnt_iff,rightEnt_iff,ha]
 simp only [linkB_near h]
theorem InvK.start {me:Int} {near:List Int} (hn:risesB (fun x y=>decide (x<y)) near=true) (hl:∀x∈near,0≤x):InvK ⟨me,near,[],[],[],[]⟩ :=
 ⟨hn,hl,.nil,.nil,.nil,.nil,fun a h=>(by cases h),fun a h=>(by cases h),fun a h=>(by cases h),fun a h=>(by cases h),fun a h=>(by cases h),fun a h=>(by cases h),rfl⟩
theorem SzK.start {me:Int} {near:List Int} (hn:near.length≤1000):SzK ⟨me,near,[],[],[],[]⟩ 0:=⟨hn,Nat.le_refl _,Nat.le_refl _,Nat.le_refl _,Nat.le_refl _⟩
theorem advOf_learn {b:Broker} (h:InvK b) (a:Advert) (hn:a.id ∉ b.seen) (x:ID):advOf (learnB b a).1 x=if a.id=x then some a else advOf b x:=by
 have hnew:∀c∈b.adverts,c.id≠a.id:=fun c hc e=>hn (by rw [←e];exact h.sub c hc)
 have hr:Rising ((learnB b a).1.adverts.map (·.id)):=by
  unfold learnB;rw [if_neg hn]
  exact ins_rising (fun a:Advert=>a.id) a h.ra hnew
 have hm:∀c,c∈(learnB b a).1.adverts↔c=a∨c∈b.adverts:=by
  intro c
  unfold learnB;rw [if_neg hn]
  exact ins_mem (fun a:Advert=>a.id) a b.adverts c
 by_cases e:a.id=x
 ·rw [if_pos e,advOf_some hr,hm];exact ⟨.inl rfl,e⟩
 ·rw [if_neg e]
  cases hq:advOf b x with
  | none =>
   rw [advOf_none]at hq ⊢
   intro c hc
   rcases (hm c).1 hc with rfl|hc
   ·exact e
   ·exact hq c hc
  | some c =>
   rw [advOf_some h.ra]at hq
   rw [advOf_some hr,hm]
   exact ⟨.inr hq.1,hq.2⟩
theorem InvK.learn {b:Broker} (h:InvK b) {a:Advert} (hp:linkB b a.parent=true) (hr:PredOk a.pred):InvK (learnB b a).1:=by
 by_cases hn:a.id∈b.seen
 ·unfold learnB;rw [if_pos hn];exact h
 ·have ho:=advOf_learn h a hn
  have hE:(learnB b a).1.entries=b.entries:=by unfold learnB;rw [if_neg hn]
  have hN:(learnB b a).1.near=b.near:=by unfold learnB;rw [if_neg hn]
  have hO:(learnB b a).1.owns=b.owns:=by unfold learnB;rw [if_neg hn]
  have hA:(learnB b a).1.adverts=insAt (fun a=>a.id) a b.adverts:=by unfold learnB;rw [if_neg hn]
  have hS:(learnB b a).1.seen=insAt (fun x=>x) a.id b.seen:=by unfold learnB;rw [if_neg hn]
  have hother:∀e∈b.entries,advOf (learnB b a).1 e.tree=advOf b e.tree:=by
   intro e he
   rw [ho,if_neg]
   intro hc
   obtain ⟨c,hc1,_⟩:=rightEnt_iff.1 (h.ent e he)
   rw [advOf_some h.ra]at hc1
   exact hn (by rw [hc,←hc1.2];exact h.sub c hc1.1)
  refine ⟨by rw [hN];exact h.near,by rw [hN];exact h.loc,?_,?_,by rw [hO];exact h.ro,by rw [hE];exact h.re,?_,?_,?_,by rw [hO];exact h.po,?_,by rw [hE];exact h.pe,?_⟩
  ·rw [hA];exact ins_rising (fun a:Advert=>a.id) a h.ra fun c hc e=>hn (by rw [←e];exact h.sub c hc)
  ·rw [hS]
   have:=ins_rising (fun x:ID=>x) a.id (l:=b.seen) (by simpa using h.rs) (fun c hc e=>hn (by rw [←e];exact hc))
   simpa using this
  ·intro c hc
   rw [hA,ins_mem]at hc
   rw [hS,ins_mem]
   rcases hc with rfl|hc
   ·exact .inl rfl
   ·exact .inr (h.sub c hc)
  ·intro c hc
   rw [linkB_near hN]
   rw [hA,ins_mem]at hc
   rcases hc with rfl|hc
   ·exact hp
   ·exact h.par c hc
  ·intro c hc
   rw [hA,ins_mem]at hc
   rcases hc with rfl|hc
   ·exact hr
   ·exact h.pa c hc
  ·intro e he
   rw [hE]at he
   rw [rightEnt_same hN (hother e he)];exact h.ent e he
  ·rw [tightB_iff,hE]
   intro e he
   rw [parentOf_eq,hother e he,←parentOf_eq]
   exact tightB_iff.1 h.tight e he
theorem SzK.learn {b:Broker} {n:Nat} (h:SzK b n) (a:Advert):SzK (learnB b a).1 (n+1):=by
 have h':=h.mono (Nat.le_succ n)
 unfold learnB
 split
 ·exact h'
 ·obtain ⟨h1,h2,h3,h4,h5⟩:=h'
  exact ⟨h1,by simp only [ins_len];have:=h.adv;omega,by simp only [ins_len];have:=h.seen;omega,h4,h5⟩
theorem forget_no {b:Broker} {x:ID} {q:Int} (h:(forgetB b x q).2=false):(forgetB b x q).1=b:=by
 unfold forgetB at *
 split at h
 ·rfl
 ·split at h
  ·cases h
  ·rename_i h2;rw [if_neg h2]
theorem forget_yes {b:Broker} {x:ID} {q:Int} (h:(forgetB b x q).2=true):(forgetB b x q).1={b with adverts:=without (fun a=>a.id) x b.adverts,entries:=without (fun e=>e.tree) x b.entries}∧∃ a,advOf b x=some a∧a.parent=q:=by
 unfold forgetB at *
 split at h
 ·cases h
 ·rename_i a ha
  split at h
  ·rename_i h2;rw [if_pos h2];exact ⟨rfl,a,ha,h2⟩
  ·cases h
theorem mem_without {α:Type} {key:α→ID} {x:ID} {l:List α} {a:α}:a∈without key x l↔a∈l∧key a≠x:=by
 unfold without;rw [List.mem_filter];simp
theorem coveredB_without {l:List Entry} {x t:ID} {p:Pred} (h:t≠x):coveredB (without (fun e=>e.tree) x l) t p=coveredB l t p:=by
 rw [Bool.eq_iff_iff,coveredB_iff,coveredB_iff]
 constructor
 ·rintro ⟨e,he,h2⟩
  exact ⟨e,(mem_without.1 he).1,h2⟩
 ·rintro ⟨e,he,h2⟩
  exact ⟨e,mem_without.2 ⟨he,by rw [h2.1];exact h⟩,h2⟩
theorem advOf_without {b b':Broker} (h:Rising (b.adverts.map (·.id))) {x t:ID} (hb:b'.adverts=without (fun a=>a.id) x b.adverts) (ht:t≠x):advOf b' t=advOf b t:=by
 have hr:Rising (b'.adverts.map (·.id)):=by rw [hb];exact without_rising _ x h
 cases hq:advOf b t with
 | none =>
  rw [advOf_none]at hq ⊢
  intro a ha
  rw [hb]at ha
  exact hq a (mem_without.1 ha).1
 | some a =>
  rw [advOf_some h]at hq
  rw [advOf_some hr,hb,mem_without]
  exact ⟨⟨hq.1,by rw [hq.2];exact ht⟩,hq.2⟩
theorem InvK.forget {b:Broker} (h:InvK b) (x:ID) (q:Int):InvK (forgetB b x q).1:=by
 cases hc:(forgetB b x q).2 with
 | false=>rw [forget_no hc];exact h
 | true =>
  obtain ⟨e1,_⟩:=forget_yes hc
  generalize (forgetB b x q).1=b' at *
  have hA:b'.adverts=without (fun a=>a.id) x b.adverts:=by rw [e1]
  have hE:b'.entries=without (fun e=>e.tree) x b.entries:=by rw [e1]
  have hN:b'.near=b.near:=by rw [e1]
  have hS:b'.seen=b.seen:=by rw [e1]
  have hO:b'.owns=b.owns:=by rw [e1]
  refine ⟨by rw [hN];exact h.near,by rw [hN];exact h.loc,by rw [hA];exact without_rising _ x h.ra,by rw [hS];exact h.rs,by rw [hO];exact h.ro,by rw [hE];exact h.re.sublist (List.filter_sublist ..),?_,?_,?_,by rw [hO];exact h.po,?_,?_,?_⟩
  ·intro a ha;rw [hA]at ha;rw [hS];exact h.sub a (mem_without.1 ha).1
  ·intro a ha;rw [hA]at ha;rw [linkB_near hN];exact h.par a (mem_without.1 ha).1
  ·intro a ha;rw [hA]at ha;exact h.pa a (mem_without.1 ha).1
  ·intro e he
   rw [hE]at he
   have:=mem_without.1 he
   rw [rightEnt_same hN (advOf_without h.ra hA this.2)]
   exact h.ent e this.1
  ·intro e he;rw [hE]at he;exact h.pe e (mem_without.1 he).1
  ·rw [tightB_iff]
   intro e he
   rw [hE]at he
   have:=mem_without.1 he
   rw [hE,coveredB_without this.2,parentOf_eq,advOf_without h.ra hA this.2,←parentOf_eq]
   exact tightB_iff.1 h.tight e this.1
theorem SzK.forget {b:Broker} {n:Nat} (h:SzK b n) (x:ID) (q:Int):SzK (forgetB b x q).1 n:=by
 cases hc:(forgetB b x q).2 with
 | false=>rw [forget_no hc];exact h
 | true =>
  rw [(forget_yes hc).1]
  obtain ⟨h1,h2,h3,h4,h5⟩:=h
  exact ⟨h1,Nat.le_trans (without_len ..) h2,h3,h4,Nat.le_trans (without_len ..) h5⟩
theorem mayAdd_iff {b:Broker} {e:Entry}:mayAdd b e=true↔∃ a,advOf b e.tree=some a∧(∀x∈b.entries,isE e.tree e.sub x=false)∧(e.frm=a.parent→a.parent=-1):=by
 unfold mayAdd advOf
 cases b.adverts.find? (fun a=>a.id=e.tree) with
 | none=>simp
 | some a =>
  simp only [Option.some.injEq,exists_eq_left',Bool.and_eq_true,Bool.not_eq_true',Bool.and_eq_false_iff,List.any_eq_false,Bool.not_eq_true,decide_eq_false_iff_not,Bool.not_eq_false',decide_eq_true_eq]
  refine and_congr Iff.rfl ⟨fun h q=>h.resolve_left (fun hn=>hn q),fun h=>?_⟩
  by_cases q:e.frm=a.parent
  ·exact .inr (h q)
  ·exact .inl q
theorem covered_mono {l l':List Entry} {t:ID} {p:Pred} (h:∀e∈l,e∈l') (hc:coveredB l t p=true):coveredB l' t p=true:=by
 rw [coveredB_iff]at *
 obtain ⟨e,he,h2⟩:=hc
 exact ⟨e,h e he,h2⟩
theorem InvK.add {b:Broker} (h:InvK b) {e:Entry} (hl:linkB b e.frm=true) (hp:PredOk e.pred):InvK (addB b e).1:=by
 by_cases hm:mayAdd b e=true
 ·obtain ⟨a,ha,hno,hfp⟩:=mayAdd_iff.1 hm
  unfold addB
  rw [if_pos hm]
  have hpar:parentOf b e.tree=a.parent:=by rw [parentOf_eq,ha];rfl
  refine ⟨h.near,h.loc,h.ra,h.rs,h.ro,?_,h.sub,h.par,h.pa,h.po,?_,?_,?_⟩
  ·exact insE_rising (e:={e with up:=upOf b e}) h.re hno
  ·intro x hx
   rw [insE_mem]at hx
   have hs:∀y,rightEnt {b with entries:=insE {e with up:=upOf b e} b.entries} y=rightEnt b y:=fun y=>rightEnt_same rfl rfl
   rw [hs]
   rcases hx with rfl|hx
   ·rw [rightEnt_iff]
    refine ⟨a,ha,hl,hfp,?_,hp.right⟩
    intro hu hpp
    simp only [upOf,hpar,hpp]at hu
    simp at hu
   ·exact h.ent x hx
  ·intro x hx
   rw [insE_mem]at hx
   rcases hx with rfl|hx
   ·exact hp
   ·exact h.pe x hx
  ·rw [tightB_iff]
   intro x hx
   have hs:∀y,parentOf {b with entries:=insE {e with up:=upOf b e} b.entries} y=parentOf b y:=fun y=>rfl
   rw [hs]
   have hx':=hx
   rw [insE_mem]at hx
   rcases hx with rfl|hx
   ·by_cases hpp:a.parent=-1
    ·exact .inr (.inl (by rw [hpar,hpp]))
    ·cases hcv:coveredB b.entries e.tree e.pred with
     | true=>exact .inr (.inr (covered_mono (fun y hy=>insE_mem.2 (.inr hy)) hcv))
     | false=>left;simp [upOf,hpar,hpp,hcv]
   ·rcases tightB_iff.1 h.tight x hx with h1|h1|h1
    ·exact .inl h1
    ·exact .inr (.inl h1)
    ·exact .inr (.inr (covered_mono (fun y hy=>insE_mem.2 (.inr hy)) h1))
 ·unfold addB
  rw [if_neg hm];exact h
inductive Raised (t:ID):List Entry→List Entry→Prop where
 | nil:Raised t [] []
 | keep (e:Entry) {l l':List Entry} (h:Raised t l l'):Raised t (e::l) (e::l')
 | up (e:Entry) {l l':List Entry} (ht:e.tree=t) (hu:e.up=false) (h:Raised t l l'):Raised t (e::l) ({e with up:=true}::l')
theorem Raised.refl (t:ID):∀l,Raised t l l
 | []=>.nil
 | e::l=>.keep e (Raised.refl t l)
theorem Raised.append {t:ID} {a a' b b':List Entry} (h:Raised t a a') (k:Raised t b b'):Raised t (a++b) (a'++b'):=by
 induction h with
 | nil=>exact k
 | keep e _ ih=>exact .keep e ih
 | up e ht hu _ ih=>exact .up e ht hu ih
theorem Raised.len {t:ID} {a a':List Entry} (h:Raised t a a'):a'.length=a.length:=by
 induction h with
 | nil=>rfl
 | keep e _ ih=>simp [ih]
 | up e ht hu _ ih=>simp [ih]
theorem Raised.mem {t:ID} {a a':List Entry} (h:Raised t a a') {x:Entry} (hx:x∈a'):x∈a∨∃ e∈a,e.tree=t∧e.up=false∧x={e with up:=true}:=by
 induction h with
 | nil=>cases hx
 | keep e _ ih =>
  rcases List.mem_cons.1 hx with rfl|hx
  ·exact .inl (List.mem_cons_self ..)
  ·rcases ih hx with h|⟨y,hy,h⟩
   ·exact .inl (List.mem_cons_of_mem _ h)
   ·exact .inr ⟨y,List.mem_cons_of_mem _ hy,h⟩
 | up e ht hu _ ih =>
  rcases List.mem_cons.1 hx with rfl|hx
  ·exact .inr ⟨e,List.mem_cons_self ..,ht,hu,rfl⟩
  ·rcases ih hx with h|⟨y,hy,h⟩
   ·exact .inl (List.mem_cons_of_mem _ h)
   ·exact .inr ⟨y,List.mem_cons_of_mem _ hy,h⟩
theorem Raised.of_mem {t:ID} {a a':List Entry} (h:Raised t a a') {x:Entry} (hx:x∈a):x∈a'∨(x.tree=t∧x.up=false∧{x with up:=true}∈a'):=by
 induction h with
 | nil=>cases hx
 | keep e _ ih =>
  rcases List.mem_cons.1 hx with rfl|hx
  ·exact .inl (List.mem_cons_self ..)
  ·rcases ih hx with h|⟨h1,h2,h3⟩
   ·exact .inl (List.mem_cons_of_mem _ h)
   ·exact .inr ⟨h1,h2,List.mem_cons_of_mem _ h3⟩
 | up e ht hu _ ih =>
  rcases List.mem_cons.1 hx with rfl|hx
  ·exact .inr ⟨ht,hu,List.mem_cons_self ..⟩
  ·rcases ih hx with h|⟨h1,h2,h3⟩
   ·exact .inl (List.mem_cons_of_mem _ h)
   ·exact .inr ⟨h1,h2,List.mem_cons_of_mem _ h3⟩
theorem Raised.rising {t:ID} {a a':List Entry} (h:Raised t a a') (hr:RisingE a):RisingE a':=by
 induction h with
 | nil=>exact hr
 | keep e h ih =>
  unfold RisingE at *
  rw [List.pairwise_cons]at *
  refine ⟨fun x hx=>?_,ih hr.2⟩
  rcases h.mem hx with hx|⟨y,hy,_,_,rfl⟩
  ·exact hr.1 x hx
  ·exact hr.1 y hy
 | up e ht hu h ih =>
  unfold RisingE at *
  rw [List.pairwise_cons]at *
  refine ⟨fun x hx=>?_,ih hr.2⟩
  have:∀t s,sgnE t s {e with up:=true}=sgnE t s e:=fun t s=>rfl
  rw [this]
  rcases h.mem hx with hx|⟨y,hy,_,_,rfl⟩
  ·exact hr.1 x hx
  ·exact hr.1 y hy
theorem Raised.covered {t:ID} {a a':List Entry} (h:Raised t a a') {t':ID} {p:Pred} (hc:coveredB a t' p=true):coveredB a' t' p=true:=by
 rw [coveredB_iff]at *
 obtain ⟨e,he,h1,h2,h3⟩:=hc
 rcases h.of_mem he with hx|⟨_,hx,_⟩
 ·exact ⟨e,hx,h1,h2,h3⟩
 ·rw [h2]at hx;cases hx
theorem takeL_raised (t:ID):∀(rest done ups:List Entry),∃ r',(takeL t done rest ups).1=done++r'∧Raised t rest r'∧(∀x∈r',x.tree=t→x.up=true∨coveredB (done++r') t x.pred=true) ∧
  ∃ u',(takeL t done rest ups).2=ups++u'∧∀x∈u',x∈r'∧x.tree=t∧x.up=true∧{x with up:=false}∈rest∧coveredB (done++rest) t x.pred=false:=by
 intro rest
 induction rest with
 | nil=>intro done ups;exact ⟨[],by simp [takeL],.nil,(fun x hx=>by cases hx),[],by simp [takeL],(fun x hx=>by cases hx)⟩
 | cons e rest ih =>
  intro done ups
  unfold takeL
  by_cases hc:e.tree=t∧e.up=false∧coveredB (done++e::rest) t e.pred=false
  ·rw [if_pos hc]
   obtain ⟨r',h1,h2,h3,u',h4,h5⟩:=ih (done++[{e with up:=true}]) (ups++[{e with up:=true}])
   refine ⟨{e with up:=true}::r',by rw [h1];simp,.up e hc.1 hc.2.1 h2,?_,{e with up:=true}::u',by rw [h4];simp,?_⟩
   ·intro x hx ht
    rcases List.mem_cons.1 hx with rfl|hx
    ·exact .inl rfl
    ·have:=h3 x hx ht
     simpa using this
   ·intro x hx
    rcases List.mem_cons.1 hx with rfl|hx
    ·have he:({{e with up:=true} with up:=false}:Entry)=e:=by obtain ⟨a1,a2,a3,a4,a5⟩:=e;simp only at hc;rw [hc.2.1]
     exact ⟨List.mem_cons_self ..,hc.1,rfl,by rw [he];exact List.mem_cons_self ..,hc.2.2⟩
    ·obtain ⟨k1,k2,k3,k4,k5⟩:=h5 x hx
     refine ⟨List.mem_cons_of_mem _ k1,k2,k3,List.mem_cons_of_mem _ k4,?_⟩
     have hR:Raised t (done++e::rest) (done++[{e with up:=true}]++rest):=by
      rw [List.append_assoc]
      exact (Raised.refl t done).append (.up e hc.1 hc.2.1 (.refl t rest))
     cases hq:coveredB (done++e::rest) t x.pred with
     | false=>rfl
     | true=>rw [hR.covered hq]at k5;cases k5
  ·rw [if_neg hc]
   obtain ⟨r',h1,h2,h3,u',h4,h5⟩:=ih (done++[e]) ups
   refine ⟨e::r',by rw [h1];simp,.keep e h2,?_,u',h4,?_⟩
   ·intro x hx ht
    rcases List.mem_cons.1 hx with rfl|hx
    ·cases hu:x.up with
     | true=>exact .inl rfl
     | false =>
      cases hq:coveredB (done++x::rest) t x.pred with
      | true=>exact .inr (((Raised.refl t done).append (.keep x h2)).covered hq)
      | false=>exact absurd ⟨ht,hu,hq⟩ hc
    ·have:=h3 x hx ht
     simpa using this
   ·intro x hx
    obtain ⟨k1,k2,k3,k4,k5⟩:=h5 x hx
    exact ⟨List.mem_cons_of_mem _ k1,k2,k3,List.mem_cons_of_mem _ k4,by simpa using k5⟩
theorem take_cases {b:Broker} (h:InvK b) (t s:ID) (q:Int) :
  ((takeB b t s q)=(b,[],false)∧∀e∈b.entries,isE t s e=true→e.frm≠q) ∨
  (∃ e∈b.entries,isE t s e=true∧e.frm=q∧e.up=false∧takeB b t s q=({b with entries:=b.entries.filter fun x=>!isE t s x},[],false)) ∨
  (∃ e∈b.entries,isE t s e=true∧e.frm=q∧e.up=true∧∃ r' u',takeB b t s q=({b with entries:=r'},u',true)∧Raised t (b.entries.filter fun x=>!isE t s x) r' ∧
   (∀x∈r',x.tree=t→x.up=true∨coveredB r' t x.pred=true)∧∀x∈u',x∈r'∧x.tree=t∧x.up=true∧{x with up:=false}∈b.entries.filter (fun x=>!isE t s x)∧coveredB (b.entries.filter fun x=>!isE t s x) t x.pred=false):=by
 unfold takeB
 cases hf:b.entries.find? (isE t s) with
 | none =>
  left
  refine ⟨rfl,fun e he hi=>?_⟩
  have:=List.find?_eq_none.1 hf e he
  exact absurd hi this
 | some e =>
  have he:=List.mem_of_find?_eq_some hf
  have hi:=List.find?_some hf
  by_cases hq:e.frm=q
  ·simp only [if_pos hq]
   cases hu:e.up with
   | false =>
    right;left
    exact ⟨e,he,hi,hq,hu,by simp⟩
   | true =>
    right;right
    obtain ⟨r',h1,h2,h3,u',h4,h5⟩:=takeL_raised t (b.entries.filter fun x=>!isE t s x) [] []
    refine ⟨e,he,hi,hq,hu,r',u',by simp [h1,h4],h2,by simpa using h3,by simpa using h5⟩
  ·left
   refine ⟨by simp only [if_neg hq],fun x hx hix=>?_⟩
   have hkey:x=e:=by
    by_cases hxe:x=e
    ·exact hxe
    ·exfalso
     have k1:x.tree=t∧x.sub=s:=by simpa [isE] using hix
     have k2:e.tree=t∧e.sub=s:=by simpa [isE] using hi
     obtain ⟨i,hi1,rfl⟩:=List.mem_iff_getElem.1 hx
     obtain ⟨j,hj1,rfl⟩:=List.mem_iff_getElem.1 he
     rcases Nat.lt_trichotomy i j with hlt|he|hlt
     ·have:=List.pairwise_iff_getElem.1 h.re i j hi1 hj1 hlt
      rw [k2.1,k2.2,sgnE_eq.2 k1]at this;omega
     ·subst he;exact hxe rfl
     ·have:=List.pairwise_iff_getElem.1 h.re j i hj1 hi1 hlt
      rw [k1.1,k1.2,sgnE_eq.2 k2]at this;omega
   rw [hkey];exact hq
theorem InvK.entries {b b':Broker} (h:InvK b) (hb:b'={b with entries:=b'.entries}) (hre:RisingE b'.entries) (he:∀e∈b'.entries,∃ d∈b.entries,e.tree=d.tree∧e.pred=d.pred∧e.frm=d.frm∧(e.up=true→parentOf b e.tree≠-1))
  (ht:∀e∈b'.entries,e.up=true∨parentOf b e.tree=-1∨coveredB b'.entries e.tree e.pred=true):InvK b':=by
 have hA:b'.adverts=b.adverts:=by rw [hb]
 have hN:b'.near=b.near:=by rw [hb]
 have hS:b'.seen=b.seen:=by rw [hb]
 have hO:b'.owns=b.owns:=by rw [hb]
 have ho:∀x,advOf b' x=advOf b x:=fun x=>by unfold advOf;rw [hA]
 refine ⟨by rw [hN];exact h.near,by rw [hN];exact h.loc,by rw [hA];exact h.ra,by rw [hS];exact h.rs,by rw [hO];exact h.ro,hre,by rw [hA,hS];exact h.sub,?_,by rw [hA];exact h.pa,by rw [hO];exact h.po,?_,?_,?_⟩
 ·intro a ha;rw [linkB_near hN];rw [hA]at ha;exact h.par a ha
 ·intro e hm
  obtain ⟨d,hd,k1,k2,k3,k4⟩:=he e hm
  rw [rightEnt_same hN (ho _),rightEnt_iff]
  obtain ⟨a,a1,a2,a3,a4,a5⟩:=rightEnt_iff.1 (h.ent d hd)
  refine ⟨a,by rw [k1];exact a1,by rw [k3];exact a2,by rw [k3];exact a3,fun hu=>?_,by rw [k2];exact a5⟩
  have:=k4 hu
  rw [parentOf_eq,k1,a1]at this
  exact this
 ·intro e hm
  obtain ⟨d,hd,_,k2,_⟩:=he e hm
  rw [k2];exact h.pe d hd
 ·rw [tightB_iff]
  intro e hm
  have:parentOf b' e.tree=parentOf b e.tree:=by rw [parentOf_eq,ho,←parentOf_eq]
  rw [this]
  exact ht e hm
theorem InvK.up {b:Broker} (h:InvK b) {e:Entry} (he:e∈b.entries) (hu:e.up=true):parentOf b e.tree≠-1:=by
 obtain ⟨a,a1,_,_,a4,_⟩:=rightEnt_iff.1 (h.ent e he)
 rw [parentOf_eq,a1]
 exact a4 hu
theorem InvK.take {b:Broker} (h:InvK b) (t s:ID) (q:Int):InvK (takeB b t s q).1:=by
 have hsub:∀x∈b.entries.filter (fun x=>!isE t s x),x∈b.entries:=fun x hx=>(List.mem_filter.1 hx).1
 have hrf:RisingE (b.entries.filter fun x=>!isE t s x):=h.re.sublist (List.filter_sublist ..)
 rcases take_cases h t s q with ⟨hc,_⟩|⟨e,he,hi,_,hu,hc⟩|⟨e,he,hi,_,hu,r',u',hc,hR,htt,_⟩
 ·rw [hc];exact h
 ·rw [hc]
  refine h.entries rfl hrf ?_ ?_
  ·intro x hx
   exact ⟨x,hsub x hx,rfl,rfl,rfl,fun hux=>h.up (hsub x hx) hux⟩
  ·intro x hx
   rcases tightB_iff.1 h.tight x (hsub x hx) with h1|h1|h1
   ·exact .inl h1
   ·exact .inr (.inl h1)
   ·refine .inr (.inr ?_)
    rw [coveredB_iff]at *
    obtain ⟨d,hd,k1,k2,k3⟩:=h1
    refine ⟨d,List.mem_filter.2 ⟨hd,?_⟩,k1,k2,k3⟩
    cases hid:isE t s d with
    | false=>rfl
    | true =>
     exfalso
     have q1:d.tree=t∧d.sub=s:=by simpa [isE] using hid
     have q2:e.tree=t∧e.sub=s:=by simpa [isE] using hi
     have:d=e:=by
      by_cases hde:d=e
      ·exact hde
      ·exfalso
       obtain ⟨i,hi1,rfl⟩:=List.mem_iff_getElem.1 hd
       obtain ⟨j,hj1,rfl⟩:=List.mem_iff_getElem.1 he
       rcases Nat.lt_trichotomy i j with hlt|hee|hlt
       ·have:=List.pairwise_iff_getElem.1 h.re i j hi1 hj1 hlt
        rw [q2.1,q2.2,sgnE_eq.2 q1]at this;omega
       ·subst hee;exact hde rfl
       ·have:=List.pairwise_iff_getElem.1 h.re j i hj1 hi1 hlt
        rw [q1.1,q1.2,sgnE_eq.2 q2]at this;omega
     rw [this,hu]at k2;cases k2
 ·have hpt:parentOf b t≠-1:=by
   have:=h.up he hu
   have q2:e.tree=t∧e.sub=s:=by simpa [isE] using hi
   rw [q2.1]at this;exact this
  rw [hc]
  refine h.entries rfl (hR.rising hrf) ?_ ?_
  ·intro x hx
   rcases hR.mem hx with hx|⟨y,hy,h1,h2,rfl⟩
   ·exact ⟨x,hsub x hx,rfl,rfl,rfl,fun hux=>h.up (hsub x hx) hux⟩
   ·exact ⟨y,hsub y hy,rfl,rfl,rfl,fun _=>by rw [h1];exact hpt⟩
  ·intro x hx
   by_cases hxt:x.tree=t
   ·rcases htt x hx hxt with k|k
    ·exact .inl k
    ·exact .inr (.inr (by rw [hxt];exact k))
   ·have hx':x∈b.entries.filter fun x=>!isE t s x:=by
     rcases hR.mem hx with hx|⟨y,hy,h1,h2,rfl⟩
     ·exact hx
     ·exact absurd h1 hxt
    rcases tightB_iff.1 h.tight x (hsub x hx') with h1|h1|h1
    ·exact .inl h1
    ·exact .inr (.inl h1)
    ·refine .inr (.inr (hR.covered ?_))
     rw [coveredB_iff]at *
     obtain ⟨d,hd,k1,k2,k3⟩:=h1
     refine ⟨d,List.mem_filter.2 ⟨hd,?_⟩,k1,k2,k3⟩
     have:¬(d.tree=t∧d.sub=s):=fun hh=>hxt (by rw [←k1];exact hh.1)
     simp [isE,this]
theorem take_len {b:Broker} (h:InvK b) (t s:ID) (q:Int):(takeB b t s q).1.entries.length≤b.entries.length:=by
 rcases take_cases h t s q with ⟨hc,_⟩|⟨e,_,_,_,_,hc⟩|⟨e,_,_,_,_,r',u',hc,hR,_⟩
 ·rw [hc];exact Nat.le_refl _
 ·rw [hc];exact List.length_filter_le ..
 ·rw [hc]
  show r'.length≤_
  rw [hR.len];exact List.length_filter_le ..
theorem take_rest (b:Broker) (t s:ID) (q:Int):(takeB b t s q).1={b with entries:=(takeB b t s q).1.entries}:=by
 unfold takeB
 split
 ·rfl
 ·split
  ·split<;>rfl
  ·rfl
theorem add_rest (b:Broker) (e:Entry):(addB b e).1={b with entries:=(addB b e).1.entries}:=by
 unfold addB
 split<;>rfl
theorem add_len (b:Broker) (e:Entry):(addB b e).1.entries.length≤b.entries.length+1:=by
 unfold addB
 split
 ·simp only [insE_len];exact Nat.le_refl _
 ·exact Nat.le_succ _
theorem SzK.take {b:Broker} {n:Nat} (h:SzK b n) (hi:InvK b) (t s:ID) (q:Int):SzK (takeB b t s q).1 n:=by
 have h1:=take_len hi t s q
 rw [take_rest]at h1 ⊢
 obtain ⟨a1,a2,a3,a4,a5⟩:=h
 exact ⟨a1,a2,a3,a4,Nat.le_trans h1 a5⟩
theorem SzK.add {b:Broker} {n:Nat} (h:SzK b n) (e:Entry):SzK (addB b e).1 (n+1):=by
 have h1:=add_len b e
 rw [add_rest]at h1 ⊢
 obtain ⟨a1,a2,a3,a4,a5⟩:=h
 have:(n+1)*(n+1)=n*n+n+n+1:=by rw [Nat.add_mul,Nat.mul_add];omega
 exact ⟨a1,Nat.le_succ_of_le a2,Nat.le_succ_of_le a3,Nat.le_succ_of_le a4,by simp only at h1 ⊢;omega⟩
end Go.Dm.Tc
/-
Brokers as one datum: what the machine's steps do to it;what functions answer of a broker that calls made.
-/
namespace Go.Dm.Tc
theorem agg_bC (t:Tags) (b:Broker):DV.agg (bCells t b)=eBroker t b:=_root_.id rfl
theorem ecells_eB (sz:Nat) (t:Tags) (b:Broker):ecells sz (eBroker t b)=bCells t b:=_root_.id rfl
theorem bC_len (t:Tags) (b:Broker):(bCells t b).length=6:=_root_.id rfl
theorem bC_take (t:Tags) (b:Broker):(bCells t b).take 6=bCells t b:=_root_.id rfl
theorem bC_0 (t:Tags) (b:Broker):(bCells t b)[0]?=some (.int .i64 b.me):=_root_.id rfl
theorem bC_1 (t:Tags) (b:Broker):(bCells t b)[1]?=some (eL t.near 1 cInt b.near):=_root_.id rfl
theorem bC_2 (t:Tags) (b:Broker):(bCells t b)[2]?=some (eL t.adverts 4 eAdvert b.adverts):=_root_.id rfl
theorem bC_3 (t:Tags) (b:Broker):(bCells t b)[3]?=some (eL t.seen 2 eID b.seen):=_root_.id rfl
theorem bC_4 (t:Tags) (b:Broker):(bCells t b)[4]?=some (eL t.entries 7 eEntry b.entries):=_root_.id rfl
theorem bC_5 (t:Tags) (b:Broker):(bCells t b)[5]?=some (eL t.owns 3 eOwn b.owns):=_root_.id rfl
theorem bCg_0 (t:Tags) (b:Broker) (h:0<(bCells t b).length):(bCells t b)[0]=.int .i64 b.me:=_root_.id rfl
theorem bCg_1 (t:Tags) (b:Broker) (h:1<(bCells t b).length):(bCells t b)[1]=eL t.near 1 cInt b.near:=_root_.id rfl
theorem bCg_2 (t:Tags) (b:Broker) (h:2<(bCells t b).length):(bCells t b)[2]=eL t.adverts 4 eAdvert b.adverts:=_root_.id rfl
theorem bCg_3 (t:Tags) (b:Broker) (h:3<(bCells t b).length):(bCells t b)[3]=eL t.seen 2 eID b.seen:=_root_.id rfl
theorem bCg_4 (t:Tags) (b:Broker) (h:4<(bCells t b).length):(bCells t b)[4]=eL t.entries 7 eEntry b.entries:=_root_.id rfl
theorem bCg_5 (t:Tags) (b:Broker) (h:5<(bCells t b).length):(bCells t b)[5]=eL t.owns 3 eOwn b.owns:=_root_.id rfl
theorem storable_eB (t:Tags) (b:Broker):storable 6 (eBroker t b)=true:=_root_.id rfl
theorem res_eB (tg:Bool) (h:Heap) (n:Nat) (t:Tags) (b:Broker):resolve tg h (n+2) (eBroker t b)=some (eBroker t b):=by
 simp [eBroker]
theorem ul_eB (n:Nat) (b:Broker):unlent (n+24) (eBroker .none b)=true:=by
 simp [eBroker,Tags.none]
theorem frA_eB (h:Heap) (t:Tags) (b:Broker):freezeA h (eBroker t b)=some (eBroker t b,h):=by
 simp [eBroker,frA_agg,mapH_cons,mapH_nil,fr_int,fr_eL,consH_some,consL_some,aggH_some]
theorem fieldV_eB (off:Nat) (n:Option Nat) (t:Tags) (b:Broker):fieldV off n (eBroker t b)=pickCells n (bCells t b) off:=_root_.id rfl
attribute [simp] agg_bC ecells_eB bC_len bC_take bC_0 bC_1 bC_2 bC_3 bC_4 bC_5 bCg_0 bCg_1 bCg_2 bCg_3 bCg_4 bCg_5 storable_eB res_eB ul_eB frA_eB fieldV_eB frA_int frA_eL frA_pred frA_str frA_agg mapH_nil mapH_cons fr_int fr_bool fr_nsl fr_eL fr_pred fr_isl consH_some consL_some aggH_some
section
variable {b:Broker} (t:Tags)
theorem kRLearn (h:InvK b) (z:Sized b) (c d:Int) (p:Pred) (q:Int):pcF D t20 [eBroker .none b,.agg [.int .i64 c,.int .i64 d,ePred p,.int .i64 q]]=some (.tup [eBroker .none (learnB b ⟨⟨c,d⟩,p,q⟩).1,.bool (learnB b ⟨⟨c,d⟩,p,q⟩).2]):=s20 b c d p q z h.ra h.rs
theorem kRForget (h:InvK b) (z:Sized b) (c d q:Int):pcF D t22 [eBroker .none b,.agg [.int .i64 c,.int .i64 d],.int .i64 q]=some (.tup [eBroker .none (forgetB b ⟨c,d⟩ q).1,.bool (forgetB b ⟨c,d⟩ q).2]):=s22 b c d q z h.ra
theorem kRAdd (h:InvK b) (z:Sized b) (tc td sc sd:Int) {p:Pred} (hp:PredOk p) (q:Int) (u:Bool):pcF D t37 [eBroker .none b,.agg [.int .i64 tc,.int .i64 td,.int .i64 sc,.int .i64 sd,ePred p,.int .i64 q,.bool u]]=some (.tup [eBroker .none (addB b ⟨⟨tc,td⟩,⟨sc,sd⟩,p,q,u⟩).1,.bool (addB b ⟨⟨tc,td⟩,⟨sc,sd⟩,p,q,u⟩).2]) :=
 s37 b ⟨⟨tc,td⟩,⟨sc,sd⟩,p,q,u⟩ z h.asked hp
theorem kRTake (h:InvK b) (z:Sized b) (tc td sc sd q:Int):pcF D t38 [eBroker .none b,.agg [.int .i64 tc,.int .i64 td],.agg [.int .i64 sc,.int .i64 sd],.int .i64 q]=some (.tup [eBroker .none (takeB b ⟨tc,td⟩ ⟨sc,sd⟩ q).1,eL false 7 eEntry (takeB b ⟨tc,td⟩ ⟨sc,sd⟩ q).2.1,.bool (takeB b ⟨tc,td⟩ ⟨sc,sd⟩ q).2.2]) :=
 s38 b tc td sc sd q z h.pe h.re
theorem kRight (h:InvK b) (z:Sized b):pcF D t27 [eBroker t b]=some (.bool true):=by rw [←h.right];exact s27 t b z h.sizedN
theorem kSame (h:InvK b) (z:Sized b) (u:Tags) (c:Broker):pcF D t26 [eBroker t b,eBroker u c]=some (.bool (decide (b=c))):=s26 t u b c z h.sizedP
end
end Go.Dm.Tc
/-
What the laws' arguments are: numbers of which predicates,steps,brokers are made.
-/
namespace Go.Dm.Tc
structure PK where
 has:List Int
 vals:List Int
def ePK (p:PK):DV:=.agg [eL false 1 cInt p.has,eL false 1 cInt p.vals]
def PK.pred (p:PK):Pred:=mkPred p.has p.vals
structure StepK where
 kind:Int
 frm:Int
 tree:Int
 client:Int
 seq:Int
 has:List Int
 vals:List Int
def eStepK (s:StepK):DV:=.agg [.int .i64 s.kind,.int .i64 s.frm,.int .i64 s.tree,.int .i64 s.client,.int .i64 s.seq,eL false 1 cInt s.has,eL false 1 cInt s.vals]
structure BrokK where
 near:Int
 steps:List StepK
def eBrokK (b:BrokK):DV:=.agg [.int .i64 b.near,eL false 7 eStepK b.steps]
end Go.Dm.Tc
/-
More plain laws of brokers: one entry for a tree and a number;what covers itself;what comes of an entry taken out,of one added.
-/
namespace Go.Dm.Tc
theorem takeL_len (t:ID):∀(rest done ups:List Entry),(takeL t done rest ups).2.length≤ups.length+rest.length:=by
 intro rest
 induction rest with
 | nil=>intro done ups;simp [takeL]
 | cons e rest ih =>
  intro done ups
  unfold takeL
  split
  ·have:=ih (done++[{e with up:=true}]) (ups++[{e with up:=true}]);simp at this ⊢;omega
  ·have:=ih (done++[e]) ups;simp at this ⊢;omega
theorem take_ups_le (b:Broker) (t s:ID) (q:Int):(takeB b t s q).2.1.length≤b.entries.length:=by
 unfold takeB
 split
 ·simp
 ·split
  ·split
   ·refine Nat.le_trans (takeL_len _ _ _ _) ?_
    simp only [List.length_nil,Nat.zero_add]
    exact List.length_filter_le ..
   ·simp
  ·simp
end Go.Dm.Tc
/-
What functions compute,part 30: texts compared;the search among constraints;two constraints in one.
-/
namespace Go.Dm.Tc
theorem u8_eq {a b:UInt8} (h1:¬a<b) (h2:¬b<a):a=b:=by
 rw [UInt8.lt_iff_toNat_lt]at h1 h2
 exact UInt8.toNat_inj.1 (by omega)
theorem cmpB_lt:∀{a b:List UInt8},Go.Lib.compareBytes a b<0↔Go.Op.bytesLess a b=true
 | [],[]=>by simp [Go.Lib.compareBytes,Go.Op.bytesLess]
 | [],b::bs=>by simp [Go.Lib.compareBytes,Go.Op.bytesLess]
 | a::az,[]=>by simp [Go.Lib.compareBytes,Go.Op.bytesLess]
 | a::az,b::bz=>by
  have ih:=cmpB_lt (a:=az) (b:=bz)
  unfold Go.Lib.compareBytes Go.Op.bytesLess
  by_cases h1:a<b
  ·simp [h1]
  ·by_cases h2:b<a
   ·have:a≠b:=fun e=>by subst e;exact h1 h2
    simp [h1,h2,this]
   ·have:=u8_eq h1 h2
    simp [h1,h2,this,ih]
theorem cmpB_eq:∀{a b:List UInt8},Go.Lib.compareBytes a b=0↔a=b
 | [],[]=>by simp [Go.Lib.compareBytes]
 | [],b::bs=>by simp [Go.Lib.compareBytes]
 | a::az,[]=>by simp [Go.Lib.compareBytes]
 | a::az,b::bz=>by
  have ih:=cmpB_eq (a:=az) (b:=bz)
  unfold Go.Lib.compareBytes
  by_cases h1:a<b
  ·have:a≠b:=fun e=>by subst e;have:=u8_lt (a:=a) (b:=a);simp_all
   simp [h1,this]
  ·by_cases h2:b<a
   ·have:a≠b:=fun e=>by subst e;exact h1 h2
    simp [h1,h2,this]
   ·have:=u8_eq h1 h2
    simp [h1,h2,this,ih]
def cmpN (s:List UInt8) (c:Cons):Int:=Go.Lib.compareBytes c.name s
def mxI (a b:Int):Int:=if a<b then b else a
def mnI (a b:Int):Int:=if b<a then b else a
def joinC (a b:Cons):Option Cons :=
 if a.kind=1 then (if b.kind=1∧mxI a.lo b.lo≤mnI a.hi b.hi then some {a with lo:=mxI a.lo b.lo,hi:=mnI a.hi b.hi} else none)
 else if b.kind=1 then none
 else if a.kind=2 then (if holdsT b a.text=true then some a else none)
 else if b.kind=2 then (if holdsT a b.text=true then some b else none)
 else if a.text.length<b.text.length then (if beginsS b.text a.text=true then some b else none)
 else (if beginsS a.text b.text=true then some a else none)
def Kind3 (k:Int):Prop:=k=1∨k=2∨k=3
end Go.Dm.Tc
/-
What functions compute,part 31: a predicate made of constraints.
-/
namespace Go.Dm.Tc
def NameUp (p:Pred):Prop:=(p.map (·.name)).Pairwise fun a b=>Go.Op.bytesLess a b=true
theorem NameUp.mono {p:Pred} (h:NameUp p) (s:List UInt8):∀i j (hi:i<p.length) (hj:j<p.length),i≤j→cmpN s p[j]<0→cmpN s p[i]<0:=by
 intro i j hi hj hij hc
 unfold cmpN at *
 rw [cmpB_lt]at *
 rcases Nat.lt_or_eq_of_le hij with hlt|rfl
 ·have:=List.pairwise_iff_getElem.1 h i j (by simpa using hi) (by simpa using hj) hlt
  simp only [List.getElem_map]at this
  exact bl_trans this hc
 ·exact hc
theorem lowI_lt {α:Type} {cm:α→Int} {xs:List α} {q:Nat} (hq:q<lowIdx cm xs) (hl:q<xs.length):cm xs[q]<0:=by
 have:=List.not_of_lt_findIdx hq
 simpa using this
theorem low_at {α:Type} {cm:α→Int} {xs:List α} (hl:lowIdx cm xs<xs.length):¬cm xs[lowIdx cm xs]<0:=by
 intro hc
 have h1:(fun x=>!decide (cm x<0)) (xs[lowIdx cm xs])=true:=List.findIdx_getElem (w:=hl)
 have h2:(!decide (cm xs[lowIdx cm xs]<0))=true:=h1
 rw [decide_eq_true hc]at h2
 cases h2
def insC (out:Pred) (c:Cons):Option Pred :=
 if hitAt (cmpN c.name) out=true then (match out[lowIdx (cmpN c.name) out]? with
  | some x=>(match joinC x c with|some b=>some (out.set (lowIdx (cmpN c.name) out) b)|none=>none)
  | none=>none)
 else if out.length=5 then none else some (out.take (lowIdx (cmpN c.name) out)++c::out.drop (lowIdx (cmpN c.name) out))
def makeC:Pred→Pred→Option Pred
 | out,[]=>some out
 | out,c::r=>match insC out c with
  | some o=>makeC o r
  | none=>none
theorem joinC_kind {a b x:Cons} (ha:Kind3 a.kind) (hb:Kind3 b.kind) (h:joinC a b=some x):Kind3 x.kind:=by
 unfold joinC at h
 repeat' split at h
 all_goals first
  | (cases h;done)
  | (cases h;first|exact ha|exact hb)
theorem hit_get {cm:Cons→Int} {out:Pred} (h:hitAt cm out=true):∃ x,out[lowIdx cm out]?=some x∧cm x=0∧lowIdx cm out<out.length:=by
 unfold hitAt at h
 split at h
 ·rename_i x hx
  exact ⟨x,hx,by simpa using h,(List.getElem?_eq_some_iff.1 hx).1⟩
 ·cases h
end Go.Dm.Tc
/-
What functions compute,part 32: pred.Make.
-/
namespace Go.Dm.Tc
end Go.Dm.Tc
/-
What functions compute,part 33: rel.Sample,rel.Joint,rel.Meets.
-/
namespace Go.Dm.Tc
def meetsP (a b:Pred):Bool:=hasO (makeC [] (a++b))
theorem right_kind {c:Cons} (h:rightOne c=true):Kind3 c.kind:=by
 unfold rightOne at h
 unfold Kind3
 simp only [Bool.and_eq_true]at h
 have h2:=h.2
 repeat' split at h2
 all_goals first
  | (rename_i e;exact .inl e)
  | (rename_i e;exact .inr (.inr e))
  | (rename_i e;exact .inr (.inl e))
  | (cases h2;done)
theorem rightA_mem:∀{p:Pred} {n:Option (List UInt8)},rightA n p=true→∀c∈p,rightOne c=true
 | [],_,_,c,h=>by cases h
 | x::r,n,h,c,hc=>by
  simp only [rightA,Bool.and_eq_true]at h
  rcases List.mem_cons.1 hc with rfl|hc
  ·exact h.1.1
  ·exact rightA_mem h.2 c hc
theorem PredOk.one {p:Pred} (h:PredOk p):∀c∈p,rightOne c=true∧c.name.length≤1000000:=by
 intro c hc
 have h1:=h.right
 unfold rightP at h1
 simp only [Bool.and_eq_true]at h1
 exact ⟨rightA_mem h1.1 c hc,h.names.2 c hc⟩
end Go.Dm.Tc
/-
What the reference's functions compute,part 9: two constraints in one.
-/
namespace Go.Dm.Tc
theorem s206 (nm:List UInt8) (k lo hi:Int) (tx:List UInt8) (s:List UInt8) :
  pcF D t206 [.agg [.str nm,.int .i64 k,.int .i64 lo,.int .i64 hi,.str tx],.agg [.bool true,.int .i64 0,.str s]]=some (.bool (holdsT ⟨nm,k,lo,hi,tx⟩ s)):=by
 unfold pcF
 rw [goRun_eq _ _ _ _ (by simp [t206])]
 by_cases k1:k=1
 ·subst k1
  simp [t206,holdsT]
 ·by_cases k2:k=2
  ·subst k2
   simp [t206,holdsT]
  ·by_cases k3:k=3
   ·subst k3
    simp [t206,holdsT,e188,s188]
   ·simp [t206,holdsT,k1,k2,k3]
def joinX (a b:Cons):Cons :=
 if a.kind=1∧b.kind=1 then {a with lo:=mxI a.lo b.lo,hi:=mnI a.hi b.hi}
 else if a.kind=1∨b.kind=1 then a
 else if a.kind=2 then a
 else if b.kind=2 then b
 else if b.text.length≤a.text.length then a else b
set_option maxRecDepth 8000 in
theorem s189 (a b:Cons) (ha:Kind3 a.kind) (hb:Kind3 b.kind):pcF D t189 [eCons a,eCons b]=some (.tup [eCons (joinX a b),.bool (hasO (joinC a b))]):=by
 obtain ⟨nm,k,lo,hi,tx⟩:=a
 obtain ⟨nm',k',lo',hi',tx'⟩:=b
 simp only [Kind3]at ha hb
 unfold pcF
 rw [goRun_eq _ _ _ _ (by simp [t189])]
 rcases ha with rfl|rfl|rfl
 ·rcases hb with rfl|rfl|rfl
  ·by_cases h:mnI hi hi'<mxI lo lo'
   ·have h':¬mxI lo lo'≤mnI hi hi':=by omega
    simp only [mnI,mxI]at h h'
    simp [t189,eCons,joinC,joinX,mnI,mxI,h,h',turn,resultsOf,hasO]
   ·have h':mxI lo lo'≤mnI hi hi':=by omega
    simp only [mnI,mxI]at h h'
    simp [t189,eCons,joinC,joinX,mnI,mxI,h,h',turn,resultsOf,hasO]
  ·simp [t189,eCons,joinC,joinX,turn,resultsOf,hasO]
  ·simp [t189,eCons,joinC,joinX,turn,resultsOf,hasO]
 ·rcases hb with rfl|rfl|rfl
  ·simp [t189,eCons,joinC,joinX,turn,resultsOf,hasO]
  ·have hh:=s206 nm' 2 lo' hi' tx' tx
   cases hq:holdsT ⟨nm',2,lo',hi',tx'⟩ tx<;>rw [hq]at hh<;>simp [t189,eCons,joinC,joinX,turn,resultsOf,hasO,e206,hh,hq]
  ·have hh:=s206 nm' 3 lo' hi' tx' tx
   cases hq:holdsT ⟨nm',3,lo',hi',tx'⟩ tx<;>rw [hq]at hh<;>simp [t189,eCons,joinC,joinX,turn,resultsOf,hasO,e206,hh,hq]
 ·rcases hb with rfl|rfl|rfl
  ·simp [t189,eCons,joinC,joinX,turn,resultsOf,hasO]
  ·have hh:=s206 nm 3 lo hi tx tx'
   cases hq:holdsT ⟨nm,3,lo,hi,tx⟩ tx'<;>rw [hq]at hh<;>simp [t189,eCons,joinC,joinX,turn,resultsOf,hasO,e206,hh,hq]
  ·by_cases hl:tx.length<tx'.length
   ·have hl':¬(tx'.length:Int)≤tx.length:=by omega
    have hl2:¬tx'.length≤tx.length:=by omega
    cases hq:beginsS tx' tx<;>simp [t189,eCons,joinC,joinX,turn,resultsOf,hasO,e188,s188,hq,hl,hl',hl2]
   ·have hl':(tx'.length:Int)≤tx.length:=by omega
    have hl2:tx'.length≤tx.length:=by omega
    cases hq:beginsS tx tx'<;>simp [t189,eCons,joinC,joinX,turn,resultsOf,hasO,e188,s188,hq,hl,hl',hl2]
theorem joinX_eq {a b x:Cons} (ha:Kind3 a.kind) (hb:Kind3 b.kind) (h:joinC a b=some x):joinX a b=x:=by
 obtain ⟨nm,k,lo,hi,tx⟩:=a
 obtain ⟨nm',k',lo',hi',tx'⟩:=b
 simp only [Kind3]at ha hb
 rcases ha with rfl|rfl|rfl<;>rcases hb with rfl|rfl|rfl<;>simp [joinC,joinX]at h ⊢
 all_goals first
  | exact h.2
  | (obtain ⟨_,h⟩:=h;exact h)
  | (split at h<;>simp at h<;>simp_all<;>omega)
end Go.Dm.Tc
/-
What the reference's functions compute,part 10: a predicate made of constraints.
-/
namespace Go.Dm.Tc
def insR (out:Pred) (c:Cons):Option Pred :=
 if hitAt (cmpN c.name) out=true then (match out[lowIdx (cmpN c.name) out]? with
  | some x=>(match joinC x c with|some b=>some (out.set (lowIdx (cmpN c.name) out) b)|none=>none)
  | none=>none)
 else some (out.take (lowIdx (cmpN c.name) out)++c::out.drop (lowIdx (cmpN c.name) out))
def makeR:Pred→Pred→Option Pred
 | out,[]=>some out
 | out,c::r=>match insR out c with
  | some o=>makeR o r
  | none=>none
theorem insR_len {out:Pred} {c:Cons} {o:Pred} (h:insR out c=some o):out.length≤o.length∧o.length≤out.length+1:=by
 unfold insR at h
 have:=lowIdx_le (cmpN c.name) out
 repeat' split at h
 all_goals first
  | (cases h;done)
  | (cases h;simp only [List.length_set];omega)
  | (cases h;simp only [List.length_append,List.length_cons,List.length_take,List.length_drop];omega)
theorem makeR_len:∀(l:Pred) {out o:Pred},makeR out l=some o→out.length≤o.length
 | [],out,o,he=>by simp only [makeR,Option.some.injEq]at he;subst he;exact Nat.le_refl _
 | c::r,out,o,he=>by
  simp only [makeR]at he
  split at he
  ·rename_i o1 h1;exact Nat.le_trans (insR_len h1).1 (makeR_len r he)
  ·cases he
theorem makeR_C:∀(l:Pred) {out:Pred},out.length≤5→hasO (makeC out l)=(match makeR out l with|some o=>decide (o.length≤5)|none=>false)
 | [],out,h=>by simp [makeC,makeR,hasO,h]
 | c::r,out,h=>by
  simp only [makeC,makeR]
  by_cases hh:hitAt (cmpN c.name) out=true
  ·have e:insC out c=insR out c:=by
    unfold insC insR
    rw [if_pos hh,if_pos hh]
    try rfl
   rw [e]
   cases hi:insR out c with
   | none=>rfl
   | some o =>
    have hl:o.length≤5:=by
     unfold insR at hi
     rw [if_pos hh]at hi
     repeat' split at hi
     all_goals first
      | (cases hi;done)
      | (cases hi;simpa using h)
    exact makeR_C r hl
  ·by_cases h5:out.length=5
   ·have e1:insC out c=none:=by simp only [insC,hh,h5];rfl
    rw [e1]
    cases hi:insR out c with
    | none=>rfl
    | some o =>
     have hl:6≤o.length:=by
      unfold insR at hi
      rw [if_neg hh]at hi
      cases hi
      have:=lowIdx_le (cmpN c.name) out
      simp only [List.length_append,List.length_cons,List.length_take,List.length_drop]
      omega
     simp only [hasO]
     cases hm:makeR o r with
     | none=>rfl
     | some p =>
      have:=makeR_len r hm
      simp only
      rw [decide_eq_false (by omega)]
   ·have e:insC out c=insR out c:=by simp only [insC,insR,if_neg hh,if_neg h5]
    rw [e]
    cases hi:insR out c with
    | none=>rfl
    | some o=>exact makeR_C r (by have:=(insR_len hi).2;omega)
theorem insR_kind {out:Pred} {c:Cons} {o:Pred} (hk:∀x∈out,Kind3 x.kind) (hc:Kind3 c.kind) (h:insR out c=some o):∀x∈o,Kind3 x.kind:=by
 unfold insR at h
 split at h
 ·rename_i hh
  obtain ⟨x,hx,hx0,hlt⟩:=hit_get hh
  rw [hx]at h
  simp only at h
  split at h
  ·rename_i b hb
   cases h
   intro y hy
   rcases List.mem_or_eq_of_mem_set hy with h1|h1
   ·exact hk y h1
   ·subst h1;exact joinC_kind (hk x (List.mem_of_getElem? hx)) hc hb
  ·cases h
 ·cases h
  intro y hy
  rcases List.mem_append.1 hy with h1|h1
  ·exact hk y (List.mem_of_mem_take h1)
  ·rcases List.mem_cons.1 h1 with rfl|h1
   ·exact hc
   ·exact hk y (List.mem_of_mem_drop h1)
theorem _root_.Go.Dm.OwnR.mapId {lo:Nat} {h:Heap} {v:DV} {ety sz:Nat} {xs:List DV} (w:OwnR lo h v ety sz xs):Dm.mapId v=none:=by
 cases w with
 | nil hv _=>subst hv;rfl
 | arr _ _ _ hv=>subst hv;rfl
theorem n159 (S:List Fr) (H:Heap) (out:Pred) (c:Cons) (v:DV) (cid:Nat) (cp:Option Nat) (hl:out.length≤1000000) (gc:H.get cid=some (.arr 62 5 [eCons c] cp)) (ho:OwnR 0 H v 62 5 (out.map eCons)) (P:Res→Prop) :
  ∀(n j:Nat) (f:FEnv),lowIdx (cmpN c.name) out-j=n→j≤lowIdx (cmpN c.name) out→f 4=v→f 6=.ptr cid 5 0 0→f 7=.int .i64 j →
  (∀F:FEnv,F 7=.int .i64 (lowIdx (cmpN c.name) out:Nat)→(∀r,r<13→r≠7→F r=f r)→P (run D 78 S t159k0 F H)) →
  P (run D 78 (.block 2::.seq t159k0::S) (.loop t159l0) f H):=by
 intro n
 have hlen:=ho.lenV
 simp only [List.length_map]at hlen
 simp only [eCons]at gc
 have hmv:=ho.mapId
 have k:∀r q:Nat,r<13→13≤q→¬r=q:=fun r q h1 h2=>by omega
 induction n with
 | zero =>
  intro j f hn hj h4 h6 h7 hP
  have hlo:lowIdx (cmpN c.name) out=j:=by omega
  rw [run_loop_of t159l0.eq_1]
  by_cases hlt:j<out.length
  ·have hnot:Go.Op.bytesLess out[j].name c.name=false:=by
    have:=low_at (cm:=cmpN c.name) (xs:=out) (by omega)
    simp only [hlo]at this
    have h2:=mt cmpB_lt.2 this
    simpa using h2
   obtain ⟨id,sp,cap,hv,hg,_,_,hix,hx⟩:=ho.index (i:=j) (x:=eCons out[j]) (by simp [hlt]) .i64
   simp only [eCons]at hx
   simp [h4,h6,h7,hlen,hlt,hix,hg,hx,gc,hnot,hmv,-List.getElem?_map]
   exact hP _ (by simp [h7,hlo]) fun r hr hne=>by simp [k r _ hr]
  ·simp [h4,h6,h7,hlen,hlt,hmv]
   exact hP _ (by simp [h7,hlo]) fun r hr hne=>by simp [k r _ hr]
 | succ n ih =>
  intro j f hn hj h4 h6 h7 hP
  have hlt:j<out.length:=by have:=lowIdx_le (cmpN c.name) out;omega
  have hyes:Go.Op.bytesLess out[j].name c.name=true:=cmpB_lt.1 (lowI_lt (cm:=cmpN c.name) (by omega) hlt)
  obtain ⟨id,sp,cap,hv,hg,_,_,hix,hx⟩:=ho.index (i:=j) (x:=eCons out[j]) (by simp [hlt]) .i64
  simp only [eCons]at hx
  rw [run_loop_of t159l0.eq_1]
  simp [h4,h6,h7,hlen,hlt,hix,hg,hx,gc,hyes,hmv,-List.getElem?_map]
  rw [wrap64 (by omega) (by omega)]
  generalize hF:upd _ 7 _=F
  refine ih (j+1) F (by omega) (by omega) (by rw [←hF];simp [h4]) (by rw [←hF];simp [h6]) (by rw [←hF];simp) fun F' a b=>hP F' a fun r hr hne=>?_
  rw [b r hr hne,←hF]
  simp [k r _ hr,hne]
end Go.Dm.Tc
/-
What the reference's functions compute,part 11: its predicate made of constraints;do two predicates meet?
-/
namespace Go.Dm.Tc
def MakeOutR (o:Option Pred) (r:Option DV):Prop :=
 match o with
 | some out=>r=some (.tup [eL false 5 eCons out,.bool true])
 | none=>r=some (.tup [.isl false 0 [],.bool false])
theorem hit_no {cm:Cons→Int} {out:Pred} (h:hitAt cm out=false) (hl:lowIdx cm out<out.length):¬cm out[lowIdx cm out]=0:=by
 unfold hitAt at h
 rw [List.getElem?_eq_getElem hl]at h
 simpa using h
theorem m159 (t:Bool) (l:Pred) (hl:l.length≤1000000) (hr:∀c∈l,Kind3 c.kind) :
  ∀(rest:Pred) (i:Nat) (out:Pred) (v:DV) (f:FEnv) (h:Heap),l.drop i=rest→(∀c∈out,Kind3 c.kind)→out.length≤i→f 4=v→f 10=eL t 5 eCons l→f 11=.int .i64 l.length→f 12=.int .i64 i →
  OwnR 0 h v 62 5 (out.map eCons)→h.lim=0→WF h →
  MakeOutR (makeR out rest) (pcOut (fin [.t 2,.t 3] (run D 78 [.block 0,.seq t159k2] (.loop t159l1) f h))):=by
 intro rest
 induction rest with
 | nil =>
  intro i out v f h hd hk h5 h4 h10 h11 h12 ho hlim wf
  have hi:=drop_nil hd
  have:¬(i<l.length):=by omega
  have r1:resolve false h 199 v=some (eL false 5 eCons out):=ho.resolve false (fun y _=>(plain_con y).1) (by decide)
  rw [run_loop_of t159l1.eq_1]
  simp [t159k2,h11,h12,this,h4,makeR,MakeOutR,resultsOf,r1]
  exact unl_eL (fun y _=>(plain_con y).2) 199 (by decide)
 | cons c rest ih =>
  intro i out v f h hd hk h5 h4 h10 h11 h12 ho hlim wf
  obtain ⟨hi,he,hd'⟩:=drop_at hd
  have hc:=hr c (by rw [←he];exact List.getElem_mem hi)
  rw [run_loop_of t159l1.eq_1]
  simp [h4,h10,h11,h12,hi,he,eCons,hlim,wf,turn]
  generalize hF:upd _ 7 _=F
  have o1:OwnR 0 (h.push (.arr 62 5 [eCons c] (some 1))) v 62 5 (out.map eCons):=ho.push
  refine n159 _ (h.push (.arr 62 5 [eCons c] (some 1))) out c v h.n (some 1) (by omega) (by simp) o1 (fun r=>MakeOutR (makeR out (c::rest)) (pcOut (fin [.t 2,.t 3] r))) _ 0 F rfl (Nat.zero_le _) (by rw [←hF];simp [h4]) (by rw [←hF];simp) (by rw [←hF];simp) fun F' q7 qr=>?_
  have q4:F' 4=v:=by rw [qr 4 (by decide) (by decide),←hF];simp [h4]
  have q6:F' 6=.ptr h.n 5 0 0:=by rw [qr 6 (by decide) (by decide),←hF];simp
  have q10:F' 10=eL t 5 eCons l:=by rw [qr 10 (by decide) (by decide),←hF];simp [h10]
  have q11:F' 11=.int .i64 l.length:=by rw [qr 11 (by decide) (by decide),←hF];simp [h11]
  have q12:F' 12=.int .i64 i:=by rw [qr 12 (by decide) (by decide),←hF];simp [h12]
  clear hF qr
  have hlen:∀o,lenV (h.push o) 1 v=some (.int .i64 out.length):=fun o=>by simpa using (ho.push (o:=o)).lenV
  have hmv:=ho.mapId
  have n0:¬0=h.n+1:=by omega
  by_cases hlt:lowIdx (cmpN c.name) out<out.length
  ·obtain ⟨id,sp,cap,hv,hg,_,_,hix,hx⟩:=ho.index (i:=lowIdx (cmpN c.name) out) (x:=eCons out[lowIdx (cmpN c.name) out]) (by simp [hlt]) .i64
   have hidn:=get_some_lt hg
   have hne:¬id=h.n:=by omega
   have hne':¬h.n=id:=by omega
   have hne2:¬id=h.n+1:=by omega
   have hxm:out[lowIdx (cmpN c.name) out]∈out:=List.getElem_mem hlt
   generalize hxx:out[lowIdx (cmpN c.name) out]=x at *
   have hx?:out[lowIdx (cmpN c.name) out]?=some x:=by rw [List.getElem?_eq_getElem hlt,hxx]
   have hb:=s189 x c (hk x hxm) hc
   simp only [eCons]at hx hb
   cases hh:hitAt (cmpN c.name) out with
   | true =>
    obtain ⟨x2,hx2,hx0,_⟩:=hit_get hh
    have:x2=x:=Option.some.inj (hx2.symm.trans hx?)
    subst this
    have hnm:x2.name=c.name:=cmpB_eq.1 hx0
    rw [hnm]at hb
    cases hj:joinC x2 c with
    | none =>
     rw [hj]at hb
     simp only [hasO]at hb
     have hin:insR out c=none:=by simp only [insR,hh,if_true,hx?,hj]
     rw [show makeR out (c::rest)=none from by simp only [makeR,hin]]
     simp [t159k0,q4,q6,q7,hlen,hmv,hlt,hix,hg,hx,hne,hne',hidn,eCons,hnm,e189,hb,hlim,wf,turn,resultsOf,MakeOutR,-List.getElem?_map]
    | some b =>
     rw [hj]at hb
     have hje:=joinX_eq (hk x2 hxm) hc hj
     rw [hje]at hb
     simp only [hasO]at hb
     have hin:insR out c=some (out.set (lowIdx (cmpN c.name) out) b):=by simp only [insR,hh,if_true,hx?,hj]
     rw [show makeR out (c::rest)=makeR (out.set (lowIdx (cmpN c.name) out) b) rest from by simp only [makeR,hin]]
     have hel:∀p1 p2 p3,elems (((h.push p1).push p2).push p3) 5 v=some (out.map eCons):=fun p1 p2 p3=>ho.push.push.push.elems
     simp [t159k0,q4,q6,q7,hlen,hmv,hlt,hix,hg,hx,hne,hne',hidn,eCons,hnm,e189,hb,hlim,wf,turn,hel,-List.getElem?_map]
     generalize hA:appendD _ _ _ _ _ _=A
     obtain ⟨i1,K1,rfl,u1,x1,y1,j1⟩:=(OwnI.fresh (lo:=h.n+2) (ety:=62) (sz:=5) (xs:=[]) (cap:=some 0) (by simp [hlim]) (by simp)).append (n:=0) rfl (by simp [wf]) (by simp) (by simp [hlim]) hA (by simp;omega) (by decide)
     clear hA
     have a1:=x1.get (h.n+1) (by omega)
     have b1:=x1.lim
     simp [hlim]at a1 b1
     obtain ⟨⟨sp1,cap1,g1⟩,l1,l2⟩:=u1
     have hlt1:=get_some_lt g1
     have hix1:indexAddrV 5 (.sl i1 5 0 out.length) (.int .i64 (lowIdx (cmpN c.name) out:Nat))=some (.ptr i1 5 (lowIdx (cmpN c.name) out) 0):=by simp [indexAddrV,asI,hlt]
     have hx1:(List.map eCons out++sp1)[lowIdx (cmpN c.name) out]?=some (.agg [.str x2.name,.int .i64 x2.kind,.int .i64 x2.lo,.int .i64 x2.hi,.str x2.text]):=by
      rw [List.getElem?_append_left (by simpa using hlt),List.getElem?_map,hx?];rfl
     simp [t159k1,q4,q7,q12,a1,hix1,g1,b1,hlt1,hx1,x1.wf,-List.getElem?_map]
     rw [wrap64 (by omega) (by omega)]
     generalize hF:upd _ 12 _=F2
     have hin2:=insR_kind hk hc hin
     refine ih (i+1) (out.set (lowIdx (cmpN c.name) out) b) (.sl i1 5 0 out.length) F2 _ hd' hin2 (by simp;omega) ?_ ?_ ?_ ?_ (.arr i1 sp1 cap1 (by simp) ?_ ?_ (Nat.zero_le _)) ?_ ?_
     ·rw [←hF];simp
     ·rw [←hF];simp [q10]
     ·rw [←hF];simp [q11]
     ·rw [←hF];simp
     ·simp [hlt1,x1.wf,List.map_set,eCons,List.set_append,hlt]
     ·simp [b1]
     ·simp [b1]
     ·simp [x1.wf]
   | false =>
    have hnm:¬x.name=c.name:=fun e=>by
     have:=hit_no hh hlt
     rw [hxx]at this
     exact this (cmpB_eq.2 e)
    have hin:insR out c=some (out.take (lowIdx (cmpN c.name) out)++c::out.drop (lowIdx (cmpN c.name) out)):=by simp [insR,hh]
    have hkl:=lowIdx_le (cmpN c.name) out
    simp only [List.length_map]at hv
    generalize hkk:lowIdx (cmpN c.name) out=k at *
    subst hv
    have hmk:makeR out (c::rest)=makeR (out.take k++c::out.drop k) rest:=by simp only [makeR,hin]
    rw [hmk]
    have hnk:¬h.n+1=h.n:=by omega
    have hkl2:k≤out.length+sp.length:=by omega
    have hmin:min k out.length=k:=by omega
    have htk:List.take k (List.map eCons out++sp)=(out.take k).map eCons:=by rw [List.take_append_of_le_length (by simpa using hkl),List.map_take]
    have hnid:¬h.n+1=id:=by omega
    have hdk:List.take (out.length-k) (List.drop k (List.map eCons out++sp))=(out.drop k).map eCons:=by
     rw [List.drop_append_of_le_length (by simpa using hkl),List.take_left' (by simp),List.map_drop]
    have hsum:k+(out.length-k)=out.length:=by omega
    simp [t159k0,q4,q6,q7,hlt,hix,hg,hx,hne,hne',hne2,hidn,eCons,hnm,hlim,wf,turn,hkl,hkl2,hnk,htk,hmin,-List.getElem?_map]
    generalize hA:appendD _ _ _ _ _ _=A
    obtain ⟨i1,K1,rfl,u1,x1,y1,j1⟩:=(OwnI.fresh (lo:=h.n+1) (ety:=62) (sz:=5) (xs:=[]) (cap:=some 0) (by simp [hlim]) (by simp)).append (n:=0) rfl (by simp [wf]) (by simp) (by simp [hlim]) hA (by simp;omega) (by decide)
    clear hA
    have a0:=x1.get h.n (by omega)
    have a1:=x1.get id (by omega)
    have b1:=x1.lim
    have w1:=x1.wf
    have n1:=x1.le
    have ul1:=u1.lo
    have m0:¬id=i1:=by omega
    have m1:¬i1=id:=by omega
    have m2:¬h.n=i1:=by omega
    have m3:¬i1=h.n:=by omega
    simp [hg,hne,hne2,hlim,hnk]at a0 a1 b1 u1
    simp [q4,q6,q7,a0,a1,b1,w1,m0,m1,m2,m3,hkl,hkl2,hnid,hnk,hmin,eCons]
    generalize hA:appendD _ _ _ _ _ _=A
    obtain ⟨i2,K2,rfl,u2,x2,y2,j2⟩:=(u1.push (o:=_)).append (by simp [hmin]) (by simp [w1]) (by simp;omega) (by simp [b1]) hA (by simp;omega) (by decide)
    clear hA
    have c1:=x2.get id (by omega)
    have d1:=x2.lim
    have n2:=x2.le
    have r1:¬id=K1.n:=by omega
    simp [a1,b1,r1]at c1 d1 u2
    simp [q4,q6,q7,hne,hg,c1,d1,x2.wf,m0,m1,m2,m3,hkl,hkl2,hnid,hnk,hmin,hdk,hsum]
    generalize hA:appendD _ _ _ _ _ _=A
    obtain ⟨i3,K3,rfl,u3,x3,y3,j3⟩:=u2.append (by simp [hmin]) x2.wf n2 (by omega) hA (by simp;omega) (by decide)
    clear hA
    have d3:=x3.lim
    simp [t159k1,q12,hmin]
    rw [wrap64 (by omega) (by omega)]
    generalize hF:upd _ 12 _=F2
    have u4:=u3.toR.lower (Nat.zero_le _)
    have u5:OwnR 0 K3 (.sl i3 5 0 (k+1+(out.length-k))) 62 5 ((out.take k++c::out.drop k).map eCons):=by
     have e2:((out.take k++c::out.drop k).map eCons).length=k+1+(out.length-k):=by simp [hmin];omega
     rw [←e2]
     simpa [eCons] using u4
    refine ih (i+1) _ _ F2 K3 hd' (insR_kind hk hc hin) (by simp;omega) ?_ ?_ ?_ ?_ u5 (by omega) x3.wf
    ·rw [←hF];simp [hmin]
    ·rw [←hF];simp [q10]
    ·rw [←hF];simp [q11]
    ·rw [←hF];simp
  ·have hh:hitAt (cmpN c.name) out=false:=by unfold hitAt;rw [List.getElem?_eq_none (by omega)]
   have hin:insR out c=some (out.take (lowIdx (cmpN c.name) out)++c::out.drop (lowIdx (cmpN c.name) out)):=by simp [insR,hh]
   cases ho with
   | nil hv hx =>
    have ho0:out=[]:=by simpa using hx
    subst hv
    subst ho0
    have hlo:lowIdx (cmpN c.name) ([]:Pred)=0:=rfl
    rw [hlo]at q7 hin hlt
    have hmk:makeR [] (c::rest)=makeR [c] rest:=by simp only [makeR,hin];rfl
    rw [hmk]
    have hnk:¬h.n+1=h.n:=by omega
    have hz1:∀H,sliceV H 5 .nsl none (some (.int .i64 0))=some .nsl:=fun _=>rfl
    have hz2:∀H,sliceV H 5 .nsl (some (.int .i64 0)) none=some .nsl:=fun _=>rfl
    simp [t159k0,q4,q6,q7,eCons,hlim,wf,turn,hnk,hz1]
    generalize hA:appendD _ _ _ _ _ _=A
    obtain ⟨i1,K1,rfl,u1,x1,y1,j1⟩:=(OwnI.fresh (lo:=h.n+1) (ety:=62) (sz:=5) (xs:=[]) (cap:=some 0) (by simp [hlim]) (by simp)).append (n:=0) rfl (by simp [wf]) (by simp) (by simp [hlim]) hA (by simp) (by decide)
    clear hA
    have a0:=x1.get h.n (by omega)
    have b1:=x1.lim
    have w1:=x1.wf
    have n1:=x1.le
    have ul1:=u1.lo
    have m2:¬h.n=i1:=by omega
    have m3:¬i1=h.n:=by omega
    simp [hlim,hnk]at a0 b1 u1
    simp [q4,q6,q7,a0,b1,w1,m2,m3,hnk,eCons]
    generalize hA:appendD _ _ _ _ _ _=A
    obtain ⟨i2,K2,rfl,u2,x2,y2,j2⟩:=(u1.push (o:=_)).append (by simp) (by simp [w1]) (by simp;omega) (by simp [b1]) hA (by simp) (by decide)
    clear hA
    have d1:=x2.lim
    have n2:=x2.le
    simp [b1]at d1 u2
    simp [q4,q6,q7,d1,x2.wf,m2,m3,hnk,hz2]
    generalize hA:appendD _ _ _ _ _ _=A
    obtain ⟨i3,K3,rfl,u3,x3,y3,j3⟩:=u2.append (by simp) x2.wf n2 (by omega) hA (by simp) (by decide)
    clear hA
    have d3:=x3.lim
    simp [t159k1,q12]
    rw [wrap64 (by omega) (by omega)]
    generalize hF:upd _ 12 _=F2
    have u4:=u3.toR.lower (Nat.zero_le _)
    refine ih (i+1) _ _ F2 K3 hd' (insR_kind hk hc hin) (by simp) ?_ ?_ ?_ ?_ (by simpa [eCons] using u4) (by omega) x3.wf
    ·rw [←hF];simp
    ·rw [←hF];simp [q10]
    ·rw [←hF];simp [q11]
    ·rw [←hF];simp
   | arr id sp cap hv hg hlm hlo =>
    have hidn:=get_some_lt hg
    have hne:¬id=h.n:=by omega
    have hne':¬h.n=id:=by omega
    have hne2:¬id=h.n+1:=by omega
    have hkl:=lowIdx_le (cmpN c.name) out
    simp only [List.length_map]at hv
    generalize hkk:lowIdx (cmpN c.name) out=k at *
    subst hv
    have hmk:makeR out (c::rest)=makeR (out.take k++c::out.drop k) rest:=by simp only [makeR,hin]
    rw [hmk]
    have hnk:¬h.n+1=h.n:=by omega
    have hkl2:k≤out.length+sp.length:=by omega
    have hmin:min k out.length=k:=by omega
    have htk:List.take k (List.map eCons out++sp)=(out.take k).map eCons:=by rw [List.take_append_of_le_length (by simpa using hkl),List.map_take]
    have hnid:¬h.n+1=id:=by omega
    have hdk:List.take (out.length-k) (List.drop k (List.map eCons out++sp))=(out.drop k).map eCons:=by
     rw [List.drop_append_of_le_length (by simpa using hkl),List.take_left' (by simp),List.map_drop]
    have hsum:k+(out.length-k)=out.length:=by omega
    simp [t159k0,q4,q6,q7,hlt,hg,hne,hne',hne2,hidn,eCons,hlim,wf,turn,hkl,hkl2,hnk,htk,hmin,-List.getElem?_map]
    generalize hA:appendD _ _ _ _ _ _=A
    obtain ⟨i1,K1,rfl,u1,x1,y1,j1⟩:=(OwnI.fresh (lo:=h.n+1) (ety:=62) (sz:=5) (xs:=[]) (cap:=some 0) (by simp [hlim]) (by simp)).append (n:=0) rfl (by simp [wf]) (by simp) (by simp [hlim]) hA (by simp;omega) (by decide)
    clear hA
    have a0:=x1.get h.n (by omega)
    have a1:=x1.get id (by omega)
    have b1:=x1.lim
    have w1:=x1.wf
    have n1:=x1.le
    have ul1:=u1.lo
    have m0:¬id=i1:=by omega
    have m1:¬i1=id:=by omega
    have m2:¬h.n=i1:=by omega
    have m3:¬i1=h.n:=by omega
    simp [hg,hne,hne2,hlim,hnk]at a0 a1 b1 u1
    simp [q4,q6,q7,a0,a1,b1,w1,m0,m1,m2,m3,hkl,hkl2,hnid,hnk,hmin,eCons]
    generalize hA:appendD _ _ _ _ _ _=A
    obtain ⟨i2,K2,rfl,u2,x2,y2,j2⟩:=(u1.push (o:=_)).append (by simp [hmin]) (by simp [w1]) (by simp;omega) (by simp [b1]) hA (by simp;omega) (by decide)
    clear hA
    have c1:=x2.get id (by omega)
    have d1:=x2.lim
    have n2:=x2.le
    have r1:¬id=K1.n:=by omega
    simp [a1,b1,r1]at c1 d1 u2
    simp [q4,q6,q7,hne,hg,c1,d1,x2.wf,m0,m1,m2,m3,hkl,hkl2,hnid,hnk,hmin,hdk,hsum]
    generalize hA:appendD _ _ _ _ _ _=A
    obtain ⟨i3,K3,rfl,u3,x3,y3,j3⟩:=u2.append (by simp [hmin]) x2.wf n2 (by omega) hA (by simp;omega) (by decide)
    clear hA
    have d3:=x3.lim
    simp [t159k1,q12,hmin]
    rw [wrap64 (by omega) (by omega)]
    generalize hF:upd _ 12 _=F2
    have u4:=u3.toR.lower (Nat.zero_le _)
    have u5:OwnR 0 K3 (.sl i3 5 0 (k+1+(out.length-k))) 62 5 ((out.take k++c::out.drop k).map eCons):=by
     have e2:((out.take k++c::out.drop k).map eCons).length=k+1+(out.length-k):=by simp [hmin];omega
     rw [←e2]
     simpa [eCons] using u4
    refine ih (i+1) _ _ F2 K3 hd' (insR_kind hk hc hin) (by simp;omega) ?_ ?_ ?_ ?_ u5 (by omega) x3.wf
    ·rw [←hF];simp [hmin]
    ·rw [←hF];simp [q10]
    ·rw [←hF];simp [q11]
    ·rw [←hF];simp
theorem s159 (t:Bool) (l:Pred) (hl:l.length≤1000000) (hr:∀c∈l,Kind3 c.kind):MakeOutR (makeR [] l) (pcF D t159 [eL t 5 eCons l]):=by
 unfold pcF
 rw [goRun_eq _ _ _ _ (by simp [t159])]
 simp [t159]
 refine m159 t l hl hr l 0 [] .nsl _ heap0 rfl (by simp) (by simp) ?_ ?_ ?_ ?_ (.nil rfl rfl) ?_ ?_<;>simp
theorem s121 (a b:Pred) (ha:PredOk a) (hb:PredOk b):pcF D t121 [ePred a,ePred b]=some (.bool (meetsP a b)):=by
 have hla:=ha.len
 have hlb:=hb.len
 have hone:∀c∈a++b,rightOne c=true∧c.name.length≤1000000:=fun c hc=>(List.mem_append.1 hc).elim (ha.one c) (hb.one c)
 have hm:=s159 true (a++b) (by simp;omega) fun c hc=>right_kind (hone c hc).1
 unfold pcF
 rw [goRun_eq _ _ _ _ (by simp [t121])]
 simp only [ePred]
 simp [t121]
 generalize hA:appendD _ _ _ _ _ _=A
 obtain ⟨v1,K1,rfl,p1,x1,_⟩:=OwnR.append (lo:=0) (OwnR.fresh (lo:=0) (xs:=[]) (by simp) (by simp)) (by simp) (Nat.zero_le _) (by simp) hA (by simp;omega) (by decide)
 clear hA
 simp
 generalize hA:appendD _ _ _ _ _ _=A
 obtain ⟨v2,K2,rfl,p2,x2,_⟩:=OwnR.append p1 x1.wf (Nat.zero_le _) (by rw [x1.lim];simp) hA (by simp;omega) (by decide)
 clear hA
 have hp:OwnR 0 K2 v2 62 5 ((a++b).map eCons):=by simpa using p2
 have r1:resolve true K2 200 v2=some (eL true 5 eCons (a++b)):=hp.resolve true (fun y _=>(plain_con y).1) (by decide)
 unfold meetsP
 rw [makeR_C (a++b) (out:=[]) (by simp)]
 cases hk:makeR [] (a++b) with
 | none =>
  rw [hk]at hm
  simp only [MakeOutR]at hm
  simp [e159,r1,hm,resultsOf]
 | some out =>
  rw [hk]at hm
  simp only [MakeOutR]at hm
  simp [e159,r1,hm,resultsOf]
  omega
end Go.Dm.Tc
