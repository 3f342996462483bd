/-
What functions of the program compute, part 14: does a predicate cover another one?
-/
import Derived.Test.YtfnhanajiibciaaGreatMs0
set_option linter.all false
namespace Go.Dm.Tc
def eNames (p:Pred):List (DV×DV):=p.map fun c=>(.str c.name,.agg [.str c.name,.int .i64 c.kind,.int .i64 c.lo,.int .i64 c.hi,.str c.text])
theorem hits_nameN (s:List UInt8):∀{p:Pred},(∀c∈p,c.name≠s)→hitsE (.prim 2) (.str s) (eNames p)=some 0
 | [],_=>rfl
 | y::r,h=>by
  have h1:(s == y.name)=false:=beq_eq_false_iff_ne.2 fun e=>h y (List.mem_cons_self ..) e.symm
  have ih:=hits_nameN s (p:=r) fun c hc=>h c (List.mem_cons_of_mem _ hc)
  simp only [eNames,List.map_cons,hitsE,eqBy_prim,primEq_str,h1]
  rw [show hitsE _ _ (r.map _)=some 0 from ih]
theorem find_nameN (s:List UInt8):∀{p:Pred} (i:Nat),(∀c∈p,c.name≠s)→findE (.prim 2) (.str s) (eNames p) i=some none
 | [],_,_=>rfl
 | y::r,i,h=>by
  have h1:(s == y.name)=false:=beq_eq_false_iff_ne.2 fun e=>h y (List.mem_cons_self ..) e.symm
  have ih:=find_nameN s (p:=r) (i+1) fun c hc=>h c (List.mem_cons_of_mem _ hc)
  simp only [eNames,List.map_cons,findE,eqBy_prim,primEq_str,h1]
  exact ih
def Unlike (p:Pred):Prop:=p.Pairwise fun a b=>a.name≠b.name
theorem hits_nameS (s:List UInt8):∀{p:Pred} {c:Cons},Unlike p→p.find? (fun c=>decide (c.name=s))=some c→hitsE (.prim 2) (.str s) (eNames p)=some 1
 | [],_,_,h=>by cases h
 | y::r,c,hu,h=>by
  unfold Unlike at hu
  rw [List.pairwise_cons]at hu
  simp only [eNames,List.map_cons,hitsE,eqBy_prim,primEq_str]
  by_cases h1:y.name=s
  ·rw [show (s == y.name)=true by rw [h1];simp,show hitsE _ _ (r.map _)=some 0 from hits_nameN s fun c hc e=>hu.1 c hc (by rw [h1,e])]
  ·rw [show (s == y.name)=false from beq_eq_false_iff_ne.2 fun e=>h1 e.symm]
   rw [List.find?_cons,decide_eq_false h1]at h
   rw [show hitsE _ _ (r.map _)=some 1 from hits_nameS s hu.2 h]
theorem find_nameS (s:List UInt8):∀{p:Pred} {c:Cons} (i:Nat),p.find? (fun c=>decide (c.name=s))=some c→∃ j,findE (.prim 2) (.str s) (eNames p) i=some (some (j,.agg [.str c.name,.int .i64 c.kind,.int .i64 c.lo,.int .i64 c.hi,.str c.text]))
 | [],_,_,h=>by cases h
 | y::r,c,i,h=>by
  simp only [eNames,List.map_cons,findE,eqBy_prim,primEq_str]
  by_cases h1:y.name=s
  ·rw [List.find?_cons,decide_eq_true h1]at h
   simp only [Option.some.injEq]at h
   subst h
   rw [show (s == y.name)=true by rw [h1];simp]
   exact ⟨i,rfl⟩
  ·rw [List.find?_cons,decide_eq_false h1]at h
   rw [show (s == y.name)=false from beq_eq_false_iff_ne.2 fun e=>h1 e.symm]
   exact find_nameS s (i+1) h
theorem lookup_name {p:Pred} (hu:Unlike p) (z:DV) (s:List UInt8):lookupV (.prim 2) z true (.str s) (some (eNames p))=some (match p.find? (fun c=>decide (c.name=s)) with
  | some c=>.tup [.agg [.str c.name,.int .i64 c.kind,.int .i64 c.lo,.int .i64 c.hi,.str c.text],.bool true]
  | none=>.tup [z,.bool false]):=by
 have he:(eqBy (.prim 2) (.str s) (.str s)).isSome=true:=by simp
 simp only [lookupV,he,if_true]
 cases hf:p.find? (fun c=>decide (c.name=s)) with
 | none =>
  have hn:∀c∈p,c.name≠s:=fun c hc=>by simpa using List.find?_eq_none.1 hf c hc
  simp only [findU,hits_nameN s hn,find_nameN s 0 hn]
  rfl
 | some c =>
  obtain ⟨j,hj⟩:=find_nameS s 0 hf
  simp only [findU,hits_nameS s hu hf,hj]
  rfl
theorem upd_name {h:Heap} {id:Nat} {p:Pred} {c:Cons} (hn:∀d∈p,d.name≠c.name) (hl:h.lim≤id):updO h (.prim 2) id (.str c.name) (.agg [.str c.name,.int .i64 c.kind,.int .i64 c.lo,.int .i64 c.hi,.str c.text]) (some (.mp (eNames p)))=some (h.set id (.mp (eNames (p++[c])))):=by
 have he:(eqBy (.prim 2) (.str c.name) (.str c.name)).isSome=true:=by simp
 simp only [updO,he,hl,and_self,if_true,findU,hits_nameN c.name hn,find_nameN c.name 0 hn]
 simp [eNames]
def coversP (a b:Pred):Bool:=a.all fun c=>match b.find? (fun x=>decide (x.name=c.name)) with
 | some x=>widerC c x
 | none=>false
theorem l54 (S:List Fr) (b:Pred) (hb:Unlike b) (hl:b.length≤1000000) (a:Pred) :
  ∀(rest done:Pred) (i:Nat) (f:FEnv) (h:Heap),b=done++rest→done.length=i→f 0=eL false 5 eCons a→f 5=.map 0→f 13=eL false 5 eCons b→f 14=.int .i64 b.length→f 15=.int .i64 i→h.get 0=some (.mp (eNames done))→h.lim=0→1≤h.n→WF h →
  ∃ f' h',run D 46 (.block 0::.seq t54k1::S) (.loop t54l0) f h=run D 46 S t54k1 f' h'∧f' 0=eL false 5 eCons a∧f' 5=.map 0∧h'.get 0=some (.mp (eNames b))∧h'.lim=0∧1≤h'.n∧WF h':=by
 intro rest
 induction rest with
 | nil =>
  intro done i f h hd hi h0 h5 h13 h14 h15 g hlim hn wf
  have:¬(i<b.length):=by rw [hd];simp;omega
  rw [run_loop_of t54l0.eq_1]
  simp [h14,h15,this]
  exact ⟨_,_,rfl,by simp [h0],by simp [h5],by rw [hd];simpa using g,hlim,hn,wf⟩
 | cons c rest ih =>
  intro done i f h hd hi h0 h5 h13 h14 h15 g hlim hn wf
  have hlt:i<b.length:=by rw [hd];simp;omega
  have he:b[i]=c:=by simp only [hd];rw [List.getElem_append_right (by omega)];simp [hi]
  have hnd:∀d∈done,d.name≠c.name:=by
   intro d hdm
   unfold Unlike at hb
   rw [hd,List.pairwise_append]at hb
   exact hb.2.2 d hdm c (List.mem_cons_self ..)
  have n0:¬0=h.n:=by omega
  have l0:0<h.n:=by omega
  have m0:¬h.n=0:=by omega
  have hup:=fun (H:Heap) (hl:H.lim≤0)=>upd_name (h:=H) (id:=0) (p:=done) (c:=c) hnd hl
  rw [run_loop_of t54l0.eq_1]
  simp [h5,h13,h14,h15,hlt,he,eCons,hlim,n0,m0,l0,g,wf,updateV_map,hup]
  rw [wrap64 (by omega) (by omega)]
  generalize hF:upd _ 15 _=F
  refine ih (done++[c]) (i+1) F _ (by rw [hd];simp) (by simp [hi]) ?_ ?_ ?_ ?_ ?_ ?_ ?_ ?_ ?_
  ·rw [←hF];simp [h0]
  ·rw [←hF];simp [h5]
  ·rw [←hF];simp [h13]
  ·rw [←hF];simp [h14]
  ·rw [←hF];simp
  ·simp [n0,m0,l0,wf]
  ·simp [hlim]
  ·simp
  ·simp [wf]
theorem m54 (a b:Pred) (hb:Unlike b) (hl:a.length≤1000000) :
  ∀(rest:Pred) (i:Nat) (f:FEnv) (h:Heap),a.drop i=rest→f 5=.map 0→f 24=eL false 5 eCons a→f 25=.int .i64 a.length→f 26=.int .i64 i→h.get 0=some (.mp (eNames b))→h.lim=0→1≤h.n→WF h →
  pcOut (fin [.t 4] (run D 46 [.block 2,.seq t54k0] (.loop t54l1) f h))=some (.bool (coversP rest b)):=by
 intro rest
 induction rest with
 | nil =>
  intro i f h hd h5 h24 h25 h26 g hlim hn wf
  have hi:=drop_nil hd
  have:¬(i<a.length):=by omega
  rw [run_loop_of t54l1.eq_1]
  simp [t54k0,h25,h26,this,coversP]
 | cons c rest ih =>
  intro i f h hd h5 h24 h25 h26 g hlim hn wf
  obtain ⟨hi,he,hd'⟩:=drop_at hd
  have n0:¬0=h.n:=by omega
  have m0:¬h.n=0:=by omega
  have hlk:=fun z=>lookup_name hb z c.name
  rw [run_loop_of t54l1.eq_1]
  cases hf:b.find? (fun x=>decide (x.name=c.name)) with
  | none =>
   rw [hf]at hlk
   simp [h5,h24,h25,h26,hi,he,eCons,hlim,n0,m0,g,wf,entriesV_map,entO_some,hlk,turn,coversP,hf]
  | some x =>
   rw [hf]at hlk
   cases hw:widerC c x with
   | false=>simp [h5,h24,h25,h26,hi,he,eCons,hlim,n0,m0,g,wf,entriesV_map,entO_some,hlk,turn,coversP,hf,e130,s130,hw]
   | true =>
    simp [h5,h24,h25,h26,hi,he,eCons,hlim,n0,m0,g,wf,entriesV_map,entO_some,hlk,turn,e130,s130,hw]
    rw [wrap64 (by omega) (by omega)]
    refine (ih (i+1) _ _ hd' ?_ ?_ ?_ ?_ ?_ ?_ ?_ ?_).trans ?_<;>simp [h5,h24,h25,eCons,g,hlim,n0,m0,wf,coversP,hf,hw]<;>omega
theorem s54 (a b:Pred) (hb:Unlike b) (hla:a.length≤1000000) (hlb:b.length≤1000000):pcF D t54 [ePred a,ePred b]=some (.bool (coversP a b)):=by
 unfold pcF
 rw [goRun_eq _ _ _ _ (by simp [t54])]
 simp only [ePred]
 simp [t54]
 generalize hF:upd _ 15 _=F
 obtain ⟨f',h',k1,k2,k3,k4,k5,k6,k7⟩:=l54 [] b hb hlb a b [] 0 F (heap0.push (.mp [])) (by simp) rfl (by rw [←hF];simp) (by rw [←hF];simp) (by rw [←hF];simp) (by rw [←hF];simp) (by rw [←hF];simp) (by simp [eNames]) (by simp) (by simp) (by simp)
 rw [k1]
 clear hF k1
 simp [t54k1,k2]
 refine (m54 a b hb hla a 0 _ h' rfl ?_ ?_ ?_ ?_ k4 k5 k6 k7)<;>simp [k3]
end Go.Dm.Tc
/-
What functions of the program compute,part 15: an entry's place;an entry found;a tree's entries.
-/
namespace Go.Dm.Tc
def sgnE (tree sub:ID) (e:Entry):Int:=if e.tree=tree∧e.sub=sub then 0 else if ltID e.tree tree=true∨(e.tree=tree∧ltID e.sub sub=true) then -1 else 1
theorem ltID_iff {a b:ID}:ltID a b=true↔a.client<b.client∨a.client=b.client∧a.seq<b.seq:=by
 unfold ltID;rw [decide_eq_true_iff,cmpID_lt]
theorem ID.ext' {a b:ID}:a=b↔a.client=b.client∧a.seq=b.seq:=by cases a;cases b;simp
theorem sgnE_lt {tree sub:ID} {e:Entry}:sgnE tree sub e<0↔ltID e.tree tree=true∨(e.tree=tree∧ltID e.sub sub=true):=by
 unfold sgnE
 split
 ·rename_i h
  rw [h.1,h.2,ltID_iff,ltID_iff]
  constructor
  ·intro q;omega
  ·rintro (q|⟨_,q⟩)<;>omega
 ·split
  ·rename_i h;exact ⟨fun _=>h,fun _=>by decide⟩
  ·rename_i h;exact ⟨fun q=>by omega,fun q=>absurd q h⟩
theorem sgnE_eq {tree sub:ID} {e:Entry}:sgnE tree sub e=0↔e.tree=tree∧e.sub=sub:=by
 unfold sgnE
 split
 ·rename_i h;exact ⟨fun _=>h,fun _=>rfl⟩
 ·rename_i h
  split<;>exact ⟨fun q=>by omega,fun q=>absurd q h⟩
theorem ltE_sgn (a b:Entry):ltE a b=true↔sgnE b.tree b.sub a<0:=by
 rw [sgnE_lt,ltID_iff,ltID_iff]
 unfold ltE cmpE orI
 rw [decide_eq_true_iff]
 split
 ·rename_i h
  rw [cmpID_eq]at h
  rw [cmpID_lt,h]
  constructor
  ·intro q;exact .inr ⟨rfl,q⟩
  ·rintro (q|⟨_,q⟩)
   ·omega
   ·exact q
 ·rename_i h
  rw [cmpID_eq]at h
  rw [cmpID_lt]
  constructor
  ·intro q;exact .inl q
  ·rintro (q|⟨q,_⟩)
   ·exact q
   ·exact absurd q h
def RisingE (l:List Entry):Prop:=l.Pairwise fun a b=>sgnE b.tree b.sub a<0
theorem sgnE_trans {t s:ID} {a b:Entry} (h1:sgnE b.tree b.sub a<0) (h2:sgnE t s b≤0):sgnE t s a<0:=by
 rw [sgnE_lt,ltID_iff,ltID_iff]at *
 by_cases h0:sgnE t s b=0
 ·rw [sgnE_eq]at h0
  rw [h0.1,h0.2]at h1
  exact h1
 ·have h3:sgnE t s b<0:=by omega
  rw [sgnE_lt,ltID_iff,ltID_iff]at h3
  rw [ID.ext']at *
  omega
theorem monoE {l:List Entry} (h:RisingE l) (t s:ID):∀i j (hi:i<l.length) (hj:j<l.length),i≤j→sgnE t s l[j]<0→sgnE t s l[i]<0:=by
 intro i j hi hj hij hlt
 rcases Nat.lt_or_eq_of_le hij with hl|rfl
 ·exact sgnE_trans (List.pairwise_iff_getElem.1 h i j hi hj hl) (by omega)
 ·exact hlt
theorem of_risesE:∀{l:List Entry},RisingE l→risesB ltE l=true
 | [],_=>rfl
 | [a],_=>rfl
 | a::b::r,h=>by
  unfold RisingE at h
  rw [List.pairwise_cons]at h
  simp only [risesB,Bool.and_eq_true]
  exact ⟨(ltE_sgn a b).2 (h.1 b (List.mem_cons_self ..)),of_risesE (l:=b::r) h.2⟩
def isE (tree sub:ID) (e:Entry):Bool:=decide (e.tree=tree∧e.sub=sub)
theorem hitE {l:List Entry} (h:RisingE l) (t s:ID):match l.find? (isE t s) with
  | some a=>hitAt (sgnE t s) l=true∧l[lowIdx (sgnE t s) l]?=some a
  | none=>hitAt (sgnE t s) l=false:=by
 cases hf:l.find? (isE t s) with
 | some a =>
  have hax:a.tree=t∧a.sub=s:=by simpa [isE] using List.find?_some hf
  obtain ⟨i,hi,hia⟩:=List.mem_iff_getElem.1 (List.mem_of_find?_eq_some hf)
  have h0:sgnE t s a=0:=sgnE_eq.2 hax
  have hk:lowIdx (sgnE t s) l=i:=by
   refine lowIdx_eq (Nat.le_of_lt hi) (fun q hq=>?_) (fun hq=>?_)
   ·exact sgnE_trans (List.pairwise_iff_getElem.1 h q i (by omega) hi hq) (by rw [hia,h0];decide)
   ·rw [hia,h0];decide
  have hge:l[lowIdx (sgnE t s) l]?=some a:=by rw [hk,List.getElem?_eq_getElem hi,hia]
  refine ⟨?_,hge⟩
  unfold hitAt
  rw [hge]
  simp [h0]
 | none =>
  unfold hitAt
  cases hg:l[lowIdx (sgnE t s) l]? with
  | none=>rfl
  | some a =>
   have:=List.find?_eq_none.1 hf a (List.mem_of_getElem? hg)
   simp only [decide_eq_false_iff_not]
   rw [sgnE_eq]
   simpa [isE] using this
theorem s155 (tg:Bool) (e:Entry) (c d t1 t2:Int):pcF D t155 [.agg [.int .i64 e.tree.client,.int .i64 e.tree.seq,.int .i64 e.sub.client,.int .i64 e.sub.seq,ePred e.pred,.int .i64 e.frm,.bool e.up],.agg [.int .i64 c,.int .i64 d],.iptr tg [.int .i64 t1,.int .i64 t2] 0]=some (.int .i64 (sgnE ⟨t1,t2⟩ ⟨c,d⟩ e)):=by
 obtain ⟨⟨a1,a2⟩,⟨b1,b2⟩,p,q,u⟩:=e
 unfold pcF
 rw [goRun_eq _ _ _ _ (by simp [t155])]
 simp only
 have hA:((a1 == t1) && (a2 == t2))=decide ((⟨a1,a2⟩:ID)=⟨t1,t2⟩):=by by_cases h1:a1=t1<;>by_cases h2:a2=t2<;>simp [h1,h2]
 have hB:((b1 == c) && (b2 == d))=decide ((⟨b1,b2⟩:ID)=⟨c,d⟩):=by by_cases h1:b1=c<;>by_cases h2:b2=d<;>simp [h1,h2]
 by_cases h1:(⟨a1,a2⟩:ID)=⟨t1,t2⟩
 ·rw [decide_eq_true h1]at hA
  have hlt:ltID ⟨a1,a2⟩ ⟨t1,t2⟩=false:=by rw [h1];simp [ltID,(cmpID_eq (a:=⟨t1,t2⟩)).2 rfl]
  by_cases h2:(⟨b1,b2⟩:ID)=⟨c,d⟩
  ·rw [decide_eq_true h2]at hB
   simp [t155,-Bool.and_eq_true,-beq_iff_eq,hA,hB,sgnE,h1,h2]
  ·rw [decide_eq_false h2]at hB
   cases hs:ltID ⟨b1,b2⟩ ⟨c,d⟩<;>simp [t155,-Bool.and_eq_true,-beq_iff_eq,hA,hB,sgnE,eq_true h1,h2,e56,s56,hlt,hs]
 ·rw [decide_eq_false h1]at hA
  cases hlt:ltID ⟨a1,a2⟩ ⟨t1,t2⟩<;>simp [t155,-Bool.and_eq_true,-beq_iff_eq,hA,sgnE,h1,e56,s56,hlt]
end Go.Dm.Tc
/-
What functions of the program compute,part 16: an entry found;a tree's entries;is a predicate covered?
-/
namespace Go.Dm.Tc
theorem s113 (x0 x1 x2 x3 x5:DV) (t:Bool) (l:List Entry) (a b c d:Int) (hr:RisingE l) (hl:l.length≤1000000) :
  pcF D t113 [.agg [x0,x1,x2,x3,eL t 7 eEntry l,x5],.agg [.int .i64 a,.int .i64 b],.agg [.int .i64 c,.int .i64 d]]=some (.tup [.int .i64 (lowIdx (sgnE ⟨a,b⟩ ⟨c,d⟩) l),.bool (hitAt (sgnE ⟨a,b⟩ ⟨c,d⟩) l)]):=by
 have hb:=s154 t l c d 155 [.iptr true [.int .i64 a,.int .i64 b] 0] (sgnE ⟨a,b⟩ ⟨c,d⟩) (fun x _ h=>by simp [eEntry,e155,s155]) hl (monoE hr ⟨a,b⟩ ⟨c,d⟩)
 unfold pcF
 rw [goRun_eq _ _ _ _ (by simp [t113])]
 simp [t113,e154,hb,resultsOf]
def entZero:Entry:=⟨⟨0,0⟩,⟨0,0⟩,[],0,false⟩
theorem s32 (x0 x1 x2 x3 x5:DV) (t:Bool) (l:List Entry) (a b c d:Int) (hr:RisingE l) (hl:l.length≤1000000) (f0:Flat 20 x0) (f1:Flat 20 x1) (f2:Flat 20 x2) (f3:Flat 20 x3) (f5:Flat 20 x5) :
  pcF D t32 [.agg [x0,x1,x2,x3,eL t 7 eEntry l,x5],.agg [.int .i64 a,.int .i64 b],.agg [.int .i64 c,.int .i64 d]]=some (.tup [eEntry ((l.find? (isE ⟨a,b⟩ ⟨c,d⟩)).getD entZero),.bool (hasO (l.find? (isE ⟨a,b⟩ ⟨c,d⟩)))]):=by
 have hf:=hitE hr ⟨a,b⟩ ⟨c,d⟩
 have g0:∀h,resolve true h 199 x0=some x0:=fun h=>f0 _ _ _ (by decide)
 have g1:∀h,resolve true h 199 x1=some x1:=fun h=>f1 _ _ _ (by decide)
 have g2:∀h,resolve true h 199 x2=some x2:=fun h=>f2 _ _ _ (by decide)
 have g3:∀h,resolve true h 199 x3=some x3:=fun h=>f3 _ _ _ (by decide)
 have g5:∀h,resolve true h 199 x5=some x5:=fun h=>f5 _ _ _ (by decide)
 unfold pcF
 rw [goRun_eq _ _ _ _ (by simp [t32])]
 cases hq:l.find? (isE ⟨a,b⟩ ⟨c,d⟩) with
 | none =>
  rw [hq]at hf
  simp only at hf
  simp [t32,e113,s113,g0,g1,g2,g3,g5,hr,hl,hf,eEntry,entZero,hasO,turn,resultsOf]
  rfl
 | some e =>
  rw [hq]at hf
  simp only at hf
  simp [t32,e113,s113,g0,g1,g2,g3,g5,hr,hl,hf.1,hf.2,eEntry,hasO,turn,resultsOf]
def ofT (tree:ID) (l:List Entry):List Entry:=l.filter fun e=>decide (e.tree=tree)
theorem l40 (t:Bool) (l:List Entry) (c d:Int) (hl:l.length≤1000000) (h0:Heap) (g1:h0.get 1=some (.arr 37 2 [.agg [.int .i64 c,.int .i64 d]] (some 1))) (hlim:h0.lim=0) (hn:2≤h0.n) :
  ∀(rest acc:List Entry) (i:Nat) (f:FEnv) (h:Heap),l.drop i=rest→acc.length≤i→f 3=.ptr 1 2 0 0→f 9=eL t 7 eEntry l→f 10=.int .i64 l.length→f 11=.int .i64 i→OwnR 2 h (f 5) 58 7 (acc.map eEntry)→Ext 2 h0 h →
  pcOut (fin [.t 4] (run D 25 [.block 0,.seq t40k0] (.loop t40l0) f h))=some (eL false 7 eEntry (acc++ofT ⟨c,d⟩ rest)):=by
 intro rest
 induction rest with
 | nil =>
  intro acc i f h hd ha h3 h9 h10 h11 ho hx
  have hi:=drop_nil hd
  have:¬(i<l.length):=by omega
  rw [run_loop_of t40l0.eq_1]
  simp only [ofT,List.filter_nil,List.append_nil]
  have hout:=ho.out (k:=22) (fun y _=>(plain_entry y).1.mono (by decide)) (fun y _=>(plain_entry y).2) (by decide)
  simp [t40k0,h10,h11,this,-pcOut_some]
  exact hout
 | cons e rest ih =>
  intro acc i f h hd ha h3 h9 h10 h11 ho hx
  obtain ⟨hi,he,hd'⟩:=drop_at hd
  have hlH:h.lim=0:=hx.lim.trans hlim
  have hg1:=(hx.get 1 (by decide)).trans g1
  have hnh:=hx.le
  have n1:¬1=h.n:=by omega
  have hw:IntKind.i64.wrap ((i:Int)+1)=(i:Int)+1:=wrap64 (by omega) (by omega)
  rw [run_loop_of t40l0.eq_1]
  by_cases hc:e.tree=⟨c,d⟩
  ·have hc1:e.tree.client=c:=by rw [hc]
   have hc2:e.tree.seq=d:=by rw [hc]
   have hf:ofT ⟨c,d⟩ (e::rest)=e::ofT ⟨c,d⟩ rest:=by simp [ofT,hc]
   rw [hf,List.append_cons]
   simp [h3,h9,h10,h11,hi,he,hlH,hg1,n1,eEntry,hc1,hc2]
   generalize hA:appendD _ _ _ _ _ _=A
   obtain ⟨v',h',rfl,ho',hx',_⟩:=ho.push.push.append hx.push.push.wf (hx.push.push.le) (by simp [hlH]) hA (by simp;omega) (by decide)
   clear hA
   simp [h11,hw]
   generalize hF:upd _ 11 _=F
   have:=ih (acc++[e]) (i+1) F h' hd' (by simp;omega) (by rw [←hF];simp [h3]) (by rw [←hF];simp [h9]) (by rw [←hF];simp [h10]) (by rw [←hF];simp) (by rw [←hF];simp;simpa [eEntry,hc1,hc2] using ho') (hx.push.push.trans hx')
   simpa using this
  ·have hcb:=id_ne hc
   simp only at hcb
   have hf:ofT ⟨c,d⟩ (e::rest)=ofT ⟨c,d⟩ rest:=by simp [ofT,hc]
   rw [hf]
   simp [h3,h9,h10,h11,hi,he,hlH,hg1,n1,eEntry,hcb,hw]
   generalize hF:upd _ 11 _=F
   exact ih acc (i+1) F _ hd' (by omega) (by rw [←hF];simp [h3]) (by rw [←hF];simp [h9]) (by rw [←hF];simp [h10]) (by rw [←hF];simp) (by rw [←hF];simp;exact ho.push) hx.push
theorem s40 (x0 x1 x2 x3 x5:DV) (t:Bool) (l:List Entry) (c d:Int) (hl:l.length≤1000000) :
  pcF D t40 [.agg [x0,x1,x2,x3,eL t 7 eEntry l,x5],.agg [.int .i64 c,.int .i64 d]]=some (eL false 7 eEntry (ofT ⟨c,d⟩ l)):=by
 unfold pcF
 rw [goRun_eq _ _ _ _ (by simp [t40])]
 simp [t40,-pcOut_some]
 refine (l40 t l c d hl _ ?_ ?_ ?_ l [] 0 _ _ rfl (by simp) ?_ ?_ ?_ ?_ ?_ (Ext.refl ?_ ?_))<;>simp
 exact .nil rfl rfl
theorem s117 (tg:Bool) (e:Entry) (p:Pred) (hu:Unlike p) (hp:p.length≤1000000) (he:e.pred.length≤1000000):pcF D t117 [.agg [.int .i64 e.tree.client,.int .i64 e.tree.seq,.int .i64 e.sub.client,.int .i64 e.sub.seq,ePred e.pred,.int .i64 e.frm,.bool e.up],.iptr tg [ePred p] 0]=some (.bool (e.up && coversP e.pred p)):=by
 unfold pcF
 rw [goRun_eq _ _ _ _ (by simp [t117])]
 cases e.up<;>simp [t117,e54,s54,hu,hp,he]
def coveredB (l:List Entry) (tree:ID) (p:Pred):Bool:=(ofT tree l).any fun e=>e.up && coversP e.pred p
theorem s35 (x0 x1 x2 x3 x5:DV) (t:Bool) (l:List Entry) (c d:Int) (p:Pred) (hl:l.length≤1000000) (hu:Unlike p) (hp:p.length≤1000000) (he:∀e∈l,e.pred.length≤1000000) (f0:Flat 20 x0) (f1:Flat 20 x1) (f2:Flat 20 x2) (f3:Flat 20 x3) (f5:Flat 20 x5) :
  pcF D t35 [.agg [x0,x1,x2,x3,eL t 7 eEntry l,x5],.agg [.int .i64 c,.int .i64 d],ePred p]=some (.bool (coveredB l ⟨c,d⟩ p)):=by
 have g0:∀h,resolve true h 199 x0=some x0:=fun h=>f0 _ _ _ (by decide)
 have g1:∀h,resolve true h 199 x1=some x1:=fun h=>f1 _ _ _ (by decide)
 have g2:∀h,resolve true h 199 x2=some x2:=fun h=>f2 _ _ _ (by decide)
 have g3:∀h,resolve true h 199 x3=some x3:=fun h=>f3 _ _ _ (by decide)
 have g5:∀h,resolve true h 199 x5=some x5:=fun h=>f5 _ _ _ (by decide)
 have hlo:(ofT ⟨c,d⟩ l).length≤1000000:=Nat.le_trans (List.length_filter_le ..) hl
 have hcf:=s106 false (ofT ⟨c,d⟩ l) 117 [.iptr true [ePred p] 0] (fun e=>e.up && coversP e.pred p) (fun x hx=>by
  simp only [List.mem_singleton]at hx;subst hx;exact (flat_iptr _ _ _).mono (by decide)) (fun x hx h=>by
  have:=he x (List.mem_filter.1 hx).1
  simp [eEntry,e117,s117,hu,hp,this]) hlo
 unfold pcF
 rw [goRun_eq _ _ _ _ (by simp [t35])]
 simp [t35,e40,s40,g0,g1,g2,g3,g5,hl,e106,hcf,coveredB,-List.any_eq_true]
end Go.Dm.Tc
/-
What functions of the program compute,part 17: is a broker tight?
-/
namespace Go.Dm.Tc
def parentOf (b:Broker) (x:ID):Int:=((b.adverts.find? fun a=>a.id=x).getD advZero).parent
def tightE (b:Broker) (e:Entry):Bool:=e.up || decide (parentOf b e.tree=-1) || coveredB b.entries e.tree e.pred
def tightB (b:Broker):Bool:=b.entries.all (tightE b)
structure AskedP (b:Broker):Prop where
 unl:∀e∈b.entries,Unlike e.pred
 len:∀e∈b.entries,e.pred.length≤1000000
theorem l41 (t:Tags) (b:Broker) (hs:Sized b) (hp:AskedP b) (ra:Rising (b.adverts.map (·.id))) (h0:Heap) (g0:h0.get 0=some (.arr 29 6 [eBroker t b] (some 1))) (hlim:h0.lim=0) :
  ∀(rest:List Entry) (i:Nat) (f:FEnv) (h:Heap),b.entries.drop i=rest→f 1=.ptr 0 6 0 0→f 8=eL t.entries 7 eEntry b.entries→f 9=.int .i64 b.entries.length→f 10=.int .i64 i→Ext 1 h0 h →
  pcOut (fin [.t 2] (run D 39 [.block 0,.seq t41k0] (.loop t41l0) f h))=some (.bool (rest.all (tightE b))):=by
 obtain ⟨z1,z2,z3,z4,z5⟩:=hs
 have f1:=fun {α:Type} (t:Bool) (sz:Nat) (e:α→DV) (xs:List α)=>(flat_eL t sz e xs).mono (show 1≤20 by decide)
 intro rest
 induction rest with
 | nil =>
  intro i f h hd h1 h8 h9 h10 hx
  have hi:=drop_nil hd
  have:¬(i<b.entries.length):=by omega
  rw [run_loop_of t41l0.eq_1]
  simp [t41k0,h9,h10,this]
 | cons e rest ih =>
  intro i f h hd h1 h8 h9 h10 hx
  obtain ⟨hi,he,hd'⟩:=drop_at hd
  have hem:e∈b.entries:=by rw [←he];exact List.getElem_mem hi
  have hlH:h.lim=0:=hx.lim.trans hlim
  have hg0:=(hx.get 0 (by decide)).trans g0
  simp only [eBroker]at hg0
  have hnh:=hx.le
  have n0:¬0=h.n:=by omega
  have m0:¬h.n=0:=by omega
  have hw:IntKind.i64.wrap ((i:Int)+1)=(i:Int)+1:=wrap64 (by omega) (by omega)
  have hFd:=s23 (.int .i64 b.me) (eL t.near 1 cInt b.near) (eL t.seen 2 eID b.seen) (eL t.entries 7 eEntry b.entries) (eL t.owns 3 eOwn b.owns) t.adverts b.adverts e.tree.client e.tree.seq ra (by omega) ((flat_int _ _).mono (by decide)) (f1 _ _ _ _) (f1 _ _ _ _) (f1 _ _ _ _) (f1 _ _ _ _)
  have hCv:=s35 (.int .i64 b.me) (eL t.near 1 cInt b.near) (eL t.adverts 4 eAdvert b.adverts) (eL t.seen 2 eID b.seen) (eL t.owns 3 eOwn b.owns) t.entries b.entries e.tree.client e.tree.seq e.pred (by omega) (hp.unl e hem) (hp.len e hem) hp.len ((flat_int _ _).mono (by decide)) (f1 _ _ _ _) (f1 _ _ _ _) (f1 _ _ _ _) (f1 _ _ _ _)
  obtain ⟨a,ha⟩:∃ a,(b.adverts.find? fun a=>decide (a.id=⟨e.tree.client,e.tree.seq⟩)).getD advZero=a:=⟨_,rfl⟩
  have hpa:parentOf b e.tree=a.parent:=by unfold parentOf;rw [←ha]
  rw [ha]at hFd
  obtain ⟨C,hC⟩:∃ C,coveredB b.entries e.tree e.pred=C:=⟨_,rfl⟩
  rw [show coveredB b.entries ⟨e.tree.client,e.tree.seq⟩ e.pred=C from hC]at hCv
  rw [run_loop_of t41l0.eq_1]
  have hte:tightE b e=(e.up || decide (a.parent=-1) || C):=by unfold tightE;rw [hpa,hC]
  rw [List.all_cons,hte]
  have next:∀F H,F 1=.ptr 0 6 0 0→F 8=eL t.entries 7 eEntry b.entries→F 9=.int .i64 b.entries.length→F 10=.int .i64 ((i:Int)+1)→Ext 1 h0 H→pcOut (fin [.t 2] (run D 39 [.block 0,.seq t41k0] (.loop t41l0) F H))=some (.bool (rest.all (tightE b))):=fun F H a1 a2 a3 a4 a5=>ih (i+1) F H hd' a1 a2 a3 (by rw [a4];simp) a5
  simp only [eAdvert]at hFd
  cases hup:e.up with
  | true =>
   simp [h1,h8,h9,h10,hi,he,hlH,hg0,n0,m0,eEntry,hup,e23,hFd,turn,hw]
   exact next _ _ (by simp [h1]) (by simp [h8]) (by simp [h9]) (by simp) hx.push.push
  | false =>
   by_cases hpl:a.parent=-1
   ·simp [h1,h8,h9,h10,hi,he,hlH,hg0,n0,m0,eEntry,hup,e23,hFd,turn,hw,hpl]
    exact next _ _ (by simp [h1]) (by simp [h8]) (by simp [h9]) (by simp) hx.push.push
   ·cases C with
    | true =>
     simp [h1,h8,h9,h10,hi,he,hlH,hg0,n0,m0,eEntry,hup,e23,hFd,turn,hw,hpl,e35,hCv]
     exact next _ _ (by simp [h1]) (by simp [h8]) (by simp [h9]) (by simp) hx.push.push
    | false=>simp [h1,h8,h9,h10,hi,he,hlH,hg0,n0,m0,eEntry,hup,e23,hFd,turn,hw,hpl,e35,hCv]
theorem s41 (t:Tags) (b:Broker) (hs:Sized b) (hp:AskedP b) (ra:Rising (b.adverts.map (·.id))):pcF D t41 [eBroker t b]=some (.bool (tightB b)):=by
 unfold pcF
 rw [goRun_eq _ _ _ _ (by simp [t41])]
 simp only [eBroker]
 simp [t41]
 refine (l41 t b hs hp ra _ ?_ ?_ b.entries 0 _ _ rfl ?_ ?_ ?_ ?_ (Ext.refl ?_ ?_)).trans ?_<;>simp [eBroker,tightB]
end Go.Dm.Tc
/-
What the reference's functions compute,part 4: an entry's place;is a predicate covered?
-/
namespace Go.Dm.Tc
end Go.Dm.Tc
/-
What the reference's functions compute,part 5: does a predicate cover another one? is it covered?
-/
namespace Go.Dm.Tc
end Go.Dm.Tc
/-
Plain laws,part 3: names of right predicates are unlike;the two coverings are alike. The reference's Covered.
-/
namespace Go.Dm.Tc
theorem u8_lt {a b:UInt8}:(decide (a<b))=decide (a.toNat<b.toNat):=by
 by_cases h:a<b
 ·rw [decide_eq_true h,decide_eq_true (UInt8.lt_iff_toNat_lt.1 h)]
 ·rw [decide_eq_false h,decide_eq_false (fun q=>h (UInt8.lt_iff_toNat_lt.2 q))]
theorem bl_irr:∀a:List UInt8,Go.Op.bytesLess a a=false
 | []=>rfl
 | a::r=>by simp only [Go.Op.bytesLess,u8_lt,bl_irr r];simp
theorem bl_trans:∀{a b c:List UInt8},Go.Op.bytesLess a b=true→Go.Op.bytesLess b c=true→Go.Op.bytesLess a c=true
 | _,[],_,h,_=>by cases ‹List UInt8›<;>simp [Go.Op.bytesLess]at h
 | _,_::_,[],_,h=>by simp [Go.Op.bytesLess]at h
 | [],_::_,_::_,_,_=>rfl
 | a::x,b::y,c::z,h1,h2=>by
  simp only [Go.Op.bytesLess,u8_lt,Bool.or_eq_true,Bool.and_eq_true,decide_eq_true_iff,beq_iff_eq]at *
  rcases h1 with h1|⟨rfl,h1⟩
  ·rcases h2 with h2|⟨rfl,h2⟩
   ·exact .inl (by omega)
   ·exact .inl h1
  ·rcases h2 with h2|⟨rfl,h2⟩
   ·exact .inl h2
   ·exact .inr ⟨rfl,bl_trans h1 h2⟩
theorem rightA_names:∀{p:Pred} {prev:Option (List UInt8)},rightA prev p=true→(∀n,prev=some n→∀c∈p,Go.Op.bytesLess n c.name=true)∧p.Pairwise fun a b=>Go.Op.bytesLess a.name b.name=true
 | [],_,_=>⟨fun _ _ _ h=>(by cases h),List.Pairwise.nil⟩
 | c::r,prev,h=>by
  simp only [rightA,Bool.and_eq_true]at h
  obtain ⟨⟨_,h2⟩,h3⟩:=h
  obtain ⟨k1,k2⟩:=rightA_names h3
  refine ⟨fun n hn d hd=>?_,List.pairwise_cons.2 ⟨fun d hd=>k1 c.name rfl d hd,k2⟩⟩
  subst hn
  rcases List.mem_cons.1 hd with rfl|hd
  ·exact h2
  ·exact bl_trans h2 (k1 c.name rfl d hd)
theorem rightA_each:∀{p:Pred} {prev:Option (List UInt8)},rightA prev p=true→∀c∈p,rightOne c=true
 | [],_,_,_,h=>by cases h
 | c::r,prev,h,d,hd=>by
  simp only [rightA,Bool.and_eq_true]at h
  rcases List.mem_cons.1 hd with rfl|hd
  ·exact h.1.1
  ·exact rightA_each h.2 d hd
theorem PredOk.unlike {p:Pred} (h:PredOk p):Unlike p:=by
 have:=h.right
 unfold rightP at this
 rw [Bool.and_eq_true]at this
 refine (rightA_names this.1).2.imp fun {a b} hab e=>?_
 rw [e,bl_irr]at hab
 cases hab
theorem PredOk.each {p:Pred} (h:PredOk p):∀c∈p,rightOne c=true:=by
 have:=h.right
 unfold rightP at this
 rw [Bool.and_eq_true]at this
 exact rightA_each this.1
theorem PredOk.nil:PredOk []:=⟨rfl,⟨by decide,fun c h=>by cases h⟩,by decide⟩
end Go.Dm.Tc
/-
What functions of the program compute,part 18: an entry added.
-/
namespace Go.Dm.Tc
def insE (e:Entry) (l:List Entry):List Entry:=l.take (lowIdx (sgnE e.tree e.sub) l)++e::l.drop (lowIdx (sgnE e.tree e.sub) l)
def mayAdd (b:Broker) (e:Entry):Bool :=
 match b.adverts.find? (fun a=>a.id=e.tree) with
 | none=>false
 | some a=>!(b.entries.any (isE e.tree e.sub)) && !(decide (e.frm=a.parent) && !decide (a.parent=-1))
def upOf (b:Broker) (e:Entry):Bool:=!decide (parentOf b e.tree=-1) && !coveredB b.entries e.tree e.pred
def addB (b:Broker) (e:Entry):Broker×Bool :=
 if mayAdd b e=true then ({b with entries:=insE {e with up:=upOf b e} b.entries},upOf b e) else (b,false)
theorem find_any {l:List Entry} {t s:ID}:l.any (isE t s)=hasO (l.find? (isE t s)):=by
 cases h:l.find? (isE t s) with
 | none =>
  rw [List.any_eq_false.2]
  ·rfl
  ·intro x hx
   have:=List.find?_eq_none.1 h x hx
   simpa using this
 | some a=>exact List.any_eq_true.2 ⟨a,List.mem_of_find?_eq_some h,List.find?_some h⟩
set_option maxRecDepth 8000 in
theorem s31 (b:Broker) (e:Entry) (hs:Sized b) (hq:AskedP b) (hpo:PredOk e.pred) (ra:Rising (b.adverts.map (·.id))) (re:RisingE b.entries) :
  pcF D t31 [eBroker .none b,.agg [.int .i64 e.tree.client,.int .i64 e.tree.seq,.int .i64 e.sub.client,.int .i64 e.sub.seq,ePred e.pred,.int .i64 e.frm,.bool e.up]]=some (.tup [eBroker .none (addB b e).1,.bool (addB b e).2]):=by
 obtain ⟨me,near,adv,seen,ent,own⟩:=b
 obtain ⟨⟨tc,td⟩,⟨sc,sd⟩,p,frm,up⟩:=e
 obtain ⟨z1,z2,z3,z4,z5⟩:=hs
 simp only at z1 z2 z3 z4 z5 ra re hpo
 obtain ⟨R,hR⟩:∃ R,R=DV.tup [eBroker .none (addB ⟨me,near,adv,seen,ent,own⟩ ⟨⟨tc,td⟩,⟨sc,sd⟩,p,frm,up⟩).1,.bool (addB ⟨me,near,adv,seen,ent,own⟩ ⟨⟨tc,td⟩,⟨sc,sd⟩,p,frm,up⟩).2]:=⟨_,rfl⟩
 rw [←hR]
 have hal:adv.length≤1000000:=by omega
 have hel:ent.length≤1000000:=by omega
 have f1:=fun {α:Type} (t:Bool) (sz:Nat) (e:α→DV) (xs:List α)=>(flat_eL t sz e xs).mono (show 1≤20 by decide)
 have hFd:=fun u4=>s23 (.int .i64 me) (eL false 1 cInt near) (eL false 2 eID seen) (eL u4 7 eEntry ent) (eL false 3 eOwn own) false adv tc td ra hal ((flat_int _ _).mono (by decide)) (f1 _ _ _ _) (f1 _ _ _ _) (f1 _ _ _ _) (f1 _ _ _ _)
 have hPl:=fun u4=>s113 (.int .i64 me) (eL false 1 cInt near) (eL false 4 eAdvert adv) (eL false 2 eID seen) (eL false 3 eOwn own) u4 ent tc td sc sd re hel
 have hCv:=fun u4=>s35 (.int .i64 me) (eL false 1 cInt near) (eL false 4 eAdvert adv) (eL false 2 eID seen) (eL false 3 eOwn own) u4 ent tc td p hel hpo.unlike (Nat.le_trans hpo.len (by decide)) hq.len ((flat_int _ _).mono (by decide)) (f1 _ _ _ _) (f1 _ _ _ _) (f1 _ _ _ _) (f1 _ _ _ _)
 have hhit:=hitE re ⟨tc,td⟩ ⟨sc,sd⟩
 have hany:=find_any (l:=ent) (t:=⟨tc,td⟩) (s:=⟨sc,sd⟩)
 unfold pcF
 rw [goRun_eq _ _ _ _ (by simp [t31])]
 simp [t31,eBroker,Tags.none,e112]
 generalize hA:cloneHook _ _ _ _ _=A
 obtain ⟨v4,K,rfl,o4,x,_⟩:=clone_own (lo:=3) (elems_eL ..) (by simp) (by simp) (by simp) (by simp;omega) (by decide) hA
 clear hA
 have a0:=x.get 0 (by decide)
 have a1:=x.get 1 (by decide)
 have a2:=x.get 2 (by decide)
 have q0:=x.lim
 have w0:=x.wf
 have n0:=x.le
 simp at a0 a1 a2 q0
 have l0':0<K.n:=by omega
 obtain ⟨H,hH⟩:∃ H,H=K.set 0 (.arr 29 6 [.agg [.int .i64 me,eL false 1 cInt near,eL false 4 eAdvert adv,eL false 2 eID seen,v4,eL false 3 eOwn own]] (some 1)):=⟨_,rfl⟩
 have wH:WF H:=by rw [hH];exact w0.set
 have nH:H.n=K.n:=by rw [hH];rfl
 have lH:H.lim=0:=by rw [hH];exact q0
 have g0:H.get 0=some (.arr 29 6 [.agg [.int .i64 me,eL false 1 cInt near,eL false 4 eAdvert adv,eL false 2 eID seen,v4,eL false 3 eOwn own]] (some 1)):=by rw [hH,get_set w0 l0',if_pos rfl]
 have g1:H.get 1=some (.arr 58 7 [.agg [.int .i64 tc,.int .i64 td,.int .i64 sc,.int .i64 sd,ePred p,.int .i64 frm,.bool up]] (some 1)):=by rw [hH,get_set w0 l0',if_neg (by decide)];exact a1
 have g2:H.get 2=some (.arr 29 6 [.agg [.int .i64 0,.nsl,.nsl,.nsl,.nsl,.nsl]] (some 1)):=by rw [hH,get_set w0 l0',if_neg (by decide)];exact a2
 have st4:=o4.storable
 have ec4:=o4.ecells
 replace o4:Own 3 H v4 58 7 (ent.map eEntry):=by rw [hH];exact o4.setLow w0 (by decide) l0'
 simp [a0,a1,a2,q0,w0,l0',st4,ec4,turn]
 rw [←hH]
 clear hH
 have l0:0<H.n:=by omega
 have l1:1<H.n:=by omega
 have l2:2<H.n:=by omega
 have nn0:¬0=H.n:=by omega
 have nn1:¬1=H.n:=by omega
 have nn2:¬2=H.n:=by omega
 have mm0:¬H.n=0:=by omega
 have mm1:¬H.n=1:=by omega
 have mm2:¬H.n=2:=by omega
 have r1:resolve true H 199 v4=some (eL true 7 eEntry ent):=o4.resolve true (fun y _=>(plain_entry y).1) (by decide)
 have r1p:∀o,resolve true (H.push o) 199 v4=some (eL true 7 eEntry ent):=fun o=>o4.push.resolve true (fun y _=>(plain_entry y).1) (by decide)
 have r2:∀o o',resolve false ((H.set 2 o').push o) 198 v4=some (eL false 7 eEntry ent):=fun o o'=>((o4.setLow wH (by decide) l2).push).resolve false (fun y _=>(plain_entry y).1) (by decide)
 cases hq1:adv.find? (fun a=>decide (a.id=⟨tc,td⟩)) with
 | none =>
  rw [hq1]at hFd
  have hmay:mayAdd ⟨me,near,adv,seen,ent,own⟩ ⟨⟨tc,td⟩,⟨sc,sd⟩,p,frm,up⟩=false:=by simp [mayAdd,hq1]
  simp [g0,g1,g2,lH,wH,nn0,nn1,nn2,mm0,mm1,mm2,l0,l1,l2,e23,hFd,e113,hPl,hhit,r1,r2,eAdvert,turn,resultsOf,hasO,advZero,r1p]
  simp [hR,addB,hmay,eBroker,Tags.none]
 | some a =>
  rw [hq1]at hFd
  simp only [eAdvert,Option.getD_some]at hFd
  cases hq2:ent.find? (isE ⟨tc,td⟩ ⟨sc,sd⟩) with
  | some e2 =>
   rw [hq2]at hhit hany
   simp only at hhit
   have hhit':=hhit.1
   have hmay:mayAdd ⟨me,near,adv,seen,ent,own⟩ ⟨⟨tc,td⟩,⟨sc,sd⟩,p,frm,up⟩=false:=by simp only [mayAdd,hq1,hany];simp [hasO]
   simp [g0,g1,g2,lH,wH,nn0,nn1,nn2,mm0,mm1,mm2,l0,l1,l2,e23,hFd,e113,hPl,r1,r2,eAdvert,turn,resultsOf,hasO,r1p,hhit']
   simp [hR,addB,hmay,eBroker,Tags.none]
  | none =>
   rw [hq2]at hhit hany
   simp only at hhit
   by_cases hfp:frm=a.parent∧¬a.parent=-1
   ·have hmay:mayAdd ⟨me,near,adv,seen,ent,own⟩ ⟨⟨tc,td⟩,⟨sc,sd⟩,p,frm,up⟩=false:=by simp only [mayAdd,hq1,hany];simp [hfp.1,hfp.2]
    have hf1:=hfp.1
    have hf2:=hfp.2
    subst hf1
    simp [g0,g1,g2,lH,wH,nn0,nn1,nn2,mm0,mm1,mm2,l0,l1,l2,e23,hFd,e113,hPl,hhit,r1,r2,eAdvert,turn,resultsOf,hasO,r1p,hf2]
    simp [hR,addB,hmay,eBroker,Tags.none]
   ·have hmay:mayAdd ⟨me,near,adv,seen,ent,own⟩ ⟨⟨tc,td⟩,⟨sc,sd⟩,p,frm,up⟩=true:=by
     simp only [mayAdd,hq1,hany,hasO]
     by_cases h1:frm=a.parent
     ·have h2:a.parent=-1:=by
       by_cases h2:a.parent=-1
       ·exact h2
       ·exact absurd ⟨h1,h2⟩ hfp
      simp [h2]
     ·simp [h1]
    have hpar:parentOf ⟨me,near,adv,seen,ent,own⟩ ⟨tc,td⟩=a.parent:=by simp [parentOf,hq1]
    by_cases hpl:a.parent=-1
    ·have hup:upOf ⟨me,near,adv,seen,ent,own⟩ ⟨⟨tc,td⟩,⟨sc,sd⟩,p,frm,up⟩=false:=by simp [upOf,hpar,hpl]
     by_cases hfm:frm=a.parent
     ·simp [g0,g1,g2,lH,wH,nn0,nn1,nn2,mm0,mm1,mm2,l0,l1,l2,e23,hFd,e113,hPl,hhit,r1,eAdvert,turn,r1p,hasO,eq_true hpl,eq_true hfm]
      generalize hA:fc D _ _ _=A
      have o4i:=o4.push (o:=.arr 42 4 [.agg [.int .i64 a.id.client,.int .i64 a.id.seq,ePred a.pred,.int .i64 a.parent]] (some 1))
      obtain ⟨v4',K2,rfl,p4,x2,_⟩:=q114 hA 3 ent ⟨⟨tc,td⟩,⟨sc,sd⟩,p,frm,false⟩ (vety:=58) (c:=1) (by
        have:=((o4i.setLow (id:=1) (o:=.arr 58 7 [.agg [.int .i64 tc,.int .i64 td,.int .i64 sc,.int .i64 sd,ePred p,.int .i64 frm,.bool false]] (some 1)) wH.push (by decide) (by simp;omega)).push (o:=.arr 58 7 [.agg [.int .i64 tc,.int .i64 td,.int .i64 sc,.int .i64 sd,ePred p,.int .i64 frm,.bool false]] (some 1)))
        simpa [l1,wH] using this) (by simp [eEntry,nn0,nn1,nn2,mm0,mm1,mm2,l0,l1,l2,wH]) (lowIdx_le _ _) hel (by simp [wH]) (by simp;omega) (by simp [lH])
      clear hA
      have b0:=x2.get 0 (by decide)
      have b1:=x2.get 1 (by decide)
      have b2:=x2.get 2 (by decide)
      have q2:=x2.lim
      have w2:=x2.wf
      have n2:=x2.le
      simp [g0,g1,g2,lH,wH,nn0,nn1,nn2,mm0,mm1,mm2,l0,l1,l2]at b0 b1 b2 q2
      have h20:0<K2.n:=by omega
      have h22:2<K2.n:=by omega
      have r4':=fun o o'=>((p4.setLow (o:=o) w2 (by decide) h20).setLow (o:=o') w2.set (by decide) h22).resolve (n:=198) false (fun y _=>(plain_entry y).1) (by decide)
      simp [b0,b1,b2,q2,w2,h20,h22,p4.storable,p4.ecells,turn,r4',resultsOf]
      simp [hR,addB,hmay,hup,eBroker,Tags.none,insE]
     ·simp [g0,g1,g2,lH,wH,nn0,nn1,nn2,mm0,mm1,mm2,l0,l1,l2,e23,hFd,e113,hPl,hhit,r1,eAdvert,turn,r1p,hasO,eq_true hpl,hfm]
      generalize hA:fc D _ _ _=A
      have o4i:=o4.push (o:=.arr 42 4 [.agg [.int .i64 a.id.client,.int .i64 a.id.seq,ePred a.pred,.int .i64 a.parent]] (some 1))
      obtain ⟨v4',K2,rfl,p4,x2,_⟩:=q114 hA 3 ent ⟨⟨tc,td⟩,⟨sc,sd⟩,p,frm,false⟩ (vety:=58) (c:=1) (by
        have:=((o4i.setLow (id:=1) (o:=.arr 58 7 [.agg [.int .i64 tc,.int .i64 td,.int .i64 sc,.int .i64 sd,ePred p,.int .i64 frm,.bool false]] (some 1)) wH.push (by decide) (by simp;omega)).push (o:=.arr 58 7 [.agg [.int .i64 tc,.int .i64 td,.int .i64 sc,.int .i64 sd,ePred p,.int .i64 frm,.bool false]] (some 1)))
        simpa [l1,wH] using this) (by simp [eEntry,nn0,nn1,nn2,mm0,mm1,mm2,l0,l1,l2,wH]) (lowIdx_le _ _) hel (by simp [wH]) (by simp;omega) (by simp [lH])
      clear hA
      have b0:=x2.get 0 (by decide)
      have b1:=x2.get 1 (by decide)
      have b2:=x2.get 2 (by decide)
      have q2:=x2.lim
      have w2:=x2.wf
      have n2:=x2.le
      simp [g0,g1,g2,lH,wH,nn0,nn1,nn2,mm0,mm1,mm2,l0,l1,l2]at b0 b1 b2 q2
      have h20:0<K2.n:=by omega
      have h22:2<K2.n:=by omega
      have r4':=fun o o'=>((p4.setLow (o:=o) w2 (by decide) h20).setLow (o:=o') w2.set (by decide) h22).resolve (n:=198) false (fun y _=>(plain_entry y).1) (by decide)
      simp [b0,b1,b2,q2,w2,h20,h22,p4.storable,p4.ecells,turn,r4',resultsOf]
      simp [hR,addB,hmay,hup,eBroker,Tags.none,insE]
    ·have hfne:¬frm=a.parent:=fun e=>hfp ⟨e,hpl⟩
     cases hC:coveredB ent ⟨tc,td⟩ p with
     | true =>
      rw [hC]at hCv
      have hup:upOf ⟨me,near,adv,seen,ent,own⟩ ⟨⟨tc,td⟩,⟨sc,sd⟩,p,frm,up⟩=false:=by simp [upOf,hC]
      simp [g0,g1,g2,lH,wH,nn0,nn1,nn2,mm0,mm1,mm2,l0,l1,l2,e23,hFd,e113,hPl,hhit,r1,eAdvert,turn,r1p,hasO,hpl,hfne,e35,hCv]
      generalize hA:fc D _ _ _=A
      have o4i:=o4.push (o:=.arr 42 4 [.agg [.int .i64 a.id.client,.int .i64 a.id.seq,ePred a.pred,.int .i64 a.parent]] (some 1))
      obtain ⟨v4',K2,rfl,p4,x2,_⟩:=q114 hA 3 ent ⟨⟨tc,td⟩,⟨sc,sd⟩,p,frm,false⟩ (vety:=58) (c:=1) (by
        have:=((o4i.setLow (id:=1) (o:=.arr 58 7 [.agg [.int .i64 tc,.int .i64 td,.int .i64 sc,.int .i64 sd,ePred p,.int .i64 frm,.bool false]] (some 1)) wH.push (by decide) (by simp;omega)).push (o:=.arr 58 7 [.agg [.int .i64 tc,.int .i64 td,.int .i64 sc,.int .i64 sd,ePred p,.int .i64 frm,.bool false]] (some 1)))
        simpa [l1,wH] using this) (by simp [eEntry,nn0,nn1,nn2,mm0,mm1,mm2,l0,l1,l2,wH]) (lowIdx_le _ _) hel (by simp [wH]) (by simp;omega) (by simp [lH])
      clear hA
      have b0:=x2.get 0 (by decide)
      have b1:=x2.get 1 (by decide)
      have b2:=x2.get 2 (by decide)
      have q2:=x2.lim
      have w2:=x2.wf
      have n2:=x2.le
      simp [g0,g1,g2,lH,wH,nn0,nn1,nn2,mm0,mm1,mm2,l0,l1,l2]at b0 b1 b2 q2
      have h20:0<K2.n:=by omega
      have h22:2<K2.n:=by omega
      have r4':=fun o o'=>((p4.setLow (o:=o) w2 (by decide) h20).setLow (o:=o') w2.set (by decide) h22).resolve (n:=198) false (fun y _=>(plain_entry y).1) (by decide)
      simp [b0,b1,b2,q2,w2,h20,h22,p4.storable,p4.ecells,turn,r4',resultsOf]
      simp [hR,addB,hmay,hup,eBroker,Tags.none,insE]
     | false =>
      rw [hC]at hCv
      have hup:upOf ⟨me,near,adv,seen,ent,own⟩ ⟨⟨tc,td⟩,⟨sc,sd⟩,p,frm,up⟩=true:=by simp [upOf,hpar,hpl,hC]
      simp [g0,g1,g2,lH,wH,nn0,nn1,nn2,mm0,mm1,mm2,l0,l1,l2,e23,hFd,e113,hPl,hhit,r1,eAdvert,turn,r1p,hasO,hpl,hfne,e35,hCv]
      generalize hA:fc D _ _ _=A
      have o4i:=o4.push (o:=.arr 42 4 [.agg [.int .i64 a.id.client,.int .i64 a.id.seq,ePred a.pred,.int .i64 a.parent]] (some 1))
      obtain ⟨v4',K2,rfl,p4,x2,_⟩:=q114 hA 3 ent ⟨⟨tc,td⟩,⟨sc,sd⟩,p,frm,true⟩ (vety:=58) (c:=1) (by
        have:=((o4i.setLow (id:=1) (o:=.arr 58 7 [.agg [.int .i64 tc,.int .i64 td,.int .i64 sc,.int .i64 sd,ePred p,.int .i64 frm,.bool true]] (some 1)) wH.push (by decide) (by simp;omega)).push (o:=.arr 58 7 [.agg [.int .i64 tc,.int .i64 td,.int .i64 sc,.int .i64 sd,ePred p,.int .i64 frm,.bool true]] (some 1)))
        simpa [l1,wH] using this) (by simp [eEntry,nn0,nn1,nn2,mm0,mm1,mm2,l0,l1,l2,wH]) (lowIdx_le _ _) hel (by simp [wH]) (by simp;omega) (by simp [lH])
      clear hA
      have b0:=x2.get 0 (by decide)
      have b1:=x2.get 1 (by decide)
      have b2:=x2.get 2 (by decide)
      have q2:=x2.lim
      have w2:=x2.wf
      have n2:=x2.le
      simp [g0,g1,g2,lH,wH,nn0,nn1,nn2,mm0,mm1,mm2,l0,l1,l2]at b0 b1 b2 q2
      have h20:0<K2.n:=by omega
      have h22:2<K2.n:=by omega
      have r4':=fun o o'=>((p4.setLow (o:=o) w2 (by decide) h20).setLow (o:=o') w2.set (by decide) h22).resolve (n:=198) false (fun y _=>(plain_entry y).1) (by decide)
      simp [b0,b1,b2,q2,w2,h20,h22,p4.storable,p4.ecells,turn,r4',resultsOf]
      simp [hR,addB,hmay,hup,eBroker,Tags.none,insE]
end Go.Dm.Tc
/-
What the reference's functions compute,part 6: an entry added.
-/
namespace Go.Dm.Tc
end Go.Dm.Tc
/-
What the reference's functions compute,part 7: an entry added,all of it.
-/
namespace Go.Dm.Tc
end Go.Dm.Tc
/-
Two rows of one element type side by side: what is put behind one leaves the other one alone.
-/
namespace Go.Dm.Tc
def NotAt (v:DV) (k:Nat):Prop:=∀sz off len,v≠.sl k sz off len
theorem append_frame {lo:Nat} {h:Heap} {v:DV} {ety sz bytes:Nat} {xs ys:List DV} {A:Option (DV×Heap)} (w:OwnR lo h v ety sz xs) (wf:WF h) (hlo:lo≤h.n) (hlim:h.lim≤h.n) (hA:appendD h ety sz bytes v ys=A)
  (hb:(xs.length+ys.length)*bytes≤140737488355328) (hb1:1≤bytes) :
  ∃ v' h',A=some (v',h')∧OwnR lo h' v' ety sz (xs++ys)∧Ext lo h h'∧(∀k,k<h.n→NotAt v k→h'.get k=h.get k)∧(∀k,k<h.n→NotAt v k→NotAt v' k):=by
 have hm:xs.length+ys.length≤140737488355328:=Nat.le_trans (Nat.le_mul_of_pos_right _ hb1) hb
 by_cases hy:ys=[]
 ·subst hy
  refine ⟨v,h,?_,by simpa using w,.refl hlo wf,fun _ _ _=>rfl,fun _ _ q=>q⟩
  rw [←hA]
  cases w with
  | nil hv hx=>subst hv;rfl
  | arr id sp cap hv hg _ _=>subst hv;rfl
 ·have hye:ys.isEmpty=false:=by cases ys<;>simp_all
  have hyl:0<ys.length:=List.length_pos_iff.2 hy
  cases w with
  | nil hv hx =>
   subst hv;subst hx
   simp only [List.length_nil,Nat.zero_add]at hb hm
   refine ⟨.sl h.n sz 0 ys.length,h.push (.arr ety sz ys none),?_,.arr h.n [] none rfl (by simp [get_push]) (by exact hlim) hlo,(Ext.refl hlo wf).push,fun k hk _=>by rw [get_push,if_neg (by omega)],fun k hk _ sz' off' len' e=>by injection e;omega⟩
   rw [←hA]
   simp only [appendD,hye]
   rw [if_neg (by simp),if_pos ⟨hb,by omega⟩]
  | arr id sp cap hv hg hl hi =>
   subst hv
   have hlt:=get_some_lt hg
   have hne:∀k,NotAt (.sl id sz 0 xs.length) k→k≠id:=fun k q e=>by subst e;exact q _ _ _ rfl
   by_cases hin:xs.length+ys.length≤(xs++sp).length
   ·refine ⟨.sl id sz 0 (xs.length+ys.length),h.set id (.arr ety sz (splice (xs++sp) ys xs.length) cap),?_,.arr id (sp.drop ys.length) cap (by simp) ?_ (by exact hl) hi,(Ext.refl hlo wf).set hi hlt,fun k _ q=>by rw [get_set wf hlt,if_neg (hne k q)],fun k _ q sz' off' len' e=>by injection e with e1;exact hne k q e1.symm⟩
    ·rw [←hA];exact appendD_in hg hin hl hb hb1 hy
    ·rw [get_set wf hlt,if_pos rfl]
     simp only [splice,List.take_left',List.append_assoc]
     congr 3
     rw [List.drop_append]
     simp
   ·cases cap with
    | none =>
     refine ⟨.sl h.n sz 0 (xs.length+ys.length),(h.set id .dead).push (.arr ety sz (xs++ys) none),?_,.arr h.n [] none (by simp) ?_ (by exact hlim) hlo,((Ext.refl hlo wf).set hi hlt).push,fun k hk q=>by rw [get_push,if_neg (by show ¬k=h.n;omega),get_set wf hlt,if_neg (hne k q)],fun k hk _ sz' off' len' e=>by injection e;omega⟩
     ·rw [←hA]
      simp only [appendD,hye,hg]
      simp only [Bool.false_eq_true,if_false,true_and,Nat.zero_add,List.drop_zero]
      rw [if_pos ⟨by simp,hb,by omega⟩,if_neg hin,if_pos hl]
      simp
     ·simpa using get_push_new (h:=h.set id .dead)
    | some c =>
     refine ⟨.sl h.n sz 0 (xs.length+ys.length),h.push (.arr ety sz (xs++ys) none),?_,.arr h.n [] none (by simp) ?_ (by exact hlim) hlo,(Ext.refl hlo wf).push,fun k hk _=>by rw [get_push,if_neg (by omega)],fun k hk _ sz' off' len' e=>by injection e;omega⟩
     ·rw [←hA]
      rw [appendD_new hg (by simp) (by omega) hb hb1 hy]
      simp
     ·simpa using get_push_new (h:=h)
def takeL (tree:ID):List Entry→List Entry→List Entry→List Entry×List Entry
 | done,[],ups=>(done,ups)
 | done,e::r,ups=>if e.tree=tree∧e.up=false∧coveredB (done++e::r) tree e.pred=false then takeL tree (done++[{e with up:=true}]) r (ups++[{e with up:=true}]) else takeL tree (done++[e]) r ups
def takeB (b : Broker) (tree sub : ID) (frm : Int) : Broker × List Entry × Bool :=
  match b.entries.find? (isE tree sub) with
  | none => (b, [], false)
  | some e => if e.frm = frm then
      (if e.up = true then ({ b with entries := (takeL tree [] (b.entries.filter fun x => !isE tree sub x) []).1 }, (takeL tree [] (b.entries.filter fun x => !isE tree sub x) []).2, true)
       else ({ b with entries := b.entries.filter fun x => !isE tree sub x }, [], false))
    else (b, [], false)
end Go.Dm.Tc
/-
What functions of the program compute,part 19: an entry taken out (the loop).
-/
namespace Go.Dm.Tc
theorem set_at {α:Type} (l:List α) (e e':α) (r:List α) (sp:List α):(l++e::r++sp).set l.length e'=l++e'::r++sp:=by
 rw [List.append_assoc,List.append_assoc,List.set_append_right _ _ (Nat.le_refl _)]
 simp
theorem own_set {lo:Nat} {h:Heap} {v:DV} {ety sz:Nat} {xs:List DV} (w:OwnR lo h v ety sz xs) (wf:WF h) {id:Nat} {o:DO} (hlt:id<h.n) (na:NotAt v id):OwnR lo (h.set id o) v ety sz xs:=by
 cases w with
 | nil hv hx=>exact .nil hv hx
 | arr k sp cap hv hg hl hi =>
  have hne:¬k=id:=fun e=>by subst e;exact na _ _ _ hv
  exact .arr k sp cap hv (by rw [get_set wf hlt,if_neg hne];exact hg) hl hi
theorem not_low {lo:Nat} {h:Heap} {v:DV} {ety sz:Nat} {xs:List DV} (w:OwnR lo h v ety sz xs) {k:Nat} (hk:k<lo):NotAt v k:=by
 intro a b c e
 cases w with
 | nil hv hx=>rw [hv]at e;cases e
 | arr id sp cap hv hg hl hi=>rw [hv]at e;injection e;omega
set_option maxRecDepth 8000 in
set_option maxHeartbeats 1600000 in
theorem l34 (S:List Fr) (me:Int) (near:List Int) (adv:List Advert) (seen:List ID) (own:List OwnS) (tc td:Int) (i4 n:Nat) (zb:DO) :
  ∀(rest done ups:List Entry) (f:FEnv) (h:Heap),done.length+rest.length=n→n≤100000→ups.length≤done.length→(∀e∈done++rest,PredOk e.pred) →
   f 4=.ptr 0 6 0 0→f 5=.ptr 1 2 0 0→f 8=.ptr 3 6 0 0→f 56=.sl i4 7 0 n→f 57=.int .i64 n→f 58=.int .i64 done.length →
   h.get 0=some (.arr 29 6 [.agg [.int .i64 me,eL false 1 cInt near,eL false 4 eAdvert adv,eL false 2 eID seen,.sl i4 7 0 n,eL false 3 eOwn own]] (some 1))→h.get 1=some (.arr 37 2 [.agg [.int .i64 tc,.int .i64 td]] (some 1))→h.get 3=some zb →
   OwnI 4 h i4 58 7 ((done++rest).map eEntry)→OwnR 4 h (f 9) 58 7 (ups.map eEntry)→NotAt (f 9) i4→h.lim=0→4≤h.n→WF h →
  ∃ f' h',run D 96 (.block 0::.seq t34k0::S) (.loop t34l0) f h=run D 96 S t34k0 f' h'∧f' 4=.ptr 0 6 0 0∧f' 8=.ptr 3 6 0 0 ∧
   h'.get 0=some (.arr 29 6 [.agg [.int .i64 me,eL false 1 cInt near,eL false 4 eAdvert adv,eL false 2 eID seen,.sl i4 7 0 n,eL false 3 eOwn own]] (some 1))∧h'.get 3=some zb ∧
   OwnI 4 h' i4 58 7 ((takeL ⟨tc,td⟩ done rest ups).1.map eEntry)∧OwnR 4 h' (f' 9) 58 7 ((takeL ⟨tc,td⟩ done rest ups).2.map eEntry)∧(takeL ⟨tc,td⟩ done rest ups).1.length=n∧h'.lim=0∧4≤h'.n∧WF h':=by
 intro rest
 induction rest with
 | nil =>
  intro done ups f h hn hn1 hu hp h4 h5 h8 h56 h57 h58 g0 g1 g3 o4 o9 na hlim hn4 wf
  have:¬(done.length<n):=by simp at hn;omega
  rw [run_loop_of t34l0.eq_1]
  simp [h57,h58,this]
  refine ⟨_,_,rfl,by simp [h4],by simp [h8],g0,g3,?_,?_,?_,hlim,hn4,wf⟩
  ·simpa [takeL] using o4
  ·simpa [takeL] using o9
  ·simpa [takeL] using hn
 | cons e rest ih =>
  intro done ups f h hn hn1 hu hp h4 h5 h8 h56 h57 h58 g0 g1 g3 o4 o9 na hlim hn4 wf
  have hlt:done.length<n:=by simp at hn;omega
  have hid:=o4.lt
  have hlo:=o4.lo
  have hL:(done++e::rest).length=n:=by simp at hn ⊢;omega
  obtain ⟨⟨sp,cap,g4⟩,hl4,_⟩:=o4
  have hw:IntKind.i64.wrap ((done.length:Int)+1)=(done.length:Int)+1:=wrap64 (by omega) (by omega)
  have n0:¬0=h.n:=by omega
  have n1:¬1=h.n:=by omega
  have n3:¬3=h.n:=by omega
  have n4:¬i4=h.n:=by omega
  have m0:¬h.n=0:=by omega
  have m1:¬h.n=1:=by omega
  have i0:¬0=i4:=by omega
  have i1:¬1=i4:=by omega
  have i3:¬3=i4:=by omega
  have j0:¬i4=0:=by omega
  have j1:¬i4=1:=by omega
  have hia:indexAddrV 7 (.sl i4 7 0 n) (.int .i64 (done.length:Int))=some (.ptr i4 7 done.length 0):=by simp [indexAddrV,asI,hlt]
  have hel:(List.map eEntry (done++e::rest)++sp)[done.length]?=some (eEntry e):=by
   rw [List.getElem?_append_left (by simp),List.getElem?_map,List.getElem?_append_right (Nat.le_refl _)];simp
  have f1:=fun {α:Type} (t:Bool) (sz:Nat) (e:α→DV) (xs:List α)=>(flat_eL t sz e xs).mono (show 1≤20 by decide)
  have hpe:=hp e (by simp)
  have hCv:=s35 (.int .i64 me) (eL false 1 cInt near) (eL false 4 eAdvert adv) (eL false 2 eID seen) (eL false 3 eOwn own) true (done++e::rest) tc td e.pred (by omega) hpe.unlike (Nat.le_trans hpe.len (by decide)) (fun x hx=>Nat.le_trans (hp x hx).len (by decide)) ((flat_int _ _).mono (by decide)) (f1 _ _ _ _) (f1 _ _ _ _) (f1 _ _ _ _) (f1 _ _ _ _)
  have o4R:∀o,OwnR 4 (h.push o) (.sl i4 7 0 n) 58 7 ((done++e::rest).map eEntry):=fun o=>by
   have:=(OwnI.toR (⟨⟨sp,cap,g4⟩,hl4,hlo⟩:OwnI 4 h i4 58 7 ((done++e::rest).map eEntry))).push (o:=o)
   rw [List.length_map,hL]at this
   exact this
  have r4:∀o,resolve true (h.push o) 199 (.sl i4 7 0 n)=some (eL true 7 eEntry (done++e::rest)):=fun o=>(o4R o).resolve true (fun y _=>(plain_entry y).1) (by decide)
  simp only [eEntry]at hel
  have hstep:∀F o,takeL ⟨tc,td⟩ done (e::rest) ups=takeL ⟨tc,td⟩ (done++[e]) rest ups→F 4=.ptr 0 6 0 0→F 5=.ptr 1 2 0 0→F 8=.ptr 3 6 0 0→F 56=.sl i4 7 0 n→F 57=.int .i64 n→F 58=.int .i64 ((done.length:Int)+1)→F 9=f 9 →
    ∃ f' h',run D 96 (.block 0::.seq t34k0::S) (.loop t34l0) F (h.push o)=run D 96 S t34k0 f' h'∧f' 4=.ptr 0 6 0 0∧f' 8=.ptr 3 6 0 0 ∧
   h'.get 0=some (.arr 29 6 [.agg [.int .i64 me,eL false 1 cInt near,eL false 4 eAdvert adv,eL false 2 eID seen,.sl i4 7 0 n,eL false 3 eOwn own]] (some 1))∧h'.get 3=some zb ∧
   OwnI 4 h' i4 58 7 ((takeL ⟨tc,td⟩ done (e::rest) ups).1.map eEntry)∧OwnR 4 h' (f' 9) 58 7 ((takeL ⟨tc,td⟩ done (e::rest) ups).2.map eEntry)∧(takeL ⟨tc,td⟩ done (e::rest) ups).1.length=n∧h'.lim=0∧4≤h'.n∧WF h':=by
   intro F o ht a4 a5 a8 a56 a57 a58 a9
   rw [ht]
   refine ih (done++[e]) ups F _ (by simp at hn ⊢;omega) hn1 (by simp;omega) (by simpa using hp) a4 a5 a8 a56 a57 (by rw [a58];simp) ?_ ?_ ?_ ?_ ?_ ?_ hlim (by show 4≤h.n+1;omega) wf.push
   ·rw [get_push,if_neg n0];exact g0
   ·rw [get_push,if_neg n1];exact g1
   ·rw [get_push,if_neg n3];exact g3
   ·have:=(⟨⟨sp,cap,g4⟩,hl4,hlo⟩:OwnI 4 h i4 58 7 ((done++e::rest).map eEntry)).push (o:=o)
    simpa using this
   ·rw [a9];exact o9.push
   ·rw [a9];exact na
  rw [run_loop_of t34l0.eq_1]
  by_cases ht:e.tree=⟨tc,td⟩
  ·have hc1:e.tree.client=tc:=by rw [ht]
   have hc2:e.tree.seq=td:=by rw [ht]
   cases hup:e.up with
   | true =>
    have hno:takeL ⟨tc,td⟩ done (e::rest) ups=takeL ⟨tc,td⟩ (done++[e]) rest ups:=by simp [takeL,hup]
    simp [h4,h5,h56,h57,h58,hlt,hia,g4,hel,eEntry,hlim,n0,n1,n4,m0,m1,g0,g1,hc1,hc2,hup,hw]
    generalize hF:upd _ 58 _=F
    exact hstep F _ hno (by rw [←hF];simp [h4]) (by rw [←hF];simp [h5]) (by rw [←hF];simp [h8]) (by rw [←hF];simp [h56]) (by rw [←hF];simp [h57]) (by rw [←hF];simp) (by rw [←hF];simp)
   | false =>
    cases hC:coveredB (done++e::rest) ⟨tc,td⟩ e.pred with
    | true =>
     rw [hC]at hCv
     have hno:takeL ⟨tc,td⟩ done (e::rest) ups=takeL ⟨tc,td⟩ (done++[e]) rest ups:=by simp only [takeL];rw [if_neg];rw [hC];simp
     simp [h4,h5,h56,h57,h58,hlt,hia,g4,hel,eEntry,hlim,n0,n1,n4,m0,m1,g0,g1,hc1,hc2,hup,hw,-res_sl_eq,r4,e35,hCv]
     generalize hF:upd _ 58 _=F
     exact hstep F _ hno (by rw [←hF];simp [h4]) (by rw [←hF];simp [h5]) (by rw [←hF];simp [h8]) (by rw [←hF];simp [h56]) (by rw [←hF];simp [h57]) (by rw [←hF];simp) (by rw [←hF];simp)
    | false =>
     rw [hC]at hCv
     have hyes:takeL ⟨tc,td⟩ done (e::rest) ups=takeL ⟨tc,td⟩ (done++[{e with up:=true}]) rest (ups++[{e with up:=true}]):=by simp only [takeL];rw [if_pos ⟨ht,hup,hC⟩]
     simp [h4,h5,h56,h57,h58,hlt,hia,g4,hel,eEntry,hlim,n0,n1,n4,m0,m1,i0,i1,i3,j0,j1,g0,g1,hc1,hc2,hup,hw,-res_sl_eq,r4,e35,hCv,hl4,hid,wf,turn]
     have hset:(List.map eEntry done++DV.agg [.int .i64 tc,.int .i64 td,.int .i64 e.sub.client,.int .i64 e.sub.seq,ePred e.pred,.int .i64 e.frm,.bool false]::List.map eEntry rest++sp).set done.length (.agg [.int .i64 tc,.int .i64 td,.int .i64 e.sub.client,.int .i64 e.sub.seq,ePred e.pred,.int .i64 e.frm,.bool true])=List.map eEntry (done++{e with up:=true}::rest)++sp:=by
      have:=set_at (List.map eEntry done) (DV.agg [.int .i64 tc,.int .i64 td,.int .i64 e.sub.client,.int .i64 e.sub.seq,ePred e.pred,.int .i64 e.frm,.bool false]) (.agg [.int .i64 tc,.int .i64 td,.int .i64 e.sub.client,.int .i64 e.sub.seq,ePred e.pred,.int .i64 e.frm,.bool true]) (List.map eEntry rest) sp
      rw [List.length_map]at this
      rw [this]
      simp [eEntry,hc1,hc2]
     generalize hA:appendD _ _ _ _ _ _=A
     obtain ⟨v',h',rfl,o9',x9,fr9,na9⟩:=append_frame ((own_set o9 wf hid na).push.push) (by simp [wf]) (by simp;omega) (by simp [hlim]) hA (by simp;omega) (by decide)
     clear hA
     have y0:=fr9 0 (by simp) (not_low o9 (by decide))
     have y1:=fr9 1 (by simp) (not_low o9 (by decide))
     have y3:=fr9 3 (by simp;omega) (not_low o9 (by decide))
     have y4:=fr9 i4 (by simp;omega) na
     have ny:=na9 i4 (by simp;omega) na
     have yl:=x9.lim
     have yw:=x9.wf
     have yn:=x9.le
     have n41:¬i4=h.n+1:=by omega
     have n31:¬3=h.n+1:=by omega
     have m2:¬h.n=2:=by omega
     simp [wf,hid,n0,n1,n3,n4,m0,m1,m2,i0,i1,i3,n41,n31,g0,g1,g3,hlim]at y0 y1 y3 y4 yl
     simp [h58,hw]
     generalize hF:upd _ 58 _=F
     rw [hyes]
     refine ih (done++[{e with up:=true}]) (ups++[{e with up:=true}]) F h' (by simp at hn ⊢;omega) hn1 (by simp;omega) ?_ ?_ ?_ ?_ ?_ ?_ ?_ y0 y1 y3 ⟨⟨sp,cap,?_⟩,?_,hlo⟩ ?_ ?_ yl yn yw
     ·intro x hx
      simp only [List.append_assoc,List.singleton_append,List.mem_append,List.mem_cons]at hx
      rcases hx with hx|rfl|hx
      ·exact hp x (by simp [hx])
      ·exact hpe
      ·exact hp x (by simp [hx])
     ·rw [←hF];simp [h4]
     ·rw [←hF];simp [h5]
     ·rw [←hF];simp [h8]
     ·rw [←hF];simp [h56]
     ·rw [←hF];simp [h57]
     ·rw [←hF];simp
     ·rw [y4];simp [eEntry,hc1,hc2]
     ·rw [yl];exact Nat.zero_le _
     ·rw [←hF];simp;simpa [eEntry,hc1,hc2] using o9'
     ·rw [←hF];simp;exact ny
  ·have h1':=id_ne ht
   simp only at h1'
   have hno:takeL ⟨tc,td⟩ done (e::rest) ups=takeL ⟨tc,td⟩ (done++[e]) rest ups:=by simp [takeL,ht]
   simp [h4,h5,h56,h57,h58,hlt,hia,g4,hel,eEntry,hlim,n0,n1,n4,m0,m1,g0,g1,h1',hw]
   generalize hF:upd _ 58 _=F
   exact hstep F _ hno (by rw [←hF];simp [h4]) (by rw [←hF];simp [h5]) (by rw [←hF];simp [h8]) (by rw [←hF];simp [h56]) (by rw [←hF];simp [h57]) (by rw [←hF];simp) (by rw [←hF];simp)
end Go.Dm.Tc
/-
What functions of the program compute,part 20: an entry taken out.
-/
namespace Go.Dm.Tc
theorem dropE_at {l:List Entry} (hr:RisingE l) {t s:ID} {i:Nat} {a:Entry} (hi:l[i]?=some a) (ha:isE t s a=true):l.take i++l.drop (i+1)=l.filter fun x=>!isE t s x:=by
 have hlt:i<l.length:=by
  by_cases h:i<l.length
  ·exact h
  ·rw [List.getElem?_eq_none (by omega)]at hi;cases hi
 have hia:l[i]=a:=by rw [List.getElem?_eq_getElem hlt]at hi;exact Option.some.inj hi
 have ha':a.tree=t∧a.sub=s:=by simpa [isE] using ha
 have h0:sgnE t s a=0:=sgnE_eq.2 ha'
 have hne:∀j (hj:j<l.length),j≠i→isE t s l[j]=false:=by
  intro j hj hji
  cases he:isE t s l[j] with
  | false=>rfl
  | true =>
   have he':l[j].tree=t∧l[j].sub=s:=by simpa [isE] using he
   rcases Nat.lt_or_gt_of_ne hji with h|h
   ·have:=List.pairwise_iff_getElem.1 hr j i hj hlt h
    rw [hia,ha'.1,ha'.2,sgnE_eq.2 he']at this
    omega
   ·have:=List.pairwise_iff_getElem.1 hr i j hlt hj h
    rw [hia,he'.1,he'.2,h0]at this
    omega
 have h1:(l.take i).filter (fun x=>!isE t s x)=l.take i:=by
  rw [List.filter_eq_self]
  intro y hy
  obtain ⟨j,hj,rfl⟩:=List.mem_iff_getElem.1 hy
  rw [List.length_take]at hj
  have:=hne j (by omega) (by omega)
  simpa using this
 have h2:(l.drop (i+1)).filter (fun x=>!isE t s x)=l.drop (i+1):=by
  rw [List.filter_eq_self]
  intro y hy
  obtain ⟨j,hj,rfl⟩:=List.mem_iff_getElem.1 hy
  rw [List.length_drop]at hj
  have:=hne (i+1+j) (by omega) (by omega)
  simpa using this
 have h3:(l.drop i).filter (fun x=>!isE t s x)=l.drop (i+1):=by
  rw [List.drop_eq_getElem_cons hlt,List.filter_cons,hia,ha,h2];simp
 calc l.take i++l.drop (i+1)=(l.take i++l.drop i).filter (fun x=>!isE t s x):=by rw [List.filter_append,h1,h3]
  _=_:=by rw [List.take_append_drop]
set_option maxRecDepth 8000 in
theorem s34 (b:Broker) (tc td sc sd frm:Int) (hs:Sized b) (hq:∀e∈b.entries,PredOk e.pred) (re:RisingE b.entries) :
  pcF D t34 [eBroker .none b,.agg [.int .i64 tc,.int .i64 td],.agg [.int .i64 sc,.int .i64 sd],.int .i64 frm]=some (.tup [eBroker .none (takeB b ⟨tc,td⟩ ⟨sc,sd⟩ frm).1,eL false 7 eEntry (takeB b ⟨tc,td⟩ ⟨sc,sd⟩ frm).2.1,.bool (takeB b ⟨tc,td⟩ ⟨sc,sd⟩ frm).2.2]):=by
 obtain ⟨me,near,adv,seen,ent,own⟩:=b
 obtain ⟨z1,z2,z3,z4,z5⟩:=hs
 simp only at z1 z2 z3 z4 z5 re hq
 obtain ⟨R,hR⟩:∃ R,R=DV.tup [eBroker .none (takeB ⟨me,near,adv,seen,ent,own⟩ ⟨tc,td⟩ ⟨sc,sd⟩ frm).1,eL false 7 eEntry (takeB ⟨me,near,adv,seen,ent,own⟩ ⟨tc,td⟩ ⟨sc,sd⟩ frm).2.1,.bool (takeB ⟨me,near,adv,seen,ent,own⟩ ⟨tc,td⟩ ⟨sc,sd⟩ frm).2.2]:=⟨_,rfl⟩
 rw [←hR]
 have hel:ent.length≤1000000:=by omega
 have hPl:=s113 (.int .i64 me) (eL false 1 cInt near) (eL false 4 eAdvert adv) (eL false 2 eID seen) (eL false 3 eOwn own) true ent tc td sc sd re hel
 have hhit:=hitE re ⟨tc,td⟩ ⟨sc,sd⟩
 unfold pcF
 rw [goRun_eq _ _ _ _ (by simp [t34])]
 simp [t34,eBroker,Tags.none,e112]
 generalize hA:cloneHook _ _ _ _ _=A
 obtain ⟨v4,K,rfl,o4,x,_⟩:=clone_own (lo:=4) (elems_eL ..) (by simp) (by simp) (by simp) (by simp;omega) (by decide) hA
 clear hA
 have a0:=x.get 0 (by decide)
 have a1:=x.get 1 (by decide)
 have a2:=x.get 2 (by decide)
 have a3:=x.get 3 (by decide)
 have q0:=x.lim
 have w0:=x.wf
 have n0:=x.le
 simp at a0 a1 a2 a3 q0
 have l0':0<K.n:=by omega
 obtain ⟨H,hH⟩:∃ H,H=K.set 0 (.arr 29 6 [.agg [.int .i64 me,eL false 1 cInt near,eL false 4 eAdvert adv,eL false 2 eID seen,v4,eL false 3 eOwn own]] (some 1)):=⟨_,rfl⟩
 have wH:WF H:=by rw [hH];exact w0.set
 have nH:H.n=K.n:=by rw [hH];rfl
 have lH:H.lim=0:=by rw [hH];exact q0
 have g0:H.get 0=some (.arr 29 6 [.agg [.int .i64 me,eL false 1 cInt near,eL false 4 eAdvert adv,eL false 2 eID seen,v4,eL false 3 eOwn own]] (some 1)):=by rw [hH,get_set w0 l0',if_pos rfl]
 have g1:H.get 1=some (.arr 37 2 [.agg [.int .i64 tc,.int .i64 td]] (some 1)):=by rw [hH,get_set w0 l0',if_neg (by decide)];exact a1
 have g2:H.get 2=some (.arr 37 2 [.agg [.int .i64 sc,.int .i64 sd]] (some 1)):=by rw [hH,get_set w0 l0',if_neg (by decide)];exact a2
 have g3:H.get 3=some (.arr 29 6 [.agg [.int .i64 0,.nsl,.nsl,.nsl,.nsl,.nsl]] (some 1)):=by rw [hH,get_set w0 l0',if_neg (by decide)];exact a3
 have st4:=o4.storable
 have ec4:=o4.ecells
 replace o4:Own 4 H v4 58 7 (ent.map eEntry):=by rw [hH];exact o4.setLow w0 (by decide) l0'
 simp [a0,a1,a2,a3,q0,w0,l0',st4,ec4,turn]
 rw [←hH]
 clear hH
 have l3:3<H.n:=by omega
 have l0:0<H.n:=by omega
 have r1:resolve true H 199 v4=some (eL true 7 eEntry ent):=o4.resolve true (fun y _=>(plain_entry y).1) (by decide)
 have r2:∀o',resolve false (H.set 3 o') 198 v4=some (eL false 7 eEntry ent):=fun o'=>(o4.setLow wH (by decide) l3).resolve false (fun y _=>(plain_entry y).1) (by decide)
 cases hq2:ent.find? (isE ⟨tc,td⟩ ⟨sc,sd⟩) with
 | none =>
  rw [hq2]at hhit
  simp only at hhit
  have htk:takeB ⟨me,near,adv,seen,ent,own⟩ ⟨tc,td⟩ ⟨sc,sd⟩ frm=(⟨me,near,adv,seen,ent,own⟩,[],false):=by simp [takeB,hq2]
  simp [r1,r2,e113,hPl,hhit,g0,g3,lH,wH,l3,turn,resultsOf]
  simp [hR,htk,eBroker,Tags.none,eL_nil]
 | some e =>
  rw [hq2]at hhit
  simp only at hhit
  obtain ⟨hh1,hh2⟩:=hhit
  obtain ⟨i,hi⟩:∃ i,lowIdx (sgnE ⟨tc,td⟩ ⟨sc,sd⟩) ent=i:=⟨_,rfl⟩
  rw [hi]at hh2 hPl
  have hilt:i<ent.length:=by
   by_cases h:i<ent.length
   ·exact h
   ·rw [List.getElem?_eq_none (by omega)]at hh2;cases hh2
  obtain ⟨id,sp,cap,hv4,hg4,hl4,hlo4,hix,hxx⟩:=o4.toR.index (i:=i) (x:=eEntry e) (by simp [hh2]) .i64
  simp only [eEntry]at hxx
  by_cases hfr:e.frm=frm
  ·have hw:IntKind.i64.wrap ((i:Int)+1)=(i:Int)+1:=wrap64 (by omega) (by omega)
   have hdr:=dropE_at re hh2 (List.find?_some hq2)
   obtain ⟨v4',H',hD,m4,x2,_⟩:=s116 4 H v4 ent i o4 hilt hel wH (by omega)
   rw [hdr]at m4
   obtain ⟨fl,hfl⟩:∃ fl,(ent.filter fun x=>!isE ⟨tc,td⟩ ⟨sc,sd⟩ x)=fl:=⟨_,rfl⟩
   rw [hfl]at m4
   have hfln:fl.length≤100000:=by rw [←hfl];exact Nat.le_trans (List.length_filter_le ..) z4
   have hflp:∀x∈fl,PredOk x.pred:=fun x hx=>hq x (by rw [←hfl]at hx;exact (List.mem_filter.1 hx).1)
   have b0:=x2.get 0 (by decide)
   have b1:=x2.get 1 (by decide)
   have b3:=x2.get 3 (by decide)
   have q2:=x2.lim
   have w2:=x2.wf
   have n2:=x2.le
   rw [g0]at b0
   rw [g1]at b1
   rw [g3]at b3
   rw [lH]at q2
   have h20:0<H'.n:=by omega
   have h23:3<H'.n:=by omega
   have r4:=fun o o'=>((m4.setLow (o:=o) w2 (by decide) h20).setLow (o:=o') w2.set (by decide) h23).resolve (n:=198) false (fun y _=>(plain_entry y).1) (by decide)
   cases hup:e.up with
   | false =>
    have htk:takeB ⟨me,near,adv,seen,ent,own⟩ ⟨tc,td⟩ ⟨sc,sd⟩ frm=(⟨me,near,adv,seen,fl,own⟩,[],false):=by simp [takeB,hq2,hfr,hup,hfl]
    rw [hup]at hxx
    simp [r1,e113,hPl,hh1,hix,hg4,hxx,eq_true hfr,g0,g3,lH,wH,l3,hw,hD,b0,b3,q2,w2,h20,h23,m4.storable,m4.ecells,r4,turn,resultsOf]
    simp [hR,htk,eBroker,Tags.none,eL_nil]
   | true =>
    have htk:takeB ⟨me,near,adv,seen,ent,own⟩ ⟨tc,td⟩ ⟨sc,sd⟩ frm=(⟨me,near,adv,seen,(takeL ⟨tc,td⟩ [] fl []).1,own⟩,(takeL ⟨tc,td⟩ [] fl []).2,true):=by simp [takeB,hq2,hfr,hup,hfl]
    rw [hup]at hxx
    have st:=m4.storable
    have ec:=m4.ecells
    cases m4 with
    | nil hv hx =>
     subst hv
     have hf0:fl=[]:=List.map_eq_nil_iff.1 hx
     subst hf0
     simp [r1,e113,hPl,hh1,hix,hg4,hxx,eq_true hfr,g0,g3,lH,wH,l3,hw,hD,b0,b3,q2,w2,h20,h23,turn]
     rw [run_loop_of t34l0.eq_1]
     simp [t34k0,b0,b3,q2,w2,h20,h23,turn,resultsOf]
     simp [hR,htk,eBroker,Tags.none,eL_nil,takeL]
    | arr id2 sp2 cap2 hv hg hl hlo2 =>
     subst hv
     simp only [List.length_map]at hD st ec
     simp [r1,e113,hPl,hh1,hix,hg4,hxx,eq_true hfr,g0,g3,lH,wH,l3,hw,hD,b0,b3,q2,w2,h20,h23,turn]
     generalize hF:upd _ 58 _=F
     have j0:¬id2=0:=by omega
     obtain ⟨f1,K4,k1,k2,k3,c0,c3,o5,o9,hlen,q4,n4,w4⟩:=l34 [] me near adv seen own tc td id2 fl.length (.arr 29 6 [.agg [.int .i64 0,.nsl,.nsl,.nsl,.nsl,.nsl]] (some 1)) fl [] [] F (by simp) hfln (by simp) (by simpa using hflp) (by rw [←hF];simp) (by rw [←hF];simp) (by rw [←hF];simp) (by rw [←hF];simp) (by rw [←hF];simp) (by rw [←hF];simp)
      (h:=H'.set 0 (.arr 29 6 [.agg [.int .i64 me,eL false 1 cInt near,eL false 4 eAdvert adv,eL false 2 eID seen,.sl id2 7 0 fl.length,eL false 3 eOwn own]] (some 1))) (by simp [w2,h20]) (by simp [w2,h20,b1]) (by simp [w2,h20,b3]) ⟨⟨sp2,cap2,by simp [w2,h20,j0,hg]⟩,by exact hl,hlo2⟩ (by rw [←hF];simp;exact .nil rfl rfl) (by rw [←hF];simp;intro a b c e;cases e) q2 (by exact n2) w2.set
     rw [k1]
     clear hF k1
     have y0:0<K4.n:=by omega
     have y3:3<K4.n:=by omega
     have s5:=fun o'=>(o5.toR.setLow (o:=o') w4 (by decide) y3).resolve (n:=198) false (fun y _=>(plain_entry y).1) (by decide)
     have s9:=fun o'=>(o9.setLow (o:=o') w4 (by decide) y3).resolve (n:=199) false (fun y _=>(plain_entry y).1) (by decide)
     simp only [List.length_map,hlen]at s5
     simp [t34k0,k2,k3,c0,c3,q4,w4,y3,turn,-res_sl_eq,s5,s9,resultsOf]
     simp [hR,htk,eBroker,Tags.none]
  ·have htk:takeB ⟨me,near,adv,seen,ent,own⟩ ⟨tc,td⟩ ⟨sc,sd⟩ frm=(⟨me,near,adv,seen,ent,own⟩,[],false):=by simp [takeB,hq2,hfr]
   simp [r1,r2,e113,hPl,hh1,hix,hg4,hxx,hfr,g0,g3,lH,wH,l3,turn,resultsOf]
   simp [hR,htk,eBroker,Tags.none,eL_nil]
end Go.Dm.Tc
/-
What the reference's functions compute,part 8: an entry taken out (the loop).
-/
namespace Go.Dm.Tc
end Go.Dm.Tc
/-
What the reference's functions compute,part 9: an entry taken out.
-/
namespace Go.Dm.Tc
end Go.Dm.Tc
/-
What every broker keeps that calls made: plain laws (learned,forgotten,added,taken out).
-/
namespace Go.Dm.Tc
theorem find_key {α:Type} (key:α→ID) {l:List α} (h:Rising (l.map key)) (x:ID) (a:α):l.find? (fun b=>decide (key b=x))=some a↔a∈l∧key a=x:=by
 constructor
 ·intro hf
  exact ⟨List.mem_of_find?_eq_some hf,by simpa using List.find?_some hf⟩
 ·rintro ⟨hm,hk⟩
  cases hf:l.find? (fun b=>decide (key b=x)) with
  | none=>exact absurd hk (by have:=List.find?_eq_none.1 hf a hm;simpa using this)
  | some b =>
   have hb:=List.mem_of_find?_eq_some hf
   have hkb:key b=x:=by simpa using List.find?_some hf
   have:b=a:=by
    by_cases e:b=a
    ·exact e
    ·exfalso
     unfold Rising at h
     rw [List.pairwise_map]at h
     obtain ⟨i,hi,rfl⟩:=List.mem_iff_getElem.1 hb
     obtain ⟨j,hj,rfl⟩:=List.mem_iff_getElem.1 hm
     rcases Nat.lt_trichotomy i j with hlt|he|hlt
     ·have:=List.pairwise_iff_getElem.1 h i j hi hj hlt
      rw [hkb,hk,cmpID_lt]at this;omega
     ·subst he;exact e rfl
     ·have:=List.pairwise_iff_getElem.1 h j i hj hi hlt
      rw [hkb,hk,cmpID_lt]at this;omega
   rw [this]
theorem find_key_none {α:Type} (key:α→ID) {l:List α} (x:ID):l.find? (fun b=>decide (key b=x))=none↔∀a∈l,key a≠x:=by
 rw [List.find?_eq_none]
 exact ⟨fun h a ha=>by simpa using h a ha,fun h a ha=>by simpa using h a ha⟩
theorem advOf_some {b:Broker} (h:Rising (b.adverts.map (·.id))) {x:ID} {a:Advert}:advOf b x=some a↔a∈b.adverts∧a.id=x:=find_key (fun a:Advert=>a.id) h x a
theorem advOf_none {b:Broker} {x:ID}:advOf b x=none↔∀a∈b.adverts,a.id≠x:=find_key_none (fun a:Advert=>a.id) x
theorem parentOf_eq (b:Broker) (x:ID):parentOf b x=((advOf b x).getD advZero).parent:=rfl
theorem coveredB_iff {l:List Entry} {t:ID} {p:Pred}:coveredB l t p=true↔∃ e∈l,e.tree=t∧e.up=true∧coversP e.pred p=true:=by
 unfold coveredB ofT
 rw [List.any_eq_true]
 constructor
 ·rintro ⟨e,he,h⟩
  have:=List.mem_filter.1 he
  rw [Bool.and_eq_true]at h
  exact ⟨e,this.1,by simpa using this.2,h.1,h.2⟩
 ·rintro ⟨e,he,h1,h2,h3⟩
  exact ⟨e,List.mem_filter.2 ⟨he,by simpa using h1⟩,by rw [h2,h3];rfl⟩
theorem insE_mem {e x:Entry} {l:List Entry}:x∈insE e l↔x=e∨x∈l:=by
 unfold insE
 rw [List.mem_append,List.mem_cons]
 constructor
 ·rintro (h|h|h)
  ·exact .inr (List.mem_of_mem_take h)
  ·exact .inl h
  ·exact .inr (List.mem_of_mem_drop h)
 ·rintro (h|h)
  ·exact .inr (.inl h)
  ·rw [←List.take_append_drop (lowIdx (sgnE e.tree e.sub) l) l,List.mem_append]at h
   exact h.elim .inl fun h=>.inr (.inr h)
theorem insE_len (e:Entry) (l:List Entry):(insE e l).length=l.length+1:=by
 unfold insE
 rw [List.length_append,List.length_cons,List.length_take,List.length_drop]
 have:=lowIdx_le (sgnE e.tree e.sub) l
 omega
theorem sgnE_gt {t s:ID} {a:Entry} (h1:¬sgnE t s a<0) (h2:¬(a.tree=t∧a.sub=s)) (e:Entry) (he:e.tree=t) (he2:e.sub=s):sgnE a.tree a.sub e<0:=by
 rw [sgnE_lt,ltID_iff,ltID_iff]at *
 rw [he,he2]
 rw [ID.ext',ID.ext']at h2
 rw [ID.ext']at *
 omega
theorem insE_rising {e:Entry} {l:List Entry} (h:RisingE l) (hn:∀x∈l,isE e.tree e.sub x=false):RisingE (insE e l):=by
 unfold RisingE insE
 rw [List.pairwise_append,List.pairwise_cons]
 generalize hk:lowIdx (sgnE e.tree e.sub) l=k
 have hlow:∀b∈l.take k,sgnE e.tree e.sub b<0:=by
  intro b hb
  obtain ⟨i,hi,rfl⟩:=List.mem_iff_getElem.1 hb
  rw [List.getElem_take]
  rw [List.length_take]at hi
  have:=List.not_of_lt_findIdx (p:=fun x=>!decide (sgnE e.tree e.sub x<0)) (xs:=l) (i:=i) (by unfold lowIdx at hk;omega)
  simpa using this
 have hhigh:∀b∈l.drop k,sgnE b.tree b.sub e<0:=by
  intro b hb
  obtain ⟨i,hi,rfl⟩:=List.mem_iff_getElem.1 hb
  rw [List.length_drop]at hi
  rw [List.getElem_drop]
  have hkl:k<l.length:=by omega
  have h1:¬sgnE e.tree e.sub l[k]<0:=by
   have:=List.findIdx_getElem (p:=fun x=>!decide (sgnE e.tree e.sub x<0)) (xs:=l) (w:=by unfold lowIdx at hk;omega)
   have hk':List.findIdx (fun x=>!decide (sgnE e.tree e.sub x<0)) l=k:=hk
   simp only [hk']at this
   simpa using this
  have h2:¬sgnE e.tree e.sub l[k+i]<0:=fun hc=>h1 (monoE h _ _ k (k+i) hkl (by omega) (by omega) hc)
  refine sgnE_gt h2 ?_ e rfl rfl
  have:=hn l[k+i] (List.getElem_mem _)
  simpa [isE] using this
 refine ⟨h.sublist (List.take_sublist ..),⟨fun b hb=>hhigh b hb,h.sublist (List.drop_sublist ..)⟩,?_⟩
 intro x hx y hy
 rcases List.mem_cons.1 hy with rfl|hy
 ·exact hlow x hx
 ·exact sgnE_trans (hlow x hx) (by have:=hhigh y hy;omega)
structure InvK (b:Broker):Prop where
 near:risesB (fun x y=>decide (x<y)) b.near=true
 loc:∀x∈b.near,0≤x
 ra:Rising (b.adverts.map (·.id))
 rs:Rising b.seen
 ro:Rising (b.owns.map (·.id))
 re:RisingE b.entries
 sub:∀a∈b.adverts,a.id∈b.seen
 par:∀a∈b.adverts,linkB b a.parent=true
 pa:∀a∈b.adverts,PredOk a.pred
 po:∀o∈b.owns,PredOk o.pred
 ent:∀e∈b.entries,rightEnt b e=true
 pe:∀e∈b.entries,PredOk e.pred
 tight:tightB b=true
structure SzK (b:Broker) (n:Nat):Prop where
 near:b.near.length≤1000
 adv:b.adverts.length≤n
 seen:b.seen.length≤n
 own:b.owns.length≤n
 ent:b.entries.length≤n*n
theorem SzK.sized {b:Broker} {n:Nat} (h:SzK b n) (hn:n≤300):Sized b:=by
 have:=Nat.mul_le_mul hn hn
 obtain ⟨h1,h2,h3,h4,h5⟩:=h
 exact ⟨by omega,by omega,by omega,by omega,by omega⟩
theorem SzK.mono {b:Broker} {n m:Nat} (h:SzK b n) (hn:n≤m):SzK b m:=by
 have:=Nat.mul_le_mul hn hn
 obtain ⟨h1,h2,h3,h4,h5⟩:=h
 exact ⟨h1,by omega,by omega,by omega,by omega⟩
theorem InvK.asked {b:Broker} (h:InvK b):AskedP b:=⟨fun e he=>(h.pe e he).unlike,fun e he=>Nat.le_trans (h.pe e he).len (by decide)⟩
theorem InvK.right {b:Broker} (h:InvK b):rightB b=true:=by
 unfold rightB rightRows
 rw [h.near,of_rising (key:=fun a:Advert=>a.id) h.ra,of_rising (key:=fun a:OwnS=>a.id) h.ro,of_risesE h.re,show risesB (fun x y=>ltID x y) b.seen=true from of_rising (key:=fun a:ID=>a) (by simpa using h.rs)]
 have h1:(b.adverts.any fun a=>!rightAdv b a)=false:=by
  rw [List.any_eq_false]
  intro a ha
  simp [rightAdv,h.sub a ha,h.par a ha,(h.pa a ha).right]
 have h2:(b.entries.any fun e=>!rightEnt b e)=false:=by
  rw [List.any_eq_false]
  intro e he
  simp [h.ent e he]
 have h3:(b.owns.any fun o=>!rightP o.pred)=false:=by
  rw [List.any_eq_false]
  intro o ho
  simp [(h.po o ho).right]
 rw [h1,h2,h3]
 rfl
theorem rightEnt_iff {b:Broker} {e:Entry}:rightEnt b e=true↔∃ a,advOf b e.tree=some a∧linkB b e.frm=true∧(e.frm=a.parent→a.parent=-1)∧(e.up=true→a.parent≠-1)∧rightP e.pred=true:=by
 unfold rightEnt advOf
 cases b.adverts.find? (fun a=>a.id=e.tree) with
 | none=>simp
 | some a =>
  simp only [Option.some.injEq,exists_eq_left',Bool.and_eq_true,Bool.or_eq_true,Bool.not_eq_true',Bool.and_eq_false_iff,decide_eq_true_eq,decide_eq_false_iff_not]
  constructor
  ·rintro ⟨⟨⟨h1,h2⟩,h3⟩,h4⟩
   exact ⟨h1,fun q=>h2.resolve_left (fun hn=>hn q),fun q=>h3.resolve_left (by rw [q];decide),h4⟩
  ·rintro ⟨h1,h2,h3,h4⟩
   refine ⟨⟨⟨h1,?_⟩,?_⟩,h4⟩
   ·by_cases q:e.frm=a.parent
    ·exact .inr (h2 q)
    ·exact .inl q
   ·cases q:e.up with
    | false=>exact .inl rfl
    | true=>exact .inr (h3 q)
theorem tightB_iff {b:Broker}:tightB b=true↔∀e∈b.entries,e.up=true∨parentOf b e.tree=-1∨coveredB b.entries e.tree e.pred=true:=by
 unfold tightB
 rw [List.all_eq_true]
 simp only [tightE,Bool.or_eq_true,decide_eq_true_eq,or_assoc]
theorem linkB_near {b b':Broker} (h:b'.near=b.near) (n:Int):linkB b' n=linkB b n:=by unfold linkB;rw [h]
theorem rightEnt_same {b b':Broker} {e:Entry} (h:b'.near=b.near) (ha:advOf b' e.tree=advOf b e.tree):rightEnt b' e=rightEnt b e:=by
 rw [Bool.eq_iff_iff,rightEnt_iff,rightEnt_iff,ha]
 simp only [linkB_near h]
theorem InvK.start {me:Int} {near:List Int} (hn:risesB (fun x y=>decide (x<y)) near=true) (hl:∀x∈near,0≤x):InvK ⟨me,near,[],[],[],[]⟩ :=
 ⟨hn,hl,.nil,.nil,.nil,.nil,fun a h=>(by cases h),fun a h=>(by cases h),fun a h=>(by cases h),fun a h=>(by cases h),fun a h=>(by cases h),fun a h=>(by cases h),rfl⟩
theorem SzK.start {me:Int} {near:List Int} (hn:near.length≤1000):SzK ⟨me,near,[],[],[],[]⟩ 0:=⟨hn,Nat.le_refl _,Nat.le_refl _,Nat.le_refl _,Nat.le_refl _⟩
theorem advOf_learn {b:Broker} (h:InvK b) (a:Advert) (hn:a.id ∉ b.seen) (x:ID):advOf (learnB b a).1 x=if a.id=x then some a else advOf b x:=by
 have hnew:∀c∈b.adverts,c.id≠a.id:=fun c hc e=>hn (by rw [←e];exact h.sub c hc)
 have hr:Rising ((learnB b a).1.adverts.map (·.id)):=by
  unfold learnB;rw [if_neg hn]
  exact ins_rising (fun a:Advert=>a.id) a h.ra hnew
 have hm:∀c,c∈(learnB b a).1.adverts↔c=a∨c∈b.adverts:=by
  intro c
  unfold learnB;rw [if_neg hn]
  exact ins_mem (fun a:Advert=>a.id) a b.adverts c
 by_cases e:a.id=x
 ·rw [if_pos e,advOf_some hr,hm];exact ⟨.inl rfl,e⟩
 ·rw [if_neg e]
  cases hq:advOf b x with
  | none =>
   rw [advOf_none]at hq ⊢
   intro c hc
   rcases (hm c).1 hc with rfl|hc
   ·exact e
   ·exact hq c hc
  | some c =>
   rw [advOf_some h.ra]at hq
   rw [advOf_some hr,hm]
   exact ⟨.inr hq.1,hq.2⟩
theorem InvK.learn {b:Broker} (h:InvK b) {a:Advert} (hp:linkB b a.parent=true) (hr:PredOk a.pred):InvK (learnB b a).1:=by
 by_cases hn:a.id∈b.seen
 ·unfold learnB;rw [if_pos hn];exact h
 ·have ho:=advOf_learn h a hn
  have hE:(learnB b a).1.entries=b.entries:=by unfold learnB;rw [if_neg hn]
  have hN:(learnB b a).1.near=b.near:=by unfold learnB;rw [if_neg hn]
  have hO:(learnB b a).1.owns=b.owns:=by unfold learnB;rw [if_neg hn]
  have hA:(learnB b a).1.adverts=insAt (fun a=>a.id) a b.adverts:=by unfold learnB;rw [if_neg hn]
  have hS:(learnB b a).1.seen=insAt (fun x=>x) a.id b.seen:=by unfold learnB;rw [if_neg hn]
  have hother:∀e∈b.entries,advOf (learnB b a).1 e.tree=advOf b e.tree:=by
   intro e he
   rw [ho,if_neg]
   intro hc
   obtain ⟨c,hc1,_⟩:=rightEnt_iff.1 (h.ent e he)
   rw [advOf_some h.ra]at hc1
   exact hn (by rw [hc,←hc1.2];exact h.sub c hc1.1)
  refine ⟨by rw [hN];exact h.near,by rw [hN];exact h.loc,?_,?_,by rw [hO];exact h.ro,by rw [hE];exact h.re,?_,?_,?_,by rw [hO];exact h.po,?_,by rw [hE];exact h.pe,?_⟩
  ·rw [hA];exact ins_rising (fun a:Advert=>a.id) a h.ra fun c hc e=>hn (by rw [←e];exact h.sub c hc)
  ·rw [hS]
   have:=ins_rising (fun x:ID=>x) a.id (l:=b.seen) (by simpa using h.rs) (fun c hc e=>hn (by rw [←e];exact hc))
   simpa using this
  ·intro c hc
   rw [hA,ins_mem]at hc
   rw [hS,ins_mem]
   rcases hc with rfl|hc
   ·exact .inl rfl
   ·exact .inr (h.sub c hc)
  ·intro c hc
   rw [linkB_near hN]
   rw [hA,ins_mem]at hc
   rcases hc with rfl|hc
   ·exact hp
   ·exact h.par c hc
  ·intro c hc
   rw [hA,ins_mem]at hc
   rcases hc with rfl|hc
   ·exact hr
   ·exact h.pa c hc
  ·intro e he
   rw [hE]at he
   rw [rightEnt_same hN (hother e he)];exact h.ent e he
  ·rw [tightB_iff,hE]
   intro e he
   rw [parentOf_eq,hother e he,←parentOf_eq]
   exact tightB_iff.1 h.tight e he
theorem SzK.learn {b:Broker} {n:Nat} (h:SzK b n) (a:Advert):SzK (learnB b a).1 (n+1):=by
 have h':=h.mono (Nat.le_succ n)
 unfold learnB
 split
 ·exact h'
 ·obtain ⟨h1,h2,h3,h4,h5⟩:=h'
  exact ⟨h1,by simp only [ins_len];have:=h.adv;omega,by simp only [ins_len];have:=h.seen;omega,h4,h5⟩
theorem mayAdd_iff {b:Broker} {e:Entry}:mayAdd b e=true↔∃ a,advOf b e.tree=some a∧(∀x∈b.entries,isE e.tree e.sub x=false)∧(e.frm=a.parent→a.parent=-1):=by
 unfold mayAdd advOf
 cases b.adverts.find? (fun a=>a.id=e.tree) with
 | none=>simp
 | some a =>
  simp only [Option.some.injEq,exists_eq_left',Bool.and_eq_true,Bool.not_eq_true',Bool.and_eq_false_iff,List.any_eq_false,Bool.not_eq_true,decide_eq_false_iff_not,Bool.not_eq_false',decide_eq_true_eq]
  refine and_congr Iff.rfl ⟨fun h q=>h.resolve_left (fun hn=>hn q),fun h=>?_⟩
  by_cases q:e.frm=a.parent
  ·exact .inr (h q)
  ·exact .inl q
theorem covered_mono {l l':List Entry} {t:ID} {p:Pred} (h:∀e∈l,e∈l') (hc:coveredB l t p=true):coveredB l' t p=true:=by
 rw [coveredB_iff]at *
 obtain ⟨e,he,h2⟩:=hc
 exact ⟨e,h e he,h2⟩
theorem InvK.add {b:Broker} (h:InvK b) {e:Entry} (hl:linkB b e.frm=true) (hp:PredOk e.pred):InvK (addB b e).1:=by
 by_cases hm:mayAdd b e=true
 ·obtain ⟨a,ha,hno,hfp⟩:=mayAdd_iff.1 hm
  unfold addB
  rw [if_pos hm]
  have hpar:parentOf b e.tree=a.parent:=by rw [parentOf_eq,ha];rfl
  refine ⟨h.near,h.loc,h.ra,h.rs,h.ro,?_,h.sub,h.par,h.pa,h.po,?_,?_,?_⟩
  ·exact insE_rising (e:={e with up:=upOf b e}) h.re hno
  ·intro x hx
   rw [insE_mem]at hx
   have hs:∀y,rightEnt {b with entries:=insE {e with up:=upOf b e} b.entries} y=rightEnt b y:=fun y=>rightEnt_same rfl rfl
   rw [hs]
   rcases hx with rfl|hx
   ·rw [rightEnt_iff]
    refine ⟨a,ha,hl,hfp,?_,hp.right⟩
    intro hu hpp
    simp only [upOf,hpar,hpp]at hu
    simp at hu
   ·exact h.ent x hx
  ·intro x hx
   rw [insE_mem]at hx
   rcases hx with rfl|hx
   ·exact hp
   ·exact h.pe x hx
  ·rw [tightB_iff]
   intro x hx
   have hs:∀y,parentOf {b with entries:=insE {e with up:=upOf b e} b.entries} y=parentOf b y:=fun y=>rfl
   rw [hs]
   have hx':=hx
   rw [insE_mem]at hx
   rcases hx with rfl|hx
   ·by_cases hpp:a.parent=-1
    ·exact .inr (.inl (by rw [hpar,hpp]))
    ·cases hcv:coveredB b.entries e.tree e.pred with
     | true=>exact .inr (.inr (covered_mono (fun y hy=>insE_mem.2 (.inr hy)) hcv))
     | false=>left;simp [upOf,hpar,hpp,hcv]
   ·rcases tightB_iff.1 h.tight x hx with h1|h1|h1
    ·exact .inl h1
    ·exact .inr (.inl h1)
    ·exact .inr (.inr (covered_mono (fun y hy=>insE_mem.2 (.inr hy)) h1))
 ·unfold addB
  rw [if_neg hm];exact h
inductive Raised (t:ID):List Entry→List Entry→Prop where
 | nil:Raised t [] []
 | keep (e:Entry) {l l':List Entry} (h:Raised t l l'):Raised t (e::l) (e::l')
 | up (e:Entry) {l l':List Entry} (ht:e.tree=t) (hu:e.up=false) (h:Raised t l l'):Raised t (e::l) ({e with up:=true}::l')
theorem Raised.refl (t:ID):∀l,Raised t l l
 | []=>.nil
 | e::l=>.keep e (Raised.refl t l)
theorem Raised.append {t:ID} {a a' b b':List Entry} (h:Raised t a a') (k:Raised t b b'):Raised t (a++b) (a'++b'):=by
 induction h with
 | nil=>exact k
 | keep e _ ih=>exact .keep e ih
 | up e ht hu _ ih=>exact .up e ht hu ih
theorem Raised.len {t:ID} {a a':List Entry} (h:Raised t a a'):a'.length=a.length:=by
 induction h with
 | nil=>rfl
 | keep e _ ih=>simp [ih]
 | up e ht hu _ ih=>simp [ih]
theorem Raised.mem {t:ID} {a a':List Entry} (h:Raised t a a') {x:Entry} (hx:x∈a'):x∈a∨∃ e∈a,e.tree=t∧e.up=false∧x={e with up:=true}:=by
 induction h with
 | nil=>cases hx
 | keep e _ ih =>
  rcases List.mem_cons.1 hx with rfl|hx
  ·exact .inl (List.mem_cons_self ..)
  ·rcases ih hx with h|⟨y,hy,h⟩
   ·exact .inl (List.mem_cons_of_mem _ h)
   ·exact .inr ⟨y,List.mem_cons_of_mem _ hy,h⟩
 | up e ht hu _ ih =>
  rcases List.mem_cons.1 hx with rfl|hx
  ·exact .inr ⟨e,List.mem_cons_self ..,ht,hu,rfl⟩
  ·rcases ih hx with h|⟨y,hy,h⟩
   ·exact .inl (List.mem_cons_of_mem _ h)
   ·exact .inr ⟨y,List.mem_cons_of_mem _ hy,h⟩
theorem Raised.of_mem {t:ID} {a a':List Entry} (h:Raised t a a') {x:Entry} (hx:x∈a):x∈a'∨(x.tree=t∧x.up=false∧{x with up:=true}∈a'):=by
 induction h with
 | nil=>cases hx
 | keep e _ ih =>
  rcases List.mem_cons.1 hx with rfl|hx
  ·exact .inl (List.mem_cons_self ..)
  ·rcases ih hx with h|⟨h1,h2,h3⟩
   ·exact .inl (List.mem_cons_of_mem _ h)
   ·exact .inr ⟨h1,h2,List.mem_cons_of_mem _ h3⟩
 | up e ht hu _ ih =>
  rcases List.mem_cons.1 hx with rfl|hx
  ·exact .inr ⟨ht,hu,List.mem_cons_self ..⟩
  ·rcases ih hx with h|⟨h1,h2,h3⟩
   ·exact .inl (List.mem_cons_of_mem _ h)
   ·exact .inr ⟨h1,h2,List.mem_cons_of_mem _ h3⟩
theorem Raised.rising {t:ID} {a a':List Entry} (h:Raised t a a') (hr:RisingE a):RisingE a':=by
 induction h with
 | nil=>exact hr
 | keep e h ih =>
  unfold RisingE at *
  rw [List.pairwise_cons]at *
  refine ⟨fun x hx=>?_,ih hr.2⟩
  rcases h.mem hx with hx|⟨y,hy,_,_,rfl⟩
  ·exact hr.1 x hx
  ·exact hr.1 y hy
 | up e ht hu h ih =>
  unfold RisingE at *
  rw [List.pairwise_cons]at *
  refine ⟨fun x hx=>?_,ih hr.2⟩
  have:∀t s,sgnE t s {e with up:=true}=sgnE t s e:=fun t s=>rfl
  rw [this]
  rcases h.mem hx with hx|⟨y,hy,_,_,rfl⟩
  ·exact hr.1 x hx
  ·exact hr.1 y hy
theorem Raised.covered {t:ID} {a a':List Entry} (h:Raised t a a') {t':ID} {p:Pred} (hc:coveredB a t' p=true):coveredB a' t' p=true:=by
 rw [coveredB_iff]at *
 obtain ⟨e,he,h1,h2,h3⟩:=hc
 rcases h.of_mem he with hx|⟨_,hx,_⟩
 ·exact ⟨e,hx,h1,h2,h3⟩
 ·rw [h2]at hx;cases hx
theorem takeL_raised (t:ID):∀(rest done ups:List Entry),∃ r',(takeL t done rest ups).1=done++r'∧Raised t rest r'∧(∀x∈r',x.tree=t→x.up=true∨coveredB (done++r') t x.pred=true) ∧
  ∃ u',(takeL t done rest ups).2=ups++u'∧∀x∈u',x∈r'∧x.tree=t∧x.up=true∧{x with up:=false}∈rest∧coveredB (done++rest) t x.pred=false:=by
 intro rest
 induction rest with
 | nil=>intro done ups;exact ⟨[],by simp [takeL],.nil,(fun x hx=>by cases hx),[],by simp [takeL],(fun x hx=>by cases hx)⟩
 | cons e rest ih =>
  intro done ups
  unfold takeL
  by_cases hc:e.tree=t∧e.up=false∧coveredB (done++e::rest) t e.pred=false
  ·rw [if_pos hc]
   obtain ⟨r',h1,h2,h3,u',h4,h5⟩:=ih (done++[{e with up:=true}]) (ups++[{e with up:=true}])
   refine ⟨{e with up:=true}::r',by rw [h1];simp,.up e hc.1 hc.2.1 h2,?_,{e with up:=true}::u',by rw [h4];simp,?_⟩
   ·intro x hx ht
    rcases List.mem_cons.1 hx with rfl|hx
    ·exact .inl rfl
    ·have:=h3 x hx ht
     simpa using this
   ·intro x hx
    rcases List.mem_cons.1 hx with rfl|hx
    ·have he:({{e with up:=true} with up:=false}:Entry)=e:=by obtain ⟨a1,a2,a3,a4,a5⟩:=e;simp only at hc;rw [hc.2.1]
     exact ⟨List.mem_cons_self ..,hc.1,rfl,by rw [he];exact List.mem_cons_self ..,hc.2.2⟩
    ·obtain ⟨k1,k2,k3,k4,k5⟩:=h5 x hx
     refine ⟨List.mem_cons_of_mem _ k1,k2,k3,List.mem_cons_of_mem _ k4,?_⟩
     have hR:Raised t (done++e::rest) (done++[{e with up:=true}]++rest):=by
      rw [List.append_assoc]
      exact (Raised.refl t done).append (.up e hc.1 hc.2.1 (.refl t rest))
     cases hq:coveredB (done++e::rest) t x.pred with
     | false=>rfl
     | true=>rw [hR.covered hq]at k5;cases k5
  ·rw [if_neg hc]
   obtain ⟨r',h1,h2,h3,u',h4,h5⟩:=ih (done++[e]) ups
   refine ⟨e::r',by rw [h1];simp,.keep e h2,?_,u',h4,?_⟩
   ·intro x hx ht
    rcases List.mem_cons.1 hx with rfl|hx
    ·cases hu:x.up with
     | true=>exact .inl rfl
     | false =>
      cases hq:coveredB (done++x::rest) t x.pred with
      | true=>exact .inr (((Raised.refl t done).append (.keep x h2)).covered hq)
      | false=>exact absurd ⟨ht,hu,hq⟩ hc
    ·have:=h3 x hx ht
     simpa using this
   ·intro x hx
    obtain ⟨k1,k2,k3,k4,k5⟩:=h5 x hx
    exact ⟨List.mem_cons_of_mem _ k1,k2,k3,List.mem_cons_of_mem _ k4,by simpa using k5⟩
theorem take_cases {b:Broker} (h:InvK b) (t s:ID) (q:Int) :
  ((takeB b t s q)=(b,[],false)∧∀e∈b.entries,isE t s e=true→e.frm≠q) ∨
  (∃ e∈b.entries,isE t s e=true∧e.frm=q∧e.up=false∧takeB b t s q=({b with entries:=b.entries.filter fun x=>!isE t s x},[],false)) ∨
  (∃ e∈b.entries,isE t s e=true∧e.frm=q∧e.up=true∧∃ r' u',takeB b t s q=({b with entries:=r'},u',true)∧Raised t (b.entries.filter fun x=>!isE t s x) r' ∧
   (∀x∈r',x.tree=t→x.up=true∨coveredB r' t x.pred=true)∧∀x∈u',x∈r'∧x.tree=t∧x.up=true∧{x with up:=false}∈b.entries.filter (fun x=>!isE t s x)∧coveredB (b.entries.filter fun x=>!isE t s x) t x.pred=false):=by
 unfold takeB
 cases hf:b.entries.find? (isE t s) with
 | none =>
  left
  refine ⟨rfl,fun e he hi=>?_⟩
  have:=List.find?_eq_none.1 hf e he
  exact absurd hi this
 | some e =>
  have he:=List.mem_of_find?_eq_some hf
  have hi:=List.find?_some hf
  by_cases hq:e.frm=q
  ·simp only [if_pos hq]
   cases hu:e.up with
   | false =>
    right;left
    exact ⟨e,he,hi,hq,hu,by simp⟩
   | true =>
    right;right
    obtain ⟨r',h1,h2,h3,u',h4,h5⟩:=takeL_raised t (b.entries.filter fun x=>!isE t s x) [] []
    refine ⟨e,he,hi,hq,hu,r',u',by simp [h1,h4],h2,by simpa using h3,by simpa using h5⟩
  ·left
   refine ⟨by simp only [if_neg hq],fun x hx hix=>?_⟩
   have hkey:x=e:=by
    by_cases hxe:x=e
    ·exact hxe
    ·exfalso
     have k1:x.tree=t∧x.sub=s:=by simpa [isE] using hix
     have k2:e.tree=t∧e.sub=s:=by simpa [isE] using hi
     obtain ⟨i,hi1,rfl⟩:=List.mem_iff_getElem.1 hx
     obtain ⟨j,hj1,rfl⟩:=List.mem_iff_getElem.1 he
     rcases Nat.lt_trichotomy i j with hlt|he|hlt
     ·have:=List.pairwise_iff_getElem.1 h.re i j hi1 hj1 hlt
      rw [k2.1,k2.2,sgnE_eq.2 k1]at this;omega
     ·subst he;exact hxe rfl
     ·have:=List.pairwise_iff_getElem.1 h.re j i hj1 hi1 hlt
      rw [k1.1,k1.2,sgnE_eq.2 k2]at this;omega
   rw [hkey];exact hq
theorem InvK.entries {b b':Broker} (h:InvK b) (hb:b'={b with entries:=b'.entries}) (hre:RisingE b'.entries) (he:∀e∈b'.entries,∃ d∈b.entries,e.tree=d.tree∧e.pred=d.pred∧e.frm=d.frm∧(e.up=true→parentOf b e.tree≠-1))
  (ht:∀e∈b'.entries,e.up=true∨parentOf b e.tree=-1∨coveredB b'.entries e.tree e.pred=true):InvK b':=by
 have hA:b'.adverts=b.adverts:=by rw [hb]
 have hN:b'.near=b.near:=by rw [hb]
 have hS:b'.seen=b.seen:=by rw [hb]
 have hO:b'.owns=b.owns:=by rw [hb]
 have ho:∀x,advOf b' x=advOf b x:=fun x=>by unfold advOf;rw [hA]
 refine ⟨by rw [hN];exact h.near,by rw [hN];exact h.loc,by rw [hA];exact h.ra,by rw [hS];exact h.rs,by rw [hO];exact h.ro,hre,by rw [hA,hS];exact h.sub,?_,by rw [hA];exact h.pa,by rw [hO];exact h.po,?_,?_,?_⟩
 ·intro a ha;rw [linkB_near hN];rw [hA]at ha;exact h.par a ha
 ·intro e hm
  obtain ⟨d,hd,k1,k2,k3,k4⟩:=he e hm
  rw [rightEnt_same hN (ho _),rightEnt_iff]
  obtain ⟨a,a1,a2,a3,a4,a5⟩:=rightEnt_iff.1 (h.ent d hd)
  refine ⟨a,by rw [k1];exact a1,by rw [k3];exact a2,by rw [k3];exact a3,fun hu=>?_,by rw [k2];exact a5⟩
  have:=k4 hu
  rw [parentOf_eq,k1,a1]at this
  exact this
 ·intro e hm
  obtain ⟨d,hd,_,k2,_⟩:=he e hm
  rw [k2];exact h.pe d hd
 ·rw [tightB_iff]
  intro e hm
  have:parentOf b' e.tree=parentOf b e.tree:=by rw [parentOf_eq,ho,←parentOf_eq]
  rw [this]
  exact ht e hm
theorem InvK.up {b:Broker} (h:InvK b) {e:Entry} (he:e∈b.entries) (hu:e.up=true):parentOf b e.tree≠-1:=by
 obtain ⟨a,a1,_,_,a4,_⟩:=rightEnt_iff.1 (h.ent e he)
 rw [parentOf_eq,a1]
 exact a4 hu
theorem InvK.take {b:Broker} (h:InvK b) (t s:ID) (q:Int):InvK (takeB b t s q).1:=by
 have hsub:∀x∈b.entries.filter (fun x=>!isE t s x),x∈b.entries:=fun x hx=>(List.mem_filter.1 hx).1
 have hrf:RisingE (b.entries.filter fun x=>!isE t s x):=h.re.sublist (List.filter_sublist ..)
 rcases take_cases h t s q with ⟨hc,_⟩|⟨e,he,hi,_,hu,hc⟩|⟨e,he,hi,_,hu,r',u',hc,hR,htt,_⟩
 ·rw [hc];exact h
 ·rw [hc]
  refine h.entries rfl hrf ?_ ?_
  ·intro x hx
   exact ⟨x,hsub x hx,rfl,rfl,rfl,fun hux=>h.up (hsub x hx) hux⟩
  ·intro x hx
   rcases tightB_iff.1 h.tight x (hsub x hx) with h1|h1|h1
   ·exact .inl h1
   ·exact .inr (.inl h1)
   ·refine .inr (.inr ?_)
    rw [coveredB_iff]at *
    obtain ⟨d,hd,k1,k2,k3⟩:=h1
    refine ⟨d,List.mem_filter.2 ⟨hd,?_⟩,k1,k2,k3⟩
    cases hid:isE t s d with
    | false=>rfl
    | true =>
     exfalso
     have q1:d.tree=t∧d.sub=s:=by simpa [isE] using hid
     have q2:e.tree=t∧e.sub=s:=by simpa [isE] using hi
     have:d=e:=by
      by_cases hde:d=e
      ·exact hde
      ·exfalso
       obtain ⟨i,hi1,rfl⟩:=List.mem_iff_getElem.1 hd
       obtain ⟨j,hj1,rfl⟩:=List.mem_iff_getElem.1 he
       rcases Nat.lt_trichotomy i j with hlt|hee|hlt
       ·have:=List.pairwise_iff_getElem.1 h.re i j hi1 hj1 hlt
        rw [q2.1,q2.2,sgnE_eq.2 q1]at this;omega
       ·subst hee;exact hde rfl
       ·have:=List.pairwise_iff_getElem.1 h.re j i hj1 hi1 hlt
        rw [q1.1,q1.2,sgnE_eq.2 q2]at this;omega
     rw [this,hu]at k2;cases k2
 ·have hpt:parentOf b t≠-1:=by
   have:=h.up he hu
   have q2:e.tree=t∧e.sub=s:=by simpa [isE] using hi
   rw [q2.1]at this;exact this
  rw [hc]
  refine h.entries rfl (hR.rising hrf) ?_ ?_
  ·intro x hx
   rcases hR.mem hx with hx|⟨y,hy,h1,h2,rfl⟩
   ·exact ⟨x,hsub x hx,rfl,rfl,rfl,fun hux=>h.up (hsub x hx) hux⟩
   ·exact ⟨y,hsub y hy,rfl,rfl,rfl,fun _=>by rw [h1];exact hpt⟩
  ·intro x hx
   by_cases hxt:x.tree=t
   ·rcases htt x hx hxt with k|k
    ·exact .inl k
    ·exact .inr (.inr (by rw [hxt];exact k))
   ·have hx':x∈b.entries.filter fun x=>!isE t s x:=by
     rcases hR.mem hx with hx|⟨y,hy,h1,h2,rfl⟩
     ·exact hx
     ·exact absurd h1 hxt
    rcases tightB_iff.1 h.tight x (hsub x hx') with h1|h1|h1
    ·exact .inl h1
    ·exact .inr (.inl h1)
    ·refine .inr (.inr (hR.covered ?_))
     rw [coveredB_iff]at *
     obtain ⟨d,hd,k1,k2,k3⟩:=h1
     refine ⟨d,List.mem_filter.2 ⟨hd,?_⟩,k1,k2,k3⟩
     have:¬(d.tree=t∧d.sub=s):=fun hh=>hxt (by rw [←k1];exact hh.1)
     simp [isE,this]
theorem take_len {b:Broker} (h:InvK b) (t s:ID) (q:Int):(takeB b t s q).1.entries.length≤b.entries.length:=by
 rcases take_cases h t s q with ⟨hc,_⟩|⟨e,_,_,_,_,hc⟩|⟨e,_,_,_,_,r',u',hc,hR,_⟩
 ·rw [hc];exact Nat.le_refl _
 ·rw [hc];exact List.length_filter_le ..
 ·rw [hc]
  show r'.length≤_
  rw [hR.len];exact List.length_filter_le ..
theorem take_rest (b:Broker) (t s:ID) (q:Int):(takeB b t s q).1={b with entries:=(takeB b t s q).1.entries}:=by
 unfold takeB
 split
 ·rfl
 ·split
  ·split<;>rfl
  ·rfl
theorem add_rest (b:Broker) (e:Entry):(addB b e).1={b with entries:=(addB b e).1.entries}:=by
 unfold addB
 split<;>rfl
theorem add_len (b:Broker) (e:Entry):(addB b e).1.entries.length≤b.entries.length+1:=by
 unfold addB
 split
 ·simp only [insE_len];exact Nat.le_refl _
 ·exact Nat.le_succ _
theorem SzK.take {b:Broker} {n:Nat} (h:SzK b n) (hi:InvK b) (t s:ID) (q:Int):SzK (takeB b t s q).1 n:=by
 have h1:=take_len hi t s q
 rw [take_rest]at h1 ⊢
 obtain ⟨a1,a2,a3,a4,a5⟩:=h
 exact ⟨a1,a2,a3,a4,Nat.le_trans h1 a5⟩
theorem SzK.add {b:Broker} {n:Nat} (h:SzK b n) (e:Entry):SzK (addB b e).1 (n+1):=by
 have h1:=add_len b e
 rw [add_rest]at h1 ⊢
 obtain ⟨a1,a2,a3,a4,a5⟩:=h
 have:(n+1)*(n+1)=n*n+n+n+1:=by rw [Nat.add_mul,Nat.mul_add];omega
 exact ⟨a1,Nat.le_succ_of_le a2,Nat.le_succ_of_le a3,Nat.le_succ_of_le a4,by simp only at h1 ⊢;omega⟩
end Go.Dm.Tc
/-
Brokers as one datum: what the machine's steps do to it;what functions answer of a broker that calls made.
-/
namespace Go.Dm.Tc
theorem agg_bC (t:Tags) (b:Broker):DV.agg (bCells t b)=eBroker t b:=_root_.id rfl
theorem ecells_eB (sz:Nat) (t:Tags) (b:Broker):ecells sz (eBroker t b)=bCells t b:=_root_.id rfl
theorem bC_len (t:Tags) (b:Broker):(bCells t b).length=6:=_root_.id rfl
theorem bC_take (t:Tags) (b:Broker):(bCells t b).take 6=bCells t b:=_root_.id rfl
theorem bC_0 (t:Tags) (b:Broker):(bCells t b)[0]?=some (.int .i64 b.me):=_root_.id rfl
theorem bC_1 (t:Tags) (b:Broker):(bCells t b)[1]?=some (eL t.near 1 cInt b.near):=_root_.id rfl
theorem bC_2 (t:Tags) (b:Broker):(bCells t b)[2]?=some (eL t.adverts 4 eAdvert b.adverts):=_root_.id rfl
theorem bC_3 (t:Tags) (b:Broker):(bCells t b)[3]?=some (eL t.seen 2 eID b.seen):=_root_.id rfl
theorem bC_4 (t:Tags) (b:Broker):(bCells t b)[4]?=some (eL t.entries 7 eEntry b.entries):=_root_.id rfl
theorem bC_5 (t:Tags) (b:Broker):(bCells t b)[5]?=some (eL t.owns 3 eOwn b.owns):=_root_.id rfl
theorem bCg_0 (t:Tags) (b:Broker) (h:0<(bCells t b).length):(bCells t b)[0]=.int .i64 b.me:=_root_.id rfl
theorem bCg_1 (t:Tags) (b:Broker) (h:1<(bCells t b).length):(bCells t b)[1]=eL t.near 1 cInt b.near:=_root_.id rfl
theorem bCg_2 (t:Tags) (b:Broker) (h:2<(bCells t b).length):(bCells t b)[2]=eL t.adverts 4 eAdvert b.adverts:=_root_.id rfl
theorem bCg_3 (t:Tags) (b:Broker) (h:3<(bCells t b).length):(bCells t b)[3]=eL t.seen 2 eID b.seen:=_root_.id rfl
theorem bCg_4 (t:Tags) (b:Broker) (h:4<(bCells t b).length):(bCells t b)[4]=eL t.entries 7 eEntry b.entries:=_root_.id rfl
theorem bCg_5 (t:Tags) (b:Broker) (h:5<(bCells t b).length):(bCells t b)[5]=eL t.owns 3 eOwn b.owns:=_root_.id rfl
theorem storable_eB (t:Tags) (b:Broker):storable 6 (eBroker t b)=true:=_root_.id rfl
theorem res_eB (tg:Bool) (h:Heap) (n:Nat) (t:Tags) (b:Broker):resolve tg h (n+2) (eBroker t b)=some (eBroker t b):=by
 simp [eBroker]
theorem ul_eB (n:Nat) (b:Broker):unlent (n+24) (eBroker .none b)=true:=by
 simp [eBroker,Tags.none]
theorem frA_eB (h:Heap) (t:Tags) (b:Broker):freezeA h (eBroker t b)=some (eBroker t b,h):=by
 simp [eBroker,frA_agg,mapH_cons,mapH_nil,fr_int,fr_eL,consH_some,consL_some,aggH_some]
theorem fieldV_eB (off:Nat) (n:Option Nat) (t:Tags) (b:Broker):fieldV off n (eBroker t b)=pickCells n (bCells t b) off:=_root_.id rfl
attribute [simp] agg_bC ecells_eB bC_len bC_take bC_0 bC_1 bC_2 bC_3 bC_4 bC_5 bCg_0 bCg_1 bCg_2 bCg_3 bCg_4 bCg_5 storable_eB res_eB ul_eB frA_eB fieldV_eB frA_int frA_eL frA_pred frA_str frA_agg mapH_nil mapH_cons fr_int fr_bool fr_nsl fr_eL fr_pred fr_isl consH_some consL_some aggH_some
section
variable {b:Broker} (t:Tags)
theorem kAF (h:InvK b) (z:Sized b) (c d:Int):pcF D t23 [eBroker t b,.agg [.int .i64 c,.int .i64 d]]=some (.tup [eAdvert ((advOf b ⟨c,d⟩).getD advZero),.bool (hasO (advOf b ⟨c,d⟩))]) :=
 s23 _ _ _ _ _ _ _ c d h.ra (by have:=z.adv;omega) ((flat_int _ _).mono (by decide)) ((flat_eL _ _ _ _).mono (by decide)) ((flat_eL _ _ _ _).mono (by decide)) ((flat_eL _ _ _ _).mono (by decide)) ((flat_eL _ _ _ _).mono (by decide))
def entOf (b:Broker) (t s:ID):Option Entry:=b.entries.find? (isE t s)
theorem kEF (h:InvK b) (z:Sized b) (p q c d:Int):pcF D t32 [eBroker t b,.agg [.int .i64 p,.int .i64 q],.agg [.int .i64 c,.int .i64 d]]=some (.tup [eEntry ((entOf b ⟨p,q⟩ ⟨c,d⟩).getD entZero),.bool (hasO (entOf b ⟨p,q⟩ ⟨c,d⟩))]) :=
 s32 _ _ _ _ _ _ _ p q c d h.re (by have:=z.ent;omega) ((flat_int _ _).mono (by decide)) ((flat_eL _ _ _ _).mono (by decide)) ((flat_eL _ _ _ _).mono (by decide)) ((flat_eL _ _ _ _).mono (by decide)) ((flat_eL _ _ _ _).mono (by decide))
theorem kLearn (h:InvK b) (z:Sized b) (c d:Int) (p:Pred) (q:Int):pcF D t19 [eBroker t b,.agg [.int .i64 c,.int .i64 d,ePred p,.int .i64 q]]=some (.tup [eBroker .none (learnB b ⟨⟨c,d⟩,p,q⟩).1,.bool (learnB b ⟨⟨c,d⟩,p,q⟩).2]):=s19 t b c d p q z h.ra h.rs
theorem kAdd (h:InvK b) (z:Sized b) (tc td sc sd:Int) {p:Pred} (hp:PredOk p) (q:Int) (u:Bool):pcF D t31 [eBroker .none b,.agg [.int .i64 tc,.int .i64 td,.int .i64 sc,.int .i64 sd,ePred p,.int .i64 q,.bool u]]=some (.tup [eBroker .none (addB b ⟨⟨tc,td⟩,⟨sc,sd⟩,p,q,u⟩).1,.bool (addB b ⟨⟨tc,td⟩,⟨sc,sd⟩,p,q,u⟩).2]) :=
 s31 b ⟨⟨tc,td⟩,⟨sc,sd⟩,p,q,u⟩ z h.asked hp h.ra h.re
theorem kTake (h:InvK b) (z:Sized b) (tc td sc sd q:Int):pcF D t34 [eBroker .none b,.agg [.int .i64 tc,.int .i64 td],.agg [.int .i64 sc,.int .i64 sd],.int .i64 q]=some (.tup [eBroker .none (takeB b ⟨tc,td⟩ ⟨sc,sd⟩ q).1,eL false 7 eEntry (takeB b ⟨tc,td⟩ ⟨sc,sd⟩ q).2.1,.bool (takeB b ⟨tc,td⟩ ⟨sc,sd⟩ q).2.2]) :=
 s34 b tc td sc sd q z h.pe h.re
theorem kTight (h:InvK b) (z:Sized b):pcF D t41 [eBroker t b]=some (.bool true):=by rw [←h.tight];exact s41 t b z h.asked h.ra
end
end Go.Dm.Tc
/-
What the laws' arguments are: numbers of which predicates,steps,brokers are made.
-/
namespace Go.Dm.Tc
structure PK where
 has:List Int
 vals:List Int
def ePK (p:PK):DV:=.agg [eL false 1 cInt p.has,eL false 1 cInt p.vals]
def PK.pred (p:PK):Pred:=mkPred p.has p.vals
structure StepK where
 kind:Int
 frm:Int
 tree:Int
 client:Int
 seq:Int
 has:List Int
 vals:List Int
structure BrokK where
 near:Int
 steps:List StepK
end Go.Dm.Tc
/-
More plain laws of brokers: one entry for a tree and a number;what covers itself;what comes of an entry taken out,of one added.
-/
namespace Go.Dm.Tc
theorem ent_unique {l:List Entry} (h:RisingE l) {d e:Entry} (hd:d∈l) (he:e∈l) (ht:d.tree=e.tree) (hs:d.sub=e.sub):d=e:=by
 by_cases hde:d=e
 ·exact hde
 ·exfalso
  obtain ⟨i,hi,rfl⟩:=List.mem_iff_getElem.1 hd
  obtain ⟨j,hj,rfl⟩:=List.mem_iff_getElem.1 he
  rcases Nat.lt_trichotomy i j with hlt|hee|hlt
  ·have:=List.pairwise_iff_getElem.1 h i j hi hj hlt
   rw [sgnE_eq.2 ⟨ht,hs⟩]at this;omega
  ·subst hee;exact hde rfl
  ·have:=List.pairwise_iff_getElem.1 h j i hj hi hlt
   rw [sgnE_eq.2 ⟨ht.symm,hs.symm⟩]at this;omega
theorem isE_iff {t s:ID} {e:Entry}:isE t s e=true↔e.tree=t∧e.sub=s:=by simp [isE]
theorem isE_not {t s:ID} {e:Entry}:isE t s e=false↔¬(e.tree=t∧e.sub=s):=by simp [isE]
theorem entOf_some {b:Broker} (h:RisingE b.entries) {t s:ID} {e:Entry}:entOf b t s=some e↔e∈b.entries∧e.tree=t∧e.sub=s:=by
 constructor
 ·intro hf
  exact ⟨List.mem_of_find?_eq_some hf,isE_iff.1 (List.find?_some hf)⟩
 ·rintro ⟨hm,ht,hs⟩
  cases hf:entOf b t s with
  | none=>exact absurd (isE_iff.2 ⟨ht,hs⟩) (by have:=List.find?_eq_none.1 hf e hm;simpa using this)
  | some d =>
   have hd:=List.mem_of_find?_eq_some hf
   have hd2:=isE_iff.1 (List.find?_some hf)
   rw [ent_unique h hd hm (hd2.1.trans ht.symm) (hd2.2.trans hs.symm)]
theorem entOf_none {b:Broker} {t s:ID}:entOf b t s=none↔∀e∈b.entries,¬(e.tree=t∧e.sub=s):=by
 unfold entOf
 rw [List.find?_eq_none]
 exact ⟨fun h e he=>isE_not.1 (by simpa using h e he),fun h e he=>by rw [isE_not.2 (h e he)];simp⟩
theorem countE {l:List Entry} (h:RisingE l) (t s:ID):l.countP (isE t s)=if hasO (l.find? (isE t s))=true then 1 else 0:=by
 induction l with
 | nil=>rfl
 | cons e l ih =>
  have h':=List.pairwise_cons.1 h
  rw [List.countP_cons,List.find?_cons]
  cases he:isE t s e with
  | true =>
   have:l.countP (isE t s)=0:=by
    rw [List.countP_eq_zero]
    intro x hx hix
    have k1:=isE_iff.1 he
    have k2:=isE_iff.1 hix
    have:=h'.1 x hx
    rw [k2.1,k2.2,sgnE_eq.2 k1]at this;omega
   rw [this];rfl
  | false =>
   rw [ih h'.2];simp
theorem filter_one {b:Broker} (h:RisingE b.entries) {t s:ID} {e:Entry} (he:entOf b t s=some e):(b.entries.filter fun x=>!isE t s x).length+1=b.entries.length:=by
 have h1:=countE h t s
 rw [show b.entries.find? (isE t s)=some e from he]at h1
 have h2:=List.length_eq_countP_add_countP (isE t s) (l:=b.entries)
 rw [h1]at h2
 rw [←List.countP_eq_length_filter]
 have h3:(b.entries.countP fun x=>!isE t s x)=b.entries.countP (fun a=>decide ¬isE t s a=true):=by
  congr 1;funext x;cases isE t s x<;>rfl
 rw [h3,h2];simp [hasO];omega
theorem covers_nil (p:Pred):coversP [] p=true:=rfl
theorem add_yes {b:Broker} {e:Entry} {a:Advert} (ha:advOf b e.tree=some a) (hn:entOf b e.tree e.sub=none) (hf:e.frm=a.parent→a.parent=-1):addB b e=({b with entries:=insE {e with up:=upOf b e} b.entries},upOf b e):=by
 unfold addB
 rw [if_pos (mayAdd_iff.2 ⟨a,ha,fun x hx=>isE_not.2 (entOf_none.1 hn x hx),hf⟩)]
theorem take_own {b:Broker} (h:InvK b) {t s:ID} {e:Entry} (he:entOf b t s=some e):(takeB b t s e.frm).2.2=e.up∧(e.up=false→(takeB b t s e.frm).2.1=[])∧(takeB b t s e.frm).1.entries.length+1=b.entries.length ∧
  (∃ r',(takeB b t s e.frm).1.entries=r'∧Raised t (b.entries.filter fun x=>!isE t s x) r') ∧
  (∀x∈(takeB b t s e.frm).2.1,entOf (takeB b t s e.frm).1 t x.sub=some x∧x.up=true∧coversP e.pred x.pred=true∧x.tree=t∧∃ d∈b.entries,isE t s d=false∧d.tree=x.tree∧d.sub=x.sub∧d.pred=x.pred):=by
 have hm:=(entOf_some h.re).1 he
 have hl:=filter_one h.re he
 rcases take_cases h t s e.frm with ⟨_,hno⟩|⟨e',he',hi,_,hu,hc⟩|⟨e',he',hi,_,hu,r',u',hc,hR,htt,hup⟩
 ·exact absurd rfl (hno e hm.1 (isE_iff.2 hm.2))
 ·have hi':=isE_iff.1 hi
  have:e'=e:=ent_unique h.re he' hm.1 (hi'.1.trans hm.2.1.symm) (hi'.2.trans hm.2.2.symm)
  subst this
  rw [hc]
  exact ⟨hu.symm,fun _=>rfl,hl,⟨_,rfl,.refl ..⟩,fun x hx=>by cases hx⟩
 ·have hi':=isE_iff.1 hi
  have:e'=e:=ent_unique h.re he' hm.1 (hi'.1.trans hm.2.1.symm) (hi'.2.trans hm.2.2.symm)
  subst this
  have hinv:=h.take t s e'.frm
  rw [hc]at hinv ⊢
  refine ⟨hu.symm,fun q=>(by rw [hu]at q;cases q),by rw [←hl,←hR.len],⟨_,rfl,hR⟩,fun x hx=>?_⟩
  obtain ⟨k1,k2,k3,k4,k5⟩:=hup x hx
  have k6:=List.mem_filter.1 k4
  refine ⟨(entOf_some hinv.re).2 ⟨k1,k2,rfl⟩,k3,?_,k2,_,k6.1,by simpa using k6.2,rfl,rfl,rfl⟩
  have hpt:parentOf b t≠-1:=by
   have:=h.up he' hu
   rw [hi'.1]at this;exact this
  rcases tightB_iff.1 h.tight _ k6.1 with q|q|q
  ·cases q
  ·exact absurd (by rw [←k2];exact q) hpt
  ·simp only at q
   rw [k2,coveredB_iff]at q
   obtain ⟨d,hd,q1,q2,q3⟩:=q
   cases hid:isE t s d with
   | true =>
    have hd':=isE_iff.1 hid
    have:d=e':=ent_unique h.re hd he' (hd'.1.trans hi'.1.symm) (hd'.2.trans hi'.2.symm)
    rw [←this];exact q3
   | false =>
    exfalso
    have:coveredB (b.entries.filter fun x=>!isE t s x) t x.pred=true:=coveredB_iff.2 ⟨d,List.mem_filter.2 ⟨hd,by rw [hid];rfl⟩,q1,q2,q3⟩
    rw [this]at k5;cases k5
theorem takeL_len (t:ID):∀(rest done ups:List Entry),(takeL t done rest ups).2.length≤ups.length+rest.length:=by
 intro rest
 induction rest with
 | nil=>intro done ups;simp [takeL]
 | cons e rest ih =>
  intro done ups
  unfold takeL
  split
  ·have:=ih (done++[{e with up:=true}]) (ups++[{e with up:=true}]);simp at this ⊢;omega
  ·have:=ih (done++[e]) ups;simp at this ⊢;omega
theorem take_ups_le (b:Broker) (t s:ID) (q:Int):(takeB b t s q).2.1.length≤b.entries.length:=by
 unfold takeB
 split
 ·simp
 ·split
  ·split
   ·refine Nat.le_trans (takeL_len _ _ _ _) ?_
    simp only [List.length_nil,Nat.zero_add]
    exact List.length_filter_le ..
   ·simp
  ·simp
end Go.Dm.Tc
/-
What functions compute,part 30: texts compared;the search among constraints;two constraints in one.
-/
namespace Go.Dm.Tc
theorem u8_eq {a b:UInt8} (h1:¬a<b) (h2:¬b<a):a=b:=by
 rw [UInt8.lt_iff_toNat_lt]at h1 h2
 exact UInt8.toNat_inj.1 (by omega)
theorem cmpB_lt:∀{a b:List UInt8},Go.Lib.compareBytes a b<0↔Go.Op.bytesLess a b=true
 | [],[]=>by simp [Go.Lib.compareBytes,Go.Op.bytesLess]
 | [],b::bs=>by simp [Go.Lib.compareBytes,Go.Op.bytesLess]
 | a::az,[]=>by simp [Go.Lib.compareBytes,Go.Op.bytesLess]
 | a::az,b::bz=>by
  have ih:=cmpB_lt (a:=az) (b:=bz)
  unfold Go.Lib.compareBytes Go.Op.bytesLess
  by_cases h1:a<b
  ·simp [h1]
  ·by_cases h2:b<a
   ·have:a≠b:=fun e=>by subst e;exact h1 h2
    simp [h1,h2,this]
   ·have:=u8_eq h1 h2
    simp [h1,h2,this,ih]
theorem cmpB_eq:∀{a b:List UInt8},Go.Lib.compareBytes a b=0↔a=b
 | [],[]=>by simp [Go.Lib.compareBytes]
 | [],b::bs=>by simp [Go.Lib.compareBytes]
 | a::az,[]=>by simp [Go.Lib.compareBytes]
 | a::az,b::bz=>by
  have ih:=cmpB_eq (a:=az) (b:=bz)
  unfold Go.Lib.compareBytes
  by_cases h1:a<b
  ·have:a≠b:=fun e=>by subst e;have:=u8_lt (a:=a) (b:=a);simp_all
   simp [h1,this]
  ·by_cases h2:b<a
   ·have:a≠b:=fun e=>by subst e;exact h1 h2
    simp [h1,h2,this]
   ·have:=u8_eq h1 h2
    simp [h1,h2,this,ih]
theorem s208 (a b:List UInt8):pcF D t208 [.str a,.str b]=some (.int .i64 (Go.Lib.compareBytes a b)):=by
 unfold pcF
 rw [goRun_eq _ _ _ _ (by simp [t208])]
 simp [t208,e213,compareHook]
theorem s193 (a b:List UInt8):pcF D t193 [.str a,.str b]=some (.int .i64 (Go.Lib.compareBytes a b)):=by
 unfold pcF
 rw [goRun_eq _ _ _ _ (by simp [t193])]
 simp [t193,e208,s208]
def cmpN (s:List UInt8) (c:Cons):Int:=Go.Lib.compareBytes c.name s
theorem s192 (c:Cons) (s:List UInt8):pcF D t192 [eCons c,.str s]=some (.int .i64 (cmpN s c)):=by
 unfold pcF
 rw [goRun_eq _ _ _ _ (by simp [t192])]
 simp [t192,eCons,e193,s193,cmpN]
theorem l191 (t:Bool) (xs:List Cons) (s:List UInt8) (g:Nat) (cap:List DV) (cm:Cons→Int) (hg:∀x∈xs,∀h,fc D g ([eCons x,.str s]++cap) h=some (.int .i64 (cm x),h)) (hl:xs.length≤1000000)
  (hm:∀i j (hi:i<xs.length) (hj:j<xs.length),i≤j→cm xs[j]<0→cm xs[i]<0) (h:Heap) :
  ∀(n i j:Nat) (f:FEnv),j-i=n→i≤j→j≤xs.length→f 0=eL t 5 eCons xs→f 1=.str s→f 2=.func g cap→f 8=.int .i64 xs.length→f 9=.int .i64 i→f 10=.int .i64 j →
  (∀q (hq:q<i),(hq':q<xs.length)→cm xs[q]<0)→(∀q (hq:q<xs.length),j≤q→¬cm xs[q]<0) →
  pcOut (fin [.t 6,.t 7] (run D 49 [.block 0,.seq t191k0] (.loop t191l0) f h))=some (.tup [.int .i64 (lowIdx cm xs),.bool (hitAt cm xs)]):=by
 intro n
 induction n using Nat.strongRecOn with
 | ind n ih =>
  intro i j f hn hij hj h0 h1 h2 h8 h9 h10 hlow hhigh
  rw [run_loop_of t191l0.eq_1]
  by_cases hlt:i<j
  ·have hk:(i+j) / 2<xs.length:=by omega
   have hke:xs[(i+j) / 2]?=some xs[(i+j) / 2]:=List.getElem?_eq_getElem hk
   have hgx:=hg xs[(i+j) / 2] (List.getElem_mem hk)
   simp only [eCons,List.cons_append,List.nil_append]at hgx
   have w1:IntKind.i64.wrap ((i:Int)+j)=((i:Int)+j):=wrap64 (by omega) (by omega)
   have w2:IntKind.u64.wrap ((i:Int)+j)=((i:Int)+j):=wrapu64 (by omega) (by omega)
   have w3:IntKind.i64.wrap (((i+j) / 2:Nat):Int)=((i+j) / 2:Nat):=wrap64 (by omega) (by omega)
   have w4:IntKind.i64.wrap ((((i+j) / 2:Nat):Int)+1)=((((i+j) / 2:Nat):Int)+1):=wrap64 (by omega) (by omega)
   by_cases hc:cm xs[(i+j) / 2]<0
   ·simp [h0,h1,h2,h8,h9,h10,hlt,hk,hke,hgx,eCons,w1,w2,w3,w4,hc,-Int.natCast_ediv]
    refine ih (j-((i+j) / 2+1)) (by omega) ((i+j) / 2+1) j _ rfl (by omega) hj ?_ ?_ ?_ ?_ ?_ ?_ ?_ hhigh<;>try simp [h0,h1,h2,h8,h10]
    intro q hq hq'
    exact hm q ((i+j) / 2) hq' hk (by omega) hc
   ·simp [h0,h1,h2,h8,h9,h10,hlt,hk,hke,hgx,eCons,w1,w2,w3,w4,hc,-Int.natCast_ediv]
    refine ih ((i+j) / 2-i) (by omega) i ((i+j) / 2) _ rfl (by omega) (by omega) ?_ ?_ ?_ ?_ ?_ ?_ hlow ?_<;>try simp [h0,h1,h2,h8,h9]
    intro q hq hq'
    exact Int.not_lt.1 fun hx=>hc (hm ((i+j) / 2) q hk hq hq' hx)
  ·have hij':i=j:=by omega
   subst hij'
   have hlo:lowIdx cm xs=i:=lowIdx_eq hj (fun q hq=>hlow q hq (by omega)) (fun hq=>hhigh i hq (Nat.le_refl i))
   by_cases hi:i<xs.length
   ·have hgx:=hg xs[i] (List.getElem_mem hi)
    simp only [eCons,List.cons_append,List.nil_append]at hgx
    have hke:xs[i]?=some xs[i]:=List.getElem?_eq_getElem hi
    simp [t191k0,h0,h1,h2,h8,h9,h10,hi,hke,hgx,eCons,hlo,hitAt,resultsOf]
    rfl
   ·simp [t191k0,h0,h1,h2,h8,h9,h10,hi,hlo,hitAt,resultsOf]
theorem s191 (t:Bool) (xs:List Cons) (s:List UInt8) (hl:xs.length≤1000000) (hm:∀i j (hi:i<xs.length) (hj:j<xs.length),i≤j→cmpN s xs[j]<0→cmpN s xs[i]<0) :
  pcF D t191 [eL t 5 eCons xs,.str s,.func 192 []]=some (.tup [.int .i64 (lowIdx (cmpN s) xs),.bool (hitAt (cmpN s) xs)]):=by
 have hg:∀x∈xs,∀h,fc D 192 ([eCons x,.str s]++[]) h=some (.int .i64 (cmpN s x),h):=fun x _ h=>by
  have:=s192 x s
  simp only [eCons]at this
  simp [eCons,e192,this]
 unfold pcF
 rw [goRun_eq _ _ _ _ (by simp [t191])]
 simp [t191]
 refine l191 t xs s 192 [] (cmpN s) hg hl hm _ xs.length 0 xs.length _ (by omega) (by omega) (by omega) ?_ ?_ ?_ ?_ ?_ ?_ ?_ ?_<;>simp
 intro q hq hq'
 omega
def mxI (a b:Int):Int:=if a<b then b else a
def mnI (a b:Int):Int:=if b<a then b else a
def joinC (a b:Cons):Option Cons :=
 if a.kind=1 then (if b.kind=1∧mxI a.lo b.lo≤mnI a.hi b.hi then some {a with lo:=mxI a.lo b.lo,hi:=mnI a.hi b.hi} else none)
 else if b.kind=1 then none
 else if a.kind=2 then (if holdsT b a.text=true then some a else none)
 else if b.kind=2 then (if holdsT a b.text=true then some b else none)
 else if a.text.length<b.text.length then (if beginsS b.text a.text=true then some b else none)
 else (if beginsS a.text b.text=true then some a else none)
def consZero:Cons:=⟨[],0,0,0,[]⟩
def Kind3 (k:Int):Prop:=k=1∨k=2∨k=3
set_option maxRecDepth 8000 in
theorem s194 (a b:Cons) (ha:Kind3 a.kind) (hb:Kind3 b.kind):pcF D t194 [eCons a,eCons b]=some (.tup [eCons ((joinC a b).getD consZero),.bool (hasO (joinC a b))]):=by
 obtain ⟨nm,k,lo,hi,tx⟩:=a
 obtain ⟨nm',k',lo',hi',tx'⟩:=b
 simp only [Kind3]at ha hb
 unfold pcF
 rw [goRun_eq _ _ _ _ (by simp [t194])]
 rcases ha with rfl|rfl|rfl
 ·rcases hb with rfl|rfl|rfl
  ·by_cases h:mnI hi hi'<mxI lo lo'
   ·have h':¬mxI lo lo'≤mnI hi hi':=by omega
    simp only [mnI,mxI]at h h'
    simp [t194,eCons,joinC,mnI,mxI,h,h',turn,resultsOf,hasO,consZero]
   ·have h':mxI lo lo'≤mnI hi hi':=by omega
    simp only [mnI,mxI]at h h'
    simp [t194,eCons,joinC,mnI,mxI,h,h',turn,resultsOf,hasO,consZero]
  ·simp [t194,eCons,joinC,turn,resultsOf,hasO,consZero]
  ·simp [t194,eCons,joinC,turn,resultsOf,hasO,consZero]
 ·rcases hb with rfl|rfl|rfl
  ·simp [t194,eCons,joinC,turn,resultsOf,hasO,consZero]
  ·have hh:=s167 nm' 2 lo' hi' tx' tx
   cases hq:holdsT ⟨nm',2,lo',hi',tx'⟩ tx<;>rw [hq]at hh<;>simp [t194,eCons,joinC,turn,resultsOf,hasO,consZero,e168,s168,eVal,e167,hh,hq]
  ·have hh:=s167 nm' 3 lo' hi' tx' tx
   cases hq:holdsT ⟨nm',3,lo',hi',tx'⟩ tx<;>rw [hq]at hh<;>simp [t194,eCons,joinC,turn,resultsOf,hasO,consZero,e168,s168,eVal,e167,hh,hq]
 ·rcases hb with rfl|rfl|rfl
  ·simp [t194,eCons,joinC,turn,resultsOf,hasO,consZero]
  ·have hh:=s167 nm 3 lo hi tx tx'
   cases hq:holdsT ⟨nm,3,lo,hi,tx⟩ tx'<;>rw [hq]at hh<;>simp [t194,eCons,joinC,turn,resultsOf,hasO,consZero,e168,s168,eVal,e167,hh,hq]
  ·by_cases hl:tx.length<tx'.length
   ·have hh:=s167 nm 3 lo hi tx tx'
    have hd:holdsT ⟨nm,3,lo,hi,tx⟩ tx'=beginsS tx' tx:=rfl
    rw [hd]at hh
    have hl':(tx.length:Int)<tx'.length:=by omega
    cases hq:beginsS tx' tx<;>rw [hq]at hh<;>simp [t194,eCons,joinC,turn,resultsOf,hasO,consZero,e168,s168,eVal,e167,hh,hq,hl,hl']
   ·have hh:=s167 nm' 3 lo' hi' tx' tx
    have hd:holdsT ⟨nm',3,lo',hi',tx'⟩ tx=beginsS tx tx':=rfl
    rw [hd]at hh
    have hl':¬(tx.length:Int)<tx'.length:=by omega
    cases hq:beginsS tx tx'<;>rw [hq]at hh<;>simp [t194,eCons,joinC,turn,resultsOf,hasO,consZero,e168,s168,eVal,e167,hh,hq,hl,hl']
end Go.Dm.Tc
/-
What functions compute,part 31: a predicate made of constraints.
-/
namespace Go.Dm.Tc
def NameUp (p:Pred):Prop:=(p.map (·.name)).Pairwise fun a b=>Go.Op.bytesLess a b=true
theorem cmpB_gt {a b:List UInt8} (h1:¬Go.Lib.compareBytes a b<0) (h2:Go.Lib.compareBytes a b≠0):Go.Op.bytesLess b a=true:=by
 have go:∀(a b:List UInt8),Go.Op.bytesLess a b=true∨a=b∨Go.Op.bytesLess b a=true:=by
  intro a
  induction a with
  | nil=>intro b;cases b<;>simp [Go.Op.bytesLess]
  | cons x a ih =>
   intro b
   cases b with
   | nil=>simp [Go.Op.bytesLess]
   | cons y b =>
    simp only [Go.Op.bytesLess]
    by_cases h1:x<y
    ·simp [h1]
    ·by_cases h2:y<x
     ·simp [h2]
     ·have:=u8_eq h1 h2
      subst this
      rcases ih b with h|h|h<;>simp [h]
 rcases go a b with h|h|h
 ·exact absurd (cmpB_lt.2 h) h1
 ·exact absurd (cmpB_eq.2 h) h2
 ·exact h
theorem NameUp.mono {p:Pred} (h:NameUp p) (s:List UInt8):∀i j (hi:i<p.length) (hj:j<p.length),i≤j→cmpN s p[j]<0→cmpN s p[i]<0:=by
 intro i j hi hj hij hc
 unfold cmpN at *
 rw [cmpB_lt]at *
 rcases Nat.lt_or_eq_of_le hij with hlt|rfl
 ·have:=List.pairwise_iff_getElem.1 h i j (by simpa using hi) (by simpa using hj) hlt
  simp only [List.getElem_map]at this
  exact bl_trans this hc
 ·exact hc
theorem lowI_lt {α:Type} {cm:α→Int} {xs:List α} {q:Nat} (hq:q<lowIdx cm xs) (hl:q<xs.length):cm xs[q]<0:=by
 have:=List.not_of_lt_findIdx hq
 simpa using this
theorem low_at {α:Type} {cm:α→Int} {xs:List α} (hl:lowIdx cm xs<xs.length):¬cm xs[lowIdx cm xs]<0:=by
 intro hc
 have h1:(fun x=>!decide (cm x<0)) (xs[lowIdx cm xs])=true:=List.findIdx_getElem (w:=hl)
 have h2:(!decide (cm xs[lowIdx cm xs]<0))=true:=h1
 rw [decide_eq_true hc]at h2
 cases h2
def insC (out:Pred) (c:Cons):Option Pred :=
 if hitAt (cmpN c.name) out=true then (match out[lowIdx (cmpN c.name) out]? with
  | some x=>(match joinC x c with|some b=>some (out.set (lowIdx (cmpN c.name) out) b)|none=>none)
  | none=>none)
 else if out.length=5 then none else some (out.take (lowIdx (cmpN c.name) out)++c::out.drop (lowIdx (cmpN c.name) out))
def makeC:Pred→Pred→Option Pred
 | out,[]=>some out
 | out,c::r=>match insC out c with
  | some o=>makeC o r
  | none=>none
theorem joinC_name {a b x:Cons} (hn:a.name=b.name) (h:joinC a b=some x):x.name=a.name:=by
 unfold joinC at h
 repeat' split at h
 all_goals first
  | (cases h;done)
  | (cases h;first|rfl|exact hn.symm)
theorem joinC_kind {a b x:Cons} (ha:Kind3 a.kind) (hb:Kind3 b.kind) (h:joinC a b=some x):Kind3 x.kind:=by
 unfold joinC at h
 repeat' split at h
 all_goals first
  | (cases h;done)
  | (cases h;first|exact ha|exact hb)
theorem hit_get {cm:Cons→Int} {out:Pred} (h:hitAt cm out=true):∃ x,out[lowIdx cm out]?=some x∧cm x=0∧lowIdx cm out<out.length:=by
 unfold hitAt at h
 split at h
 ·rename_i x hx
  exact ⟨x,hx,by simpa using h,(List.getElem?_eq_some_iff.1 hx).1⟩
 ·cases h
theorem insC_ok {out:Pred} {c:Cons} {o:Pred} (hu:NameUp out) (hk:∀x∈out,Kind3 x.kind) (hl:out.length≤5) (hc:Kind3 c.kind) (h:insC out c=some o):NameUp o∧(∀x∈o,Kind3 x.kind)∧o.length≤5:=by
 unfold insC at h
 split at h
 ·rename_i hh
  obtain ⟨x,hx,hx0,hlt⟩:=hit_get hh
  rw [hx]at h
  simp only at h
  split at h
  ·rename_i b hb
   cases h
   have hxm:x∈out:=List.mem_of_getElem? hx
   have hnm:b.name=x.name:=joinC_name (cmpB_eq.1 hx0) hb
   refine ⟨?_,fun y hy=>?_,by simpa using hl⟩
   ·unfold NameUp at hu ⊢
    have:(out.set (lowIdx (cmpN c.name) out) b).map (·.name)=out.map (·.name):=by
     rw [List.map_set]
     refine List.ext_getElem? fun i=>?_
     rw [List.getElem?_set]
     split
     ·rename_i e;subst e
      simp only [List.length_map,hlt,if_true,List.getElem?_map,hx,Option.map_some,hnm]
     ·rfl
    rw [this];exact hu
   ·rcases List.mem_or_eq_of_mem_set hy with h1|h1
    ·exact hk y h1
    ·subst h1;exact joinC_kind (hk x hxm) hc hb
  ·cases h
 ·rename_i hh
  split at h
  ·cases h
  ·rename_i h5
   cases h
   refine ⟨?_,fun y hy=>?_,by simp;omega⟩
   ·unfold NameUp at hu ⊢
    generalize hkk:lowIdx (cmpN c.name) out=k at *
    rw [List.map_append,List.map_cons,List.map_take,List.map_drop,List.pairwise_append,List.pairwise_cons]
    have hlow:∀n∈(out.map (·.name)).take k,Go.Op.bytesLess n c.name=true:=by
     intro n hn
     obtain ⟨i,hi,rfl⟩:=List.mem_iff_getElem.1 hn
     simp only [List.length_take,List.length_map]at hi
     simp only [List.getElem_take,List.getElem_map]
     have:=lowI_lt (cm:=cmpN c.name) (xs:=out) (q:=i) (by rw [hkk];omega) (by omega)
     exact cmpB_lt.1 this
    have hhigh:∀n∈(out.map (·.name)).drop k,Go.Op.bytesLess c.name n=true:=by
     intro n hn
     obtain ⟨i,hi,rfl⟩:=List.mem_iff_getElem.1 hn
     simp only [List.length_drop,List.length_map]at hi
     simp only [List.getElem_drop,List.getElem_map]
     have hk1:k<out.length:=by omega
     have h0:¬cmpN c.name out[k]<0:=by
      have:=low_at (cm:=cmpN c.name) (xs:=out) (by rw [hkk];exact hk1)
      simp only [hkk]at this
      exact this
     have h1:cmpN c.name out[k]≠0:=by
      intro e
      apply hh
      unfold hitAt
      rw [hkk,List.getElem?_eq_getElem hk1]
      simp [e]
     have h2:=cmpB_gt h0 h1
     by_cases hi0:i=0
     ·subst hi0;simpa using h2
     ·have:=List.pairwise_iff_getElem.1 hu k (k+i) (by simpa using hk1) (by simp;omega) (by omega)
      simp only [List.getElem_map]at this
      exact bl_trans h2 this
    refine ⟨hu.sublist (List.take_sublist ..),⟨hhigh,hu.sublist (List.drop_sublist ..)⟩,?_⟩
    intro x hx y hy
    rcases List.mem_cons.1 hy with rfl|hy
    ·exact hlow x hx
    ·exact bl_trans (hlow x hx) (hhigh y hy)
   ·rcases List.mem_append.1 hy with h1|h1
    ·exact hk y (List.mem_of_mem_take h1)
    ·rcases List.mem_cons.1 h1 with rfl|h1
     ·exact hc
     ·exact hk y (List.mem_of_mem_drop h1)
theorem res_if200 (t:Bool) (h:Heap) (ty:Nat) (k:IntKind) (m:Int):resolve t h 200 (.iface ty (.int k m))=some (.iface ty (.int k m)):=rfl
theorem s190 (s:List UInt8) (i:Int) (ty:Nat) (e:Int):∃ T v,pcF D t190 [.str s,.int .i64 i,.iface ty (.int .i64 e)]=some (.iface T v)∧(∀h,resolve false h 199 (.iface T v)=some (.iface T v))∧unlent 199 (.iface T v)=true:=by
 unfold pcF
 rw [goRun_eq _ _ _ _ (by simp [t190])]
 simp [t190,nilEq,flipV]
 exact ⟨_,_,rfl,fun _=>rfl,rfl⟩
end Go.Dm.Tc
/-
What functions compute,part 32: pred.Make.
-/
namespace Go.Dm.Tc
theorem l160 (S:List Fr) (t:Bool) (l:Pred) (hl:l.length≤1000000) (hr:∀c∈l,rightOne c=true∧c.name.length≤1000000) (P:Res→Prop) :
  ∀(rest:Pred) (i:Nat) (f:FEnv) (h:Heap),l.drop i=rest→f 0=eL t 5 eCons l→f 3=.nili→f 13=eL t 5 eCons l→f 14=.int .i64 l.length→f 15=.int .i64 i→h.lim=0→WF h →
  (∀f' h',f' 0=eL t 5 eCons l→f' 3=.nili→h'.lim=0→WF h'→P (run D 75 S t160k1 f' h')) →
  P (run D 75 (.block 0::.seq t160k1::S) (.loop t160l0) f h):=by
 intro rest
 induction rest with
 | nil =>
  intro i f h hd h0 h3 h13 h14 h15 hlim wf hP
  have hi:=drop_nil hd
  have:¬(i<l.length):=by omega
  rw [run_loop_of t160l0.eq_1]
  simp [h14,h15,this]
  refine hP _ _ ?_ ?_ hlim wf<;>simp [h0,h3]
 | cons c rest ih =>
  intro i f h hd h0 h3 h13 h14 h15 hlim wf hP
  obtain ⟨hi,he,hd'⟩:=drop_at hd
  have hc:=hr c (by rw [←he];exact List.getElem_mem hi)
  have hs:=s151 c.name c.kind c.lo c.hi c.text hc.2
  have hc1:rightOne ⟨c.name,c.kind,c.lo,c.hi,c.text⟩=true:=hc.1
  rw [hc1]at hs
  rw [run_loop_of t160l0.eq_1]
  simp [h13,h14,h15,hi,he,eCons,hlim,wf,turn,e151,hs]
  rw [wrap64 (by omega) (by omega)]
  generalize hF:upd _ 15 _=F
  refine ih (i+1) F _ hd' ?_ ?_ ?_ ?_ ?_ ?_ ?_ hP
  ·rw [←hF];simp [h0]
  ·rw [←hF];simp [h3]
  ·rw [←hF];simp [h13]
  ·rw [←hF];simp [h14]
  ·rw [←hF];simp
  ·simp [hlim]
  ·simp [wf]
def MakeOut (o:Option Pred) (r:Option DV):Prop :=
 match o with
 | some out=>r=some (.tup [eL false 5 eCons out,.nili])
 | none=>∃ T v,r=some (.tup [.isl false 0 [],.iface T v])
theorem m160 (t:Bool) (l:Pred) (hl:l.length≤1000000) (hr:∀c∈l,Kind3 c.kind) :
  ∀(rest:Pred) (i:Nat) (out:Pred) (v:DV) (f:FEnv) (h:Heap),l.drop i=rest→NameUp out→(∀c∈out,Kind3 c.kind)→out.length≤5→f 3=.nili→f 27=eL t 5 eCons l→f 28=.int .i64 l.length→f 29=.int .i64 i→f 6=v →
  Own 0 h v 62 5 (out.map eCons)→h.lim=0→WF h →
  MakeOut (makeC out rest) (pcOut (fin [.t 2,.t 3] (run D 75 [.block 2,.seq t160k0] (.loop t160l1) f h))):=by
 intro rest
 induction rest with
 | nil =>
  intro i out v f h hd hu hk h5 h3 h27 h28 h29 h6 ho hlim wf
  have hi:=drop_nil hd
  have:¬(i<l.length):=by omega
  have r1:resolve false h 199 v=some (eL false 5 eCons out):=ho.toR.resolve false (fun y _=>(plain_con y).1) (by decide)
  rw [run_loop_of t160l1.eq_1]
  simp [t160k0,h28,h29,this,h6,h3,makeC,MakeOut,resultsOf,r1]
  exact unl_eL (fun y _=>(plain_con y).2) 199 (by decide)
 | cons c rest ih =>
  intro i out v f h hd hu hk h5 h3 h27 h28 h29 h6 ho hlim wf
  obtain ⟨hi,he,hd'⟩:=drop_at hd
  have hc:=hr c (by rw [←he];exact List.getElem_mem hi)
  have n0:0≤h.n:=Nat.zero_le _
  have r1:∀o,resolve true (h.push o) 200 v=some (eL true 5 eCons out):=fun o=>ho.push.toR.resolve true (fun y _=>(plain_con y).1) (by decide)
  have hs:=s191 true out c.name (by omega) (hu.mono c.name)
  rw [run_loop_of t160l1.eq_1]
  cases hh:hitAt (cmpN c.name) out with
  | true =>
   obtain ⟨x,hx,hx0,hlt⟩:=hit_get hh
   rw [hh]at hs
   cases ho with
   | nil hv hx=>simp at hx;subst hx;simp at hlt
   | arr id hv hg hlm hlo =>
    have hix:indexAddrV 5 v (.int .i64 (lowIdx (cmpN c.name) out:Nat))=some (.ptr id 5 (lowIdx (cmpN c.name) out) 0):=by rw [hv];simp [indexAddrV,asI,hlt]
    have hidn:=get_some_lt hg
    have hne:¬id=h.n:=by omega
    have hne':¬h.n=id:=by omega
    have hne2:¬id=h.n+1:=by omega
    have hidn2:id<h.n+1+1:=by omega
    have hxm:x∈out:=List.mem_of_getElem? hx
    have hb:=s194 x c (hk x hxm) hc
    have hx':out[lowIdx (cmpN c.name) out]=x:=by rw [List.getElem?_eq_getElem hlt]at hx;exact Option.some.inj hx
    cases hj:joinC x c with
    | none =>
     rw [hj]at hb
     simp only [eCons,Option.getD,hasO]at hb
     obtain ⟨T,w,hw,hw1,hw2⟩:=s190 [112,114,101,100] i 225 5
     simp [h27,h28,h29,hi,he,h6,h3,r1,hlim,wf,turn,e191,hs,hg,hix,hidn,hlt,hx',hne,hne',hne2,hidn2,e194,hb,e190,hw,hw1,hw2,res_if200,resultsOf,eCons,makeC,insC,hh,hx,hj,MakeOut]
    | some b =>
     rw [hj]at hb
     simp only [eCons,Option.getD,hasO]at hb
     have hin:insC out c=some (out.set (lowIdx (cmpN c.name) out) b):=by simp [insC,hh,hx,hj]
     obtain ⟨g1,g2,g3⟩:=insC_ok hu hk h5 hc hin
     have hmk:makeC out (c::rest)=makeC (out.set (lowIdx (cmpN c.name) out) b) rest:=by simp only [makeC,hin]
     have hidn1:id<h.n+1:=by omega
     rw [hmk]
     simp [h27,h28,h29,hi,he,h6,h3,r1,hlim,wf,turn,e191,hs,hg,hix,hidn,hidn1,hlt,hx',hne,hne',hne2,hidn2,e194,hb,eCons]
     rw [wrap64 (by omega) (by omega)]
     generalize hF:upd _ 29 _=F
     refine ih (i+1) _ v F _ hd' g1 g2 g3 ?_ ?_ ?_ ?_ ?_ (.arr id (by rw [hv];simp) ?_ ?_ (Nat.zero_le _)) ?_ ?_
     ·rw [←hF];simp [h3]
     ·rw [←hF];simp [h27]
     ·rw [←hF];simp [h28]
     ·rw [←hF];simp
     ·rw [←hF];simp [h6]
     ·simp [hne,hne',hne2,hidn,wf,List.map_set,eCons]
     ·simp [hlim]
     ·simp [hlim]
     ·simp [wf]
  | false =>
   rw [hh]at hs
   by_cases hf:out.length=5
   ·obtain ⟨T,w,hw,hw1,hw2⟩:=s190 [112,114,101,100] i 225 7
    have hl5:lenV (h.push (.arr 62 5 [eCons c] (some 1))) 1 v=some (.int .i64 out.length):=by simpa using ho.push.toR.lenV
    simp only [eCons]at hl5
    simp [h27,h28,h29,hi,he,h6,h3,r1,hlim,wf,turn,e191,hs,hl5,hf,e190,hw,hw1,hw2,res_if200,resultsOf,eCons,makeC,insC,hh,MakeOut]
   ·have hl5:lenV (h.push (.arr 62 5 [eCons c] (some 1))) 1 v=some (.int .i64 out.length):=by simpa using ho.push.toR.lenV
    simp only [eCons]at hl5
    have hf':¬(out.length:Int)=5:=by omega
    have hin:insC out c=some (out.take (lowIdx (cmpN c.name) out)++c::out.drop (lowIdx (cmpN c.name) out)):=by simp [insC,hh,hf]
    obtain ⟨g1,g2,g3⟩:=insC_ok hu hk h5 hc hin
    have hmk:makeC out (c::rest)=makeC (out.take (lowIdx (cmpN c.name) out)++c::out.drop (lowIdx (cmpN c.name) out)) rest:=by simp only [makeC,hin]
    rw [hmk]
    simp [h27,h28,h29,hi,he,h6,h3,r1,hlim,wf,turn,e191,hs,hl5,hf,hf',eCons]
    generalize hA:fc D _ _ _=A
    obtain ⟨v',K,rfl,p,x,_⟩:=q195 hA 0 out c (vety:=62) (c:=1) ho.push.push (by simp [eCons]) (lowIdx_le _ _) (by omega) (by simp [wf]) (Nat.zero_le _) (by simp [hlim])
    clear hA
    simp [h29]
    rw [wrap64 (by omega) (by omega)]
    generalize hF:upd _ 29 _=F
    refine ih (i+1) _ v' F K hd' g1 g2 g3 ?_ ?_ ?_ ?_ ?_ p ?_ x.wf
    ·rw [←hF];simp [h3]
    ·rw [←hF];simp [h27]
    ·rw [←hF];simp [h28]
    ·rw [←hF];simp
    ·rw [←hF];simp
    ·rw [x.lim];simp [hlim]
theorem s160 (t:Bool) (l:Pred) (hl:l.length≤1000000) (hr:∀c∈l,rightOne c=true∧c.name.length≤1000000) (hk:∀c∈l,Kind3 c.kind):MakeOut (makeC [] l) (pcF D t160 [eL t 5 eCons l]):=by
 unfold pcF
 rw [goRun_eq _ _ _ _ (by simp [t160])]
 simp [t160]
 generalize hF:upd _ 15 _=F
 refine l160 [] t l hl hr (fun r=>MakeOut (makeC [] l) (pcOut (fin [.t 2,.t 3] r))) l 0 F heap0 rfl ?_ ?_ ?_ ?_ ?_ ?_ ?_ fun f' h' k0 k3 klim kwf=>?_
 ·rw [←hF];simp
 ·rw [←hF];simp
 ·rw [←hF];simp
 ·rw [←hF];simp
 ·rw [←hF];simp
 ·simp
 ·simp
 ·simp [t160k1,k0]
  refine m160 t l hl hk l 0 [] .nsl _ h' rfl (by simp [NameUp]) (by simp) (by simp) ?_ ?_ ?_ ?_ ?_ (.nil rfl rfl) klim kwf<;>simp [k3]
end Go.Dm.Tc
