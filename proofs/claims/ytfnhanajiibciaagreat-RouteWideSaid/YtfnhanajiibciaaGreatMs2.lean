/-
What functions compute, part 33: rel.Sample, rel.Joint, rel.Meets.
-/
import Derived.Test.YtfnhanajiibciaaGreatMs1
import Derived.Test.YtfnhanajiibciaaGreatMs0
set_option linter.all false
namespace Go.Dm.Tc
def sampleC (c:Cons):DV:=if c.kind=1 then .agg [.str c.name,.bool false,.int .i64 c.lo,.str []] else .agg [.str c.name,.bool true,.int .i64 0,.str c.text]
theorem plain_sample (c:Cons):Flat 20 (sampleC c)∧Unl 22 (sampleC c):=by
 unfold sampleC
 split
 ·exact ⟨flat_cells (by simp [flat_str,flat_bool,flat_int]),unl_cells (by
   intro x hx
   simp only [List.mem_cons,List.not_mem_nil,or_false]at hx
   rcases hx with rfl|rfl|rfl|rfl
   ·exact (unl_str _).mono (by decide)
   ·exact (unl_bool _).mono (by decide)
   ·exact (unl_int _ _).mono (by decide)
   ·exact (unl_str _).mono (by decide))⟩
 ·exact ⟨flat_cells (by simp [flat_str,flat_bool,flat_int]),unl_cells (by
   intro x hx
   simp only [List.mem_cons,List.not_mem_nil,or_false]at hx
   rcases hx with rfl|rfl|rfl|rfl
   ·exact (unl_str _).mono (by decide)
   ·exact (unl_bool _).mono (by decide)
   ·exact (unl_int _ _).mono (by decide)
   ·exact (unl_str _).mono (by decide))⟩
theorem s196 (n:Int):pcF D t196 [.int .i64 n]=some (.agg [.bool false,.int .i64 n,.str []]):=by
 unfold pcF
 rw [goRun_eq _ _ _ _ (by simp [t196])]
 simp [t196,turn]
theorem l161 (t:Bool) (p:Pred) (hl:p.length≤1000000) :
  ∀(rest done:Pred) (i:Nat) (v:DV) (f:FEnv) (h:Heap),p.drop i=rest→p=done++rest→f 3=v→f 7=eL t 5 eCons p→f 8=.int .i64 p.length→f 9=.int .i64 i→OwnR 0 h v 206 4 (done.map sampleC)→h.lim=0→WF h →
  pcOut (fin [.t 2] (run D 31 [.block 0,.seq t161k0] (.loop t161l0) f h))=some (eL false 4 sampleC p):=by
 intro rest
 induction rest with
 | nil =>
  intro done i v f h hd hp h3 h7 h8 h9 ho hlim wf
  have hi:=drop_nil hd
  have:¬(i<p.length):=by omega
  have hp':done=p:=by simpa using hp.symm
  subst hp'
  have r1:resolve false h 200 v=some (eL false 4 sampleC done):=ho.resolve false (fun y _=>(plain_sample y).1) (by decide)
  rw [run_loop_of t161l0.eq_1]
  simp [t161k0,h8,h9,this,h3,r1]
  exact unl_eL (fun y _=>(plain_sample y).2) 200 (by decide)
 | cons c rest ih =>
  intro done i v f h hd hp h3 h7 h8 h9 ho hlim wf
  obtain ⟨hi,he,hd'⟩:=drop_at hd
  have hp':p=(done++[c])++rest:=by simpa using hp
  have hdl:done.length+1≤1000000:=by have:=congrArg List.length hp';simp at this;omega
  have hvt:=s168 c.text
  simp only [eVal]at hvt
  rw [run_loop_of t161l0.eq_1]
  by_cases hk:c.kind=1
  ·simp [h3,h7,h8,h9,hi,he,eCons,hlim,wf,turn,e168,hvt,e196,s196,hk]
   generalize hA:appendD _ _ _ _ _ _=A
   obtain ⟨v',K,rfl,p',x,_⟩:=OwnR.append (ho.push.push.push) (by simp [wf]) (Nat.zero_le _) (by simp [hlim]) hA (by simp;omega) (by decide)
   clear hA
   simp [h9]
   rw [wrap64 (by omega) (by omega)]
   generalize hF:upd _ 9 _=F
   refine ih (done++[c]) (i+1) v' F K hd' hp' ?_ ?_ ?_ ?_ ?_ ?_ x.wf
   ·rw [←hF];simp
   ·rw [←hF];simp [h7]
   ·rw [←hF];simp [h8]
   ·rw [←hF];simp
   ·simpa [sampleC,hk] using p'
   ·rw [x.lim];simp [hlim]
  ·simp [h3,h7,h8,h9,hi,he,eCons,hlim,wf,turn,e168,hvt,hk]
   generalize hA:appendD _ _ _ _ _ _=A
   obtain ⟨v',K,rfl,p',x,_⟩:=OwnR.append (ho.push.push.push) (by simp [wf]) (Nat.zero_le _) (by simp [hlim]) hA (by simp;omega) (by decide)
   clear hA
   simp [h9]
   rw [wrap64 (by omega) (by omega)]
   generalize hF:upd _ 9 _=F
   refine ih (done++[c]) (i+1) v' F K hd' hp' ?_ ?_ ?_ ?_ ?_ ?_ x.wf
   ·rw [←hF];simp
   ·rw [←hF];simp [h7]
   ·rw [←hF];simp [h8]
   ·rw [←hF];simp
   ·simpa [sampleC,hk] using p'
   ·rw [x.lim];simp [hlim]
theorem s161 (t:Bool) (p:Pred) (hl:p.length≤1000000):pcF D t161 [eL t 5 eCons p]=some (eL false 4 sampleC p):=by
 unfold pcF
 rw [goRun_eq _ _ _ _ (by simp [t161])]
 simp [t161]
 refine l161 t p hl p [] 0 .nsl _ heap0 rfl rfl ?_ ?_ ?_ ?_ (.nil rfl rfl) ?_ ?_<;>simp
def meetsP (a b:Pred):Bool:=hasO (makeC [] (a++b))
theorem right_kind {c:Cons} (h:rightOne c=true):Kind3 c.kind:=by
 unfold rightOne at h
 unfold Kind3
 simp only [Bool.and_eq_true]at h
 have h2:=h.2
 repeat' split at h2
 all_goals first
  | (rename_i e;exact .inl e)
  | (rename_i e;exact .inr (.inr e))
  | (rename_i e;exact .inr (.inl e))
  | (cases h2;done)
theorem rightA_mem:∀{p:Pred} {n:Option (List UInt8)},rightA n p=true→∀c∈p,rightOne c=true
 | [],_,_,c,h=>by cases h
 | x::r,n,h,c,hc=>by
  simp only [rightA,Bool.and_eq_true]at h
  rcases List.mem_cons.1 hc with rfl|hc
  ·exact h.1.1
  ·exact rightA_mem h.2 c hc
theorem PredOk.one {p:Pred} (h:PredOk p):∀c∈p,rightOne c=true∧c.name.length≤1000000:=by
 intro c hc
 have h1:=h.right
 unfold rightP at h1
 simp only [Bool.and_eq_true]at h1
 exact ⟨rightA_mem h1.1 c hc,h.names.2 c hc⟩
theorem makeC_len:∀(l:Pred) {out o:Pred},out.length≤5→makeC out l=some o→o.length≤5
 | [],out,o,h,he=>by simp only [makeC,Option.some.injEq]at he;subst he;exact h
 | c::r,out,o,h,he=>by
  simp only [makeC]at he
  split at he
  ·rename_i o1 h1
   refine makeC_len r ?_ he
   unfold insC at h1
   repeat' split at h1
   all_goals first
    | (cases h1;done)
    | (cases h1;simp only [List.length_set];exact h)
    | (cases h1;simp only [List.length_append,List.length_cons,List.length_take,List.length_drop];omega)
  ·cases he
theorem s123 (a b:Pred) (ha:PredOk a) (hb:PredOk b):∃ x,pcF D t123 [ePred a,ePred b]=some (.tup [x,.bool (meetsP a b)]):=by
 have hla:=ha.len
 have hlb:=hb.len
 have hone:∀c∈a++b,rightOne c=true∧c.name.length≤1000000:=fun c hc=>(List.mem_append.1 hc).elim (ha.one c) (hb.one c)
 have hm:=s160 true (a++b) (by simp;omega) hone fun c hc=>right_kind (hone c hc).1
 unfold pcF
 rw [goRun_eq _ _ _ _ (by simp [t123])]
 simp only [ePred]
 simp [t123]
 generalize hA:appendD _ _ _ _ _ _=A
 obtain ⟨v1,K1,rfl,p1,x1,_⟩:=OwnR.append (lo:=0) (OwnR.fresh (lo:=0) (xs:=[]) (by simp) (by simp)) (by simp) (Nat.zero_le _) (by simp) hA (by simp;omega) (by decide)
 clear hA
 simp
 generalize hA:appendD _ _ _ _ _ _=A
 obtain ⟨v2,K2,rfl,p2,x2,_⟩:=OwnR.append p1 x1.wf (Nat.zero_le _) (by rw [x1.lim];simp) hA (by simp;omega) (by decide)
 clear hA
 have hp:OwnR 0 K2 v2 62 5 ((a++b).map eCons):=by simpa using p2
 have r1:resolve true K2 200 v2=some (eL true 5 eCons (a++b)):=hp.resolve true (fun y _=>(plain_con y).1) (by decide)
 unfold meetsP
 cases hk:makeC [] (a++b) with
 | none =>
  rw [hk]at hm
  obtain ⟨T,w,hw⟩:=hm
  simp [e160,r1,hw,hasO,nilEq,flipV,resultsOf]
 | some out =>
  rw [hk]at hm
  simp only [MakeOut]at hm
  have hol:out.length≤1000000:=by
   have:=makeC_len (a++b) (out:=[]) (by simp) hk
   omega
  have hs:=s161 false out hol
  have hu:unlent 199 (eL false 4 sampleC out)=true:=unl_eL (fun y _=>(plain_sample y).2) 199 (by decide)
  simp [e160,r1,hm,hasO,nilEq,flipV,resultsOf,e161,hs,hu]
theorem s47 (a b:Pred) (ha:PredOk a) (hb:PredOk b):pcF D t47 [ePred a,ePred b]=some (.bool (meetsP a b)):=by
 obtain ⟨x,hx⟩:=s123 a b ha hb
 unfold pcF
 rw [goRun_eq _ _ _ _ (by simp [t47])]
 simp [t47,e123,hx]
end Go.Dm.Tc
/-
What the reference's functions compute,part 9: two constraints in one.
-/
namespace Go.Dm.Tc
end Go.Dm.Tc
/-
What the reference's functions compute,part 10: a predicate made of constraints.
-/
namespace Go.Dm.Tc
theorem _root_.Go.Dm.OwnR.mapId {lo:Nat} {h:Heap} {v:DV} {ety sz:Nat} {xs:List DV} (w:OwnR lo h v ety sz xs):Dm.mapId v=none:=by
 cases w with
 | nil hv _=>subst hv;rfl
 | arr _ _ _ hv=>subst hv;rfl
end Go.Dm.Tc
/-
What the reference's functions compute,part 11: its predicate made of constraints;do two predicates meet?
-/
namespace Go.Dm.Tc
end Go.Dm.Tc
/-
What functions compute,part 34: messages put out;to all neighbours but one.
-/
namespace Go.Dm.Tc
structure OutS where
 to:Int
 kind:Int
 tree:ID
 id:ID
 pred:Pred
 deriving DecidableEq,Inhabited
def eOut (o:OutS):DV:=.agg [.int .i64 o.to,.int .i64 o.kind,.int .i64 o.tree.client,.int .i64 o.tree.seq,.int .i64 o.id.client,.int .i64 o.id.seq,ePred o.pred,.isl false 0 []]
def RowR (es:List DV) (os:List OutS):Prop:=es.length=os.length∧∀(tag:Bool) (h:Heap) (n:Nat),21≤n→es.mapM (resolve tag h n)=some (os.map eOut)
theorem RowR.nil:RowR [] []:=⟨rfl,fun _ _ _ _=>rfl⟩
theorem RowR.append {a b:List DV} {x y:List OutS} (h1:RowR a x) (h2:RowR b y):RowR (a++b) (x++y):=by
 refine ⟨by simp [h1.1,h2.1],fun tag h n hn=>?_⟩
 rw [List.mapM_append,h1.2 tag h n hn,h2.2 tag h n hn]
 simp
def rawO (to k tc td ic id:Int) (pd ad:DV):DV:=.agg [.int .i64 to,.int .i64 k,.int .i64 tc,.int .i64 td,.int .i64 ic,.int .i64 id,pd,ad]
def Means (pd:DV) (p:Pred):Prop:=pd=ePred p∨(pd=.nsl∧p=[])
def Nils (ad:DV):Prop:=ad=.nsl∨ad=.isl false 0 []
theorem Means.res {pd:DV} {p:Pred} (h:Means pd p) (tag:Bool) (hp:Heap) (n:Nat) (hn:20≤n):resolve tag hp n pd=some (ePred p):=by
 obtain ⟨m,rfl⟩:∃ m,n=m+1:=⟨n-1,by omega⟩
 rcases h with rfl|⟨rfl,rfl⟩
 ·exact res_pred ..
 ·rfl
theorem Nils.res {ad:DV} (h:Nils ad) (tag:Bool) (hp:Heap) (n:Nat) (hn:20≤n):resolve tag hp n ad=some (.isl false 0 []):=by
 obtain ⟨m,rfl⟩:∃ m,n=m+1:=⟨n-1,by omega⟩
 rcases h with rfl|rfl
 ·rfl
 ·rfl
theorem rawO_res {to k tc td ic id:Int} {pd ad:DV} {p:Pred} (hp:Means pd p) (ha:Nils ad) (tag:Bool) (h:Heap) (n:Nat) (hn:21≤n):resolve tag h n (rawO to k tc td ic id pd ad)=some (eOut ⟨to,k,⟨tc,td⟩,⟨ic,id⟩,p⟩):=by
 obtain ⟨m,rfl⟩:∃ m,n=m+1:=⟨n-1,by omega⟩
 obtain ⟨q,rfl⟩:∃ q,m=q+1:=⟨m-1,by omega⟩
 have h1:=hp.res tag h (q+1) (by omega)
 have h2:=ha.res tag h (q+1) (by omega)
 unfold rawO eOut
 rw [res_agg]
 simp [h1,h2]
theorem RowR.one {to k tc td ic id:Int} {pd ad:DV} {p:Pred} (hp:Means pd p) (ha:Nils ad):RowR [rawO to k tc td ic id pd ad] [⟨to,k,⟨tc,td⟩,⟨ic,id⟩,p⟩] :=
 ⟨rfl,fun tag h n hn=>by simp only [List.mapM_cons,List.mapM_nil,rawO_res hp ha tag h n hn];rfl⟩
theorem plain_out (o:OutS):Flat 20 (eOut o)∧Unl 22 (eOut o):=⟨flat_cells (by
  intro x hx
  simp only [List.mem_cons,List.not_mem_nil,or_false]at hx
  rcases hx with rfl|rfl|rfl|rfl|rfl|rfl|rfl|rfl
  all_goals first|exact flat_int _ _|exact flat_eL false 5 eCons o.pred|exact fun t h m hm=>by obtain ⟨q,rfl,_⟩:=pos_of_le hm;rfl),unl_cells (by
  intro x hx
  simp only [List.mem_cons,List.not_mem_nil,or_false]at hx
  rcases hx with rfl|rfl|rfl|rfl|rfl|rfl|rfl|rfl
  all_goals first|exact (unl_int _ _).mono (by decide)|exact (unl_pred o.pred).mono (by decide)|exact fun n hn=>by obtain ⟨q,rfl,_⟩:=pos_of_le (k:=20) hn;simp [unlent])⟩
theorem out_res {lo:Nat} {h:Heap} {v:DV} {ety:Nat} {es:List DV} {os:List OutS} (w:OwnR lo h v ety 8 es) (r:RowR es os) (tag:Bool) {n:Nat} (hn:22≤n):resolve tag h n v=some (eL tag 8 eOut os):=by
 obtain ⟨m,rfl,hm⟩:=pos_of_le (k:=21) hn
 cases w with
 | nil hv hx =>
  subst hv;subst hx
  have:os=[]:=List.length_eq_zero_iff.1 r.1.symm
  subst this;rfl
 | arr id sp cap hv hg hl hi =>
  subst hv
  have hmm:=r.2 tag h m hm
  simp only [Dm.resolve,hg,true_and,Nat.zero_add,List.length_append,Nat.le_add_right,if_true,List.drop_zero,List.take_left,hmm]
  rfl
def toAll (near:List Int) (but k tc td ic id:Int) (p:Pred):List OutS:=(near.filter fun n=>!decide (n=but)).map fun n=>⟨n,k,⟨tc,td⟩,⟨ic,id⟩,p⟩
end Go.Dm.Tc
/-
What functions compute,part 35: an advertisement comes by a link.
-/
namespace Go.Dm.Tc
theorem s120 (tc td sc sd:Int) (p:Pred) (q:Int) (u:Bool):pcF D t120 [.agg [.int .i64 tc,.int .i64 td,.int .i64 sc,.int .i64 sd,ePred p,.int .i64 q,.bool u]]=some (.agg [.int .i64 3,.int .i64 tc,.int .i64 td,.int .i64 sc,.int .i64 sd,ePred p,.isl false 0 []]):=by
 unfold pcF
 rw [goRun_eq _ _ _ _ (by simp [t120])]
 simp [t120,turn]
structure ZL (b:Broker) (k:Nat):Prop where
 near:b.near.length≤100000
 adv:b.adverts.length≤100000
 seen:b.seen.length≤100000
 own:b.owns.length≤100000
 ent:b.entries.length+k≤100000
theorem ZL.sized {b:Broker} {k:Nat} (h:ZL b k):Sized b:=⟨h.near,h.adv,h.seen,by have:=h.ent;omega,h.own⟩
theorem ZL.less {b:Broker} {k m:Nat} (h:ZL b k) (hm:m≤k):ZL b m:=⟨h.near,h.adv,h.seen,h.own,by have:=h.ent;omega⟩
theorem addB_rows (b:Broker) (e:Entry):(addB b e).1.near=b.near∧(addB b e).1.adverts=b.adverts∧(addB b e).1.seen=b.seen∧(addB b e).1.owns=b.owns∧(addB b e).1.me=b.me∧(addB b e).1.entries.length≤b.entries.length+1:=by
 unfold addB
 split
 ·exact ⟨rfl,rfl,rfl,rfl,rfl,by simp only [insE_len];omega⟩
 ·exact ⟨rfl,rfl,rfl,rfl,rfl,by simp⟩
theorem ZL.add {b:Broker} {k:Nat} (h:ZL b (k+1)) (e:Entry):ZL (addB b e).1 k:=by
 obtain ⟨h1,h2,h3,h4,_,h5⟩:=addB_rows b e
 have:=h.ent
 exact ⟨by rw [h1];exact h.near,by rw [h2];exact h.adv,by rw [h3];exact h.seen,by rw [h4];exact h.own,by omega⟩
def advStep (frm:Int) (x:ID) (p:Pred) (st:Broker×List OutS) (o:OwnS):Broker×List OutS :=
 if meetsP o.pred p=true then ((addB st.1 ⟨x,o.id,o.pred,-1,false⟩).1,if (addB st.1 ⟨x,o.id,o.pred,-1,false⟩).2=true then st.2++[⟨frm,3,x,o.id,o.pred⟩] else st.2)
 else st
def advertiseB (b:Broker) (frm:Int) (x:ID) (p:Pred):Broker×List OutS :=
 if (learnB b ⟨x,p,frm⟩).2=true then b.owns.foldl (advStep frm x p) ((learnB b ⟨x,p,frm⟩).1,toAll b.near frm 1 x.client x.seq 0 0 p) else (b,[])
def zB:DV:=.agg [.int .i64 0,.nsl,.nsl,.nsl,.nsl,.nsl]
end Go.Dm.Tc
/-
What functions compute,part 36: an advertisement taken back;a broker's side.
-/
namespace Go.Dm.Tc
theorem _root_.Go.Dm.OwnR.wl {lo:Nat} {h:Heap} {v:DV} {ety sz:Nat} {xs:List DV} (w:OwnR lo h v ety sz xs) {m:Nat} (hm:m≤lo):OwnR lo (Dm.wl h m) v ety sz xs:=by
 cases w with
 | nil hv hx=>exact .nil hv hx
 | arr id sp cap hv hg hl hi=>exact .arr id sp cap hv hg (Nat.le_trans hm hi) hi
def unadvertiseB (b:Broker) (frm:Int) (x:ID):Broker×List OutS :=
 if (forgetB b x frm).2=true then ((forgetB b x frm).1,toAll b.near frm 2 x.client x.seq 0 0 []) else (b,[])
end Go.Dm.Tc
/-
What the reference's functions compute,part 12: a client of the broker's subscribes.
-/
namespace Go.Dm.Tc
def subOwn (b:Broker) (x:ID) (p:Pred):Broker:={b with owns:=insAt (fun o=>o.id) ⟨x,p⟩ b.owns}
def subStep (x:ID) (p:Pred) (st:Broker×List OutS) (a:Advert):Broker×List OutS :=
 if meetsP p a.pred=true then ((addB st.1 ⟨a.id,x,p,-1,false⟩).1,if (addB st.1 ⟨a.id,x,p,-1,false⟩).2=true then st.2++[⟨a.parent,3,a.id,x,p⟩] else st.2)
 else st
def subscribeB (b:Broker) (x:ID) (p:Pred):Broker×List OutS :=
 if hitAt (fun o:OwnS=>cmpID o.id x) b.owns=true then (b,[]) else b.adverts.foldl (subStep x p) (subOwn b x p,[])
end Go.Dm.Tc
/-
What the reference's functions compute,part 13: a client of the broker's subscribes,with its row still written.
-/
namespace Go.Dm.Tc
theorem fr_own {lo:Nat} {h:Heap} {i ety:Nat} {os:List OwnS} {n:Nat} (o:OwnI lo h i ety 3 (os.map eOwn)) (hn:n=os.length):freeze h (.sl i 3 0 n)=some (eL false 3 eOwn os,h.set i .dead):=by
 subst hn
 obtain ⟨⟨sp,cap,hg⟩,hl,_⟩:=o
 have hb:(List.take os.length (List.map eOwn os++sp)).all (below 200 0)=true:=by
  rw [List.take_left' (by simp),List.all_eq_true]
  intro x hx
  obtain ⟨y,_,rfl⟩:=List.mem_map.1 hx
  exact (dep_own y).belowN (by decide)
 simp only [freeze,hg,hl,List.drop_zero,hb,List.length_append,List.length_map,Nat.zero_add,Nat.le_add_right,and_self,if_true]
 rw [List.take_left' (by simp)]
 cases os<;>rfl
end Go.Dm.Tc
/-
What the reference's functions compute,part 14: a client of the broker's subscribes,all of it.
-/
namespace Go.Dm.Tc
theorem insAt_len {α:Type} (key:α→ID) (a:α) (l:List α):(insAt key a l).length=l.length+1:=by
 unfold insAt
 have:=lowIdx_le (fun b=>cmpID (key b) (key a)) l
 simp only [List.length_append,List.length_cons,List.length_take,List.length_drop]
 omega
theorem hit_own {l:List OwnS} (hr:Rising (l.map (·.id))) (x:ID):hitAt (fun o:OwnS=>cmpID o.id x) l=false→∀o∈l,o.id≠x:=by
 intro hh o ho
 have hf:=hit_find (fun a:OwnS=>a.id) hr x
 cases hq:l.find? (fun b=>decide (b.id=x)) with
 | none=>exact (find_key_none (fun a:OwnS=>a.id) x).1 hq o ho
 | some a=>rw [hq]at hf;rw [hf.1]at hh;cases hh
theorem InvK.subOwn {b:Broker} (h:InvK b) {x:ID} {p:Pred} (hp:PredOk p) (hn:∀o∈b.owns,o.id≠x):InvK (subOwn b x p):=by
 obtain ⟨h1,h2,h3,h4,h5,h6,h7,h8,h9,h10,h11,h12,h13⟩:=h
 refine ⟨h1,h2,h3,h4,ins_rising (fun o:OwnS=>o.id) ⟨x,p⟩ h5 hn,h6,h7,h8,h9,?_,h11,h12,h13⟩
 intro o ho
 unfold Tc.subOwn insAt at ho
 simp only at ho
 rcases List.mem_append.1 ho with h|h
 ·exact h10 o (List.mem_of_mem_take h)
 ·rcases List.mem_cons.1 h with rfl|h
  ·exact hp
  ·exact h10 o (List.mem_of_mem_drop h)
end Go.Dm.Tc
/-
What the reference's functions compute,part 15: an entry dropped.
-/
namespace Go.Dm.Tc
def upOuts (to:Int) (ups:List Entry):List OutS:=ups.map fun e=>⟨to,3,e.tree,e.sub,e.pred⟩
def dropB (b:Broker) (t s:ID) (q:Int):Broker×List OutS :=
 if (takeB b t s q).2.2=true then ((takeB b t s q).1,upOuts (parentOf b t) (takeB b t s q).2.1++[⟨parentOf b t,4,t,s,[]⟩]) else ((takeB b t s q).1,[])
theorem take_adv {b:Broker} (h:InvK b) {t s:ID} {q:Int} (hu:(takeB b t s q).2.2=true):(takeB b t s q).1.adverts=b.adverts∧∃ a,advOf b t=some a:=by
 rcases take_cases h t s q with ⟨e,_⟩|⟨e,_,_,_,_,ht⟩|⟨e,hm,hi,_,_,r',u',ht,_⟩
 ·rw [e]at hu;cases hu
 ·rw [ht]at hu;cases hu
 ·rw [ht]
  refine ⟨rfl,?_⟩
  obtain ⟨a,ha,_⟩:=rightEnt_iff.1 (h.ent e hm)
  have:e.tree=t:=by simp only [isE,Bool.and_eq_true,decide_eq_true_eq]at hi;first|exact hi.1|exact hi.2
  exact ⟨a,by rw [←this];exact ha⟩
theorem takeL_le {b:Broker} (h:InvK b) (t s:ID) (q:Int):(takeB b t s q).2.1.length≤b.entries.length:=by
 exact take_ups_le b t s q
end Go.Dm.Tc
/-
What the reference's functions compute,part 16: subscriptions by a link.
-/
namespace Go.Dm.Tc
def onSubB (b:Broker) (q:Int) (t s:ID) (p:Pred):Broker×List OutS :=
 ((addB b ⟨t,s,p,q,false⟩).1,if (addB b ⟨t,s,p,q,false⟩).2=true then [⟨parentOf b t,3,t,s,p⟩] else [])
theorem add_adv {b:Broker} {e:Entry} (hu:(addB b e).2=true):∃ a,advOf b e.tree=some a:=by
 unfold addB at hu
 split at hu
 ·rename_i hm
  obtain ⟨a,ha,_⟩:=mayAdd_iff.1 hm
  exact ⟨a,ha⟩
 ·cases hu
end Go.Dm.Tc
/-
What the reference's functions compute,part 17: a client of the broker's ends a subscription.
-/
namespace Go.Dm.Tc
def endStep (x:ID) (st:Broker×List OutS) (a:Advert):Broker×List OutS:=((dropB st.1 a.id x (-1)).1,st.2++(dropB st.1 a.id x (-1)).2)
def endOwn (b:Broker) (x:ID):Broker:={b with owns:=without (fun o=>o.id) x b.owns}
def unsubscribeB (b:Broker) (x:ID):Broker×List OutS :=
 if (without (fun o:OwnS=>o.id) x b.owns).length=b.owns.length then (b,[]) else b.adverts.foldl (endStep x) (endOwn b x,[])
theorem rowR_out:∀(os:List OutS),RowR (os.map eOut) os:=fun os=>⟨by simp,fun tag h n hn=>mapM_self fun x hx=>by
 obtain ⟨o,_,rfl⟩:=List.mem_map.1 hx
 exact (plain_out o).1 tag h n (by omega)⟩
theorem drop_fst (b:Broker) (t s:ID) (q:Int):(dropB b t s q).1=(takeB b t s q).1:=by unfold dropB;split<;>rfl
theorem drop_len {b:Broker} (h:InvK b) (t s:ID) (q:Int):(dropB b t s q).2.length≤b.entries.length+1:=by
 unfold dropB
 split
 ·have:=takeL_le h t s q;simp [upOuts];exact this
 ·simp
theorem ZL.take {b:Broker} (h:ZL b 0) (hi:InvK b) (t s:ID) (q:Int):ZL (takeB b t s q).1 0:=by
 obtain ⟨h1,h2,h3,h4,h5⟩:=h
 rcases take_cases hi t s q with ⟨e,_⟩|⟨e,_,_,_,_,ht⟩|⟨e,hm,_,_,_,r',u',ht,hr,_⟩
 ·rw [e];exact ⟨h1,h2,h3,h4,h5⟩
 ·rw [ht]
  have:=List.length_filter_le (fun x=>!isE t s x) b.entries
  exact ⟨h1,h2,h3,h4,by simp only;omega⟩
 ·rw [ht]
  have:=List.length_filter_le (fun x=>!isE t s x) b.entries
  have h6:=hr.len
  exact ⟨h1,h2,h3,h4,by simp only;omega⟩
end Go.Dm.Tc
/-
What the reference's functions compute,part 18: a client of the broker's ends a subscription,all of it.
-/
namespace Go.Dm.Tc
end Go.Dm.Tc
/-
What the reference's functions compute,part 19: the end of a subscription,with the row still written.
-/
namespace Go.Dm.Tc
end Go.Dm.Tc
/-
What the reference's functions compute,part 20: the end of a subscription,all of it.
-/
namespace Go.Dm.Tc
theorem InvK.endOwn {b:Broker} (h:InvK b) (x:ID):InvK (endOwn b x):=by
 obtain ⟨h1,h2,h3,h4,h5,h6,h7,h8,h9,h10,h11,h12,h13⟩:=h
 refine ⟨h1,h2,h3,h4,without_rising (fun o:OwnS=>o.id) x h5,h6,h7,h8,h9,?_,h11,h12,h13⟩
 intro o ho
 exact h10 o ((List.mem_filter.1 ho).1)
theorem ZL.endOwn {b:Broker} (h:ZL b 0) (x:ID):ZL (endOwn b x) 0 :=
 ⟨h.near,h.adv,h.seen,Nat.le_trans (List.length_filter_le ..) h.own,h.ent⟩
end Go.Dm.Tc
/-
What the reference's functions compute,part 21: a message comes by a link;a broker's side.
-/
namespace Go.Dm.Tc
end Go.Dm.Tc
/-
What every broker keeps that is told anything: plain laws.
-/
namespace Go.Dm.Tc
structure Rest (a b:Broker) (k:Nat):Prop where
 me:b.me=a.me
 near:b.near=a.near
 adv:b.adverts=a.adverts
 seen:b.seen=a.seen
 own:b.owns=a.owns
 ent:b.entries.length≤a.entries.length+k
theorem Rest.refl (a:Broker) (k:Nat):Rest a a k:=⟨rfl,rfl,rfl,rfl,rfl,by omega⟩
theorem Rest.trans {a b c:Broker} {j k:Nat} (h1:Rest a b j) (h2:Rest b c k):Rest a c (j+k) :=
 ⟨h2.me.trans h1.me,h2.near.trans h1.near,h2.adv.trans h1.adv,h2.seen.trans h1.seen,h2.own.trans h1.own,by have:=h1.ent;have:=h2.ent;omega⟩
theorem Rest.mono {a b:Broker} {j k:Nat} (h:Rest a b j) (hk:j≤k):Rest a b k:=⟨h.me,h.near,h.adv,h.seen,h.own,by have:=h.ent;omega⟩
theorem addB_rest (b:Broker) (e:Entry):Rest b (addB b e).1 1:=by
 obtain ⟨h1,h2,h3,h4,h5,h6⟩:=addB_rows b e
 exact ⟨h5,h1,h2,h3,h4,h6⟩
theorem adv_keep (frm:Int) (x:ID) (p:Pred):∀(l:List OwnS) (st:Broker×List OutS),InvK st.1→(∀o∈l,PredOk o.pred)→InvK (l.foldl (advStep frm x p) st).1∧Rest st.1 (l.foldl (advStep frm x p) st).1 l.length
 | [],st,h,_=>⟨h,.refl _ _⟩
 | o::r,st,h,hp=>by
  have h1:InvK (advStep frm x p st o).1∧Rest st.1 (advStep frm x p st o).1 1:=by
   unfold advStep
   split
   ·exact ⟨h.add (by simp [linkB]) (hp o (List.mem_cons_self ..)),addB_rest ..⟩
   ·exact ⟨h,.refl _ _⟩
  have h2:=adv_keep frm x p r (advStep frm x p st o) h1.1 fun o ho=>hp o (List.mem_cons_of_mem _ ho)
  exact ⟨h2.1,(h1.2.trans h2.2).mono (by simp only [List.length_cons];omega)⟩
theorem sub_keep (x:ID) (p:Pred) (hp:PredOk p):∀(l:List Advert) (st:Broker×List OutS),InvK st.1→InvK (l.foldl (subStep x p) st).1∧Rest st.1 (l.foldl (subStep x p) st).1 l.length
 | [],st,h=>⟨h,.refl _ _⟩
 | o::r,st,h=>by
  have h1:InvK (subStep x p st o).1∧Rest st.1 (subStep x p st o).1 1:=by
   unfold subStep
   split
   ·exact ⟨h.add (by simp [linkB]) hp,addB_rest ..⟩
   ·exact ⟨h,.refl _ _⟩
  have h2:=sub_keep x p hp r (subStep x p st o) h1.1
  exact ⟨h2.1,(h1.2.trans h2.2).mono (by simp only [List.length_cons];omega)⟩
theorem end_keep (x:ID):∀(l:List Advert) (st:Broker×List OutS),InvK st.1→InvK (l.foldl (endStep x) st).1∧Rest st.1 (l.foldl (endStep x) st).1 0
 | [],st,h=>⟨h,.refl _ _⟩
 | o::r,st,h=>by
  have h1:InvK (endStep x st o).1∧Rest st.1 (endStep x st o).1 0:=by
   unfold endStep
   rw [drop_fst]
   refine ⟨h.take ..,?_⟩
   have hl:=take_len h o.id x (-1)
   rw [take_rest]at hl ⊢
   exact ⟨rfl,rfl,rfl,rfl,rfl,hl⟩
  have h2:=end_keep x r (endStep x st o) h1.1
  exact ⟨h2.1,(h1.2.trans h2.2).mono (by omega)⟩
end Go.Dm.Tc
/-
What every broker keeps that is told anything,call by call.
-/
namespace Go.Dm.Tc
theorem sq_succ (n:Nat):(n+1)*(n+1)=n*n+n+n+1:=by rw [Nat.add_mul,Nat.mul_add];omega
theorem Rest.sz {a b:Broker} {k n:Nat} (h:Rest a b k) (z:SzK a n) (hk:k≤n+n+1):SzK b (n+1):=by
 obtain ⟨h1,h2,h3,h4,h5,h6⟩:=h
 obtain ⟨z1,z2,z3,z4,z5⟩:=z
 have:=sq_succ n
 exact ⟨by rw [h2];exact z1,by rw [h3];omega,by rw [h4];omega,by rw [h5];omega,by omega⟩
theorem advertise_keep {b:Broker} {n:Nat} (h:InvK b) (z:SzK b n) {frm:Int} {x:ID} {p:Pred} (hf:linkB b frm=true) (hp:PredOk p):InvK (advertiseB b frm x p).1∧SzK (advertiseB b frm x p).1 (n+1):=by
 unfold advertiseB
 split
 ·rename_i hq
  have hi:=h.learn (a:=⟨x,p,frm⟩) hf hp
  have hk:=adv_keep frm x p b.owns ((learnB b ⟨x,p,frm⟩).1,toAll b.near frm 1 x.client x.seq 0 0 p) hi h.po
  refine ⟨hk.1,?_⟩
  obtain ⟨h1,h2,h3,h4,h5,h6⟩:=hk.2
  have z':=z.learn ⟨x,p,frm⟩
  have he:(learnB b ⟨x,p,frm⟩).1.entries=b.entries:=by unfold learnB;split<;>rfl
  have hn:(learnB b ⟨x,p,frm⟩).1.near=b.near:=by unfold learnB;split<;>rfl
  have ho:(learnB b ⟨x,p,frm⟩).1.owns=b.owns:=by unfold learnB;split<;>rfl
  obtain ⟨z1,z2,z3,z4,z5⟩:=z
  have:=sq_succ n
  simp only at h2 h3 h4 h5 h6
  rw [he]at h6
  exact ⟨by rw [h2,hn];exact z1,by rw [h3];exact z'.adv,by rw [h4];exact z'.seen,by rw [h5,ho];omega,by omega⟩
 ·exact ⟨h,z.mono (by omega)⟩
theorem subscribe_keep {b:Broker} {n:Nat} (h:InvK b) (z:SzK b n) {x:ID} {p:Pred} (hp:PredOk p):InvK (subscribeB b x p).1∧SzK (subscribeB b x p).1 (n+1):=by
 unfold subscribeB
 split
 ·exact ⟨h,z.mono (by omega)⟩
 ·rename_i hh
  have hi:=h.subOwn hp (hit_own h.ro x (by simpa using hh))
  have hk:=sub_keep x p hp b.adverts (subOwn b x p,[]) hi
  refine ⟨hk.1,?_⟩
  obtain ⟨h1,h2,h3,h4,h5,h6⟩:=hk.2
  have hl:(subOwn b x p).owns.length=b.owns.length+1:=insAt_len ..
  obtain ⟨z1,z2,z3,z4,z5⟩:=z
  have:=sq_succ n
  simp only at h2 h3 h4 h5 h6
  exact ⟨by rw [h2];exact z1,by rw [h3];exact Nat.le_succ_of_le z2,by rw [h4];exact Nat.le_succ_of_le z3,by rw [h5,hl];omega,by have:(subOwn b x p).entries=b.entries:=rfl;rw [this]at h6;omega⟩
theorem unsubscribe_keep {b:Broker} {n:Nat} (h:InvK b) (z:SzK b n) (x:ID):InvK (unsubscribeB b x).1∧SzK (unsubscribeB b x).1 (n+1):=by
 unfold unsubscribeB
 split
 ·exact ⟨h,z.mono (by omega)⟩
 ·have hk:=end_keep x b.adverts (endOwn b x,[]) (h.endOwn x)
  have z':SzK (endOwn b x) n:=⟨z.near,z.adv,z.seen,Nat.le_trans (List.length_filter_le ..) z.own,z.ent⟩
  exact ⟨hk.1,hk.2.sz z' (by omega)⟩
end Go.Dm.Tc
/-
The broker that numbers make: what it is.
-/
namespace Go.Dm.Tc
end Go.Dm.Tc
/-
The broker that numbers make: the walk.
-/
namespace Go.Dm.Tc
end Go.Dm.Tc
/-
The broker that numbers make: its neighbours,and the first that it is told.
-/
namespace Go.Dm.Tc
end Go.Dm.Tc
/-
The broker that numbers make: how far its numbers go.
-/
namespace Go.Dm.Tc
structure LowK (b:Broker):Prop where
 near:∀x∈b.near,1≤x∧x≤4
 ne:0<b.near.length
 seen:∀x∈b.seen,x.client≤4
 own:∀o∈b.owns,o.id.client≤4
 ent:∀e∈b.entries,e.sub.client≤4
theorem LowK.learn {b:Broker} (h:LowK b) {a:Advert} (ha:a.id.client≤4):LowK (learnB b a).1:=by
 unfold learnB
 split
 ·exact h
 ·refine ⟨h.near,h.ne,fun x hx=>?_,h.own,h.ent⟩
  have hx:=(ins_mem (fun x:ID=>x) a.id b.seen x).1 hx
  rcases hx with rfl|hx
  ·exact ha
  ·exact h.seen x hx
theorem LowK.add {b:Broker} (h:LowK b) {e:Entry} (he:e.sub.client≤4):LowK (addB b e).1:=by
 unfold addB
 split
 ·refine ⟨h.near,h.ne,h.seen,h.own,fun x hx=>?_⟩
  rcases insE_mem.1 hx with rfl|hx
  ·exact he
  ·exact h.ent x hx
 ·exact h
theorem LowK.take {b:Broker} (h:LowK b) (hi:InvK b) (t s:ID) (q:Int):LowK (takeB b t s q).1:=by
 rcases take_cases hi t s q with ⟨e,_⟩|⟨e,_,_,_,_,ht⟩|⟨e,_,_,_,_,r',u',ht,hr,_⟩
 ·rw [e];exact h
 ·rw [ht]
  exact ⟨h.near,h.ne,h.seen,h.own,fun x hx=>h.ent x (List.mem_filter.1 hx).1⟩
 ·rw [ht]
  refine ⟨h.near,h.ne,h.seen,h.own,fun x hx=>?_⟩
  rcases hr.mem hx with hx|⟨y,hy,_,_,rfl⟩
  ·exact h.ent x (List.mem_filter.1 hx).1
  ·exact h.ent y (List.mem_filter.1 hy).1
end Go.Dm.Tc
/-
What functions of the statements' books compute: two rows of messages,where they are the same.
-/
namespace Go.Dm.Tc
end Go.Dm.Tc
/-
What functions of the statements' books compute: all but one.
-/
namespace Go.Dm.Tc
end Go.Dm.Tc
/-
What the program's routes compute,part 1: where a subscription of its own stands;an entry added,passed on.
-/
namespace Go.Dm.Tc
theorem cmpID_if (a b:ID):cmpID a b=if a=b then 0 else if ltID a b=true then -1 else 1:=by
 split
 ·rename_i h;exact cmpID_eq.2 h
 ·rename_i h
  have h1:¬cmpID a b=0:=fun e=>h (cmpID_eq.1 e)
  unfold ltID
  simp only [decide_eq_true_eq]
  unfold cmpID orI cmpI at *
  split<;>(try split)<;>(try split)<;>(try split)<;>(try split)<;>simp_all<;>omega
theorem s163 (a b:Int) (p:Pred) (c d:Int):pcF D t163 [.agg [.int .i64 a,.int .i64 b,ePred p],.agg [.int .i64 c,.int .i64 d]]=some (.int .i64 (cmpID ⟨a,b⟩ ⟨c,d⟩)):=by
 have hl:=s56 a b c d
 rw [cmpID_if]
 unfold pcF
 rw [goRun_eq _ _ _ _ (by simp [t163])]
 by_cases h:(⟨a,b⟩:ID)=⟨c,d⟩
 ·obtain ⟨rfl,rfl⟩:a=c∧b=d:=by injection h with h1 h2;exact ⟨h1,h2⟩
  simp [t163,turn]
 ·have h1:=id_ne h
  simp only at h1
  cases hq:ltID ⟨a,b⟩ ⟨c,d⟩ with
  | true=>rw [hq]at hl;simp [t163,turn,h,h1,e56,hl]
  | false=>rw [hq]at hl;simp [t163,turn,h,h1,e56,hl]
theorem s124 (t:Tags) (b:Broker) (c d:Int) (hr:Rising (b.owns.map (·.id))) (hl:b.owns.length≤1000000) :
  pcF D t124 [eBroker t b,.agg [.int .i64 c,.int .i64 d]]=some (.tup [.int .i64 (lowIdx (fun a:OwnS=>cmpID a.id ⟨c,d⟩) b.owns),.bool (hitAt (fun a:OwnS=>cmpID a.id ⟨c,d⟩) b.owns)]):=by
 have hb:=s162 t.owns b.owns c d 163 [] (fun a=>cmpID a.id ⟨c,d⟩) (fun x _ h=>by simp [eOwn,e163,s163]) hl (mono_of_rising hr ⟨c,d⟩)
 unfold pcF
 rw [goRun_eq _ _ _ _ (by simp [t124])]
 simp [t124,e162,hb,resultsOf,turn]
set_option maxRecDepth 8000 in
theorem s127 (b:Broker) (tc td sc sd q:Int) (p:Pred) (hi:InvK b) (hz:Sized b) (hp:PredOk p) :
  pcF D t127 [eBroker .none b,.agg [.int .i64 tc,.int .i64 td,.int .i64 sc,.int .i64 sd,ePred p,.int .i64 q,.bool false]]=some (.tup [eBroker .none (onSubB b q ⟨tc,td⟩ ⟨sc,sd⟩ p).1,eL false 8 eOut (onSubB b q ⟨tc,td⟩ ⟨sc,sd⟩ p).2]):=by
 have hadd:=kAdd hi hz tc td sc sd hp q false
 have hF:=kAF .none hi hz tc td
 unfold pcF
 rw [goRun_eq _ _ _ _ (by simp [t127])]
 cases hu:(addB b ⟨⟨tc,td⟩,⟨sc,sd⟩,p,q,false⟩).2 with
 | false =>
  rw [hu]at hadd
  have hd:onSubB b q ⟨tc,td⟩ ⟨sc,sd⟩ p=((addB b ⟨⟨tc,td⟩,⟨sc,sd⟩,p,q,false⟩).1,[]):=by simp [onSubB,hu]
  rw [hd]
  obtain ⟨⟨vc,vd⟩,vp,vq⟩:Advert:=(advOf b ⟨tc,td⟩).getD advZero
  generalize (advOf b ⟨tc,td⟩).getD advZero=a at *
  obtain ⟨⟨vc,vd⟩,vp,vq⟩:=a
  simp [t127,e23,hF,eAdvert,e31,hadd,turn,resultsOf,eL_nil]
 | true =>
  rw [hu]at hadd
  obtain ⟨⟨⟨ac,ad⟩,ap,aq⟩,ha⟩:=add_adv hu
  rw [ha]at hF
  have hpar:parentOf b ⟨tc,td⟩=aq:=by rw [parentOf_eq,ha];rfl
  have hd:onSubB b q ⟨tc,td⟩ ⟨sc,sd⟩ p=((addB b ⟨⟨tc,td⟩,⟨sc,sd⟩,p,q,false⟩).1,[⟨aq,3,⟨tc,td⟩,⟨sc,sd⟩,p⟩]):=by simp [onSubB,hu,hpar]
  rw [hd]
  have ri:∀h,resolve false h 197 (.isl false 0 [])=some (.isl false 0 []):=fun _=>rfl
  simp [t127,ri,e23,hF,eAdvert,e31,hadd,turn,e120,s120,resultsOf]
  have hu2:unlent 199 (eL false 8 eOut [⟨aq,3,⟨tc,td⟩,⟨sc,sd⟩,p⟩])=true:=unl_eL (fun y _=>(plain_out y).2) 199 (by decide)
  exact ⟨hu2,rfl⟩
end Go.Dm.Tc
/-
What the program's routes compute,part 2: an entry taken out;subscriptions by a link.
-/
namespace Go.Dm.Tc
theorem l129 (S:List Fr) (t:Bool) (ups:List Entry) (hl:ups.length≤100000) (ac ad to:Int) (ap:Pred) (h0:Heap) (hlim:h0.lim≤5) (g4:h0.get 4=some (.arr 42 4 [.agg [.int .i64 ac,.int .i64 ad,ePred ap,.int .i64 to]] (some 1))) (P:Res→Prop) :
  ∀(rest:List Entry) (i:Nat) (outs:List OutS) (es:List DV) (v:DV) (f:FEnv) (h:Heap),ups.drop i=rest→RowR es outs→(es.length≤i∧i≤ups.length)→f 10=.ptr 4 4 0 0→f 14=v→f 35=eL t 7 eEntry ups→f 36=.int .i64 ups.length→f 37=.int .i64 i→OwnR 5 h v 86 8 es→Ext 5 h0 h →
  (∀f' h' v' es',f' 14=v'→(∀r,r<12→f' r=f r)→es'.length≤ups.length→RowR es' (outs++upOuts to rest)→OwnR 5 h' v' 86 8 es'→Ext 5 h0 h'→P (run D 60 S t129k0 f' h')) →
  P (run D 60 (.block 0::.seq t129k0::S) (.loop t129l0) f h):=by
 intro rest
 induction rest with
 | nil =>
  intro i outs es v f h hd hr he h10 h14 h35 h36 h37 ho x hP
  have hi:=drop_nil hd
  have:¬(i<ups.length):=by omega
  have k:∀r q:Nat,r<12→12≤q→¬r=q:=fun r q h1 h2=>by omega
  rw [run_loop_of t129l0.eq_1]
  simp [h36,h37,this]
  refine hP _ h v es (by simp [h14]) (fun r hr2=>by simp [k r _ hr2]) (by omega) (by simpa [upOuts] using hr) ho x
 | cons e rest ih =>
  intro i outs es v f h hd hr he h10 h14 h35 h36 h37 ho x hP
  obtain ⟨hi,he',hd'⟩:=drop_at hd
  obtain ⟨⟨tc,td⟩,⟨sc,sd⟩,p,q,u⟩:=e
  have hnl:=x.le
  have hll:=x.lim
  have a4:=(x.get 4 (by decide)).trans g4
  have k:∀r q:Nat,r<12→12≤q→¬r=q:=fun r q h1 h2=>by omega
  obtain ⟨m,hmn⟩:∃ m,h.n=m+5:=⟨h.n-5,by omega⟩
  rw [run_loop_of t129l0.eq_1]
  have hlm:h.lim≤m+5:=by omega
  simp [h10,h14,h35,h36,h37,hi,he',a4,eEntry,hmn,x.wf,turn,hlm,e120,s120]
  generalize hA:appendD _ _ _ _ _ _=A
  obtain ⟨v',K,rfl,p',x',_⟩:=OwnR.append (ho.push.push) (by simp [x.wf]) (by simp [hmn]<;>omega) (by simp [hmn];omega) hA (by simp;omega) (by decide)
  clear hA
  simp [h37]
  rw [wrap64 (by omega) (by omega)]
  generalize hF:upd _ 37 _=F
  have hr':=RowR.append hr (RowR.one (to:=to) (k:=3) (tc:=tc) (td:=td) (ic:=sc) (id:=sd) (pd:=ePred p) (ad:=.isl false 0 []) (.inl rfl) (.inr rfl))
  refine ih (i+1) _ _ v' F K hd' hr' ⟨by simp;omega,by omega⟩ ?_ ?_ ?_ ?_ ?_ (by simpa [rawO] using p') ((x.push.push).trans x') ?_
  all_goals first
   | (rw [←hF];simp [h10,h14,h35,h36];done)
   | skip
  intro f' h' v2 es' a1 a3 a4 a5 a6 a7
  refine hP f' h' v2 es' a1 (fun r hr2=>?_) a4 (by simpa [upOuts] using a5) a6 a7
  rw [a3 r hr2,←hF]
  simp [k r _ hr2]
set_option maxRecDepth 8000 in
theorem s129 (b:Broker) (tc td sc sd q:Int) (hi:InvK b) (hz:Sized b) :
  pcF D t129 [eBroker .none b,.agg [.int .i64 tc,.int .i64 td],.agg [.int .i64 sc,.int .i64 sd],.int .i64 q]=some (.tup [eBroker .none (dropB b ⟨tc,td⟩ ⟨sc,sd⟩ q).1,eL false 8 eOut (dropB b ⟨tc,td⟩ ⟨sc,sd⟩ q).2]):=by
 have ht:=kTake hi hz tc td sc sd q
 have hFd:=kAF .none hi hz tc td
 unfold pcF
 rw [goRun_eq _ _ _ _ (by simp [t129])]
 cases hu:(takeB b ⟨tc,td⟩ ⟨sc,sd⟩ q).2.2 with
 | false =>
  rw [hu]at ht
  have hd:dropB b ⟨tc,td⟩ ⟨sc,sd⟩ q=((takeB b ⟨tc,td⟩ ⟨sc,sd⟩ q).1,[]):=by simp [dropB,hu]
  rw [hd]
  generalize (advOf b ⟨tc,td⟩).getD advZero=a at *
  obtain ⟨⟨vc,vd⟩,vp,vq⟩:=a
  simp [t129,e23,hFd,eAdvert,e34,ht,turn,resultsOf,eL_nil]
 | true =>
  rw [hu]at ht
  obtain ⟨hadv,⟨⟨ac,ad⟩,ap,aq⟩,ha⟩:=take_adv hi hu
  rw [ha]at hFd
  have hpar:parentOf b ⟨tc,td⟩=aq:=by rw [parentOf_eq,ha];rfl
  have hd:dropB b ⟨tc,td⟩ ⟨sc,sd⟩ q=((takeB b ⟨tc,td⟩ ⟨sc,sd⟩ q).1,upOuts aq (takeB b ⟨tc,td⟩ ⟨sc,sd⟩ q).2.1++[⟨aq,4,⟨tc,td⟩,⟨sc,sd⟩,[]⟩]):=by simp [dropB,hu,hpar]
  rw [hd]
  simp [t129,e23,hFd,eAdvert,e34,ht,turn]
  generalize hF:upd _ 37 _=F
  generalize hH:Heap.push _ _=H0
  have hul:(takeB b ⟨tc,td⟩ ⟨sc,sd⟩ q).2.1.length≤100000:=Nat.le_trans (takeL_le hi ..) hz.ent
  generalize (takeB b ⟨tc,td⟩ ⟨sc,sd⟩ q).2.1=ups at *
  generalize hb1:(takeB b ⟨tc,td⟩ ⟨sc,sd⟩ q).1=b1 at *
  have hn4:H0.n=5:=by rw [←hH];simp
  have hl0:H0.lim=0:=by rw [←hH];simp
  have hw0:WF H0:=by rw [←hH];simp
  refine l129 [] false ups hul ac ad aq ap H0 (by omega) (by rw [←hH];simp) (fun r=>pcOut (fin [.cell 8 (some 6),.t 9] r)=some (.tup [eBroker .none b1,eL false 8 eOut (upOuts aq ups++[⟨aq,4,⟨tc,td⟩,⟨sc,sd⟩,[]⟩])])) ups 0 [] [] .nsl F H0 rfl RowR.nil ⟨by simp,Nat.zero_le _⟩ (by rw [←hF];simp) (by rw [←hF];simp) (by rw [←hF];simp) (by rw [←hF];simp) (by rw [←hF];simp) (.nil rfl rfl) (.refl (by omega) hw0) fun f' h' v' es' q14 qr hel hrw hov x=>?_
  have q4:f' 4=.ptr 0 6 0 0:=by rw [qr 4 (by decide),←hF];simp
  have q5:f' 5=.ptr 1 2 0 0:=by rw [qr 5 (by decide),←hF];simp
  have q6:f' 6=.ptr 2 2 0 0:=by rw [qr 6 (by decide),←hF];simp
  have q8:f' 8=.ptr 3 6 0 0:=by rw [qr 8 (by decide),←hF];simp
  have q10:f' 10=.ptr 4 4 0 0:=by rw [qr 10 (by decide),←hF];simp
  have a0:h'.get 0=some (.arr 29 6 [eBroker .none b1] (some 1)):=(x.get 0 (by decide)).trans (by rw [←hH];simp)
  have a1:h'.get 1=some (.arr 37 2 [.agg [.int .i64 tc,.int .i64 td]] (some 1)):=(x.get 1 (by decide)).trans (by rw [←hH];simp)
  have a2:h'.get 2=some (.arr 37 2 [.agg [.int .i64 sc,.int .i64 sd]] (some 1)):=(x.get 2 (by decide)).trans (by rw [←hH];simp)
  have a3:h'.get 3=some (.arr 29 6 [.agg [.int .i64 0,.nsl,.nsl,.nsl,.nsl,.nsl]] (some 1)):=(x.get 3 (by decide)).trans (by rw [←hH];simp)
  have a4:h'.get 4=some (.arr 42 4 [.agg [.int .i64 ac,.int .i64 ad,ePred ap,.int .i64 aq]] (some 1)):=(x.get 4 (by decide)).trans (by rw [←hH];simp)
  have al:h'.lim=0:=x.lim.trans hl0
  obtain ⟨m,hmn⟩:∃ m,h'.n=m+5:=⟨h'.n-5,by have:=x.le;omega⟩
  have hrow:=RowR.append hrw (RowR.one (to:=aq) (k:=4) (tc:=tc) (td:=td) (ic:=sc) (id:=sd) (pd:=.nsl) (ad:=.nsl) (p:=[]) (.inr ⟨rfl,rfl⟩) (.inl rfl))
  simp only [List.nil_append]at hrow
  have hu2:unlent 199 (eL false 8 eOut (upOuts aq ups++[⟨aq,4,⟨tc,td⟩,⟨sc,sd⟩,[]⟩]))=true:=unl_eL (fun y _=>(plain_out y).2) 199 (by decide)
  cases hov with
  | nil hv hx =>
   subst hv
   subst hx
   simp [t129k0,q4,q5,q6,q8,q10,q14,a0,a1,a2,a3,a4,al,hmn,x.wf]
   generalize hA:appendD _ _ _ _ _ _=A
   obtain ⟨v2,K,rfl,p',x',_⟩:=OwnR.append (lo:=5) (OwnR.start 5 _ 86 8) (by simp [x.wf]) (by simp [hmn]<;>omega) (by simp [hmn,al]) hA (by simp<;>omega) (by decide)
   clear hA
   have b0:=x'.get 0 (by decide)
   have b1':=x'.get 1 (by decide)
   have b2:=x'.get 2 (by decide)
   have b3:=x'.get 3 (by decide)
   have b4:=x'.get 4 (by decide)
   have bl:=x'.lim
   have bn:=x'.le
   have l3:3<K.n:=by omega
   simp [hmn,a0,a1,a2,a3,a4,al]at b0 b1' b2 b3 b4 bl p'
   have r1:∀o,resolve false (Dm.wl (K.set 3 o) 0) 199 v2=some (eL false 8 eOut (upOuts aq ups++[⟨aq,4,⟨tc,td⟩,⟨sc,sd⟩,[]⟩])):=fun o=>out_res ((by simpa [rawO] using (p'.setLow (o:=o) x'.wf (by decide) l3).wl (Nat.zero_le _)):OwnR 5 (Dm.wl (K.set 3 o) 0) v2 86 8 _) hrow false (by decide)
   simp [q8,b0,b1',b2,b3,b4,bl,al,l3,x'.wf,turn,resultsOf,r1,hu2]
  | arr id sp cap hv hg hlm hlo =>
   subst hv
   have hidn:=get_some_lt hg
   have e0:¬0=id:=by omega
   have e1:¬1=id:=by omega
   have e2:¬2=id:=by omega
   have e4:¬4=id:=by omega
   simp [t129k0,q4,q5,q6,q8,q10,q14,a0,a1,a2,a3,a4,al,hmn,x.wf,e0,e1,e2,e4]
   generalize hA:appendD _ _ _ _ _ _=A
   obtain ⟨v2,K,rfl,p',x',_⟩:=OwnR.append (lo:=5) (OwnR.push (.arr id sp cap rfl hg hlm hlo)) (by simp [x.wf]) (by simp [hmn]<;>omega) (by simp [hmn,al]) hA (by simp<;>omega) (by decide)
   clear hA
   have b0:=x'.get 0 (by decide)
   have b1':=x'.get 1 (by decide)
   have b2:=x'.get 2 (by decide)
   have b3:=x'.get 3 (by decide)
   have b4:=x'.get 4 (by decide)
   have bl:=x'.lim
   have bn:=x'.le
   have l3:3<K.n:=by omega
   simp [hmn,a0,a1,a2,a3,a4,al]at b0 b1' b2 b3 b4 bl p'
   have r1:∀o,resolve false (K.set 3 o) 199 v2=some (eL false 8 eOut (upOuts aq ups++[⟨aq,4,⟨tc,td⟩,⟨sc,sd⟩,[]⟩])):=fun o=>out_res ((by simpa [rawO] using p'.setLow (o:=o) x'.wf (by decide) l3):OwnR 5 (K.set 3 o) v2 86 8 _) hrow false (by decide)
   simp [q8,b0,b1',b2,b3,b4,bl,al,l3,x'.wf,turn,resultsOf,r1,hu2]
end Go.Dm.Tc
/-
What the program's routes compute,part 3: a client of the broker's subscribes.
-/
namespace Go.Dm.Tc
theorem sub_on {nb:Broker} {x:ID} {p:Pred} {a:Advert} (outs:List OutS) (hm:meetsP p a.pred=true) (hpar:parentOf nb a.id=a.parent) :
  subStep x p (nb,outs) a=((onSubB nb (-1) a.id x p).1,outs++(onSubB nb (-1) a.id x p).2):=by
 unfold subStep onSubB
 rw [if_pos hm,hpar]
 simp only
 split<;>simp
theorem on_len (b:Broker) (q:Int) (t s:ID) (p:Pred):(onSubB b q t s p).2.length≤1:=by
 unfold onSubB
 simp only
 split<;>simp
theorem par_at {nb:Broker} {advs:List Advert} (hi:InvK nb) (ha:nb.adverts=advs) {a:Advert} (hm:a∈advs):parentOf nb a.id=a.parent:=by
 rw [parentOf_eq,(advOf_some hi.ra).2 ⟨by rw [ha];exact hm,rfl⟩];rfl
set_option maxRecDepth 8000 in
theorem l50 (xc xd:Int) (p:Pred) (hp:PredOk p) (t:Bool) (advs:List Advert) (ho:∀o∈advs,PredOk o.pred) (hl:advs.length≤100000) (tx tb tn:Nat) :
  ∀(rest:List Advert) (i:Nat) (nb:Broker) (outs:List OutS) (es:List DV) (v:DV) (f:FEnv) (h:Heap),advs.drop i=rest→InvK nb→ZL nb rest.length→nb.adverts=advs→RowR es outs→es.length+rest.length≤1000000 →
  f 2=ePred p→f 3=.ptr 0 6 0 0→f 4=.ptr 1 2 0 0→f 6=.ptr 2 6 0 0→f 10=v→f 34=eL t 4 eAdvert advs→f 35=.int .i64 advs.length→f 36=.int .i64 i →
  h.get 1=some (.arr tx 2 [.agg [.int .i64 xc,.int .i64 xd]] (some 1))→h.get 2=some (.arr tb 6 [zB] (some 1))→h.get 0=some (.arr tn 6 [eBroker .none nb] (some 1))→OwnR 3 h v 86 8 es→h.lim=0→3≤h.n→WF h →
  pcOut (fin [.cell 6 (some 6),.t 7] (run D 62 [.block 0,.seq t50k0] (.loop t50l0) f h))=some (.tup [eBroker .none (rest.foldl (subStep ⟨xc,xd⟩ p) (nb,outs)).1,eL false 8 eOut (rest.foldl (subStep ⟨xc,xd⟩ p) (nb,outs)).2]):=by
 intro rest
 induction rest with
 | nil =>
  intro i nb outs es v f h hd hi0 hz hadv hr hes h2 h3 h4 h6 h10 hW hL hI g1 g2 gB hv hlim hn wf
  have hi:=drop_nil hd
  have:¬(i<advs.length):=by omega
  have l2:2<h.n:=by omega
  have r1:=fun o=>out_res (hv.setLow (o:=o) wf (by decide:2<3) l2) hr false (n:=199) (by decide)
  have hu:unlent 199 (eL false 8 eOut outs)=true:=unl_eL (fun y _=>(plain_out y).2) 199 (by decide)
  rw [run_loop_of t50l0.eq_1]
  simp only [zB]at g2
  simp [t50k0,hL,hI,this,h3,h6,h10,gB,g2,hlim,l2,wf,turn,resultsOf,r1,hu]
 | cons o rest ih =>
  intro i nb outs es v f h hd hi0 hz hadv hr hes h2 h3 h4 h6 h10 hW hL hI g1 g2 gB hv hlim hn wf
  obtain ⟨hi,he,hd'⟩:=drop_at hd
  have hom:o∈advs:=by rw [←he];exact List.getElem_mem hi
  have hop:=ho o hom
  have hpar:=par_at hi0 hadv hom
  obtain ⟨⟨oc,od⟩,op,oq⟩:=o
  simp only at hop hpar
  have hm:=s47 p op hp hop
  have hadd:=s127 nb oc od xc xd (-1) p hi0 hz.sized hp
  have hi1:=hi0.add (e:=⟨⟨oc,od⟩,⟨xc,xd⟩,p,-1,false⟩) (by simp [linkB]) hp
  have hz1:=hz.add ⟨⟨oc,od⟩,⟨xc,xd⟩,p,-1,false⟩
  have hadv1:=(addB_rows nb ⟨⟨oc,od⟩,⟨xc,xd⟩,p,-1,false⟩).2.1.trans hadv
  have hl1:=on_len nb (-1) ⟨oc,od⟩ ⟨xc,xd⟩ p
  obtain ⟨m,hmn⟩:∃ m,h.n=m+3:=⟨h.n-3,by omega⟩
  simp only [List.length_cons]at hes
  rw [run_loop_of t50l0.eq_1]
  simp only [List.foldl_cons]
  cases hq:meetsP p op with
  | false =>
   rw [hq]at hm
   have hst:subStep ⟨xc,xd⟩ p (nb,outs) ⟨⟨oc,od⟩,op,oq⟩=(nb,outs):=by simp [subStep,hq]
   rw [hst]
   simp [hL,hI,hW,hi,he,eAdvert,h2,hlim,wf,turn,e47,hm]
   rw [wrap64 (by omega) (by omega)]
   generalize hF:upd _ 36 _=F
   refine ih (i+1) nb outs es v F _ hd' hi0 (hz.less (by simp)) hadv hr (by omega) ?_ ?_ ?_ ?_ ?_ ?_ ?_ ?_ ?_ ?_ ?_ hv.push ?_ ?_ ?_
   all_goals first
    | (rw [←hF];simp [h2,h3,h4,h6,h10,hW,hL];done)
    | (simp [hmn,g1,g2,gB,hlim,wf];done)
    | (simp [hmn]<;>omega)
  | true =>
   rw [hq]at hm
   have hst:=sub_on (nb:=nb) (x:=⟨xc,xd⟩) (p:=p) (a:=⟨⟨oc,od⟩,op,oq⟩) outs hq hpar
   rw [hst]
   have hfst:(onSubB nb (-1) ⟨oc,od⟩ ⟨xc,xd⟩ p).1=(addB nb ⟨⟨oc,od⟩,⟨xc,xd⟩,p,-1,false⟩).1:=rfl
   rw [←hfst]at hi1 hz1 hadv1
   simp only
   generalize (onSubB nb (-1) ⟨oc,od⟩ ⟨xc,xd⟩ p).1=b1 at *
   generalize (onSubB nb (-1) ⟨oc,od⟩ ⟨xc,xd⟩ p).2=o1 at *
   have hel1:∀H,elems H 8 (eL false 8 eOut o1)=some (o1.map eOut):=fun H=>elems_eL ..
   cases hv with
   | nil hv hx =>
    subst hv
    subst hx
    simp [hL,hI,hW,hi,he,eAdvert,h2,h3,h4,h10,hmn,g1,gB,hlim,wf,turn,e47,hm,e127,hadd]
    generalize hA:appendD _ _ _ _ _ _=A
    obtain ⟨v',K,rfl,p',x',_⟩:=OwnR.append (lo:=3) (OwnR.start 3 _ 86 8) (by simp [wf]) (by simp [hmn]<;>omega) (by simp [hmn,hlim]) hA (by simp<;>omega) (by decide)
    clear hA
    have a1:=x'.get 1 (by decide)
    have a2:=x'.get 2 (by decide)
    have aB:=x'.get 0 (by decide)
    have al:=x'.lim
    have an:=x'.le
    have l0:0<K.n:=by omega
    simp [hmn,g1,g2,gB,hlim,wf]at a1 a2 aB al p'
    simp [hI,h3,aB,al,l0,x'.wf,turn,hlim]
    rw [wrap64 (by omega) (by omega)]
    generalize hF:upd _ 36 _=F
    have hr':=RowR.append hr (rowR_out o1)
    have hv':=(p'.setLow (o:=.arr tn 6 [eBroker .none b1] (some 1)) x'.wf (by decide:0<3) l0).wl (Nat.zero_le 3)
    refine ih (i+1) b1 (outs++o1) _ v' F _ hd' hi1 hz1 hadv1 hr' (by simp<;>omega) ?_ ?_ ?_ ?_ ?_ ?_ ?_ ?_ ?_ ?_ ?_ (by simpa using hv') ?_ ?_ ?_
    all_goals first
     | (rw [←hF];simp [h2,h3,h4,h6,h10,hW,hL];done)
     | (simp [a1,a2,aB,al,l0,x'.wf];done)
     | (simp<;>omega)
   | arr iv sp cap hv hg hlm hlo =>
    subst hv
    have hidn:=get_some_lt hg
    have q1:¬m+3+1=iv:=by omega
    simp [hL,hI,hW,hi,he,eAdvert,h2,h3,h4,h10,hmn,g1,gB,hlim,wf,turn,e47,hm,e127,hadd,q1]
    generalize hA:appendD _ _ _ _ _ _=A
    obtain ⟨v',K,rfl,p',x',_⟩:=OwnR.append (lo:=3) (OwnR.push (OwnR.push (.arr iv sp cap rfl hg hlm hlo))) (by simp [wf]) (by simp [hmn]<;>omega) (by simp [hmn,hlim]) hA (by simp<;>omega) (by decide)
    clear hA
    have a1:=x'.get 1 (by decide)
    have a2:=x'.get 2 (by decide)
    have aB:=x'.get 0 (by decide)
    have al:=x'.lim
    have an:=x'.le
    have l0:0<K.n:=by omega
    simp [hmn,g1,g2,gB,hlim,wf]at a1 a2 aB al
    simp [hI,h3,aB,al,l0,x'.wf,turn]
    rw [wrap64 (by omega) (by omega)]
    generalize hF:upd _ 36 _=F
    have hr':=RowR.append hr (rowR_out o1)
    have hv':=p'.setLow (o:=.arr tn 6 [eBroker .none b1] (some 1)) x'.wf (by decide:0<3) l0
    refine ih (i+1) b1 (outs++o1) _ v' F _ hd' hi1 hz1 hadv1 hr' (by simp<;>omega) ?_ ?_ ?_ ?_ ?_ ?_ ?_ ?_ ?_ ?_ ?_ hv' ?_ ?_ ?_
    all_goals first
     | (rw [←hF];simp [h2,h3,h4,h6,h10,hW,hL];done)
     | (simp [a1,a2,aB,al,l0,x'.wf];done)
     | (simp<;>omega)
end Go.Dm.Tc
/-
What the program's routes compute,part 4: a client of the broker's subscribes,with the row still written.
-/
namespace Go.Dm.Tc
set_option maxRecDepth 8000 in
theorem n50 (xc xd:Int) (p:Pred) (hp:PredOk p) (t:Bool) (advs:List Advert) (ho:∀o∈advs,PredOk o.pred) (hl:advs.length≤100000) (tx tb tn:Nat) (nb:Broker) (hi0:InvK nb) (hadv:nb.adverts=advs) (iw:Nat) :
  ∀(rest:List Advert) (i:Nat) (f:FEnv) (h:Heap),advs.drop i=rest→ZL nb rest.length →
  f 2=ePred p→f 3=.ptr 0 6 0 0→f 4=.ptr 1 2 0 0→f 6=.ptr 2 6 0 0→f 10=.nsl→f 34=eL t 4 eAdvert advs→f 35=.int .i64 advs.length→f 36=.int .i64 i →
  h.get 1=some (.arr tx 2 [.agg [.int .i64 xc,.int .i64 xd]] (some 1))→h.get 2=some (.arr tb 6 [zB] (some 1)) →
  h.get 0=some (.arr tn 6 [.agg [.int .i64 nb.me,eL false 1 cInt nb.near,eL false 4 eAdvert nb.adverts,eL false 2 eID nb.seen,eL false 7 eEntry nb.entries,.sl iw 3 0 nb.owns.length]] (some 1))→OwnI 3 h iw 60 3 (nb.owns.map eOwn)→h.lim=0→3≤h.n→WF h →
  pcOut (fin [.cell 6 (some 6),.t 7] (run D 62 [.block 0,.seq t50k0] (.loop t50l0) f h))=some (.tup [eBroker .none (rest.foldl (subStep ⟨xc,xd⟩ p) (nb,[])).1,eL false 8 eOut (rest.foldl (subStep ⟨xc,xd⟩ p) (nb,[])).2]):=by
 intro rest
 induction rest with
 | nil =>
  intro i f h hd hz h2 h3 h4 h6 h10 hW hL hI g1 g2 gB hv hlim hn wf
  have hi:=drop_nil hd
  have:¬(i<advs.length):=by omega
  have l2:2<h.n:=by omega
  have r1:∀o,resolve false (h.set 2 o) 198 (.sl iw 3 0 nb.owns.length)=some (eL false 3 eOwn nb.owns):=fun o=>by
   have:=(hv.setLow (o:=o) wf (by decide:2<3) l2).toR.resolve (n:=198) false (fun y _=>(plain_own y).1) (by decide)
   simpa using this
  rw [run_loop_of t50l0.eq_1]
  simp only [zB]at g2
  simp [t50k0,hL,hI,this,h3,h6,h10,gB,g2,hlim,l2,wf,turn,resultsOf,r1]
  exact ⟨rfl,rfl⟩
 | cons o rest ih =>
  intro i f h hd hz h2 h3 h4 h6 h10 hW hL hI g1 g2 gB hv hlim hn wf
  obtain ⟨hi,he,hd'⟩:=drop_at hd
  have hom:o∈advs:=by rw [←he];exact List.getElem_mem hi
  have hop:=ho o hom
  have hpar:=par_at hi0 hadv hom
  obtain ⟨⟨oc,od⟩,op,oq⟩:=o
  simp only at hop hpar
  have hm:=s47 p op hp hop
  have hadd:=s127 nb oc od xc xd (-1) p hi0 hz.sized hp
  have hi1:=hi0.add (e:=⟨⟨oc,od⟩,⟨xc,xd⟩,p,-1,false⟩) (by simp [linkB]) hp
  have hz1:=hz.add ⟨⟨oc,od⟩,⟨xc,xd⟩,p,-1,false⟩
  have hadv1:=(addB_rows nb ⟨⟨oc,od⟩,⟨xc,xd⟩,p,-1,false⟩).2.1.trans hadv
  have hl1:=on_len nb (-1) ⟨oc,od⟩ ⟨xc,xd⟩ p
  obtain ⟨m,hmn⟩:∃ m,h.n=m+3:=⟨h.n-3,by omega⟩
  have hil:=hv.lt
  have hi3:=hv.lo
  have k0:¬iw=0:=by omega
  have k1:¬iw=1:=by omega
  have k2:¬iw=2:=by omega
  have k0':¬0=iw:=by omega
  have k1':¬1=iw:=by omega
  have k2':¬2=iw:=by omega
  have k3:¬iw=m+3:=by omega
  have k4:¬iw=m+3+1:=by omega
  have k5:iw<m+3:=by omega
  have k6:iw<m+3+1:=by omega
  have hfr:∀o1,freeze (h.push o1) (.sl iw 3 0 nb.owns.length)=some (eL false 3 eOwn nb.owns,(h.push o1).set iw .dead):=fun o1=>fr_own hv.push rfl
  have hbb:DV.agg [.int .i64 nb.me,eL false 1 cInt nb.near,eL false 4 eAdvert nb.adverts,eL false 2 eID nb.seen,eL false 7 eEntry nb.entries,eL false 3 eOwn nb.owns]=eBroker .none nb:=rfl
  rw [run_loop_of t50l0.eq_1]
  simp only [List.foldl_cons]
  cases hq:meetsP p op with
  | false =>
   rw [hq]at hm
   have hst:subStep ⟨xc,xd⟩ p (nb,[]) ⟨⟨oc,od⟩,op,oq⟩=(nb,[]):=by simp [subStep,hq]
   rw [hst]
   simp [hL,hI,hW,hi,he,eAdvert,h2,hlim,wf,turn,e47,hm]
   rw [wrap64 (by omega) (by omega)]
   generalize hF:upd _ 36 _=F
   refine ih (i+1) F _ hd' (hz.less (by simp)) ?_ ?_ ?_ ?_ ?_ ?_ ?_ ?_ ?_ ?_ ?_ hv.push ?_ ?_ ?_
   all_goals first
    | (rw [←hF];simp [h2,h3,h4,h6,h10,hW,hL];done)
    | (simp [hmn,g1,g2,gB,hlim,wf];done)
    | (simp [hmn]<;>omega)
  | true =>
   rw [hq]at hm
   have hst:=sub_on (nb:=nb) (x:=⟨xc,xd⟩) (p:=p) (a:=⟨⟨oc,od⟩,op,oq⟩) [] hq hpar
   rw [hst]
   have hfst:(onSubB nb (-1) ⟨oc,od⟩ ⟨xc,xd⟩ p).1=(addB nb ⟨⟨oc,od⟩,⟨xc,xd⟩,p,-1,false⟩).1:=rfl
   rw [←hfst]at hi1 hz1 hadv1
   simp only [List.nil_append]
   generalize (onSubB nb (-1) ⟨oc,od⟩ ⟨xc,xd⟩ p).1=b1 at *
   generalize (onSubB nb (-1) ⟨oc,od⟩ ⟨xc,xd⟩ p).2=o1 at *
   simp [hL,hI,hW,hi,he,eAdvert,h2,h3,h4,h10,hmn,g1,gB,hlim,wf,turn,e47,hm,e127,hfr,hbb,hadd,k0,k1,k2,k0',k1',k2',k3,k4,k5,k6]
   generalize hA:appendD _ _ _ _ _ _=A
   obtain ⟨v',K,rfl,p',x',_⟩:=OwnR.append (lo:=3) (OwnR.start 3 _ 86 8) (by simp [wf,hmn,k5,k6]) (by simp [hmn]<;>omega) (by simp [hmn,hlim]) hA (by simp<;>omega) (by decide)
   clear hA
   have a1:=x'.get 1 (by decide)
   have a2:=x'.get 2 (by decide)
   have aB:=x'.get 0 (by decide)
   have al:=x'.lim
   have an:=x'.le
   have l0:0<K.n:=by omega
   simp [hmn,g1,g2,gB,hlim,wf,k0,k1,k2,k0',k1',k2',k3,k4,k5,k6]at a1 a2 aB al p'
   simp [hI,h3,aB,al,l0,x'.wf,turn,hlim]
   rw [wrap64 (by omega) (by omega)]
   generalize hF:upd _ 36 _=F
   have hv':=(p'.setLow (o:=.arr tn 6 [eBroker .none b1] (some 1)) x'.wf (by decide:0<3) l0).wl (Nat.zero_le 3)
   refine l50 xc xd p hp t advs ho hl tx tb tn rest (i+1) b1 o1 _ v' F _ hd' hi1 hz1 hadv1 (rowR_out o1) (by have:=hz.ent;simp at this ⊢;omega) ?_ ?_ ?_ ?_ ?_ ?_ ?_ ?_ ?_ ?_ ?_ (by simpa using hv') ?_ ?_ ?_
   all_goals first
    | (rw [←hF];simp [h2,h3,h4,h6,h10,hW,hL];done)
    | (simp [a1,a2,aB,al,l0,x'.wf];done)
    | (simp<;>omega)
set_option maxRecDepth 8000 in
theorem s50 (b:Broker) (xc xd:Int) (p:Pred) (hi:InvK b) (hz:ZL b b.adverts.length) (hp:PredOk p) (ho:b.owns.length<100000) :
  pcF D t50 [eBroker .none b,.agg [.int .i64 xc,.int .i64 xd],ePred p]=some (.tup [eBroker .none (subscribeB b ⟨xc,xd⟩ p).1,eL false 8 eOut (subscribeB b ⟨xc,xd⟩ p).2]):=by
 have hown:=s124 .none b xc xd hi.ro (by omega)
 unfold pcF
 rw [goRun_eq _ _ _ _ (by simp [t50])]
 cases hh:hitAt (fun o:OwnS=>cmpID o.id ⟨xc,xd⟩) b.owns with
 | true =>
  rw [hh]at hown
  have ha:subscribeB b ⟨xc,xd⟩ p=(b,[]):=by simp only [subscribeB,hh,if_true]
  rw [ha]
  simp [t50,e124,hown,turn,resultsOf,eL_nil]
 | false =>
  rw [hh]at hown
  have ha:subscribeB b ⟨xc,xd⟩ p=b.adverts.foldl (subStep ⟨xc,xd⟩ p) (subOwn b ⟨xc,xd⟩ p,[]):=by simp only [subscribeB,hh];rfl
  rw [ha]
  have hno:=hit_own hi.ro ⟨xc,xd⟩ hh
  have hinv:=hi.subOwn hp hno
  obtain ⟨R,hR⟩:∃ R,R=DV.tup [eBroker .none (b.adverts.foldl (subStep ⟨xc,xd⟩ p) (subOwn b ⟨xc,xd⟩ p,[])).1,eL false 8 eOut (b.adverts.foldl (subStep ⟨xc,xd⟩ p) (subOwn b ⟨xc,xd⟩ p,[])).2]:=⟨_,rfl⟩
  rw [←hR]
  have hownl:b.owns.length≤1000000:=by omega
  simp [t50,e124,hown,turn,e126]
  generalize hA:cloneHook _ _ _ _ _=A
  obtain ⟨v5,K,rfl,o5,x,_⟩:=clone_own (lo:=3) (elems_eL ..) (by simp) (by simp) (by simp) (by simp;omega) (by decide) hA
  clear hA
  have a0:=x.get 0 (by decide)
  have a1:=x.get 1 (by decide)
  have a2:=x.get 2 (by decide)
  have q0:=x.lim
  have w0:=x.wf
  have n0:=x.le
  simp at a0 a1 a2 q0
  have nn0:¬0=K.n:=by omega
  have nn1:¬1=K.n:=by omega
  have nn2:¬2=K.n:=by omega
  have z1:∀o,((K.push o).lim)=K.lim:=fun o=>rfl
  simp [a0,a1,a2,q0,w0,turn]
  generalize hA:fc D _ _ _=A
  obtain ⟨v5',K2,rfl,p5,x2,_⟩:=q125 hA 3 b.owns ⟨⟨xc,xd⟩,p⟩ (vety:=60) (c:=1) (o5.push.wl (Nat.zero_le 3)) (by simp [eOwn]) (lowIdx_le _ _) hownl (by simp [w0]) (by simp;omega) (by simp)
  clear hA
  have b0:=x2.get 0 (by decide)
  have b1:=x2.get 1 (by decide)
  have b2:=x2.get 2 (by decide)
  have q2:=x2.lim
  have w2:=x2.wf
  have n2:=x2.le
  simp [a0,a1,a2,q0,w0,nn0,nn1,nn2]at b0 b1 b2 q2
  have hins:b.owns.take (lowIdx (fun a:OwnS=>cmpID a.id ⟨xc,xd⟩) b.owns)++⟨⟨xc,xd⟩,p⟩::b.owns.drop (lowIdx (fun a:OwnS=>cmpID a.id ⟨xc,xd⟩) b.owns)=(subOwn b ⟨xc,xd⟩ p).owns:=rfl
  rw [hins]at p5
  have hlen:(subOwn b ⟨xc,xd⟩ p).owns.length=b.owns.length+1:=insAt_len ..
  have hlen0:(subOwn b ⟨xc,xd⟩ p).owns≠[]:=fun e=>by rw [e]at hlen;simp at hlen
  cases p5 with
  | nil hv hx=>exact absurd (List.map_eq_nil_iff.1 hx) hlen0
  | arr iw hv hg hlm hlo =>
   subst hv
   rw [List.length_map]
   have hbu:eBroker .none b=DV.agg [.int .i64 b.me,eL false 1 cInt b.near,eL false 4 eAdvert b.adverts,eL false 2 eID b.seen,eL false 7 eEntry b.entries,eL false 3 eOwn b.owns]:=rfl
   rw [hbu]at b0
   have l0:0<K2.n:=by omega
   simp [b0,b1,b2,q2,w2,l0,turn]
   generalize hF2:upd _ 36 _=F2
   rw [hR]
   have hz2:ZL (subOwn b ⟨xc,xd⟩ p) b.adverts.length:=⟨hz.near,hz.adv,hz.seen,by rw [hlen];omega,hz.ent⟩
   have ho2:OwnI 3 K2 iw 60 3 ((subOwn b ⟨xc,xd⟩ p).owns.map eOwn):=⟨⟨[],none,by simpa using hg⟩,hlm,hlo⟩
   refine n50 xc xd p hp false b.adverts hi.pa hz.adv 37 29 29 (subOwn b ⟨xc,xd⟩ p) (hi.subOwn hp hno) rfl iw b.adverts 0 F2 _ rfl hz2 ?_ ?_ ?_ ?_ ?_ ?_ ?_ ?_ ?_ ?_ ?_ (ho2.setLow w2 (by decide) l0) ?_ ?_ ?_
   all_goals first
    | (rw [←hF2];simp;done)
    | (simp [b1,b2,q2,w2,l0,zB];done)
    | (simp [w2,l0,subOwn];done)
    | (simp [w2,l0];rfl)
    | (simp;omega)
end Go.Dm.Tc
/-
What the program's routes compute,part 5: a client of the broker's ends a subscription.
-/
namespace Go.Dm.Tc
set_option maxRecDepth 8000 in
theorem l51 (xc xd:Int) (t:Bool) (advs:List Advert) (hl:advs.length≤1000) (tx tb tn:Nat) :
  ∀(rest:List Advert) (i:Nat) (nb:Broker) (outs:List OutS) (es:List DV) (v:DV) (f:FEnv) (h:Heap),advs.drop i=rest→InvK nb→ZL nb 0→RowR es outs→es.length≤i*100001 →
  f 2=.ptr 0 6 0 0→f 3=.ptr 1 2 0 0→f 4=.ptr 2 6 0 0→f 8=v→f 31=eL t 4 eAdvert advs→f 32=.int .i64 advs.length→f 33=.int .i64 i →
  h.get 1=some (.arr tx 2 [.agg [.int .i64 xc,.int .i64 xd]] (some 1))→h.get 2=some (.arr tb 6 [zB] (some 1))→h.get 0=some (.arr tn 6 [eBroker .none nb] (some 1))→OwnR 3 h v 86 8 es→h.lim=0→3≤h.n→WF h →
  pcOut (fin [.cell 4 (some 6),.t 5] (run D 52 [.block 0,.seq t51k0] (.loop t51l0) f h))=some (.tup [eBroker .none (rest.foldl (endStep ⟨xc,xd⟩) (nb,outs)).1,eL false 8 eOut (rest.foldl (endStep ⟨xc,xd⟩) (nb,outs)).2]):=by
 intro rest
 induction rest with
 | nil =>
  intro i nb outs es v f h hd hi0 hz hr hes h2 h3 h4 h8 hW hL hI g1 g2 gB hv hlim hn wf
  have hi:=drop_nil hd
  have:¬(i<advs.length):=by omega
  have l2:2<h.n:=by omega
  have r1:=fun o=>out_res (hv.setLow (o:=o) wf (by decide:2<3) l2) hr false (n:=199) (by decide)
  have hu:unlent 199 (eL false 8 eOut outs)=true:=unl_eL (fun y _=>(plain_out y).2) 199 (by decide)
  rw [run_loop_of t51l0.eq_1]
  simp only [zB]at g2
  simp [t51k0,hL,hI,this,h2,h4,h8,gB,g2,hlim,l2,wf,turn,resultsOf,r1,hu]
 | cons o rest ih =>
  intro i nb outs es v f h hd hi0 hz hr hes h2 h3 h4 h8 hW hL hI g1 g2 gB hv hlim hn wf
  obtain ⟨hi,he,hd'⟩:=drop_at hd
  obtain ⟨⟨oc,od⟩,op,oq⟩:=o
  have hdr:=s129 nb oc od xc xd (-1) hi0 hz.sized
  have hi1:InvK (dropB nb ⟨oc,od⟩ ⟨xc,xd⟩ (-1)).1:=by rw [drop_fst];exact hi0.take ..
  have hz1:ZL (dropB nb ⟨oc,od⟩ ⟨xc,xd⟩ (-1)).1 0:=by rw [drop_fst];exact hz.take hi0 ..
  have hdl:=drop_len hi0 ⟨oc,od⟩ ⟨xc,xd⟩ (-1)
  have hent:=hz.ent
  obtain ⟨m,hmn⟩:∃ m,h.n=m+3:=⟨h.n-3,by omega⟩
  rw [run_loop_of t51l0.eq_1]
  simp only [List.foldl_cons]
  have hst:endStep ⟨xc,xd⟩ (nb,outs) ⟨⟨oc,od⟩,op,oq⟩=((dropB nb ⟨oc,od⟩ ⟨xc,xd⟩ (-1)).1,outs++(dropB nb ⟨oc,od⟩ ⟨xc,xd⟩ (-1)).2):=rfl
  rw [hst]
  generalize hB1:(dropB nb ⟨oc,od⟩ ⟨xc,xd⟩ (-1)).1=b1 at *
  generalize hO1:(dropB nb ⟨oc,od⟩ ⟨xc,xd⟩ (-1)).2=o1 at *
  have hi1000:i*100001≤1000*100001:=Nat.mul_le_mul_right _ (by omega)
  have hr':=RowR.append hr (rowR_out o1)
  cases hv with
  | nil hv hx =>
   subst hv
   subst hx
   simp [hL,hI,hW,hi,he,eAdvert,h2,h3,h8,hmn,g1,gB,hlim,wf,turn,e129,hdr]
   generalize hA:appendD _ _ _ _ _ _=A
   obtain ⟨v',K,rfl,p',x',_⟩:=OwnR.append (lo:=3) (OwnR.start 3 _ 86 8) (by simp [wf]) (by simp [hmn]<;>omega) (by simp [hmn,hlim]) hA (by simp<;>omega) (by decide)
   clear hA
   have a1:=x'.get 1 (by decide)
   have a2:=x'.get 2 (by decide)
   have aB:=x'.get 0 (by decide)
   have al:=x'.lim
   have an:=x'.le
   have l0:0<K.n:=by omega
   simp [hmn,g1,g2,gB,hlim,wf]at a1 a2 aB al p'
   simp [hI,h2,aB,al,l0,x'.wf,turn,hlim]
   rw [wrap64 (by omega) (by omega)]
   generalize hF:upd _ 33 _=F
   have hv':=(p'.setLow (o:=.arr tn 6 [eBroker .none b1] (some 1)) x'.wf (by decide:0<3) l0).wl (Nat.zero_le 3)
   refine ih (i+1) b1 (outs++o1) _ v' F _ hd' hi1 hz1 hr' (by simp [Nat.add_mul];omega) ?_ ?_ ?_ ?_ ?_ ?_ ?_ ?_ ?_ ?_ (by simpa using hv') ?_ ?_ ?_
   all_goals first
    | (rw [←hF];simp [h2,h3,h4,h8,hW,hL];done)
    | (simp [a1,a2,aB,al,l0,x'.wf];done)
    | (simp<;>omega)
  | arr iv sp cap hv hg hlm hlo =>
   subst hv
   have hidn:=get_some_lt hg
   have q1:¬m+3+1=iv:=by omega
   simp [hL,hI,hW,hi,he,eAdvert,h2,h3,h8,hmn,g1,gB,hlim,wf,turn,e129,hdr,q1]
   generalize hA:appendD _ _ _ _ _ _=A
   obtain ⟨v',K,rfl,p',x',_⟩:=OwnR.append (lo:=3) (OwnR.push (OwnR.push (.arr iv sp cap rfl hg hlm hlo))) (by simp [wf]) (by simp [hmn]<;>omega) (by simp [hmn,hlim]) hA (by simp<;>omega) (by decide)
   clear hA
   have a1:=x'.get 1 (by decide)
   have a2:=x'.get 2 (by decide)
   have aB:=x'.get 0 (by decide)
   have al:=x'.lim
   have an:=x'.le
   have l0:0<K.n:=by omega
   simp [hmn,g1,g2,gB,hlim,wf]at a1 a2 aB al
   simp [hI,h2,aB,al,l0,x'.wf,turn]
   rw [wrap64 (by omega) (by omega)]
   generalize hF:upd _ 33 _=F
   have hv':=p'.setLow (o:=.arr tn 6 [eBroker .none b1] (some 1)) x'.wf (by decide:0<3) l0
   refine ih (i+1) b1 (outs++o1) _ v' F _ hd' hi1 hz1 hr' (by simp [Nat.add_mul];omega) ?_ ?_ ?_ ?_ ?_ ?_ ?_ ?_ ?_ ?_ hv' ?_ ?_ ?_
   all_goals first
    | (rw [←hF];simp [h2,h3,h4,h8,hW,hL];done)
    | (simp [a1,a2,aB,al,l0,x'.wf];done)
    | (simp<;>omega)
set_option maxRecDepth 8000 in
theorem r51 (xc xd:Int) (t:Bool) (advs:List Advert) (hl:advs.length≤1000) (tx tb tn:Nat) (nb:Broker) (hi0:InvK nb) (hz:ZL nb 0) (w:DV) (f:FEnv) (h:Heap)
  (h2:f 2=.ptr 0 6 0 0) (h3:f 3=.ptr 1 2 0 0) (h4:f 4=.ptr 2 6 0 0) (h8:f 8=.nsl) (hW:f 31=eL t 4 eAdvert advs) (hL:f 32=.int .i64 advs.length) (hI:f 33=.int .i64 0)
  (g1:h.get 1=some (.arr tx 2 [.agg [.int .i64 xc,.int .i64 xd]] (some 1))) (g2:h.get 2=some (.arr tb 6 [zB] (some 1))) (gB:h.get 0=some (.arr tn 6 [.agg [.int .i64 nb.me,eL false 1 cInt nb.near,eL false 4 eAdvert nb.adverts,eL false 2 eID nb.seen,eL false 7 eEntry nb.entries,w]] (some 1)))
  (hv:OwnR 3 h w 60 3 (nb.owns.map eOwn)) (hlim:h.lim=0) (hn:3≤h.n) (wf:WF h) :
  pcOut (fin [.cell 4 (some 6),.t 5] (run D 52 [.block 0,.seq t51k0] (.loop t51l0) f h))=some (.tup [eBroker .none (advs.foldl (endStep ⟨xc,xd⟩) (nb,[])).1,eL false 8 eOut (advs.foldl (endStep ⟨xc,xd⟩) (nb,[])).2]):=by
 cases advs with
 | nil =>
  have l2:2<h.n:=by omega
  have r1:∀o,resolve false (h.set 2 o) 198 w=some (eL false 3 eOwn nb.owns):=fun o=>(hv.setLow (o:=o) wf (by decide:2<3) l2).resolve (n:=198) false (fun y _=>(plain_own y).1) (by decide)
  rw [run_loop_of t51l0.eq_1]
  simp only [zB]at g2
  simp only [List.length_nil]at hL
  simp [t51k0,hL,hI,h2,h4,h8,gB,g2,hlim,l2,wf,turn,resultsOf,r1]
  exact ⟨rfl,rfl⟩
 | cons o rest =>
  have hi:0<(o::rest).length:=by simp
  obtain ⟨⟨oc,od⟩,op,oq⟩:=o
  have hdr:=s129 nb oc od xc xd (-1) hi0 hz.sized
  have hi1:InvK (dropB nb ⟨oc,od⟩ ⟨xc,xd⟩ (-1)).1:=by rw [drop_fst];exact hi0.take ..
  have hz1:ZL (dropB nb ⟨oc,od⟩ ⟨xc,xd⟩ (-1)).1 0:=by rw [drop_fst];exact hz.take hi0 ..
  have hdl:=drop_len hi0 ⟨oc,od⟩ ⟨xc,xd⟩ (-1)
  have hent:=hz.ent
  obtain ⟨m,hmn⟩:∃ m,h.n=m+3:=⟨h.n-3,by omega⟩
  rw [run_loop_of t51l0.eq_1]
  simp only [List.foldl_cons]
  have hst:endStep ⟨xc,xd⟩ (nb,[]) ⟨⟨oc,od⟩,op,oq⟩=((dropB nb ⟨oc,od⟩ ⟨xc,xd⟩ (-1)).1,(dropB nb ⟨oc,od⟩ ⟨xc,xd⟩ (-1)).2):=by simp [endStep]
  rw [hst]
  generalize hB1:(dropB nb ⟨oc,od⟩ ⟨xc,xd⟩ (-1)).1=b1 at *
  generalize hO1:(dropB nb ⟨oc,od⟩ ⟨xc,xd⟩ (-1)).2=o1 at *
  simp only [List.length_cons]at hL
  cases hv with
  | nil hv hx =>
   subst hv
   have hbb:DV.agg [.int .i64 nb.me,eL false 1 cInt nb.near,eL false 4 eAdvert nb.adverts,eL false 2 eID nb.seen,eL false 7 eEntry nb.entries,.isl false 0 []]=eBroker .none nb:=by
    have:nb.owns=[]:=by simpa using hx
    unfold eBroker
    rw [this];rfl
   simp [hL,hI,hW,eAdvert,h2,h3,h8,hmn,g1,gB,hlim,wf,turn,e129,hbb,hdr]
   generalize hA:appendD _ _ _ _ _ _=A
   obtain ⟨v',K,rfl,p',x',_⟩:=OwnR.append (lo:=3) (OwnR.start 3 _ 86 8) (by simp [wf]) (by simp [hmn]<;>omega) (by simp [hmn,hlim]) hA (by simp<;>omega) (by decide)
   clear hA
   have a1:=x'.get 1 (by decide)
   have a2:=x'.get 2 (by decide)
   have aB:=x'.get 0 (by decide)
   have al:=x'.lim
   have an:=x'.le
   have l0:0<K.n:=by omega
   simp [hmn,g1,g2,gB,hlim,wf]at a1 a2 aB al p'
   simp [hI,h2,aB,al,l0,x'.wf,turn,hlim]
   generalize hF:upd _ 33 _=F
   have hv':=(p'.setLow (o:=.arr tn 6 [eBroker .none b1] (some 1)) x'.wf (by decide:0<3) l0).wl (Nat.zero_le 3)
   refine l51 xc xd t (⟨⟨oc,od⟩,op,oq⟩::rest) hl tx tb tn rest 1 b1 o1 _ v' F _ rfl hi1 hz1 (rowR_out o1) (by simp;omega) ?_ ?_ ?_ ?_ ?_ ?_ ?_ ?_ ?_ ?_ (by simpa using hv') ?_ ?_ ?_
   all_goals first
    | (rw [←hF];simp [h2,h3,h4,h8,hW,hL];done)
    | (simp [a1,a2,aB,al,l0,x'.wf];done)
    | (simp<;>omega)
  | arr iw sp cap hv hg hlm hlo =>
   have ho:OwnI 3 h iw 60 3 (nb.owns.map eOwn):=⟨⟨sp,cap,hg⟩,hlm,hlo⟩
   have hil:=ho.lt
   subst hv
   simp only [List.length_map]at gB
   have k0:¬iw=0:=by omega
   have k1:¬iw=1:=by omega
   have k2:¬iw=2:=by omega
   have k0':¬0=iw:=by omega
   have k1':¬1=iw:=by omega
   have k2':¬2=iw:=by omega
   have k3:¬iw=m+3:=by omega
   have k4:¬iw=m+3+1:=by omega
   have k5:iw<m+3:=by omega
   have k6:iw<m+3+1:=by omega
   have hfr:∀p1,freeze (h.push p1) (.sl iw 3 0 nb.owns.length)=some (eL false 3 eOwn nb.owns,(h.push p1).set iw .dead):=fun p1=>fr_own ho.push rfl
   have hbb:DV.agg [.int .i64 nb.me,eL false 1 cInt nb.near,eL false 4 eAdvert nb.adverts,eL false 2 eID nb.seen,eL false 7 eEntry nb.entries,eL false 3 eOwn nb.owns]=eBroker .none nb:=rfl
   simp [hL,hI,hW,eAdvert,h2,h3,h8,hmn,g1,gB,hlim,wf,turn,e129,hbb,hdr,hfr,k0,k1,k2,k0',k1',k2',k3,k4,k5,k6]
   generalize hA:appendD _ _ _ _ _ _=A
   obtain ⟨v',K,rfl,p',x',_⟩:=OwnR.append (lo:=3) (OwnR.start 3 _ 86 8) (by simp [wf,hmn,k5,k6]) (by simp [hmn]<;>omega) (by simp [hmn,hlim]) hA (by simp<;>omega) (by decide)
   clear hA
   have a1:=x'.get 1 (by decide)
   have a2:=x'.get 2 (by decide)
   have aB:=x'.get 0 (by decide)
   have al:=x'.lim
   have an:=x'.le
   have l0:0<K.n:=by omega
   simp [hmn,g1,g2,gB,hlim,wf,k0,k1,k2,k0',k1',k2',k3,k4,k5,k6]at a1 a2 aB al p'
   simp [hI,h2,aB,al,l0,x'.wf,turn,hlim]
   generalize hF:upd _ 33 _=F
   have hv':=(p'.setLow (o:=.arr tn 6 [eBroker .none b1] (some 1)) x'.wf (by decide:0<3) l0).wl (Nat.zero_le 3)
   refine l51 xc xd t (⟨⟨oc,od⟩,op,oq⟩::rest) hl tx tb tn rest 1 b1 o1 _ v' F _ rfl hi1 hz1 (rowR_out o1) (by simp;omega) ?_ ?_ ?_ ?_ ?_ ?_ ?_ ?_ ?_ ?_ (by simpa using hv') ?_ ?_ ?_
   all_goals first
    | (rw [←hF];simp [h2,h3,h4,h8,hW,hL];done)
    | (simp [a1,a2,aB,al,l0,x'.wf];done)
    | (simp<;>omega)
end Go.Dm.Tc
/-
What the program's routes compute,part 6: a client of the broker's ends a subscription,all of it.
-/
namespace Go.Dm.Tc
set_option maxRecDepth 8000 in
theorem s51 (b:Broker) (xc xd:Int) (hi:InvK b) (hz:ZL b 0) (ha:b.adverts.length≤1000) :
  pcF D t51 [eBroker .none b,.agg [.int .i64 xc,.int .i64 xd]]=some (.tup [eBroker .none (unsubscribeB b ⟨xc,xd⟩).1,eL false 8 eOut (unsubscribeB b ⟨xc,xd⟩).2]):=by
 have hol:b.owns.length≤100000:=hz.own
 have hown:=s124 .none b xc xd hi.ro (by omega)
 have hf:=hit_find (fun a:OwnS=>a.id) hi.ro ⟨xc,xd⟩
 unfold pcF
 rw [goRun_eq _ _ _ _ (by simp [t51])]
 cases hq:b.owns.find? (fun a=>decide (a.id=⟨xc,xd⟩)) with
 | none =>
  rw [hq]at hf
  simp only at hf
  rw [hf]at hown
  have hw:without (fun o:OwnS=>o.id) ⟨xc,xd⟩ b.owns=b.owns:=by
   unfold without
   rw [List.filter_eq_self]
   intro o ho
   have:=(find_key_none (fun a:OwnS=>a.id) ⟨xc,xd⟩).1 hq o ho
   simp [this]
  have hu:unsubscribeB b ⟨xc,xd⟩=(b,[]):=by simp only [unsubscribeB,hw,if_true]
  rw [hu]
  simp [t51,e124,hown,turn,resultsOf,eL_nil]
 | some o =>
  rw [hq]at hf
  simp only at hf
  obtain ⟨hf1,hf2⟩:=hf
  rw [hf1]at hown
  have hox:o.id=⟨xc,xd⟩:=by simpa using List.find?_some hq
  obtain ⟨i,hix⟩:∃ i,lowIdx (fun b:OwnS=>cmpID b.id ⟨xc,xd⟩) b.owns=i:=⟨_,rfl⟩
  rw [hix]at hf2 hown
  have hilt:i<b.owns.length:=by
   by_cases h:i<b.owns.length
   ·exact h
   ·rw [List.getElem?_eq_none (by omega)]at hf2;cases hf2
  have hwo:=without_at (fun a:OwnS=>a.id) hi.ro hf2 hox
  have hwl:¬(without (fun o:OwnS=>o.id) ⟨xc,xd⟩ b.owns).length=b.owns.length:=by
   rw [←hwo,List.length_append,List.length_take,List.length_drop];omega
  have hu:unsubscribeB b ⟨xc,xd⟩=b.adverts.foldl (endStep ⟨xc,xd⟩) (endOwn b ⟨xc,xd⟩,[]):=by simp only [unsubscribeB,if_neg hwl]
  rw [hu]
  obtain ⟨R,hR⟩:∃ R,R=DV.tup [eBroker .none (b.adverts.foldl (endStep ⟨xc,xd⟩) (endOwn b ⟨xc,xd⟩,[])).1,eL false 8 eOut (b.adverts.foldl (endStep ⟨xc,xd⟩) (endOwn b ⟨xc,xd⟩,[])).2]:=⟨_,rfl⟩
  rw [←hR]
  have hw:IntKind.i64.wrap ((i:Int)+1)=(i:Int)+1:=wrap64 (by omega) (by omega)
  simp [t51,e124,hown,turn,e126]
  generalize hA:cloneHook _ _ _ _ _=A
  obtain ⟨v5,K,rfl,o5,x,_⟩:=clone_own (lo:=3) (elems_eL ..) (by simp) (by simp) (by simp) (by simp;omega) (by decide) hA
  clear hA
  have a0:=x.get 0 (by decide)
  have a1:=x.get 1 (by decide)
  have a2:=x.get 2 (by decide)
  have q0:=x.lim
  have w0:=x.wf
  have n0:=x.le
  simp at a0 a1 a2 q0
  obtain ⟨v5',K2,hD,p5,x2,_⟩:=s128 3 K v5 b.owns i o5 hilt (by omega) w0 n0
  rw [hwo]at p5
  have b0:=x2.get 0 (by decide)
  have b1:=x2.get 1 (by decide)
  have b2:=x2.get 2 (by decide)
  have q2:=x2.lim
  have w2:=x2.wf
  have n2:=x2.le
  rw [a0]at b0
  rw [a1]at b1
  rw [a2]at b2
  rw [q0]at q2
  have hbu:eBroker .none b=DV.agg [.int .i64 b.me,eL false 1 cInt b.near,eL false 4 eAdvert b.adverts,eL false 2 eID b.seen,eL false 7 eEntry b.entries,eL false 3 eOwn b.owns]:=rfl
  rw [hbu]at b0
  have l0:0<K2.n:=by omega
  simp [hw,hD,b0,b1,b2,q2,w2,l0,turn,p5.storable,p5.ecells]
  generalize hF2:upd _ 33 _=F2
  rw [hR]
  refine r51 xc xd false b.adverts ha 37 29 29 (endOwn b ⟨xc,xd⟩) (hi.endOwn _) (hz.endOwn _) v5' F2 _ ?_ ?_ ?_ ?_ ?_ ?_ ?_ ?_ ?_ ?_ (p5.setLow w2 (by decide) l0) ?_ ?_ ?_
  all_goals first
   | (rw [←hF2];simp;done)
   | (simp [b1,b2,q2,w2,l0,zB];done)
   | (simp [w2,l0,endOwn];done)
   | (simp;omega)
end Go.Dm.Tc
/-
Two predicates meet either way about: plain laws.
-/
namespace Go.Dm.Tc
theorem PredOk.up {p:Pred} (h:PredOk p):NameUp p:=by
 have h1:=h.right
 unfold rightP at h1
 rw [Bool.and_eq_true]at h1
 unfold NameUp
 rw [List.pairwise_map]
 exact (rightA_names h1.1).2
end Go.Dm.Tc
/-
SubsFrom: plain laws.
-/
namespace Go.Dm.Tc
theorem add_is {b:Broker} (h:InvK b) {e:Entry} {a:Advert} (ha:advOf b e.tree=some a) (hn:entOf b e.tree e.sub=none) (hf:e.frm=a.parent→a.parent=-1) (hl:linkB b e.frm=true) (hp:PredOk e.pred) :
  entOf (addB b e).1 e.tree e.sub=some {e with up:=upOf b e}∧(addB b e).2=upOf b e∧(addB b e).1.entries.length=b.entries.length+1∧(upOf b e=true→a.parent≠-1):=by
 have hi:=h.add hl hp
 have hy:=add_yes ha hn hf
 refine ⟨?_,by rw [hy],by rw [hy];exact insE_len ..,?_⟩
 ·rw [entOf_some hi.re,hy]
  exact ⟨insE_mem.2 (.inl rfl),rfl,rfl⟩
 ·unfold upOf
  rw [parentOf_eq,ha]
  simp
  intro q _;exact q
theorem fresh {b:Broker} (h:LowK b) (t s:ID) (hs:4<s.client):entOf b t s=none:=by
 rw [entOf_none]
 rintro e he ⟨_,hq⟩
 have:=h.ent e he
 rw [hq]at this;omega
end Go.Dm.Tc
/-
FloodEnd,FloodBack: plain laws: taken back,and spread,what is behind.
-/
namespace Go.Dm.Tc
theorem advOf_mem {b:Broker} {x:ID} {a:Advert} (h:advOf b x=some a):a∈b.adverts∧a.id=x:=by
 refine ⟨List.mem_of_find?_eq_some h,?_⟩
 have:=List.find?_some h
 simpa using this
theorem forget_is {b:Broker} {x:ID} {q:Int} {a:Advert} (ha:advOf b x=some a) (hq:a.parent=q):forgetB b x q=({b with adverts:=without (fun a=>a.id) x b.adverts,entries:=without (fun e=>e.tree) x b.entries},true):=by
 unfold forgetB
 rw [show b.adverts.find? (fun a=>decide (a.id=x))=some a from ha]
 simp only [if_pos hq]
theorem unadv_is {b:Broker} {x:ID} {q:Int} {a:Advert} (ha:advOf b x=some a) (hq:a.parent=q):unadvertiseB b q x=({b with adverts:=without (fun a=>a.id) x b.adverts,entries:=without (fun e=>e.tree) x b.entries},toAll b.near q 2 x.client x.seq 0 0 []):=by
 unfold unadvertiseB
 rw [forget_is ha hq];rfl
theorem without_append {α:Type} (key:α→ID) (x:ID) (l k:List α):without key x (l++k)=without key x l++without key x k:=by
 unfold without;exact List.filter_append ..
theorem without_insE {x:ID} {e:Entry} (he:e.tree=x) (l:List Entry):without (fun e=>e.tree) x (insE e l)=without (fun e=>e.tree) x l:=by
 unfold insE
 rw [without_append]
 have:without (fun e:Entry=>e.tree) x (e::l.drop (lowIdx (sgnE e.tree e.sub) l))=without (fun e:Entry=>e.tree) x (l.drop (lowIdx (sgnE e.tree e.sub) l)):=by
  unfold without
  rw [List.filter_cons];simp [he]
 rw [this,←without_append,List.take_append_drop]
theorem without_insAt {x:ID} {a:Advert} (he:a.id=x) (l:List Advert):without (fun a:Advert=>a.id) x (insAt (fun a=>a.id) a l)=without (fun a:Advert=>a.id) x l:=by
 unfold insAt
 generalize lowIdx _ l=k
 rw [without_append]
 have:without (fun a:Advert=>a.id) x (a::l.drop k)=without (fun a:Advert=>a.id) x (l.drop k):=by
  unfold without
  rw [List.filter_cons];simp [he]
 rw [this,←without_append,List.take_append_drop]
theorem without_none {α:Type} {key:α→ID} {x:ID} {l:List α} (h:∀a∈l,key a≠x):without key x l=l:=by
 unfold without
 rw [List.filter_eq_self]
 intro a ha
 simp [h a ha]
theorem without_addB (b:Broker) {e:Entry} {x:ID} (he:e.tree=x):without (fun e:Entry=>e.tree) x (addB b e).1.entries=without (fun e:Entry=>e.tree) x b.entries:=by
 unfold addB
 split
 ·exact without_insE (e:={e with up:=upOf b e}) he b.entries
 ·rfl
theorem adv_outs (frm:Int) (x:ID) (p:Pred):∀(l:List OwnS) (st:Broker×List OutS),∃ l',(l.foldl (advStep frm x p) st).2=st.2++l'∧l'.length≤l.length∧(∀o∈l',o.to=frm∧o.kind=3∧o.tree=x) ∧
  (l.foldl (advStep frm x p) st).1.adverts=st.1.adverts∧(l.foldl (advStep frm x p) st).1.near=st.1.near∧(l.foldl (advStep frm x p) st).1.owns=st.1.owns∧(l.foldl (advStep frm x p) st).1.me=st.1.me ∧
  without (fun e:Entry=>e.tree) x (l.foldl (advStep frm x p) st).1.entries=without (fun e:Entry=>e.tree) x st.1.entries
 | [],st=>⟨[],by simp,by simp,fun _ h=>(by cases h),rfl,rfl,rfl,rfl,rfl⟩
 | o::r,st=>by
  obtain ⟨l',h1,h2,h3,h4,h5,h6,h7,h8⟩:=adv_outs frm x p r (advStep frm x p st o)
  have hs:∃ m,(advStep frm x p st o).2=st.2++m∧m.length≤1∧(∀o∈m,o.to=frm∧o.kind=3∧o.tree=x)∧(advStep frm x p st o).1.adverts=st.1.adverts∧(advStep frm x p st o).1.near=st.1.near∧(advStep frm x p st o).1.owns=st.1.owns∧(advStep frm x p st o).1.me=st.1.me ∧
    without (fun e:Entry=>e.tree) x (advStep frm x p st o).1.entries=without (fun e:Entry=>e.tree) x st.1.entries:=by
   unfold advStep
   split
   ·obtain ⟨k1,k2,k3,k4,k5,_⟩:=addB_rows st.1 ⟨x,o.id,o.pred,-1,false⟩
    by_cases hu:(addB st.1 ⟨x,o.id,o.pred,-1,false⟩).2=true
    ·exact ⟨[⟨frm,3,x,o.id,o.pred⟩],by simp [hu],by simp,by simp,k2,k1,k4,k5,without_addB _ rfl⟩
    ·exact ⟨[],by simp [hu],by simp,fun _ h=>(by cases h),k2,k1,k4,k5,without_addB _ rfl⟩
   ·exact ⟨[],by simp,by simp,fun _ h=>(by cases h),rfl,rfl,rfl,rfl,rfl⟩
  obtain ⟨m,g1,g2,g3,g4,g5,g6,g7,g8⟩:=hs
  refine ⟨m++l',by rw [List.foldl_cons,h1,g1,List.append_assoc],by simp;omega,fun o ho=>?_,by rw [List.foldl_cons,h4,g4],by rw [List.foldl_cons,h5,g5],by rw [List.foldl_cons,h6,g6],by rw [List.foldl_cons,h7,g7],by rw [List.foldl_cons,h8,g8]⟩
  rcases List.mem_append.1 ho with ho|ho
  ·exact g3 o ho
  ·exact h3 o ho
theorem back {b:Broker} (h:InvK b) {f:Int} {x:ID} {p:Pred} (hf:linkB b f=true) (hx:x ∉ b.seen) (hp:PredOk p) :
  ∃ l',(advertiseB b f x p).2=toAll b.near f 1 x.client x.seq 0 0 p++l'∧l'.length≤b.owns.length∧(∀o∈l',o.to=f∧o.kind=3∧o.tree=x) ∧
   (unadvertiseB (advertiseB b f x p).1 f x).2=toAll b.near f 2 x.client x.seq 0 0 []∧{(unadvertiseB (advertiseB b f x p).1 f x).1 with seen:=b.seen}=b:=by
 have hA:=advOf_learn h ⟨x,p,f⟩ hx x
 have hL:learnB b ⟨x,p,f⟩=({b with adverts:=insAt (fun a=>a.id) ⟨x,p,f⟩ b.adverts,seen:=insAt (fun x=>x) x b.seen},true):=by
  unfold learnB;rw [if_neg hx]
 have hadv:∀a∈b.adverts,a.id≠x:=fun a ha e=>hx (by rw [←e];exact h.sub a ha)
 have hent:∀e∈b.entries,e.tree≠x:=by
  intro e he q
  obtain ⟨a,ha,_⟩:=rightEnt_iff.1 (h.ent e he)
  have:=advOf_mem ha
  exact hadv a this.1 (by rw [this.2,q])
 obtain ⟨l',h1,h2,h3,h4,h5,h6,h7,h8⟩:=adv_outs f x p b.owns ((learnB b ⟨x,p,f⟩).1,toAll b.near f 1 x.client x.seq 0 0 p)
 have hE:advertiseB b f x p=b.owns.foldl (advStep f x p) ((learnB b ⟨x,p,f⟩).1,toAll b.near f 1 x.client x.seq 0 0 p):=by
  unfold advertiseB;rw [if_pos (by rw [hL])]
 have hc:advOf (advertiseB b f x p).1 x=some ⟨x,p,f⟩:=by
  rw [if_pos rfl]at hA
  rw [hE]
  unfold advOf at hA ⊢
  rw [h4];exact hA
 refine ⟨l',by rw [hE,h1],h2,h3,?_,?_⟩
 ·rw [unadv_is hc rfl,hE,h5,hL]
 ·rw [unadv_is hc rfl,hE]
  simp only
  rw [h4,h5,h6,h7,h8,hL]
  simp only
  rw [without_insAt (a:=⟨x,p,f⟩) rfl,without_none hadv,without_none hent]
end Go.Dm.Tc
/-
FloodEnd: an advertisement that is taken back: the law's walk.
-/
namespace Go.Dm.Tc
theorem frA_nsl (h:Heap):freezeA h .nsl=some (.nsl,h):=_root_.id rfl
theorem SzK.zl {b:Broker} {n k:Nat} (hz:SzK b n) (hn:n≤20) (hk:k≤n):ZL b k :=
 ⟨by have:=hz.near;omega,by have:=hz.adv;omega,by have:=hz.seen;omega,by have:=hz.own;omega,by have:=hz.ent;have:=Nat.mul_le_mul hn hn;omega⟩
end Go.Dm.Tc
/-
FloodTells: an advertisement from anywhere,spread or taken back by the program and by the document: the law's walk.
-/
namespace Go.Dm.Tc
def OutsOk (os:List OutS):Prop:=(∀o∈os,o.pred.length≤1000000)∧os.length≤1000000
end Go.Dm.Tc
/-
FloodBack: an advertisement spread and taken back: the law's walk.
-/
namespace Go.Dm.Tc
end Go.Dm.Tc
/-
RouteTells: a subscription,its own or a link's,put in or taken out by the program and by the document: the law's walk.
-/
namespace Go.Dm.Tc
theorem s55:pcF D t55 []=some (.bool true):=pc_run (n:=2000) (args:=[]) e55 rfl (by kernel_rfl)
theorem drop_preds {b:Broker} (h:InvK b) (t s:ID) (q:Int):∀o∈(dropB b t s q).2,o.pred.length≤1000000:=by
 unfold dropB
 split
 ·intro o ho
  simp only at ho
  rcases List.mem_append.1 ho with ho|ho
  ·unfold upOuts at ho
   obtain ⟨e,he,rfl⟩:=List.mem_map.1 ho
   rcases take_cases h t s q with ⟨hc,_⟩|⟨_,_,_,_,_,hc⟩|⟨_,_,_,_,_,r',u',hc,_,_,hup⟩
   ·rw [hc]at he;cases he
   ·rw [hc]at he;cases he
   ·rw [hc]at he
    have:=(List.mem_filter.1 (hup e he).2.2.2.1).1
    exact Nat.le_trans (h.pe _ this).len (by decide)
  ·rw [List.mem_singleton.1 ho];exact Nat.zero_le _
 ·intro o ho;cases ho
theorem end_preds (x:ID):∀(l:List Advert) (st:Broker×List OutS),InvK st.1→(∀o∈st.2,o.pred.length≤1000000)→∀o∈(l.foldl (endStep x) st).2,o.pred.length≤1000000
 | [],_,_,h=>h
 | a::r,st,hi,h=>by
  refine end_preds x r (endStep x st a) ?_ ?_
  ·unfold endStep;rw [drop_fst];exact hi.take ..
  ·intro o ho
   unfold endStep at ho
   rcases List.mem_append.1 ho with ho|ho
   ·exact h o ho
   ·exact drop_preds hi _ _ _ o ho
theorem end_len (x:ID) {N:Nat}:∀(l:List Advert) (st:Broker×List OutS),InvK st.1→st.1.entries.length≤N→(l.foldl (endStep x) st).2.length≤st.2.length+l.length*(N+1)
 | [],st,_,_=>by simp
 | a::r,st,hi,h=>by
  have h1:InvK (endStep x st a).1:=by unfold endStep;rw [drop_fst];exact hi.take ..
  have h2:(endStep x st a).1.entries.length≤N:=by unfold endStep;rw [drop_fst];exact Nat.le_trans (take_len hi ..) h
  have h3:(endStep x st a).2.length≤st.2.length+(N+1):=by
   unfold endStep
   have:=drop_len hi a.id x (-1)
   simp only [List.length_append]
   omega
  have:=end_len x r (endStep x st a) h1 h2
  rw [List.foldl_cons,List.length_cons,Nat.add_mul]
  omega
theorem unsubscribe_ok {b:Broker} {n:Nat} (h:InvK b) (z:SzK b n) (hn:n≤50) (x:ID):OutsOk (unsubscribeB b x).2:=by
 unfold unsubscribeB
 split
 ·exact ⟨fun o ho=>(by cases ho),by simp⟩
 ·refine ⟨end_preds x _ _ (h.endOwn x) (fun o ho=>by cases ho),?_⟩
  have h1:=end_len x (N:=2500) b.adverts (endOwn b x,[]) (h.endOwn x) (by have:=z.ent;have:=Nat.mul_le_mul hn hn;show b.entries.length≤_;omega)
  have h2:=z.adv
  have h3:b.adverts.length*2501≤50*2501:=Nat.mul_le_mul_right _ (by omega)
  simp only [List.length_nil]at h1
  omega
end Go.Dm.Tc
/-
RouteBack: plain laws: subscribed,and ended at once.
-/
namespace Go.Dm.Tc
theorem hit_no_own {l:List OwnS} (hr:Rising (l.map (·.id))) {x:ID} (h:∀o∈l,o.id≠x):hitAt (fun o:OwnS=>cmpID o.id x) l=false:=by
 have hf:=hit_find (fun a:OwnS=>a.id) hr x
 rw [(find_key_none (fun a:OwnS=>a.id) x).2 h]at hf
 exact hf
def upIn (b:Broker) (t x:ID):Bool:=match entOf b t x with|some e=>e.up|none=>false
structure Subd (b nb:Broker) (x:ID) (q:Pred) (done:List Advert) (outs:List OutS):Prop where
 inv:InvK nb
 adv:nb.adverts=b.adverts
 near:nb.near=b.near
 seen:nb.seen=b.seen
 me:nb.me=b.me
 own:nb.owns=(subOwn b x q).owns
 keep:nb.entries.filter (fun e=>!decide (e.sub=x))=b.entries
 has:∀a∈done,meetsP q a.pred=true→∃ u,entOf nb a.id x=some ⟨a.id,x,q,-1,u⟩
 from':∀e∈nb.entries,e.sub=x→∃ a∈done,a.id=e.tree∧meetsP q a.pred=true
 len:nb.entries.length=b.entries.length+done.countP fun a=>meetsP q a.pred
 cnt:outs.length=done.countP fun a=>upIn nb a.id x
structure Ended (c nb:Broker) (x:ID) (done:List Advert) (outs:List OutS):Prop where
 inv:InvK nb
 adv:nb.adverts=c.adverts
 near:nb.near=c.near
 seen:nb.seen=c.seen
 me:nb.me=c.me
 own:nb.owns=(endOwn c x).owns
 ent:nb.entries=c.entries.filter fun e=>!(decide (e.sub=x) && done.any fun a=>decide (a.id=e.tree))
 cnt:outs.length=done.countP fun a=>upIn c a.id x
 kind:∀o∈outs,o.kind=4∧o.id=x
end Go.Dm.Tc
/-
RouteBack: subscribed,and ended at once: the law's walk.
-/
namespace Go.Dm.Tc
structure Last (b c d e:Broker) (out back none again:List OutS) (n met:Nat):Prop where
 h1:out.length=n
 h2:back.length=n
 h3:c.entries.length=b.entries.length+met
 h4:d=b
 h5:none=[]
 h6:again=[]
 h7:e=c
end Go.Dm.Tc
/-
FloodLate: plain laws: an advertisement that comes late is met by those that were there.
-/
namespace Go.Dm.Tc
def tLate:ID:=⟨20,0⟩
def xLate (i:Nat):ID:=⟨((i % 4:Nat):Int),(i:Int)⟩
def bLate:Broker:=⟨0,[1,2],[],[],[],[]⟩
theorem count_insAt {key:OwnS→ID} (f:OwnS→Bool) (a:OwnS) (l:List OwnS):(insAt key a l).countP f=l.countP f+if f a=true then 1 else 0:=by
 unfold insAt
 generalize lowIdx _ l=k
 rw [List.countP_append,List.countP_cons]
 have:=congrArg (List.countP f) (List.take_append_drop k l)
 rw [List.countP_append]at this
 omega
structure LateI (fr:Int) (a:Pred) (b c:Broker) (n i:Nat):Prop where
 ib:InvK b
 zb:SzK b i
 ic:InvK c
 zc:SzK c (i+1)
 badv:b.adverts=[]
 bseen:b.seen=[]
 bnear:b.near=[1,2]
 bent:b.entries=[]
 cadv:c.adverts=[⟨tLate,a,fr⟩]
 own:c.owns=b.owns
 low:∀o∈b.owns,o.id.seq<i
 cnt:n=b.owns.countP fun o=>meetsP o.pred a
 len:c.entries.length=n
 has:∀o∈b.owns,meetsP o.pred a=true→∃ u,entOf c tLate o.id=some ⟨tLate,o.id,o.pred,-1,u⟩
 from':∀e∈c.entries,e.tree=tLate∧∃ o∈b.owns,o.id=e.sub
theorem LateI.start {fr:Int} {a:Pred} (hf:fr=1∨fr=-1) (ha:PredOk a):LateI fr a bLate (advertiseB bLate fr tLate a).1 0 0:=by
 have hi:InvK bLate:=.start rfl (by decide)
 have hz:SzK bLate 0:=.start (by decide)
 have hl:linkB bLate fr=true:=by rcases hf with rfl|rfl<;>rfl
 obtain ⟨h1,h2⟩:=advertise_keep (x:=tLate) hi hz hl ha
 exact ⟨hi,hz,h1,h2,rfl,rfl,rfl,rfl,rfl,rfl,fun o ho=>(by cases ho),rfl,rfl,fun o ho=>(by cases ho),fun o ho=>(by cases ho)⟩
theorem LateI.step {fr:Int} {a:Pred} {b c:Broker} {n i:Nat} (h:LateI fr a b c n i) {p:Pred} (hp:PredOk p) :
  LateI fr a (subscribeB b (xLate i) p).1 (subscribeB c (xLate i) p).1 (if meetsP p a=true then n+1 else n) (i+1):=by
 have hno:∀o∈b.owns,o.id≠xLate i:=fun o ho e=>by
  have:=h.low o ho
  rw [e]at this
  simp [xLate]at this
 have hno':∀o∈c.owns,o.id≠xLate i:=by rw [h.own];exact hno
 have hb:subscribeB b (xLate i) p=(subOwn b (xLate i) p,[]):=by
  unfold subscribeB
  rw [hit_no_own h.ib.ro hno,h.badv];rfl
 have hc:subscribeB c (xLate i) p=subStep (xLate i) p (subOwn c (xLate i) p,[]) ⟨tLate,a,fr⟩:=by
  unfold subscribeB
  rw [hit_no_own h.ic.ro hno',h.cadv];rfl
 obtain ⟨k1,k2⟩:=subscribe_keep (x:=xLate i) h.ib h.zb hp
 obtain ⟨k3,k4⟩:=subscribe_keep (x:=xLate i) h.ic h.zc hp
 have hown:(subOwn c (xLate i) p).owns=(subOwn b (xLate i) p).owns:=by unfold subOwn;rw [h.own]
 have hmem:∀o,o∈(subOwn b (xLate i) p).owns↔o=⟨xLate i,p⟩∨o∈b.owns:=fun o=>ins_mem (fun o:OwnS=>o.id) ⟨xLate i,p⟩ b.owns o
 have hcnt:(subOwn b (xLate i) p).owns.countP (fun o=>meetsP o.pred a)=n+if meetsP p a=true then 1 else 0:=by rw [h.cnt];exact count_insAt ..
 have hlow:∀o∈(subOwn b (xLate i) p).owns,o.id.seq<((i+1:Nat):Int):=by
  intro o ho
  rcases (hmem o).1 ho with rfl|ho
  ·simp [xLate];omega
  ·have:=h.low o ho;omega
 have hnone:entOf c tLate (xLate i)=none:=by
  rw [entOf_none]
  rintro e he ⟨_,h2⟩
  obtain ⟨_,o,ho,h3⟩:=h.from' e he
  exact hno o ho (h3.trans h2)
 rw [hb]at k1 k2 ⊢
 by_cases hm:meetsP p a=true
 ·rw [if_pos hm]
  rw [if_pos hm]at hcnt
  have hca:(subscribeB c (xLate i) p).1=(addB (subOwn c (xLate i) p) ⟨tLate,xLate i,p,-1,false⟩).1:=by
   rw [hc];unfold subStep;rw [if_pos hm]
  have hio:InvK (subOwn c (xLate i) p):=h.ic.subOwn hp hno'
  have hadv:advOf (subOwn c (xLate i) p) tLate=some ⟨tLate,a,fr⟩:=by
   unfold advOf
   show c.adverts.find? _=_
   rw [h.cadv];rfl
  obtain ⟨c1,c2,c3,_⟩:=add_is (e:=⟨tLate,xLate i,p,-1,false⟩) hio hadv hnone (fun e=>e.symm) (by simp [linkB]) hp
  have hy:=add_yes (e:=⟨tLate,xLate i,p,-1,false⟩) hadv hnone (fun e=>e.symm)
  obtain ⟨r1,r2,r3,r4,r5,_⟩:=addB_rows (subOwn c (xLate i) p) ⟨tLate,xLate i,p,-1,false⟩
  rw [←hca]at c1 c3 r1 r2 r3 r4 r5
  have hent:(subscribeB c (xLate i) p).1.entries=insE ⟨tLate,xLate i,p,-1,upOf (subOwn c (xLate i) p) ⟨tLate,xLate i,p,-1,false⟩⟩ c.entries:=by rw [hca,hy];rfl
  have hes:(subOwn c (xLate i) p).entries=c.entries:=rfl
  refine ⟨k1,k2,k3,k4,h.badv,h.bseen,h.bnear,h.bent,r2.trans h.cadv,r4.trans hown,hlow,hcnt.symm,by rw [c3,hes,h.len],?_,?_⟩
  ·intro o ho hom
   rcases (hmem o).1 ho with rfl|ho
   ·exact ⟨_,c1⟩
   ·obtain ⟨u,hu⟩:=h.has o ho hom
    refine ⟨u,?_⟩
    have:=(entOf_some h.ic.re).1 hu
    rw [entOf_some k3.re,hent]
    exact ⟨insE_mem.2 (.inr this.1),rfl,rfl⟩
  ·intro e he
   rw [hent]at he
   rcases insE_mem.1 he with rfl|he
   ·exact ⟨rfl,⟨xLate i,p⟩,(hmem _).2 (.inl rfl),rfl⟩
   ·obtain ⟨h1,o,ho,h2⟩:=h.from' e he
    exact ⟨h1,o,(hmem _).2 (.inr ho),h2⟩
 ·rw [if_neg hm]
  rw [if_neg hm,Nat.add_zero]at hcnt
  have hca:(subscribeB c (xLate i) p).1=subOwn c (xLate i) p:=by
   rw [hc];unfold subStep;rw [if_neg hm]
  rw [hca]at k3 k4 ⊢
  refine ⟨k1,k2,k3,k4,h.badv,h.bseen,h.bnear,h.bent,h.cadv,hown,hlow,hcnt.symm,h.len,?_,?_⟩
  ·intro o ho hom
   rcases (hmem o).1 ho with rfl|ho
   ·exact absurd hom hm
   ·exact h.has o ho hom
  ·intro e he
   obtain ⟨h1,o,ho,h2⟩:=h.from' e he
   exact ⟨h1,o,(hmem _).2 (.inr ho),h2⟩
structure LatePass (fr:Int) (a:Pred) (nb:Broker) (K:Nat) (done:List OwnS) (outs:List OutS):Prop where
 inv:InvK nb
 adv:nb.adverts=[⟨tLate,a,fr⟩]
 len:nb.entries.length=done.countP fun o=>meetsP o.pred a
 from':∀e∈nb.entries,e.tree=tLate∧e.frm=-1∧∃ o∈done,o.id=e.sub∧o.pred=e.pred∧meetsP o.pred a=true
 outs:outs.length=K+nb.entries.countP fun e=>e.up
end Go.Dm.Tc
/-
FloodLate: an advertisement that comes late is met by those that were there: the law's walk.
-/
namespace Go.Dm.Tc
end Go.Dm.Tc
/-
FloodLate: the law's walk,its first loop and the whole.
-/
namespace Go.Dm.Tc
end Go.Dm.Tc
/-
RouteWide: plain laws: the widest subscription,and its end.
-/
namespace Go.Dm.Tc
def wWide:ID:=⟨30,0⟩
def wideB:Nat→Broker
 | 0=>bLate
 | i+1=>(learnB (wideB i) ⟨⟨20+(i:Int),0⟩,[],1+((i % 2:Nat):Int)⟩).1
theorem wide_start (K:Nat) (h1:1≤K) (h3:K≤3):InvK (wideB K)∧SzK (wideB K) 3∧(wideB K).owns=[]∧(wideB K).adverts.length=K∧(∀a∈(wideB K).adverts,a.pred=[])∧(wideB K).near=[1,2] ∧
  (subscribeB (wideB K) wWide []).2.length=K∧(∀a∈(wideB K).adverts,entOf (subscribeB (wideB K) wWide []).1 a.id wWide=some ⟨a.id,wWide,[],-1,true⟩)∧(subscribeB (wideB K) wWide []).1.owns=[⟨wWide,[]⟩]∧(subscribeB (wideB K) wWide []).1.adverts=(wideB K).adverts:=by
 have key:∀i,InvK (wideB i)→i≤2→InvK (wideB (i+1)):=by
  intro i hi hle
  refine hi.learn ?_ .nil
  have:i=0∨i=1∨i=2:=by omega
  rcases this with rfl|rfl|rfl<;>rfl
 have h0:InvK (wideB 0):=.start rfl (by decide)
 have hk1:=key 0 h0 (by decide)
 have hk2:=key 1 hk1 (by decide)
 have hk3:=key 2 hk2 (by decide)
 have:K=1∨K=2∨K=3:=by omega
 rcases this with rfl|rfl|rfl
 ·exact ⟨hk1,⟨by decide,by decide,by decide,by decide,by decide⟩,rfl,rfl,by decide,rfl,rfl,by decide,rfl,rfl⟩
 ·exact ⟨hk2,⟨by decide,by decide,by decide,by decide,by decide⟩,rfl,rfl,by decide,rfl,rfl,by decide,rfl,rfl⟩
 ·exact ⟨hk3,⟨by decide,by decide,by decide,by decide,by decide⟩,rfl,rfl,by decide,rfl,rfl,by decide,rfl,rfl⟩
theorem ent_add {b:Broker} {e:Entry} (h:InvK b) (h':InvK (addB b e).1) {t s:ID} {d:Entry} (hd:entOf b t s=some d):entOf (addB b e).1 t s=some d:=by
 have hm:=(entOf_some h.re).1 hd
 rw [entOf_some h'.re]
 refine ⟨?_,hm.2⟩
 unfold addB
 split
 ·exact insE_mem.2 (.inr hm.1)
 ·exact hm.1
theorem add_under {b:Broker} (h:InvK b) {t:ID} (hw:entOf b t wWide=some ⟨t,wWide,[],-1,true⟩) (x:ID) (p:Pred):(addB b ⟨t,x,p,-1,false⟩).2=false:=by
 have hc:coveredB b.entries t p=true:=coveredB_iff.2 ⟨_,((entOf_some h.re).1 hw).1,rfl,rfl,covers_nil p⟩
 unfold addB
 split
 ·unfold upOf
  simp [hc]
 ·rfl
structure WideI (A:List Advert) (b:Broker) (i:Nat):Prop where
 inv:InvK b
 sz:SzK b (i+4)
 adv:b.adverts=A
 w:∀a∈A,entOf b a.id wWide=some ⟨a.id,wWide,[],-1,true⟩
 own:∀o∈b.owns,o.id=wWide∨o.id.client<i
 hasw:⟨wWide,[]⟩∈b.owns
theorem wide_pass {A:List Advert} {x:ID} {p:Pred} (hp:PredOk p):∀(r:List Advert) (st:Broker×List OutS),(∀a∈r,a∈A)→InvK st.1→(∀a∈A,entOf st.1 a.id wWide=some ⟨a.id,wWide,[],-1,true⟩)→st.2=[] →
  (∀a∈A,entOf (r.foldl (subStep x p) st).1 a.id wWide=some ⟨a.id,wWide,[],-1,true⟩)∧(r.foldl (subStep x p) st).2=[]∧(r.foldl (subStep x p) st).1.adverts=st.1.adverts∧(r.foldl (subStep x p) st).1.owns=st.1.owns
 | [],st,_,_,hw,ho=>⟨hw,ho,rfl,rfl⟩
 | a::r,st,hA,hi,hw,ho=>by
  have hs:InvK (subStep x p st a).1∧(∀c∈A,entOf (subStep x p st a).1 c.id wWide=some ⟨c.id,wWide,[],-1,true⟩)∧(subStep x p st a).2=[]∧(subStep x p st a).1.adverts=st.1.adverts∧(subStep x p st a).1.owns=st.1.owns:=by
   unfold subStep
   split
   ·have h':=hi.add (e:=⟨a.id,x,p,-1,false⟩) (by simp [linkB]) hp
    obtain ⟨_,r2,_,r4,_⟩:=addB_rows st.1 ⟨a.id,x,p,-1,false⟩
    refine ⟨h',fun c hc=>ent_add hi h' (hw c hc),?_,r2,r4⟩
    rw [add_under hi (hw a (hA a (List.mem_cons_self ..))) x p]
    simpa using ho
   ·exact ⟨hi,hw,ho,rfl,rfl⟩
  obtain ⟨h1,h2,h3,h4,h5⟩:=hs
  obtain ⟨k1,k2,k3,k4⟩:=wide_pass hp r (subStep x p st a) (fun c hc=>hA c (List.mem_cons_of_mem _ hc)) h1 h2 h3
  exact ⟨k1,k2,k3.trans h4,k4.trans h5⟩
theorem WideI.step {A : List Advert} {b : Broker} {i : Nat} (h : WideI A b i) {p : Pred} (hp : PredOk p) : (subscribeB b ⟨(i : Int), 1⟩ p).2 = [] ∧ WideI A (subscribeB b ⟨(i : Int), 1⟩ p).1 (i + 1) := by
  have hno : ∀ o ∈ b.owns, o.id ≠ ⟨(i : Int), 1⟩ := fun o ho e => by
    rcases h.own o ho with h1 | h1
    · rw [e] at h1
      have := congrArg ID.seq h1
      simp [wWide] at this
    · rw [e] at h1; simp at h1
  obtain ⟨k1, k2⟩ := subscribe_keep (x := ⟨(i : Int), 1⟩) h.inv h.sz hp
  have hs : subscribeB b ⟨(i : Int), 1⟩ p = b.adverts.foldl (subStep ⟨(i : Int), 1⟩ p) (subOwn b ⟨(i : Int), 1⟩ p, []) := by
    unfold subscribeB
    rw [hit_no_own h.inv.ro hno]; rfl
  have hio := h.inv.subOwn hp hno
  obtain ⟨p1, p2, p3, p4⟩ := wide_pass (A := A) hp b.adverts (subOwn b ⟨(i : Int), 1⟩ p, []) (fun a ha => by rw [h.adv] at ha; exact ha) hio (fun a ha => h.w a ha) rfl
  rw [← hs] at p1 p2 p3 p4
  have hmem : ∀ o, o ∈ (subOwn b ⟨(i : Int), 1⟩ p).owns ↔ o = ⟨⟨(i : Int), 1⟩, p⟩ ∨ o ∈ b.owns := fun o => ins_mem (fun o : OwnS => o.id) ⟨⟨(i : Int), 1⟩, p⟩ b.owns o
  refine ⟨p2, k1, by have : i + 1 + 4 = i + 4 + 1 := by omega
                     rw [this]; exact k2, p3.trans h.adv, p1, ?_, ?_⟩
  · intro o ho
    rw [p4] at ho
    rcases (hmem o).1 ho with rfl | ho
    · right; simp only; omega
    · rcases h.own o ho with h1 | h1
      · exact .inl h1
      · right; omega
  · rw [p4]; exact (hmem _).2 (.inr h.hasw)
theorem ent_take {b:Broker} (h:InvK b) {t s:ID} {q:Int} {t' s':ID} (ht:t'≠t):entOf (takeB b t s q).1 t' s'=entOf b t' s':=by
 have h':=h.take t s q
 have hmem:∀e:Entry,e.tree=t'→(e∈(takeB b t s q).1.entries↔e∈b.entries):=by
  intro e he
  have hf:e∈b.entries.filter (fun x=>!isE t s x)↔e∈b.entries:=by
   rw [List.mem_filter]
   refine and_iff_left_of_imp fun _=>?_
   have:isE t s e=false:=isE_not.2 fun hh=>ht (he.symm.trans hh.1)
   simp [this]
  rcases take_cases h t s q with ⟨hc,_⟩|⟨_,_,_,_,_,hc⟩|⟨_,_,_,_,_,r',u',hc,hR,_⟩
  ·rw [hc]
  ·rw [hc];exact hf
  ·rw [hc]
   show e∈r'↔_
   rw [←hf]
   constructor
   ·intro hm
    rcases hR.mem hm with hm|⟨y,_,hy,_,rfl⟩
    ·exact hm
    ·exact absurd (he.symm.trans hy) ht
   ·intro hm
    rcases hR.of_mem hm with hm|⟨hy,_⟩
    ·exact hm
    ·exact absurd (he.symm.trans hy) ht
 cases hq:entOf b t' s' with
 | none =>
  rw [entOf_none]at hq ⊢
  intro e he hh
  exact hq e ((hmem e hh.1).1 he) hh
 | some e =>
  have he:=(entOf_some h.re).1 hq
  rw [entOf_some h'.re]
  exact ⟨(hmem e he.2.1).2 he.1,he.2⟩
structure WideEnd (A:List Advert) (nb:Broker) (done r:List Advert) (outs:List OutS):Prop where
 inv:InvK nb
 w:∀a∈r,entOf nb a.id wWide=some ⟨a.id,wWide,[],-1,true⟩
 each:∀o∈outs,(∃ a∈done,a.id=o.tree)∧(o.kind=4∧o.id=wWide∨o.kind=3∧∃ e,entOf nb o.tree o.id=some e∧e.up=true)
 pairs:outs.Pairwise fun x y=>x.kind=4→ltID x.tree y.tree=true
 cnt:(outs.countP fun o=>decide (o.kind=4))=done.length
theorem wide_end {A:List Advert} (hr:Rising (A.map (·.id))):∀(r done:List Advert) (st:Broker×List OutS),done++r=A→WideEnd A st.1 done r st.2→WideEnd A (r.foldl (endStep wWide) st).1 A [] (r.foldl (endStep wWide) st).2
 | [],done,st,h,s=>by
  rw [List.append_nil]at h
  rw [←h];exact ⟨s.inv,fun a ha=>(by cases ha),s.each,s.pairs,s.cnt⟩
 | a::r,done,st,h,s=>by
  have hlt:∀d∈done,ltID d.id a.id=true:=by
   intro d hd
   rw [←h]at hr
   unfold Rising at hr
   rw [List.map_append,List.map_cons,List.pairwise_append]at hr
   exact decide_eq_true (hr.2.2 d.id (List.mem_map_of_mem hd) a.id (List.mem_cons_self ..))
  have hne:∀d∈done,d.id≠a.id:=fun d hd e=>by
   have:=hlt d hd
   rw [e]at this
   have:=of_decide_eq_true this
   rw [cmpID_lt]at this;omega
  have hne2:∀d∈r,d.id≠a.id:=by
   intro d hd e
   have hr2:Rising (((done++[a])++r).map (·.id)):=by rw [show (done++[a])++r=A by rw [←h];simp];exact hr
   unfold Rising at hr2
   rw [List.map_append,List.pairwise_append]at hr2
   have:=hr2.2.2 a.id (by simp) d.id (List.mem_map_of_mem hd)
   rw [e,cmpID_lt]at this;omega
  refine wide_end hr r (done++[a]) (endStep wWide st a) (by rw [←h];simp) ?_
  have hw:=s.w a (List.mem_cons_self ..)
  obtain ⟨t1,_,_,_,t5⟩:=take_own s.inv hw
  simp only at t1 t5
  have hD:dropB st.1 a.id wWide (-1)=((takeB st.1 a.id wWide (-1)).1,upOuts (parentOf st.1 a.id) (takeB st.1 a.id wWide (-1)).2.1++[⟨parentOf st.1 a.id,4,a.id,wWide,[]⟩]):=by
   unfold dropB;rw [t1];rfl
  have hi:=s.inv.take a.id wWide (-1)
  unfold endStep
  rw [hD]
  refine ⟨hi,?_,?_,?_,?_⟩
  ·intro d hd
   rw [ent_take s.inv (hne2 d hd)]
   exact s.w d (List.mem_cons_of_mem _ hd)
  ·intro o ho
   rcases List.mem_append.1 ho with ho|ho
   ·obtain ⟨⟨d,hd,hdt⟩,h2⟩:=s.each o ho
    refine ⟨⟨d,by simp [hd],hdt⟩,?_⟩
    rcases h2 with h2|⟨h2,e,h3,h4⟩
    ·exact .inl h2
    ·refine .inr ⟨h2,e,?_,h4⟩
     rw [ent_take s.inv (by rw [←hdt];exact hne d hd)]
     exact h3
   ·rcases List.mem_append.1 ho with ho|ho
    ·unfold upOuts at ho
     obtain ⟨e,he,rfl⟩:=List.mem_map.1 ho
     obtain ⟨h1,h2,_,h4,_⟩:=t5 e he
     exact ⟨⟨a,by simp,h4.symm⟩,.inr ⟨rfl,e,by simp only;rw [h4];exact h1,h2⟩⟩
    ·rw [List.mem_singleton.1 ho]
     exact ⟨⟨a,by simp,rfl⟩,.inl ⟨rfl,rfl⟩⟩
  ·rw [List.pairwise_append]
   refine ⟨s.pairs,?_,?_⟩
   ·rw [List.pairwise_append]
    refine ⟨?_,List.pairwise_singleton ..,?_⟩
    ·unfold upOuts
     rw [List.pairwise_map]
     exact List.pairwise_of_forall fun x y hk=>by simp at hk
    ·intro x hx y hy hk
     unfold upOuts at hx
     obtain ⟨e,he,rfl⟩:=List.mem_map.1 hx
     simp at hk
   ·intro x hx y hy _
    obtain ⟨⟨d,hd,hdt⟩,_⟩:=s.each x hx
    have hyt:y.tree=a.id:=by
     rcases List.mem_append.1 hy with hy|hy
     ·unfold upOuts at hy
      obtain ⟨e,he,rfl⟩:=List.mem_map.1 hy
      exact (t5 e he).2.2.2.1
     ·rw [List.mem_singleton.1 hy]
    rw [←hdt,hyt]
    exact hlt d hd
  ·rw [List.countP_append,List.countP_append,s.cnt,List.length_append]
   have:(upOuts (parentOf st.1 a.id) (takeB st.1 a.id wWide (-1)).2.1).countP (fun o=>decide (o.kind=4))=0:=by
    rw [List.countP_eq_zero]
    intro o ho
    unfold upOuts at ho
    obtain ⟨e,he,rfl⟩:=List.mem_map.1 ho
    simp
   rw [this]
   simp [List.countP_cons]
end Go.Dm.Tc
/-
RouteWide: the widest subscription,and its end: the law's walk.
-/
namespace Go.Dm.Tc
theorem s15_w:pcF D t15 [.int .i64 0,.isl true 1 [.int .i64 1,.int .i64 2]]=some (eBroker .none bLate):=pc_run (n:=2000) (args:=[.int .i64 0,.isl true 1 [.int .i64 1,.int .i64 2]]) e15 rfl (by kernel_rfl)
def WideO (b:Broker) (o:OutS):Prop:=o.kind=4∧o.id=wWide∨o.kind=3∧∃ e,entOf b o.tree o.id=some e∧e.up=true
set_option maxRecDepth 16000 in
set_option maxHeartbeats 4000000 in
theorem l10c {b:Broker} {outs:List OutS} {K:Nat} (hi:InvK b) (z:Sized b) (he:∀o∈outs,WideO b o) (hp:outs.Pairwise fun x y=>x.kind=4→ltID x.tree y.tree=true) (hol:outs.length≤1000000) :
  ∀(rest:List OutS) (i n:Nat) (f:FEnv) (h:Heap),outs.drop i=rest→(n+rest.countP fun o=>decide (o.kind=4))=K→n≤i→f 5=.ptr 1 6 0 0→f 6=.int .i64 K→f 8=.ptr 2 2 0 0→f 9=eL false 8 eOut outs→f 13=.int .i64 n→f 82=eL false 8 eOut outs→f 83=.int .i64 outs.length→f 84=.int .i64 i →
  h.get 1=some (.arr 29 6 [eBroker .none b] (some 1))→h.get 2=some (.arr 37 2 [.agg [.int .i64 30,.int .i64 0]] (some 1))→h.lim=0→3≤h.n→WF h →
  pcOut (fin [.t 4] (run D 177 [.block 4,.seq t10k0] (.loop t10l2) f h))=some (.bool true):=by
 intro rest
 induction rest with
 | nil =>
  intro i n f h hd hK hni h5 h6 h8 h9 h13 h82 h83 h84 g1 g2 hlim hn wf
  have hil:=drop_nil hd
  have hlt:¬(i<outs.length):=by omega
  have e1:n=K:=by simpa using hK
  subst e1
  have hR:=s55
  have hT:=kTight .none hi z
  rw [run_loop_of t10l2.eq_1]
  simp [h83,h84,hlt,t10k0,h5,h6,h13,g1,hlim,wf,turn,e41,hT,e55,hR]
 | cons o rest ih =>
  intro i n f h hd hK hni h5 h6 h8 h9 h13 h82 h83 h84 g1 g2 hlim hn wf
  obtain ⟨hlt,hoe,hd'⟩:=drop_at hd
  obtain ⟨m,hmn⟩:∃ m,h.n=m+3:=⟨h.n-3,by omega⟩
  have ho:=he o (by rw [←hoe];exact List.getElem_mem hlt)
  have hw3:IntKind.i64.wrap ((i:Int)+1)=(i:Int)+1:=wrap64 (by omega) (by omega)
  have hw1:IntKind.i64.wrap ((n:Int)+1)=(n:Int)+1:=wrap64 (by omega) (by omega)
  rw [List.countP_cons]at hK
  obtain ⟨to,k,⟨tc,td⟩,⟨ic,id⟩,p⟩:=o
  unfold WideO at ho
  simp only at ho hK
  rw [run_loop_of t10l2.eq_1]
  rcases ho with ⟨rfl,hid⟩|⟨rfl,e,hen,hup⟩
  ·have h1:ic=30:=congrArg ID.client hid
   have h2:id=0:=congrArg ID.seq hid
   subst h1
   subst h2
   simp only [decide_true,if_true]at hK
   by_cases hj:i+1<outs.length
   ·have hji:(i:Int)+1<outs.length:=by omega
    have hlt2:=List.pairwise_iff_getElem.1 hp i (i+1) hlt hj (by omega)
    rw [hoe]at hlt2
    have hlt3:=hlt2 rfl
    simp only at hlt3
    have hL:=s56 tc td outs[i+1].tree.client outs[i+1].tree.seq
    rw [show (⟨outs[i+1].tree.client,outs[i+1].tree.seq⟩:ID)=outs[i+1].tree from rfl,hlt3]at hL
    simp [h82,h83,h84,h5,h8,h9,h13,hlt,hoe,eOut,g1,g2,hmn,hlim,wf,turn,hw1,hw3,hj,hji,e56,hL,t10s2]
    generalize hF:upd _ 84 _=F
    refine ih (i+1) (n+1) F _ hd' (by omega) (by omega) ?_ ?_ ?_ ?_ ?_ ?_ ?_ ?_ ?_ ?_ ?_ ?_ ?_
    all_goals first
     | (rw [←hF];simp [h5,h6,h8,h9,h13,h82,h83];done)
     | (simp [hmn,g1,g2,hlim,wf];done)
     | (simp [hmn]<;>omega)
   ·have hji:¬(i:Int)+1<outs.length:=by omega
    simp [h82,h83,h84,h5,h8,h9,h13,hlt,hoe,eOut,g1,g2,hmn,hlim,wf,turn,hw1,hw3,hj,hji,t10s2]
    generalize hF:upd _ 84 _=F
    refine ih (i+1) (n+1) F _ hd' (by omega) (by omega) ?_ ?_ ?_ ?_ ?_ ?_ ?_ ?_ ?_ ?_ ?_ ?_ ?_
    all_goals first
     | (rw [←hF];simp [h5,h6,h8,h9,h13,h82,h83];done)
     | (simp [hmn,g1,g2,hlim,wf];done)
     | (simp [hmn]<;>omega)
  ·have hK':n+rest.countP (fun o=>decide (o.kind=4))=K:=by simpa using hK
   have hE:=kEF .none hi z tc td ic id
   rw [show entOf b ⟨tc,td⟩ ⟨ic,id⟩=some e from hen]at hE
   obtain ⟨et,es,ep,ef,eu⟩:=e
   simp only at hup
   subst hup
   by_cases hn0:n=0
   ·subst hn0
    simp [h82,h83,h84,h5,h8,h9,h13,hlt,hoe,eOut,g1,g2,hmn,hlim,wf,turn,hw1,hw3,e32,hE,hasO,eEntry,t10s2]
    generalize hF:upd _ 84 _=F
    refine ih (i+1) 0 F _ hd' hK' (by omega) ?_ ?_ ?_ ?_ ?_ ?_ ?_ ?_ ?_ ?_ ?_ ?_ ?_
    all_goals first
     | (rw [←hF];simp [h5,h6,h8,h9,h13,h82,h83];done)
     | (simp [hmn,g1,g2,hlim,wf];done)
     | (simp [hmn]<;>omega)
   ·obtain ⟨j,rfl⟩:∃ j,i=j+1:=⟨i-1,by omega⟩
    have hj:j<outs.length:=by omega
    have hn1:0<n:=by omega
    have hjl:(j:Int)+1<outs.length:=by omega
    have hwk:IntKind.i64.wrap ((j:Int)+1+1)=(j:Int)+1+1:=wrap64 (by omega) (by omega)
    have hwj:IntKind.i64.wrap (j:Int)=(j:Int):=wrap64 (by omega) (by omega)
    by_cases hkj:outs[j].kind=4
    ·have hlt2:=List.pairwise_iff_getElem.1 hp j (j+1) hj hlt (by omega) hkj
     rw [hoe]at hlt2
     simp only at hlt2
     have hne:outs[j].tree≠⟨tc,td⟩:=fun q=>by
      rw [q]at hlt2
      have:=of_decide_eq_true hlt2
      rw [cmpID_lt]at this;omega
     have hne2:=id_ne hne
     simp only at hne2
     simp [h82,h83,h84,h5,h8,h9,h13,hlt,hoe,eOut,g1,g2,hmn,hlim,wf,turn,hw1,hw3,hwj,hwk,hjl,hj,hkj,hn1,hne2,e32,hE,hasO,eEntry,t10s2]
     generalize hF:upd _ 84 _=F
     refine ih (j+1+1) n F _ hd' hK' (by omega) ?_ ?_ ?_ ?_ ?_ ?_ ?_ ?_ ?_ ?_ ?_ ?_ ?_
     all_goals first
      | (rw [←hF];simp [h5,h6,h8,h9,h13,h82,h83];done)
      | (simp [hmn,g1,g2,hlim,wf];done)
      | (simp [hmn]<;>omega)
    ·simp [h82,h83,h84,h5,h8,h9,h13,hlt,hoe,eOut,g1,g2,hmn,hlim,wf,turn,hw1,hw3,hwj,hwk,hjl,hj,hkj,hn1,e32,hE,hasO,eEntry,t10s2]
     generalize hF:upd _ 84 _=F
     refine ih (j+1+1) n F _ hd' hK' (by omega) ?_ ?_ ?_ ?_ ?_ ?_ ?_ ?_ ?_ ?_ ?_ ?_ ?_
     all_goals first
      | (rw [←hF];simp [h5,h6,h8,h9,h13,h82,h83];done)
      | (simp [hmn,g1,g2,hlim,wf];done)
      | (simp [hmn]<;>omega)
set_option maxRecDepth 16000 in
set_option maxHeartbeats 4000000 in
theorem m10 {A:List Advert} {b:Broker} {i K:Nat} (hA:Rising (A.map (·.id))) (hAl:A.length=K) (hK3:K≤3) (W:WideI A b i) (hi6:i≤6) (f:FEnv) (h:Heap) (h5:f 5=.ptr 1 6 0 0) (h6:f 6=.int .i64 K) (h8:f 8=.ptr 2 2 0 0)
  (g1:h.get 1=some (.arr 29 6 [eBroker .none b] (some 1))) (g2:h.get 2=some (.arr 37 2 [.agg [.int .i64 30,.int .i64 0]] (some 1))) (hlim:h.lim=0) (hn:3≤h.n) (wf:WF h) :
  pcOut (fin [.t 4] (run D 177 [] t10k1 f h))=some (.bool true):=by
 have hz:=W.sz.mono (show i+4≤10 by omega)
 have hU:=s51 b 30 0 W.inv (hz.zl (by decide) (Nat.zero_le _)) (by have:=hz.adv;omega)
 have hk:=unsubscribe_keep W.inv hz wWide
 have hok:=unsubscribe_ok W.inv hz (by decide) wWide
 rw [show (⟨30,0⟩:ID)=wWide from rfl]at hU
 have hwl:¬(without (fun o:OwnS=>o.id) wWide b.owns).length=b.owns.length:=by
  have:(b.owns.filter fun o:OwnS=>!decide (o.id=wWide)).length<b.owns.length:=List.length_filter_lt_length_iff_exists.2 ⟨⟨wWide,[]⟩,W.hasw,by simp⟩
  show ¬(b.owns.filter fun o:OwnS=>!decide (o.id=wWide)).length=b.owns.length
  omega
 have hu:unsubscribeB b wWide=b.adverts.foldl (endStep wWide) (endOwn b wWide,[]):=by
  unfold unsubscribeB;rw [if_neg hwl]
 have hE:=wide_end hA A [] (endOwn b wWide,[]) rfl ⟨W.inv.endOwn _,W.w,fun o ho=>(by cases ho),.nil,rfl⟩
 rw [hu,W.adv]at hU hk hok
 generalize (A.foldl (endStep wWide) (endOwn b wWide,[])).1=c at *
 generalize (A.foldl (endStep wWide) (endOwn b wWide,[])).2=outs at *
 have l1:1<h.n:=by omega
 simp only [t10k1]
 simp [h5,h8,g1,g2,hlim,l1,wf,turn,e51,hU]
 refine l10c (b:=c) (outs:=outs) (K:=K) hk.1 (hk.2.sized (by decide)) (fun o ho=>(hE.each o ho).2) hE.pairs hok.2 outs 0 0 _ _ rfl (by rw [hE.cnt,hAl];omega) (by omega) ?_ ?_ ?_ ?_ ?_ ?_ ?_ ?_ ?_ ?_ ?_ ?_ ?_
 all_goals first
  | (simp [h5,h6,h8];done)
  | (simp [g2,hlim,l1,wf];done)
  | (simp<;>omega)
  | rfl
set_option maxRecDepth 16000 in
set_option maxHeartbeats 4000000 in
theorem l10b {A:List Advert} {K:Nat} (hA:Rising (A.map (·.id))) (hAl:A.length=K) (hK3:K≤3) (l:List PK) (hl:∀z∈l,z.has.length≤9223372036854775807) :
  ∀(rest:List PK) (i:Nat) (b:Broker) (f:FEnv) (h:Heap),l.drop i=rest→WideI A b i→i≤6→f 0=eL false 2 ePK l→f 5=.ptr 1 6 0 0→f 6=.int .i64 K→f 8=.ptr 2 2 0 0→f 10=.int .i64 i →
  h.get 1=some (.arr 29 6 [eBroker .none b] (some 1))→h.get 2=some (.arr 37 2 [.agg [.int .i64 30,.int .i64 0]] (some 1))→h.lim=0→3≤h.n→WF h →
  pcOut (fin [.t 4] (run D 177 [.block 2,.seq t10k1] (.loop t10l1) f h))=some (.bool true):=by
 intro rest
 induction rest with
 | nil =>
  intro i b f h hd W hi6 h0 h5 h6 h8 h10 g1 g2 hlim hn wf
  have hil:=drop_nil hd
  have hlt:¬(i<l.length):=by omega
  rw [run_loop_of t10l1.eq_1]
  simp [h0,h10,hlt]
  refine m10 hA hAl hK3 W hi6 _ _ ?_ ?_ ?_ g1 g2 hlim hn wf
  all_goals simp [h5,h6,h8]
 | cons p rest ih =>
  intro i b f h hd W hi6 h0 h5 h6 h8 h10 g1 g2 hlim hn wf
  obtain ⟨hlt,he,hd'⟩:=drop_at hd
  rw [run_loop_of t10l1.eq_1]
  by_cases hi:i<6
  ·have hii:(i:Int)<6:=by omega
   obtain ⟨m,hmn⟩:∃ m,h.n=m+3:=⟨h.n-3,by omega⟩
   have hPp:=s18 false false p.has p.vals (hl p (by rw [←he];exact List.getElem_mem hlt))
   have hpq:=mkPred_ok p.has p.vals
   generalize mkPred p.has p.vals=pp at *
   have hz:=W.sz.mono (show i+4≤10 by omega)
   have hS:=s50 b i 1 pp W.inv (hz.zl (by decide) hz.adv) hpq (by have:=hz.own;omega)
   obtain ⟨h1,W'⟩:=W.step hpq
   rw [h1]at hS
   have hw:IntKind.i64.wrap ((i:Int)+1)=(i:Int)+1:=wrap64 (by omega) (by omega)
   simp [h0,h5,h10,hlt,hi,hii,he,ePK,g1,hmn,hlim,wf,turn,e18,hPp,e50,hS,t10s1,hw]
   generalize hF:upd _ 10 _=F
   refine ih (i+1) _ F _ hd' W' (by omega) ?_ ?_ ?_ ?_ ?_ ?_ ?_ ?_ ?_ ?_
   all_goals first
    | (rw [←hF];simp [h0,h5,h6,h8];done)
    | (simp [hmn,g1,g2,hlim,wf];done)
    | (simp [hmn]<;>omega)
  ·have hi':i=6:=by omega
   subst hi'
   have hlti:(6:Int)<l.length:=by omega
   simp [h0,h10,hlt,hlti]
   refine m10 hA hAl hK3 W hi6 _ _ ?_ ?_ ?_ g1 g2 hlim hn wf
   all_goals simp [h5,h6,h8]
end Go.Dm.Tc
/-
RouteWide: the law's walk,its first loop and the whole.
-/
namespace Go.Dm.Tc
set_option maxRecDepth 16000 in
set_option maxHeartbeats 4000000 in
theorem l10a {K:Nat} (h1K:1≤K) (hK3:K≤3) (l:List PK) (hl:∀z∈l,z.has.length≤9223372036854775807) :
  ∀(n i:Nat) (f:FEnv) (h:Heap),K-i=n→i≤K→f 0=eL false 2 ePK l→f 5=.ptr 1 6 0 0→f 6=.int .i64 K→f 22=.int .i64 K→f 23=.int .i64 i →
  h.get 1=some (.arr 29 6 [eBroker .none (wideB i)] (some 1))→h.lim=0→h.n=2→WF h →
  pcOut (fin [.t 4] (run D 177 [.block 0,.seq t10k2] (.loop t10l0) f h))=some (.bool true):=by
 intro n
 induction n with
 | zero =>
  intro i f h hn hi h0 h5 h6 h22 h23 g1 hlim hn2 wf
  have:i=K:=by omega
  subst this
  obtain ⟨b1,b2,b3,b4,b5,b6,b7,b8,b9,b10⟩:=wide_start i h1K hK3
  have hS:=s50 (wideB i) 30 0 [] b1 (b2.zl (by decide) b2.adv) .nil (by rw [b3];decide)
  have hk:=subscribe_keep (x:=wWide) b1 b2 (p:=[]) .nil
  rw [show (⟨30,0⟩:ID)=wWide from rfl,show ePred []=.isl false 0 [] from rfl]at hS
  have W:WideI (wideB i).adverts (subscribeB (wideB i) wWide []).1 0:=⟨hk.1,hk.2.mono (by decide),b10,b8,fun o ho=>by rw [b9]at ho;exact .inl (by rw [List.mem_singleton.1 ho]),by rw [b9];simp⟩
  generalize (subscribeB (wideB i) wWide []).1=c at *
  generalize (subscribeB (wideB i) wWide []).2=os at *
  have hA:=b1.ra
  rw [run_loop_of t10l0.eq_1]
  simp [h22,h23,t10k2,h5,h6,g1,hlim,hn2,wf,turn,e50,frA_nsl,hS,b7]
  refine l10b (A:=(wideB i).adverts) (K:=i) hA b4 hK3 l hl l 0 c _ _ rfl W (by decide) ?_ ?_ ?_ ?_ ?_ ?_ ?_ ?_ ?_ ?_
  all_goals first
   | (simp [h0,h5,h6];done)
   | (simp [hn2,hlim,wf];done)
   | (simp [hn2,hlim,wf]<;>omega)
 | succ n ih =>
  intro i f h hn hi h0 h5 h6 h22 h23 g1 hlim hn2 wf
  have hlt:i<K:=by omega
  have hlti:(i:Int)<K:=by omega
  have hi2:i=0∨i=1∨i=2:=by omega
  have hiz:InvK (wideB i)∧Sized (wideB i):=by
   rcases hi2 with rfl|rfl|rfl
   ·exact ⟨.start rfl (by decide),⟨by decide,by decide,by decide,by decide,by decide⟩⟩
   ·exact ⟨(wide_start 1 (by decide) (by decide)).1,⟨by decide,by decide,by decide,by decide,by decide⟩⟩
   ·exact ⟨(wide_start 2 (by decide) (by decide)).1,⟨by decide,by decide,by decide,by decide,by decide⟩⟩
  have hL:=kLearn .none hiz.1 hiz.2 (20+(i:Int)) 0 [] (1+((i % 2:Nat):Int))
  rw [show (learnB (wideB i) ⟨⟨20+(i:Int),0⟩,[],1+((i % 2:Nat):Int)⟩).1=wideB (i+1) from rfl,show ePred []=.isl false 0 [] from rfl]at hL
  generalize (learnB (wideB i) ⟨⟨20+(i:Int),0⟩,[],1+((i % 2:Nat):Int)⟩).2=u at *
  have hrem:arithD .rem (.int .i64 (i:Int)) (.int .i64 2)=some (.int .i64 ((i % 2:Nat):Int)):=by
   rcases hi2 with rfl|rfl|rfl<;>rfl
  have hm2:i % 2<2:=Nat.mod_lt _ (by decide)
  have hw1:IntKind.i64.wrap (20+(i:Int))=20+(i:Int):=wrap64 (by omega) (by omega)
  have hw2:IntKind.i64.wrap (1+((i % 2:Nat):Int))=1+((i % 2:Nat):Int):=wrap64 (by omega) (by omega)
  have hw3:IntKind.i64.wrap ((i:Int)+1)=(i:Int)+1:=wrap64 (by omega) (by omega)
  generalize ((i % 2:Nat):Int)=r at *
  rw [run_loop_of t10l0.eq_1]
  simp [h5,h22,h23,hlt,hlti,g1,hlim,hn2,wf,turn,hrem,hw1,hw2,hw3,e19,hL,t10s0]
  generalize hF:upd _ 23 _=F
  refine ih (i+1) F _ (by omega) (by omega) ?_ ?_ ?_ ?_ ?_ ?_ ?_ ?_ ?_
  all_goals first
   | (rw [←hF];simp [h0,h5,h6,h22];done)
   | (simp [hn2,hlim,wf];done)
   | (simp [hn2]<;>omega)
set_option maxRecDepth 16000 in
theorem s10 (l:List PK) (n:Int) (hl:∀z∈l,z.has.length≤9223372036854775807) :
  pcF D t10 [eL false 2 ePK l,.int .i64 n]=some (.bool true):=by
 have w1:=s16 n 1 3 (by decide) (by decide) (by decide)
 have b1:=within_bounds n (lo:=1) (hi:=3) (by decide)
 generalize within n 1 3=w at *
 obtain ⟨K,rfl⟩:∃ K:Nat,w=K:=⟨w.toNat,by omega⟩
 have hN:=s15_w
 unfold pcF
 rw [goRun_eq _ _ _ _ (by simp [t10])]
 simp [t10,List.replicate,mkIsl,e15,hN,e16,w1,turn]
 refine l10a (K:=K) (by omega) (by omega) l hl K 0 _ _ (by omega) (by omega) ?_ ?_ ?_ ?_ ?_ ?_ ?_ ?_ ?_
 all_goals simp [wideB]
end Go.Dm.Tc
