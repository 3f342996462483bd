/-
What functions compute, part 34: messages put out; to all neighbours but one.
-/
import Derived.Test.YtfnhanajiibciaaGreatMs1
set_option linter.all false
namespace Go.Dm.Tc
structure OutS where
 to:Int
 kind:Int
 tree:ID
 id:ID
 pred:Pred
 deriving DecidableEq,Inhabited
def eOut (o:OutS):DV:=.agg [.int .i64 o.to,.int .i64 o.kind,.int .i64 o.tree.client,.int .i64 o.tree.seq,.int .i64 o.id.client,.int .i64 o.id.seq,ePred o.pred,.isl false 0 []]
def RowR (es:List DV) (os:List OutS):Prop:=es.length=os.length∧∀(tag:Bool) (h:Heap) (n:Nat),21≤n→es.mapM (resolve tag h n)=some (os.map eOut)
theorem RowR.nil:RowR [] []:=⟨rfl,fun _ _ _ _=>rfl⟩
theorem RowR.append {a b:List DV} {x y:List OutS} (h1:RowR a x) (h2:RowR b y):RowR (a++b) (x++y):=by
 refine ⟨by simp [h1.1,h2.1],fun tag h n hn=>?_⟩
 rw [List.mapM_append,h1.2 tag h n hn,h2.2 tag h n hn]
 simp
def rawO (to k tc td ic id:Int) (pd ad:DV):DV:=.agg [.int .i64 to,.int .i64 k,.int .i64 tc,.int .i64 td,.int .i64 ic,.int .i64 id,pd,ad]
def Means (pd:DV) (p:Pred):Prop:=pd=ePred p∨(pd=.nsl∧p=[])
def Nils (ad:DV):Prop:=ad=.nsl∨ad=.isl false 0 []
theorem Means.res {pd:DV} {p:Pred} (h:Means pd p) (tag:Bool) (hp:Heap) (n:Nat) (hn:20≤n):resolve tag hp n pd=some (ePred p):=by
 obtain ⟨m,rfl⟩:∃ m,n=m+1:=⟨n-1,by omega⟩
 rcases h with rfl|⟨rfl,rfl⟩
 ·exact res_pred ..
 ·rfl
theorem Nils.res {ad:DV} (h:Nils ad) (tag:Bool) (hp:Heap) (n:Nat) (hn:20≤n):resolve tag hp n ad=some (.isl false 0 []):=by
 obtain ⟨m,rfl⟩:∃ m,n=m+1:=⟨n-1,by omega⟩
 rcases h with rfl|rfl
 ·rfl
 ·rfl
theorem rawO_res {to k tc td ic id:Int} {pd ad:DV} {p:Pred} (hp:Means pd p) (ha:Nils ad) (tag:Bool) (h:Heap) (n:Nat) (hn:21≤n):resolve tag h n (rawO to k tc td ic id pd ad)=some (eOut ⟨to,k,⟨tc,td⟩,⟨ic,id⟩,p⟩):=by
 obtain ⟨m,rfl⟩:∃ m,n=m+1:=⟨n-1,by omega⟩
 obtain ⟨q,rfl⟩:∃ q,m=q+1:=⟨m-1,by omega⟩
 have h1:=hp.res tag h (q+1) (by omega)
 have h2:=ha.res tag h (q+1) (by omega)
 unfold rawO eOut
 rw [res_agg]
 simp [h1,h2]
theorem RowR.one {to k tc td ic id:Int} {pd ad:DV} {p:Pred} (hp:Means pd p) (ha:Nils ad):RowR [rawO to k tc td ic id pd ad] [⟨to,k,⟨tc,td⟩,⟨ic,id⟩,p⟩] :=
 ⟨rfl,fun tag h n hn=>by simp only [List.mapM_cons,List.mapM_nil,rawO_res hp ha tag h n hn];rfl⟩
theorem plain_out (o:OutS):Flat 20 (eOut o)∧Unl 22 (eOut o):=⟨flat_cells (by
  intro x hx
  simp only [List.mem_cons,List.not_mem_nil,or_false]at hx
  rcases hx with rfl|rfl|rfl|rfl|rfl|rfl|rfl|rfl
  all_goals first|exact flat_int _ _|exact flat_eL false 5 eCons o.pred|exact fun t h m hm=>by obtain ⟨q,rfl,_⟩:=pos_of_le hm;rfl),unl_cells (by
  intro x hx
  simp only [List.mem_cons,List.not_mem_nil,or_false]at hx
  rcases hx with rfl|rfl|rfl|rfl|rfl|rfl|rfl|rfl
  all_goals first|exact (unl_int _ _).mono (by decide)|exact (unl_pred o.pred).mono (by decide)|exact fun n hn=>by obtain ⟨q,rfl,_⟩:=pos_of_le (k:=20) hn;simp [unlent])⟩
theorem out_res {lo:Nat} {h:Heap} {v:DV} {ety:Nat} {es:List DV} {os:List OutS} (w:OwnR lo h v ety 8 es) (r:RowR es os) (tag:Bool) {n:Nat} (hn:22≤n):resolve tag h n v=some (eL tag 8 eOut os):=by
 obtain ⟨m,rfl,hm⟩:=pos_of_le (k:=21) hn
 cases w with
 | nil hv hx =>
  subst hv;subst hx
  have:os=[]:=List.length_eq_zero_iff.1 r.1.symm
  subst this;rfl
 | arr id sp cap hv hg hl hi =>
  subst hv
  have hmm:=r.2 tag h m hm
  simp only [Dm.resolve,hg,true_and,Nat.zero_add,List.length_append,Nat.le_add_right,if_true,List.drop_zero,List.take_left,hmm]
  rfl
def toAll (near:List Int) (but k tc td ic id:Int) (p:Pred):List OutS:=(near.filter fun n=>!decide (n=but)).map fun n=>⟨n,k,⟨tc,td⟩,⟨ic,id⟩,p⟩
def rawAll (near:List Int) (but k tc td ic id:Int) (pd ad:DV):List DV:=(near.filter fun n=>!decide (n=but)).map fun n=>rawO n k tc td ic id pd ad
theorem rawAll_row {but k tc td ic id:Int} {pd ad:DV} {p:Pred} (hp:Means pd p) (ha:Nils ad):∀(near:List Int),RowR (rawAll near but k tc td ic id pd ad) (toAll near but k tc td ic id p)
 | []=>RowR.nil
 | x::r=>by
  have ih:=rawAll_row (but:=but) (k:=k) (tc:=tc) (td:=td) (ic:=ic) (id:=id) hp ha r
  unfold rawAll toAll at *
  by_cases hx:x=but
  ·simp only [List.filter_cons,hx,decide_true,Bool.not_true,Bool.false_eq_true,if_false];exact ih
  ·simp only [List.filter_cons,hx,decide_false,Bool.not_false,if_true,List.map_cons]
   exact RowR.append (RowR.one (to:=x) hp ha) ih
theorem l131 (t:Tags) (b:Broker) (but k tc td ic id:Int) (pd ad:DV) (N:Nat) (ta tb:Nat) (hl:b.near.length≤1000000) (h0:Heap) (g0:h0.get N=some (.arr ta 6 [eBroker t b] (some 1))) (g1:h0.get (N+1)=some (.arr tb 7 [.agg [.int .i64 k,.int .i64 tc,.int .i64 td,.int .i64 ic,.int .i64 id,pd,ad]] (some 1))) (hlm:h0.lim≤N) :
  ∀(rest:List Int) (i:Nat) (es:List DV) (v:DV) (f:FEnv) (h:Heap),b.near.drop i=rest→es.length≤i→f 1=.int .i64 but→f 3=.ptr N 6 0 0→f 5=.ptr (N+1) 7 0 0→f 7=v→f 11=eL t.near 1 cInt b.near→f 12=.int .i64 b.near.length→f 13=.int .i64 i→OwnR (N+2) h v 86 8 es→Ext (N+2) h0 h →
  ∃ v' h',fin [.t 6] (run D 28 [.block 0,.seq t131k0] (.loop t131l0) f h)=some (v',h')∧OwnR (N+2) h' v' 86 8 (es++rawAll rest but k tc td ic id pd ad)∧Ext (N+2) h0 h':=by
 intro rest
 induction rest with
 | nil =>
  intro i es v f h hd he h1 h3 h5 h7 h11 h12 h13 ho x
  have hi:=drop_nil hd
  have:¬(i<b.near.length):=by omega
  rw [run_loop_of t131l0.eq_1]
  simp [t131k0,h12,h13,this,h7]
  first
   | exact ⟨_,_,⟨rfl,rfl⟩,by simpa [rawAll] using ho,x⟩
   | exact ⟨by simpa [rawAll] using ho,x⟩
 | cons y rest ih =>
  intro i es v f h hd he h1 h3 h5 h7 h11 h12 h13 ho x
  obtain ⟨hi,he',hd'⟩:=drop_at hd
  have a0:=(x.get N (by omega)).trans g0
  have a1:=(x.get (N+1) (by omega)).trans g1
  rw [run_loop_of t131l0.eq_1]
  by_cases hy:y=but
  ·subst hy
   simp [h1,h3,h5,h7,h11,h12,h13,hi,he',cInt]
   rw [wrap64 (by omega) (by omega)]
   generalize hF:upd _ 13 _=F
   have hr:rawAll (y::rest) y k tc td ic id pd ad=rawAll rest y k tc td ic id pd ad:=by simp [rawAll]
   rw [hr]
   refine ih (i+1) es v F h hd' (by omega) ?_ ?_ ?_ ?_ ?_ ?_ ?_ ho x
   all_goals (rw [←hF];simp [h1,h3,h5,h7,h11,h12])
  ·simp [h1,h3,h5,h7,h11,h12,h13,hi,he',hy,a1,cInt]
   generalize hA:appendD _ _ _ _ _ _=A
   obtain ⟨v',K,rfl,p',x',_⟩:=OwnR.append (ho.push) (by simp [x.wf]) (by have:=x.le;simp;omega) (by have:=x.le;have:=x.lim;simp;omega) hA (by simp;omega) (by decide)
   clear hA
   simp [h13]
   rw [wrap64 (by omega) (by omega)]
   generalize hF:upd _ 13 _=F
   have hr:rawAll (y::rest) but k tc td ic id pd ad=rawO y k tc td ic id pd ad::rawAll rest but k tc td ic id pd ad:=by simp [rawAll,hy]
   obtain ⟨v2,K2,k1,k2,k3⟩:=ih (i+1) (es++[rawO y k tc td ic id pd ad]) v' F K hd' (by simp;omega) (by rw [←hF];simp [h1]) (by rw [←hF];simp [h3]) (by rw [←hF];simp [h5]) (by rw [←hF];simp) (by rw [←hF];simp [h11]) (by rw [←hF];simp [h12]) (by rw [←hF];simp) (by simpa [rawO] using p') (x.push.trans x')
   exact ⟨v2,K2,k1,by rw [hr];simpa using k2,k3⟩
theorem q131 {h:Heap} {A:Option (DV×Heap)} {t:Tags} {b:Broker} {but k tc td ic id:Int} {pd ad:DV} (hA:fc D 131 [eBroker t b,.int .i64 but,.agg [.int .i64 k,.int .i64 tc,.int .i64 td,.int .i64 ic,.int .i64 id,pd,ad]] h=A) (hl:b.near.length≤1000000) (wf:WF h) (hlim:h.lim≤h.n) :
  ∃ v' h',A=some (v',h')∧OwnR h.n h' v' 86 8 (rawAll b.near but k tc td ic id pd ad)∧Ext h.n h h':=by
 subst hA
 rw [e131,goRun_eq _ _ _ _ (by simp [t131])]
 simp [t131]
 generalize hF:upd _ 13 _=F
 generalize hH:Heap.push _ _=H0
 have hn:h.n+2≤H0.n:=by rw [←hH];simp
 have g0:H0.get h.n=some (.arr 29 6 [eBroker t b] (some 1)):=by rw [←hH];simp
 have g1:H0.get (h.n+1)=some (.arr 84 7 [.agg [.int .i64 k,.int .i64 tc,.int .i64 td,.int .i64 ic,.int .i64 id,pd,ad]] (some 1)):=by rw [←hH];simp
 have hw:WF H0:=by rw [←hH];simp [wf]
 have hm:H0.lim≤h.n:=by rw [←hH];simpa using hlim
 obtain ⟨v',h',k1,k2,k3⟩:=l131 t b but k tc td ic id pd ad h.n _ _ hl H0 g0 g1 hm b.near 0 [] .nsl F H0 rfl (by simp) (by rw [←hF];simp) (by rw [←hF];simp) (by rw [←hF];simp) (by rw [←hF];simp) (by rw [←hF];simp) (by rw [←hF];simp) (by rw [←hF];simp) (.nil rfl rfl) (.refl hn hw)
 refine ⟨v',h',k1,by simpa using k2.lower (by omega:h.n≤h.n+2),?_⟩
 have k4:=k3.lower (by omega:h.n≤h.n+2)
 refine ⟨k4.le,by rw [k4.lim,←hH];simp,fun id hid=>?_,k4.wf⟩
 rw [k4.get id hid,←hH]
 have e1:¬id=h.n:=by omega
 have e2:¬id=h.n+1:=by omega
 simp [e1,e2]
end Go.Dm.Tc
/-
What functions compute,part 35: an advertisement comes by a link.
-/
namespace Go.Dm.Tc
theorem s122 (tc td sc sd:Int) (p:Pred) (q:Int) (u:Bool):pcF D t122 [.agg [.int .i64 tc,.int .i64 td,.int .i64 sc,.int .i64 sd,ePred p,.int .i64 q,.bool u]]=some (.agg [.int .i64 3,.int .i64 tc,.int .i64 td,.int .i64 sc,.int .i64 sd,ePred p,.isl false 0 []]):=by
 unfold pcF
 rw [goRun_eq _ _ _ _ (by simp [t122])]
 simp [t122,turn]
structure ZL (b:Broker) (k:Nat):Prop where
 near:b.near.length≤100000
 adv:b.adverts.length≤100000
 seen:b.seen.length≤100000
 own:b.owns.length≤100000
 ent:b.entries.length+k≤100000
theorem ZL.sized {b:Broker} {k:Nat} (h:ZL b k):Sized b:=⟨h.near,h.adv,h.seen,by have:=h.ent;omega,h.own⟩
theorem ZL.less {b:Broker} {k m:Nat} (h:ZL b k) (hm:m≤k):ZL b m:=⟨h.near,h.adv,h.seen,h.own,by have:=h.ent;omega⟩
theorem addB_rows (b:Broker) (e:Entry):(addB b e).1.near=b.near∧(addB b e).1.adverts=b.adverts∧(addB b e).1.seen=b.seen∧(addB b e).1.owns=b.owns∧(addB b e).1.me=b.me∧(addB b e).1.entries.length≤b.entries.length+1:=by
 unfold addB
 split
 ·exact ⟨rfl,rfl,rfl,rfl,rfl,by simp only [insE_len];omega⟩
 ·exact ⟨rfl,rfl,rfl,rfl,rfl,by simp⟩
theorem ZL.add {b:Broker} {k:Nat} (h:ZL b (k+1)) (e:Entry):ZL (addB b e).1 k:=by
 obtain ⟨h1,h2,h3,h4,_,h5⟩:=addB_rows b e
 have:=h.ent
 exact ⟨by rw [h1];exact h.near,by rw [h2];exact h.adv,by rw [h3];exact h.seen,by rw [h4];exact h.own,by omega⟩
def advStep (frm:Int) (x:ID) (p:Pred) (st:Broker×List OutS) (o:OwnS):Broker×List OutS :=
 if meetsP o.pred p=true then ((addB st.1 ⟨x,o.id,o.pred,-1,false⟩).1,if (addB st.1 ⟨x,o.id,o.pred,-1,false⟩).2=true then st.2++[⟨frm,3,x,o.id,o.pred⟩] else st.2)
 else st
def advertiseB (b:Broker) (frm:Int) (x:ID) (p:Pred):Broker×List OutS :=
 if (learnB b ⟨x,p,frm⟩).2=true then b.owns.foldl (advStep frm x p) ((learnB b ⟨x,p,frm⟩).1,toAll b.near frm 1 x.client x.seq 0 0 p) else (b,[])
def zB:DV:=.agg [.int .i64 0,.nsl,.nsl,.nsl,.nsl,.nsl]
theorem l59 (xc xd frm:Int) (p:Pred) (hp:PredOk p) (t:Bool) (owns:List OwnS) (ho:∀o∈owns,PredOk o.pred) (hl:owns.length≤100000) (tx tb tn:Nat) :
  ∀(rest:List OwnS) (i:Nat) (nb:Broker) (outs:List OutS) (es:List DV) (v:DV) (f:FEnv) (h:Heap),owns.drop i=rest→InvK nb→ZL nb rest.length→RowR es outs→es.length+rest.length≤1000000 →
  f 1=.int .i64 frm→f 3=ePred p→f 6=.ptr 1 2 0 0→f 8=.ptr 2 6 0 0→f 4=.ptr 0 6 0 0→f 11=v→f 35=eL t 3 eOwn owns→f 36=.int .i64 owns.length→f 37=.int .i64 i →
  h.get 1=some (.arr tx 2 [.agg [.int .i64 xc,.int .i64 xd]] (some 1))→h.get 2=some (.arr tb 6 [zB] (some 1))→h.get 0=some (.arr tn 6 [eBroker .none nb] (some 1))→OwnR 3 h v 86 8 es→h.lim=0→3≤h.n→WF h →
  pcOut (fin [.cell 8 (some 6),.t 9] (run D 69 [.block 0,.seq t59k0] (.loop t59l0) f h))=some (.tup [eBroker .none (rest.foldl (advStep frm ⟨xc,xd⟩ p) (nb,outs)).1,eL false 8 eOut (rest.foldl (advStep frm ⟨xc,xd⟩ p) (nb,outs)).2]):=by
 intro rest
 induction rest with
 | nil =>
  intro i nb outs es v f h hd hi0 hz hr hes h1 h3 h6 h8 hB hO hW hL hI g1 g2 gB hv hlim hn wf
  have hi:=drop_nil hd
  have:¬(i<owns.length):=by omega
  have l2:2<h.n:=by omega
  have n2:¬0=2:=by decide
  have r1:=fun o=>out_res (hv.setLow (o:=o) wf (by decide:2<3) l2) hr false (n:=199) (by decide)
  have hu:unlent 199 (eL false 8 eOut outs)=true:=unl_eL (fun y _=>(plain_out y).2) 199 (by decide)
  rw [run_loop_of t59l0.eq_1]
  simp only [zB]at g2
  simp [t59k0,hL,hI,this,h8,hB,hO,gB,g2,hlim,l2,wf,turn,resultsOf,r1,hu]
 | cons o rest ih =>
  intro i nb outs es v f h hd hi0 hz hr hes h1 h3 h6 h8 hB hO hW hL hI g1 g2 gB hv hlim hn wf
  obtain ⟨hi,he,hd'⟩:=drop_at hd
  have hop:=ho o (by rw [←he];exact List.getElem_mem hi)
  obtain ⟨⟨oc,od⟩,op⟩:=o
  simp only at hop
  have hm:=s121 op p hop hp
  have hadd:=kRAdd hi0 hz.sized xc xd oc od hop (-1) false
  have hi1:=hi0.add (e:=⟨⟨xc,xd⟩,⟨oc,od⟩,op,-1,false⟩) (by simp [linkB]) hop
  have hz1:=hz.add ⟨⟨xc,xd⟩,⟨oc,od⟩,op,-1,false⟩
  obtain ⟨m,hmn⟩:∃ m,h.n=m+3:=⟨h.n-3,by omega⟩
  simp only [List.length_cons]at hes
  rw [run_loop_of t59l0.eq_1]
  simp only [List.foldl_cons]
  cases hq:meetsP op p with
  | false =>
   rw [hq]at hm
   have hst:advStep frm ⟨xc,xd⟩ p (nb,outs) ⟨⟨oc,od⟩,op⟩=(nb,outs):=by simp [advStep,hq]
   rw [hst]
   simp [hL,hI,hW,hi,he,eOwn,h3,hlim,wf,turn,e121,hm]
   rw [wrap64 (by omega) (by omega)]
   generalize hF:upd _ 37 _=F
   refine ih (i+1) nb outs es v F _ hd' hi0 (hz.less (by simp)) hr (by omega) ?_ ?_ ?_ ?_ ?_ ?_ ?_ ?_ ?_ ?_ ?_ ?_ hv.push ?_ ?_ ?_
   all_goals first
    | (rw [←hF];simp [h1,h3,h6,h8,hB,hO,hW,hL];done)
    | (simp [hmn,g1,g2,gB,hlim,wf];done)
    | (simp [hmn];omega)
  | true =>
   rw [hq]at hm
   cases hu:(addB nb ⟨⟨xc,xd⟩,⟨oc,od⟩,op,-1,false⟩).2 with
   | false =>
    rw [hu]at hadd
    have hst:advStep frm ⟨xc,xd⟩ p (nb,outs) ⟨⟨oc,od⟩,op⟩=((addB nb ⟨⟨xc,xd⟩,⟨oc,od⟩,op,-1,false⟩).1,outs):=by simp [advStep,hq,hu]
    rw [hst]
    simp [hL,hI,hW,hi,he,eOwn,h3,h6,hB,hmn,g1,gB,hlim,wf,turn,e121,hm,e37,hadd]
    rw [wrap64 (by omega) (by omega)]
    generalize hF:upd _ 37 _=F
    refine ih (i+1) _ outs es v F _ hd' hi1 hz1 hr (by omega) ?_ ?_ ?_ ?_ ?_ ?_ ?_ ?_ ?_ ?_ ?_ ?_ (((hv.setLow wf (by decide:0<3) (by omega)).push).push) ?_ ?_ ?_
    all_goals first
     | (rw [←hF];simp [h1,h3,h6,h8,hB,hO,hW,hL];done)
     | (simp [hmn,g1,g2,gB,hlim,wf];done)
     | (simp [hmn];omega)
   | true =>
    rw [hu]at hadd
    have hst:advStep frm ⟨xc,xd⟩ p (nb,outs) ⟨⟨oc,od⟩,op⟩=((addB nb ⟨⟨xc,xd⟩,⟨oc,od⟩,op,-1,false⟩).1,outs++[⟨frm,3,⟨xc,xd⟩,⟨oc,od⟩,op⟩]):=by simp [advStep,hq,hu]
    rw [hst]
    simp [hL,hI,hW,hi,he,eOwn,h1,h3,h6,hB,hO,hmn,g1,gB,hlim,wf,turn,e121,hm,e37,hadd,e122,s122]
    generalize hA:appendD _ _ _ _ _ _=A
    obtain ⟨v',K,rfl,p',x',_⟩:=OwnR.append ((((hv.setLow wf (by decide:0<3) (by omega)).push).push).push) (by simp [wf]) (by simp [hmn]<;>omega) (by simp [hlim]) hA (by simp;omega) (by decide)
    clear hA
    have a1:=x'.get 1 (by decide)
    have a2:=x'.get 2 (by decide)
    have aB:=x'.get 0 (by decide)
    have al:=x'.lim
    simp [hmn,g1,g2,gB,hlim,wf]at a1 a2 aB al
    have hr':=RowR.append hr (RowR.one (to:=frm) (k:=3) (tc:=xc) (td:=xd) (ic:=oc) (id:=od) (pd:=ePred op) (ad:=.isl false 0 []) (.inl rfl) (.inr rfl))
    simp [hI]
    rw [wrap64 (by omega) (by omega)]
    generalize hF:upd _ 37 _=F
    refine ih (i+1) _ _ _ v' F K hd' hi1 hz1 hr' (by simp;omega) ?_ ?_ ?_ ?_ ?_ ?_ ?_ ?_ ?_ a1 a2 aB (by simpa [rawO] using p') al x'.le x'.wf
    all_goals (rw [←hF];simp [h1,h3,h6,h8,hB,hO,hW,hL])
theorem s59 (b:Broker) (xc xd frm:Int) (p:Pred) (hi:InvK b) (hz:ZL b b.owns.length) (hp:PredOk p) (hf:linkB b frm=true) (hlow:b.adverts.length<100000∧b.seen.length<100000) :
  pcF D t59 [eBroker .none b,.int .i64 frm,.agg [.int .i64 xc,.int .i64 xd],ePred p]=some (.tup [eBroker .none (advertiseB b frm ⟨xc,xd⟩ p).1,eL false 8 eOut (advertiseB b frm ⟨xc,xd⟩ p).2]):=by
 have hlearn:pcF D t20 [eBroker .none b,.agg [.int .i64 xc,.int .i64 xd,ePred p,.int .i64 frm]]=some (.tup [eBroker .none (learnB b ⟨⟨xc,xd⟩,p,frm⟩).1,.bool (learnB b ⟨⟨xc,xd⟩,p,frm⟩).2]):=by
  first
   | exact kRLearn hi hz.sized xc xd p frm
   | exact kRLearn .none hi hz.sized xc xd p frm
 have hi1:=hi.learn (a:=⟨⟨xc,xd⟩,p,frm⟩) hf hp
 have hz1:ZL (learnB b ⟨⟨xc,xd⟩,p,frm⟩).1 b.owns.length:=by
  obtain ⟨h1,h2,h3,h4,h5⟩:=hz
  unfold learnB
  split
  ·exact ⟨h1,h2,h3,h4,h5⟩
  ·refine ⟨h1,?_,?_,h4,h5⟩
   ·have:=lowIdx_le (fun a:Advert=>cmpID a.id ⟨xc,xd⟩) b.adverts
    simp only [insAt,List.length_append,List.length_cons,List.length_take,List.length_drop];omega
   ·have:=lowIdx_le (fun a:ID=>cmpID a ⟨xc,xd⟩) b.seen
    simp only [insAt,List.length_append,List.length_cons,List.length_take,List.length_drop];omega
 unfold pcF
 rw [goRun_eq _ _ _ _ (by simp [t59])]
 cases hq:(learnB b ⟨⟨xc,xd⟩,p,frm⟩).2 with
 | false =>
  rw [hq]at hlearn
  have ha:advertiseB b frm ⟨xc,xd⟩ p=(b,[]):=by simp [advertiseB,hq]
  rw [ha]
  have hb:(learnB b ⟨⟨xc,xd⟩,p,frm⟩).1=b:=by
   unfold learnB at hq ⊢
   split at hq
   ·rename_i hs;rw [if_pos hs]
   ·cases hq
  rw [hb]at hlearn
  simp [t59,e20,hlearn,turn,resultsOf,eL_nil]
 | true =>
  rw [hq]at hlearn
  have ha:advertiseB b frm ⟨xc,xd⟩ p=b.owns.foldl (advStep frm ⟨xc,xd⟩ p) ((learnB b ⟨⟨xc,xd⟩,p,frm⟩).1,toAll b.near frm 1 xc xd 0 0 p):=by simp [advertiseB,hq]
  rw [ha]
  simp [t59,e20,hlearn,turn]
  generalize hA:fc D _ _ _=A
  obtain ⟨v1,K,rfl,o1,x1⟩:=q131 hA (Nat.le_trans hz1.near (by decide)) (by simp) (by simp)
  clear hA
  have hnear:(learnB b ⟨⟨xc,xd⟩,p,frm⟩).1.near=b.near:=by unfold learnB;split<;>rfl
  have howns:(learnB b ⟨⟨xc,xd⟩,p,frm⟩).1.owns=b.owns:=by unfold learnB;split<;>rfl
  have a0:=x1.get 0 (by simp)
  have a1:=x1.get 1 (by simp)
  have a2:=x1.get 2 (by simp)
  have aB:=x1.get 0 (by simp)
  have al:=x1.lim
  simp at a0 a1 a2 aB al o1
  simp [a0,aB,howns]
  generalize hF:upd _ 37 _=F
  have hrow:=rawAll_row (but:=frm) (k:=1) (tc:=xc) (td:=xd) (ic:=0) (id:=0) (pd:=ePred p) (ad:=.nsl) (.inl rfl) (.inl rfl) b.near
  have hlen:(rawAll b.near frm 1 xc xd 0 0 (ePred p) .nsl).length≤b.near.length:=by unfold rawAll;rw [List.length_map];exact List.length_filter_le ..
  have z1:=hz.near
  have z2:=hz.own
  try simp only [hnear]at o1
  refine l59 xc xd frm p hp false b.owns hi.po z2 _ _ _ b.owns 0 _ _ _ v1 F K rfl hi1 hz1 hrow (by omega) ?_ ?_ ?_ ?_ ?_ ?_ ?_ ?_ ?_ a1 a2 aB o1 al (by have:=x1.le;simpa using this) x1.wf
  all_goals first|(rw [←hF];simp;done)|(rw [←hF];simp [Tags.none])
end Go.Dm.Tc
/-
What functions compute,part 36: an advertisement taken back;a broker's side.
-/
namespace Go.Dm.Tc
theorem _root_.Go.Dm.OwnR.wl {lo:Nat} {h:Heap} {v:DV} {ety sz:Nat} {xs:List DV} (w:OwnR lo h v ety sz xs) {m:Nat} (hm:m≤lo):OwnR lo (Dm.wl h m) v ety sz xs:=by
 cases w with
 | nil hv hx=>exact .nil hv hx
 | arr id sp cap hv hg hl hi=>exact .arr id sp cap hv hg (Nat.le_trans hm hi) hi
def unadvertiseB (b:Broker) (frm:Int) (x:ID):Broker×List OutS :=
 if (forgetB b x frm).2=true then ((forgetB b x frm).1,toAll b.near frm 2 x.client x.seq 0 0 []) else (b,[])
theorem s58 (b:Broker) (xc xd frm:Int) (hi:InvK b) (hz:Sized b) :
  pcF D t58 [eBroker .none b,.int .i64 frm,.agg [.int .i64 xc,.int .i64 xd]]=some (.tup [eBroker .none (unadvertiseB b frm ⟨xc,xd⟩).1,eL false 8 eOut (unadvertiseB b frm ⟨xc,xd⟩).2]):=by
 have hf:pcF D t22 [eBroker .none b,.agg [.int .i64 xc,.int .i64 xd],.int .i64 frm]=some (.tup [eBroker .none (forgetB b ⟨xc,xd⟩ frm).1,.bool (forgetB b ⟨xc,xd⟩ frm).2]):=by
  first
   | exact kRForget hi hz xc xd frm
   | exact kRForget .none hi hz xc xd frm
 have hnear:(forgetB b ⟨xc,xd⟩ frm).1.near=b.near:=by
  unfold forgetB
  repeat' split
  all_goals rfl
 unfold pcF
 rw [goRun_eq _ _ _ _ (by simp [t58])]
 cases hq:(forgetB b ⟨xc,xd⟩ frm).2 with
 | false =>
  have ha:unadvertiseB b frm ⟨xc,xd⟩=(b,[]):=by simp [unadvertiseB,hq]
  have hb:(forgetB b ⟨xc,xd⟩ frm).1=b:=by
   unfold forgetB at hq ⊢
   split
   ·rfl
   ·rename_i a he
    rw [he]at hq
    simp only at hq
    split
    ·rename_i hs;rw [if_pos hs]at hq;cases hq
    ·rfl
  rw [hq,hb]at hf
  rw [ha]
  simp [t58,e22,hf,turn,resultsOf,eL_nil]
 | true =>
  have ha:unadvertiseB b frm ⟨xc,xd⟩=((forgetB b ⟨xc,xd⟩ frm).1,toAll b.near frm 2 xc xd 0 0 []):=by simp [unadvertiseB,hq]
  rw [hq]at hf
  rw [ha]
  simp [t58,e22,hf,turn,resultsOf]
  generalize hA:fc D _ _ _=A
  obtain ⟨v1,K,rfl,o1,x1⟩:=q131 hA (by have:=hz.near;first|omega|(rw [hnear];omega)) (by simp) (by simp)
  clear hA
  have a0:=x1.get 0 (by simp)
  have a1:=x1.get 1 (by simp)
  have a2:=x1.get 2 (by simp)
  have al:=x1.lim
  simp at a0 a1 a2 al o1
  try simp only [hnear]at o1
  have hrow:=rawAll_row (but:=frm) (k:=2) (tc:=xc) (td:=xd) (ic:=0) (id:=0) (pd:=.nsl) (ad:=.nsl) (p:=[]) (.inr ⟨rfl,rfl⟩) (.inl rfl) b.near
  have hn:=x1.le
  simp at hn
  have l2:2<K.n:=by omega
  have r1:∀o,resolve false (Dm.wl (K.set 2 o) 0) 199 v1=some (eL false 8 eOut (toAll b.near frm 2 xc xd 0 0 [])):=fun o=>out_res ((o1.setLow (o:=o) x1.wf (by decide) l2).wl (Nat.zero_le _)) hrow false (by decide)
  have hu:unlent 199 (eL false 8 eOut (toAll b.near frm 2 xc xd 0 0 []))=true:=unl_eL (fun y _=>(plain_out y).2) 199 (by decide)
  simp [a0,a1,a2,al,l2,x1.wf,turn,resultsOf,r1,hu]
end Go.Dm.Tc
/-
What the reference's functions compute,part 12: a client of the broker's subscribes.
-/
namespace Go.Dm.Tc
def subOwn (b:Broker) (x:ID) (p:Pred):Broker:={b with owns:=insAt (fun o=>o.id) ⟨x,p⟩ b.owns}
def subStep (x:ID) (p:Pred) (st:Broker×List OutS) (a:Advert):Broker×List OutS :=
 if meetsP p a.pred=true then ((addB st.1 ⟨a.id,x,p,-1,false⟩).1,if (addB st.1 ⟨a.id,x,p,-1,false⟩).2=true then st.2++[⟨a.parent,3,a.id,x,p⟩] else st.2)
 else st
def subscribeB (b:Broker) (x:ID) (p:Pred):Broker×List OutS :=
 if hitAt (fun o:OwnS=>cmpID o.id x) b.owns=true then (b,[]) else b.adverts.foldl (subStep x p) (subOwn b x p,[])
theorem l46 (xc xd:Int) (p:Pred) (hp:PredOk p) (t:Bool) (advs:List Advert) (ho:∀o∈advs,PredOk o.pred) (hl:advs.length≤100000) (tx tb tn:Nat) :
  ∀(rest:List Advert) (i:Nat) (nb:Broker) (outs:List OutS) (es:List DV) (v:DV) (f:FEnv) (h:Heap),advs.drop i=rest→InvK nb→ZL nb rest.length→RowR es outs→es.length+rest.length≤1000000 →
  f 2=ePred p→f 3=.ptr 0 6 0 0→f 4=.ptr 1 2 0 0→f 6=.ptr 2 6 0 0→f 9=v→f 65=eL t 4 eAdvert advs→f 66=.int .i64 advs.length→f 67=.int .i64 i →
  h.get 1=some (.arr tx 2 [.agg [.int .i64 xc,.int .i64 xd]] (some 1))→h.get 2=some (.arr tb 6 [zB] (some 1))→h.get 0=some (.arr tn 6 [eBroker .none nb] (some 1))→OwnR 3 h v 86 8 es→h.lim=0→3≤h.n→WF h →
  pcOut (fin [.cell 6 (some 6),.t 7] (run D 99 [.block 2,.seq t46k0] (.loop t46l1) f h))=some (.tup [eBroker .none (rest.foldl (subStep ⟨xc,xd⟩ p) (nb,outs)).1,eL false 8 eOut (rest.foldl (subStep ⟨xc,xd⟩ p) (nb,outs)).2]):=by
 intro rest
 induction rest with
 | nil =>
  intro i nb outs es v f h hd hi0 hz hr hes h2 h3 h4 h6 h9 hW hL hI g1 g2 gB hv hlim hn wf
  have hi:=drop_nil hd
  have:¬(i<advs.length):=by omega
  have l2:2<h.n:=by omega
  have r1:=fun o=>out_res (hv.setLow (o:=o) wf (by decide:2<3) l2) hr false (n:=199) (by decide)
  have hu:unlent 199 (eL false 8 eOut outs)=true:=unl_eL (fun y _=>(plain_out y).2) 199 (by decide)
  rw [run_loop_of t46l1.eq_1]
  simp only [zB]at g2
  simp [t46k0,hL,hI,this,h3,h6,h9,gB,g2,hlim,l2,wf,turn,resultsOf,r1,hu]
 | cons o rest ih =>
  intro i nb outs es v f h hd hi0 hz hr hes h2 h3 h4 h6 h9 hW hL hI g1 g2 gB hv hlim hn wf
  obtain ⟨hi,he,hd'⟩:=drop_at hd
  have hop:=ho o (by rw [←he];exact List.getElem_mem hi)
  obtain ⟨⟨oc,od⟩,op,oq⟩:=o
  simp only at hop
  have hm:=s121 p op hp hop
  have hadd:=kRAdd hi0 hz.sized oc od xc xd hp (-1) false
  have hi1:=hi0.add (e:=⟨⟨oc,od⟩,⟨xc,xd⟩,p,-1,false⟩) (by simp [linkB]) hp
  have hz1:=hz.add ⟨⟨oc,od⟩,⟨xc,xd⟩,p,-1,false⟩
  obtain ⟨m,hmn⟩:∃ m,h.n=m+3:=⟨h.n-3,by omega⟩
  simp only [List.length_cons]at hes
  rw [run_loop_of t46l1.eq_1]
  simp only [List.foldl_cons]
  cases hq:meetsP p op with
  | false =>
   rw [hq]at hm
   have hst:subStep ⟨xc,xd⟩ p (nb,outs) ⟨⟨oc,od⟩,op,oq⟩=(nb,outs):=by simp [subStep,hq]
   rw [hst]
   simp [hL,hI,hW,hi,he,eAdvert,h2,hlim,wf,turn,e121,hm]
   rw [wrap64 (by omega) (by omega)]
   generalize hF:upd _ 67 _=F
   refine ih (i+1) nb outs es v F _ hd' hi0 (hz.less (by simp)) hr (by omega) ?_ ?_ ?_ ?_ ?_ ?_ ?_ ?_ ?_ ?_ ?_ hv.push ?_ ?_ ?_
   all_goals first
    | (rw [←hF];simp [h2,h3,h4,h6,h9,hW,hL];done)
    | (simp [hmn,g1,g2,gB,hlim,wf];done)
    | (simp [hmn]<;>omega)
  | true =>
   rw [hq]at hm
   cases hu:(addB nb ⟨⟨oc,od⟩,⟨xc,xd⟩,p,-1,false⟩).2 with
   | false =>
    rw [hu]at hadd
    have hst:subStep ⟨xc,xd⟩ p (nb,outs) ⟨⟨oc,od⟩,op,oq⟩=((addB nb ⟨⟨oc,od⟩,⟨xc,xd⟩,p,-1,false⟩).1,outs):=by simp [subStep,hq,hu]
    rw [hst]
    simp [hL,hI,hW,hi,he,eAdvert,h2,h3,h4,hmn,g1,gB,hlim,wf,turn,e121,hm,e37,hadd]
    rw [wrap64 (by omega) (by omega)]
    generalize hF:upd _ 67 _=F
    refine ih (i+1) _ outs es v F _ hd' hi1 hz1 hr (by omega) ?_ ?_ ?_ ?_ ?_ ?_ ?_ ?_ ?_ ?_ ?_ (((hv.setLow wf (by decide:0<3) (by omega)).push).push) ?_ ?_ ?_
    all_goals first
     | (rw [←hF];simp [h2,h3,h4,h6,h9,hW,hL];done)
     | (simp [hmn,g1,g2,gB,hlim,wf];done)
     | (simp [hmn]<;>omega)
   | true =>
    rw [hu]at hadd
    have hst:subStep ⟨xc,xd⟩ p (nb,outs) ⟨⟨oc,od⟩,op,oq⟩=((addB nb ⟨⟨oc,od⟩,⟨xc,xd⟩,p,-1,false⟩).1,outs++[⟨oq,3,⟨oc,od⟩,⟨xc,xd⟩,p⟩]):=by simp [subStep,hq,hu]
    rw [hst]
    simp [hL,hI,hW,hi,he,eAdvert,h2,h3,h4,h9,hmn,g1,gB,hlim,wf,turn,e121,hm,e37,hadd,e122,s122]
    generalize hA:appendD _ _ _ _ _ _=A
    obtain ⟨v',K,rfl,p',x',_⟩:=OwnR.append ((((hv.setLow wf (by decide:0<3) (by omega)).push).push).push) (by simp [wf]) (by simp [hmn]<;>omega) (by simp [hlim]) hA (by simp;omega) (by decide)
    clear hA
    have a1:=x'.get 1 (by decide)
    have a2:=x'.get 2 (by decide)
    have aB:=x'.get 0 (by decide)
    have al:=x'.lim
    simp [hmn,g1,g2,gB,hlim,wf]at a1 a2 aB al
    have hr':=RowR.append hr (RowR.one (to:=oq) (k:=3) (tc:=oc) (td:=od) (ic:=xc) (id:=xd) (pd:=ePred p) (ad:=.isl false 0 []) (.inl rfl) (.inr rfl))
    simp [hI]
    rw [wrap64 (by omega) (by omega)]
    generalize hF:upd _ 67 _=F
    refine ih (i+1) _ _ _ v' F K hd' hi1 hz1 hr' (by simp;omega) ?_ ?_ ?_ ?_ ?_ ?_ ?_ ?_ a1 a2 aB (by simpa [rawO] using p') al x'.le x'.wf
    all_goals (rw [←hF];simp [h2,h3,h4,h6,h9,hW,hL])
end Go.Dm.Tc
/-
What the reference's functions compute,part 13: a client of the broker's subscribes,with its row still written.
-/
namespace Go.Dm.Tc
theorem fr_own {lo:Nat} {h:Heap} {i ety:Nat} {os:List OwnS} {n:Nat} (o:OwnI lo h i ety 3 (os.map eOwn)) (hn:n=os.length):freeze h (.sl i 3 0 n)=some (eL false 3 eOwn os,h.set i .dead):=by
 subst hn
 obtain ⟨⟨sp,cap,hg⟩,hl,_⟩:=o
 have hb:(List.take os.length (List.map eOwn os++sp)).all (below 200 0)=true:=by
  rw [List.take_left' (by simp),List.all_eq_true]
  intro x hx
  obtain ⟨y,_,rfl⟩:=List.mem_map.1 hx
  exact (dep_own y).belowN (by decide)
 simp only [freeze,hg,hl,List.drop_zero,hb,List.length_append,List.length_map,Nat.zero_add,Nat.le_add_right,and_self,if_true]
 rw [List.take_left' (by simp)]
 cases os<;>rfl
theorem n46 (xc xd:Int) (p:Pred) (hp:PredOk p) (t:Bool) (advs:List Advert) (ho:∀o∈advs,PredOk o.pred) (hl:advs.length≤100000) (tx tb tn:Nat) (nb:Broker) (hi0:InvK nb) (iw:Nat) :
  ∀(rest:List Advert) (i:Nat) (f:FEnv) (h:Heap),advs.drop i=rest→ZL nb rest.length →
  f 2=ePred p→f 3=.ptr 0 6 0 0→f 4=.ptr 1 2 0 0→f 6=.ptr 2 6 0 0→f 9=.nsl→f 65=eL t 4 eAdvert advs→f 66=.int .i64 advs.length→f 67=.int .i64 i →
  h.get 1=some (.arr tx 2 [.agg [.int .i64 xc,.int .i64 xd]] (some 1))→h.get 2=some (.arr tb 6 [zB] (some 1)) →
  h.get 0=some (.arr tn 6 [.agg [.int .i64 nb.me,eL false 1 cInt nb.near,eL false 4 eAdvert nb.adverts,eL false 2 eID nb.seen,eL false 7 eEntry nb.entries,.sl iw 3 0 nb.owns.length]] (some 1))→OwnI 3 h iw 60 3 (nb.owns.map eOwn)→h.lim=0→3≤h.n→WF h →
  pcOut (fin [.cell 6 (some 6),.t 7] (run D 99 [.block 2,.seq t46k0] (.loop t46l1) f h))=some (.tup [eBroker .none (rest.foldl (subStep ⟨xc,xd⟩ p) (nb,[])).1,eL false 8 eOut (rest.foldl (subStep ⟨xc,xd⟩ p) (nb,[])).2]):=by
 intro rest
 induction rest with
 | nil =>
  intro i f h hd hz h2 h3 h4 h6 h9 hW hL hI g1 g2 gB hv hlim hn wf
  have hi:=drop_nil hd
  have:¬(i<advs.length):=by omega
  have l2:2<h.n:=by omega
  have r1:∀o,resolve false (h.set 2 o) 198 (.sl iw 3 0 nb.owns.length)=some (eL false 3 eOwn nb.owns):=fun o=>by
   have:=(hv.setLow (o:=o) wf (by decide:2<3) l2).toR.resolve (n:=198) false (fun y _=>(plain_own y).1) (by decide)
   simpa using this
  have hu:=ul_owns 174 nb.owns
  rw [run_loop_of t46l1.eq_1]
  simp only [zB]at g2
  simp [t46k0,hL,hI,this,h3,h6,h9,gB,g2,hlim,l2,wf,turn,resultsOf,r1]
  exact ⟨rfl,rfl⟩
 | cons o rest ih =>
  intro i f h hd hz h2 h3 h4 h6 h9 hW hL hI g1 g2 gB hv hlim hn wf
  obtain ⟨hi,he,hd'⟩:=drop_at hd
  have hop:=ho o (by rw [←he];exact List.getElem_mem hi)
  obtain ⟨⟨oc,od⟩,op,oq⟩:=o
  simp only at hop
  have hm:=s121 p op hp hop
  have hadd:=kRAdd hi0 hz.sized oc od xc xd hp (-1) false
  have hi1:=hi0.add (e:=⟨⟨oc,od⟩,⟨xc,xd⟩,p,-1,false⟩) (by simp [linkB]) hp
  have hz1:=hz.add ⟨⟨oc,od⟩,⟨xc,xd⟩,p,-1,false⟩
  obtain ⟨m,hmn⟩:∃ m,h.n=m+3:=⟨h.n-3,by omega⟩
  have hil:=hv.lt
  have hi3:=hv.lo
  have k0:¬iw=0:=by omega
  have k1:¬iw=1:=by omega
  have k2:¬iw=2:=by omega
  have k0':¬0=iw:=by omega
  have k1':¬1=iw:=by omega
  have k2':¬2=iw:=by omega
  have k3:¬iw=m+3:=by omega
  have k4:¬iw=m+3+1:=by omega
  have k5:iw<m+3:=by omega
  have k6:iw<m+3+1:=by omega
  have hfr:∀o1 o2,freeze ((h.push o1).push o2) (.sl iw 3 0 nb.owns.length)=some (eL false 3 eOwn nb.owns,((h.push o1).push o2).set iw .dead):=fun o1 o2=>fr_own (hv.push.push) rfl
  have hbb:DV.agg [.int .i64 nb.me,eL false 1 cInt nb.near,eL false 4 eAdvert nb.adverts,eL false 2 eID nb.seen,eL false 7 eEntry nb.entries,eL false 3 eOwn nb.owns]=eBroker .none nb:=rfl
  rw [run_loop_of t46l1.eq_1]
  simp only [List.foldl_cons]
  cases hq:meetsP p op with
  | false =>
   rw [hq]at hm
   have hst:subStep ⟨xc,xd⟩ p (nb,[]) ⟨⟨oc,od⟩,op,oq⟩=(nb,[]):=by simp [subStep,hq]
   rw [hst]
   simp [hL,hI,hW,hi,he,eAdvert,h2,hlim,wf,turn,e121,hm]
   rw [wrap64 (by omega) (by omega)]
   generalize hF:upd _ 67 _=F
   refine ih (i+1) F _ hd' (hz.less (by simp)) ?_ ?_ ?_ ?_ ?_ ?_ ?_ ?_ ?_ ?_ ?_ hv.push ?_ ?_ ?_
   all_goals first
    | (rw [←hF];simp [h2,h3,h4,h6,h9,hW,hL];done)
    | (simp [hmn,g1,g2,gB,hlim,wf];done)
    | (simp [hmn]<;>omega)
  | true =>
   rw [hq]at hm
   cases hu:(addB nb ⟨⟨oc,od⟩,⟨xc,xd⟩,p,-1,false⟩).2 with
   | false =>
    rw [hu]at hadd
    have hst:subStep ⟨xc,xd⟩ p (nb,[]) ⟨⟨oc,od⟩,op,oq⟩=((addB nb ⟨⟨oc,od⟩,⟨xc,xd⟩,p,-1,false⟩).1,[]):=by simp [subStep,hq,hu]
    rw [hst]
    simp [hL,hI,hW,hi,he,eAdvert,h2,h3,h4,hmn,g1,gB,hlim,wf,turn,e121,hm,e37,hfr,hbb,hadd,k0,k1,k2,k0',k1',k2',k3,k4,k5,k6]
    rw [wrap64 (by omega) (by omega)]
    generalize hF:upd _ 67 _=F
    refine l46 xc xd p hp t advs ho hl tx tb tn rest (i+1) _ [] [] .nsl F _ hd' hi1 hz1 RowR.nil (by have:=hz.ent;simp at this ⊢;omega) ?_ ?_ ?_ ?_ ?_ ?_ ?_ ?_ ?_ ?_ ?_ (.nil rfl rfl) ?_ ?_ ?_
    all_goals first
     | (rw [←hF];simp [h2,h3,h4,h6,h9,hW,hL];done)
     | (simp [hmn,g1,g2,gB,hlim,wf,k0,k1,k2,k0',k1',k2',k3,k4,k5,k6];done)
     | (simp [hmn]<;>omega)
   | true =>
    rw [hu]at hadd
    have hst:subStep ⟨xc,xd⟩ p (nb,[]) ⟨⟨oc,od⟩,op,oq⟩=((addB nb ⟨⟨oc,od⟩,⟨xc,xd⟩,p,-1,false⟩).1,[⟨oq,3,⟨oc,od⟩,⟨xc,xd⟩,p⟩]):=by simp [subStep,hq,hu]
    rw [hst]
    simp [hL,hI,hW,hi,he,eAdvert,h2,h3,h4,h9,hmn,g1,gB,hlim,wf,turn,e121,hm,e37,hfr,hbb,hadd,k0,k1,k2,k0',k1',k2',k3,k4,k5,k6,e122,s122]
    generalize hA:appendD _ _ _ _ _ _=A
    obtain ⟨v',K,rfl,p',x',_⟩:=OwnR.append (lo:=3) (OwnR.start 3 _ 86 8) (by simp [wf]) (by simp [hmn]<;>omega) (by simp [hlim]) hA (by simp) (by decide)
    clear hA
    have a1:=x'.get 1 (by decide)
    have a2:=x'.get 2 (by decide)
    have aB:=x'.get 0 (by decide)
    have al:=x'.lim
    simp [hmn,g1,g2,gB,hlim,wf,k0,k1,k2,k0',k1',k2',k3,k4,k5,k6]at a1 a2 aB al
    have hr':=RowR.one (to:=oq) (k:=3) (tc:=oc) (td:=od) (ic:=xc) (id:=xd) (pd:=ePred p) (ad:=.isl false 0 []) (.inl rfl) (.inr rfl)
    simp [hI]
    rw [wrap64 (by omega) (by omega)]
    generalize hF:upd _ 67 _=F
    refine l46 xc xd p hp t advs ho hl tx tb tn rest (i+1) _ _ _ v' F K hd' hi1 hz1 hr' (by have:=hz.ent;simp at this;simp;omega) ?_ ?_ ?_ ?_ ?_ ?_ ?_ ?_ a1 a2 aB (by simpa [rawO] using p') al x'.le x'.wf
    all_goals (rw [←hF];simp [h2,h3,h4,h6,h9,hW,hL])
end Go.Dm.Tc
/-
What the reference's functions compute,part 14: a client of the broker's subscribes,all of it.
-/
namespace Go.Dm.Tc
theorem o46 (S:List Fr) (h:Heap) (x0 x1 x2 x3 x4:DV) (t:Bool) (l:List OwnS) (c d:Int) (ta tb:Nat) (hl:l.length≤1000000)
  (g0:h.get 0=some (.arr tb 6 [.agg [x0,x1,x2,x3,x4,eL t 3 eOwn l]] (some 1))) (g1:h.get 1=some (.arr ta 2 [.agg [.int .i64 c,.int .i64 d]] (some 1))) :
  ∀(n i:Nat) (f:FEnv),lowIdx (fun b=>cmpID b.id ⟨c,d⟩) l-i=n→i≤lowIdx (fun b=>cmpID b.id ⟨c,d⟩) l→f 3=.ptr 0 6 0 0→f 4=.ptr 1 2 0 0→f 8=.int .i64 i →
  ∃ f',run D 99 (.block 0::.seq t46k1::S) (.loop t46l0) f h=run D 99 S t46k1 f' h∧f' 3=.ptr 0 6 0 0∧f' 4=.ptr 1 2 0 0∧f' 2=f 2∧f' 6=f 6∧f' 8=.int .i64 (lowIdx (fun b=>cmpID b.id ⟨c,d⟩) l):=by
 intro n
 induction n with
 | zero =>
  intro i f hn hi h2 h3 h6
  have hlo:lowIdx (fun b=>cmpID b.id ⟨c,d⟩) l=i:=by omega
  rw [run_loop_of t46l0.eq_1]
  by_cases hlt:i<l.length
  ·have hsx:=low_step (fun b:OwnS=>cmpID b.id ⟨c,d⟩) hi (List.getElem?_eq_getElem hlt)
   have hge:ltID ⟨l[i].id.client,l[i].id.seq⟩ ⟨c,d⟩=false:=by
    unfold ltID
    simp only [decide_eq_false_iff_not]
    intro hc
    have:=hsx.1 hc
    omega
   simp [h2,h3,h6,g0,g1,hlt,eOwn,e76,s76,hge]
   exact ⟨_,rfl,by simp [h2],by simp [h3],by simp,by simp,by simp [h6,hlo]⟩
  ·simp [h2,h3,h6,g0,g1,hlt]
   exact ⟨_,rfl,by simp [h2],by simp [h3],by simp,by simp,by simp [h6,hlo]⟩
 | succ n ih =>
  intro i f hn hi h2 h3 h6
  have hlt:i<l.length:=by have:=lowIdx_le (fun b:OwnS=>cmpID b.id ⟨c,d⟩) l;omega
  have hge:ltID ⟨l[i].id.client,l[i].id.seq⟩ ⟨c,d⟩=true:=low_lt (fun b:OwnS=>cmpID b.id ⟨c,d⟩) (by omega) (List.getElem?_eq_getElem hlt)
  rw [run_loop_of t46l0.eq_1]
  simp [h2,h3,h6,g0,g1,hlt,eOwn,e76,s76,hge]
  rw [wrap64 (by omega) (by omega)]
  generalize hF:upd _ 8 _=F
  obtain ⟨f',k1,k2,k3,k4,k5,k6⟩:=ih (i+1) F (by omega) (by omega) (by rw [←hF];simp [h2]) (by rw [←hF];simp [h3]) (by rw [←hF];simp)
  exact ⟨f',k1,k2,k3,by rw [k4,←hF];simp,by rw [k5,←hF];simp,k6⟩
theorem insAt_len {α:Type} (key:α→ID) (a:α) (l:List α):(insAt key a l).length=l.length+1:=by
 unfold insAt
 have:=lowIdx_le (fun b=>cmpID (key b) (key a)) l
 simp only [List.length_append,List.length_cons,List.length_take,List.length_drop]
 omega
theorem hit_own {l:List OwnS} (hr:Rising (l.map (·.id))) (x:ID):hitAt (fun o:OwnS=>cmpID o.id x) l=false→∀o∈l,o.id≠x:=by
 intro hh o ho
 have hf:=hit_find (fun a:OwnS=>a.id) hr x
 cases hq:l.find? (fun b=>decide (b.id=x)) with
 | none=>exact (find_key_none (fun a:OwnS=>a.id) x).1 hq o ho
 | some a=>rw [hq]at hf;rw [hf.1]at hh;cases hh
theorem InvK.subOwn {b:Broker} (h:InvK b) {x:ID} {p:Pred} (hp:PredOk p) (hn:∀o∈b.owns,o.id≠x):InvK (subOwn b x p):=by
 obtain ⟨h1,h2,h3,h4,h5,h6,h7,h8,h9,h10,h11,h12,h13⟩:=h
 refine ⟨h1,h2,h3,h4,ins_rising (fun o:OwnS=>o.id) ⟨x,p⟩ h5 hn,h6,h7,h8,h9,?_,h11,h12,h13⟩
 intro o ho
 unfold Tc.subOwn insAt at ho
 simp only at ho
 rcases List.mem_append.1 ho with h|h
 ·exact h10 o (List.mem_of_mem_take h)
 ·rcases List.mem_cons.1 h with rfl|h
  ·exact hp
  ·exact h10 o (List.mem_of_mem_drop h)
set_option maxRecDepth 8000 in
theorem s46 (b:Broker) (xc xd:Int) (p:Pred) (hi:InvK b) (hz:ZL b b.adverts.length) (hp:PredOk p) (ho:b.owns.length<100000) :
  pcF D t46 [eBroker .none b,.agg [.int .i64 xc,.int .i64 xd],ePred p]=some (.tup [eBroker .none (subscribeB b ⟨xc,xd⟩ p).1,eL false 8 eOut (subscribeB b ⟨xc,xd⟩ p).2]):=by
 unfold pcF
 rw [goRun_eq _ _ _ _ (by simp [t46])]
 obtain ⟨me,near,adv,seen,ent,own⟩:=b
 simp [t46]
 generalize hF:upd _ 8 _=F
 generalize hH:Heap.push _ _=H
 simp only at ho
 obtain ⟨f',k1,k2,k3,k4,k5,k6⟩:=o46 [] H (.int .i64 me) (eL false 1 cInt near) (eL false 4 eAdvert adv) (eL false 2 eID seen) (eL false 7 eEntry ent) false own xc xd _ _ (by omega) (by rw [←hH];simp [eBroker,Tags.none];rfl) (by rw [←hH];simp;rfl) _ 0 F rfl (Nat.zero_le _) (by rw [←hF];simp) (by rw [←hF];simp) (by rw [←hF];simp)
 rw [k1]
 have g0:H.get 0=some (.arr 29 6 [.agg [.int .i64 me,eL false 1 cInt near,eL false 4 eAdvert adv,eL false 2 eID seen,eL false 7 eEntry ent,eL false 3 eOwn own]] (some 1)):=by rw [←hH];simp [eBroker,Tags.none]
 have g1:H.get 1=some (.arr 37 2 [.agg [.int .i64 xc,.int .i64 xd]] (some 1)):=by rw [←hH];simp
 have g2:H.get 2=some (.arr 29 6 [.agg [.int .i64 0,.nsl,.nsl,.nsl,.nsl,.nsl]] (some 1)):=by rw [←hH];simp
 have hn3:H.n=3:=by rw [←hH];simp
 have hlim:H.lim=0:=by rw [←hH];simp
 have wf:WF H:=by rw [←hH];simp
 have q2:f' 2=ePred p:=by rw [k4,←hF];simp
 have q6:f' 6=.ptr 2 6 0 0:=by rw [k5,←hF];simp
 clear k1 hH hF k4 k5
 have hlow:=lowIdx_le (fun b:OwnS=>cmpID b.id ⟨xc,xd⟩) own
 cases hh:hitAt (fun o:OwnS=>cmpID o.id ⟨xc,xd⟩) own with
 | true =>
  have ha:subscribeB ⟨me,near,adv,seen,ent,own⟩ ⟨xc,xd⟩ p=(⟨me,near,adv,seen,ent,own⟩,[]):=by simp only [subscribeB,hh,if_true]
  rw [ha]
  unfold hitAt at hh
  split at hh
  ·rename_i o hox
   have hlt:=(List.getElem?_eq_some_iff.1 hox).1
   have hoe:=(List.getElem?_eq_some_iff.1 hox).2
   have hid:o.id=⟨xc,xd⟩:=by have:=of_decide_eq_true hh;exact cmpID_eq.1 this
   have c1:o.id.client=xc:=by rw [hid]
   have c2:o.id.seq=xd:=by rw [hid]
   simp [t46k1,k2,k3,k6,q6,g0,g1,g2,hlt,hoe,eOwn,c1,c2,hlim,hn3,wf,turn,resultsOf]
   exact ⟨rfl,rfl⟩
  ·cases hh
 | false =>
  have ha:subscribeB ⟨me,near,adv,seen,ent,own⟩ ⟨xc,xd⟩ p=adv.foldl (subStep ⟨xc,xd⟩ p) (subOwn ⟨me,near,adv,seen,ent,own⟩ ⟨xc,xd⟩ p,[]):=by simp only [subscribeB,hh];rfl
  rw [ha]
  have hno:=hit_own hi.ro ⟨xc,xd⟩ hh
  have hinv:=hi.subOwn hp hno
  have hkey:∀(hlt:lowIdx (fun b:OwnS=>cmpID b.id ⟨xc,xd⟩) own<own.length),¬(own[lowIdx (fun b:OwnS=>cmpID b.id ⟨xc,xd⟩) own].id.client=xc∧own[lowIdx (fun b:OwnS=>cmpID b.id ⟨xc,xd⟩) own].id.seq=xd):=fun hlt hc=>hno _ (List.getElem_mem hlt) (ID.ext'.2 hc)
  generalize hkk:lowIdx (fun b:OwnS=>cmpID b.id ⟨xc,xd⟩) own=k at *
  have hmin:min k own.length=k:=by omega
  have ofr:OwnI 3 (H.push (.arr 60 3 [] (some 0))) 3 60 3 []:=by have:=OwnI.fresh (lo:=3) (h:=H) (ety:=60) (sz:=3) (xs:=[]) (cap:=some 0) (by omega) (by omega);rw [hn3]at this;exact this
  by_cases hlt:k<own.length
  have hk0:=hkey hlt
  simp [t46k1,k2,k3,k6,q2,g0,g1,g2,hlt,hlow,eOwn,hk0,hlim,hn3,wf,turn]
  rotate_left
  simp [t46k1,k2,k3,k6,q2,g0,g1,g2,hlt,hlow,eOwn,hlim,hn3,wf,turn]
  all_goals
   generalize hA:appendD _ _ _ _ _ _=A
   obtain ⟨i1,K1,rfl,o1,x1,y1,j1⟩:=ofr.append (n:=0) rfl wf.push (by simp;omega) (by simp [hlim]) hA (by simp;omega) (by decide)
   clear hA
   have a0:=x1.get 0 (by decide)
   have a1:=x1.get 1 (by decide)
   have a2:=x1.get 2 (by decide)
   have q1:=x1.lim
   have w1:=x1.wf
   have n1:=x1.le
   have u1:=o1.lo
   have m0:¬0=i1:=by omega
   have m1:¬i1=0:=by omega
   have m2:¬i1=1:=by omega
   have m3:¬1=i1:=by omega
   simp [g0,g1,g2,hn3,hlim]at a0 a1 a2 q1 o1
   simp [k2,k3,q2,g0,g1,a0,a1,a2,q1,w1,m0,m1,m2,m3,hlow,hn3]
   generalize hA:appendD _ _ _ _ _ _=A
   obtain ⟨i2,K2,rfl,o2,x2,y2,j2⟩:=(o1.push (o:=_)).append (by simp [hlow]) (by simp [w1]) (by simp;omega) (by simp [q1]) hA (by simp;omega) (by decide)
   clear hA
   have b0:=x2.get 0 (by decide)
   have b1:=x2.get 1 (by decide)
   have b2:=x2.get 2 (by decide)
   have p2:=x2.lim
   have w2:=x2.wf
   have n2:=x2.le
   have u2:=o2.lo
   have c0:¬0=K1.n:=by omega
   have c1:¬1=K1.n:=by omega
   have c2:¬2=K1.n:=by omega
   have m4:¬i2=0:=by omega
   have m5:¬i2=1:=by omega
   simp [a0,a1,a2,q1,c0,c1,c2]at b0 b1 b2 p2 o2
   simp [k2,k3,k6,g0,g1,a0,b0,b1,b2,p2,m0,m1,m2,m3,m4,m5,hlow,hn3]
   generalize hA:appendD _ _ _ _ _ _=A
   obtain ⟨i3,K3,rfl,o3,x3,y3,j3⟩:=o2.append (by simp [hlow]) w2 n2 (by omega) hA (by simp;omega) (by decide)
   clear hA
   have d0:=x3.get 0 (by decide)
   have d1:=x3.get 1 (by decide)
   have d2:=x3.get 2 (by decide)
   have p3:=x3.lim
   have w3:=x3.wf
   have n3:=x3.le
   have l3:0<K3.n:=by omega
   rw [b0]at d0
   rw [b1]at d1
   rw [b2]at d2
   rw [p2]at p3
   simp [k2,k3,g0,b0,d0,p3,w3,l3,turn,hmin]
   generalize hF2:upd _ 67 _=F2
   have hlen:(List.take k (List.map eOwn own)++[DV.agg [.int .i64 xc,.int .i64 xd,ePred p]]++List.drop k (List.map eOwn own))=(subOwn ⟨me,near,adv,seen,ent,own⟩ ⟨xc,xd⟩ p).owns.map eOwn:=by simp [subOwn,insAt,hkk,eOwn]
   rw [hlen]at o3
   have hln:(subOwn ⟨me,near,adv,seen,ent,own⟩ ⟨xc,xd⟩ p).owns.length=k+1+(own.length-k):=by simp [subOwn,insAt,hkk,hmin];omega
   have hz2:ZL (subOwn ⟨me,near,adv,seen,ent,own⟩ ⟨xc,xd⟩ p) adv.length:=⟨hz.near,hz.adv,hz.seen,by rw [hln];omega,hz.ent⟩
   refine n46 xc xd p hp false adv hi.pa hz.adv 37 29 29 _ hinv i3 adv 0 F2 _ rfl hz2 ?_ ?_ ?_ ?_ ?_ ?_ ?_ ?_ ?_ ?_ ?_ (o3.setLow w3 (by decide) l3) ?_ ?_ ?_
   all_goals first
    | (rw [←hF2];simp [q2,k2,k3,q6];done)
    | (simp [d1,d2,p3,w3,l3,zB];done)
    | (rw [hln];simp [w3,l3,subOwn];done)
    | (simp;omega)
end Go.Dm.Tc
/-
What the reference's functions compute,part 15: an entry dropped.
-/
namespace Go.Dm.Tc
def upOuts (to:Int) (ups:List Entry):List OutS:=ups.map fun e=>⟨to,3,e.tree,e.sub,e.pred⟩
def dropB (b:Broker) (t s:ID) (q:Int):Broker×List OutS :=
 if (takeB b t s q).2.2=true then ((takeB b t s q).1,upOuts (parentOf b t) (takeB b t s q).2.1++[⟨parentOf b t,4,t,s,[]⟩]) else ((takeB b t s q).1,[])
theorem l133 (S:List Fr) (t:Bool) (ups:List Entry) (hl:ups.length≤100000) (to:Int) (h0:Heap) (hlim:h0.lim≤4) (P:Res→Prop) :
  ∀(rest:List Entry) (i:Nat) (outs:List OutS) (es:List DV) (v:DV) (f:FEnv) (h:Heap),ups.drop i=rest→RowR es outs→(es.length≤i∧i≤ups.length)→f 12=.int .i64 to→f 13=v→f 36=eL t 7 eEntry ups→f 37=.int .i64 ups.length→f 38=.int .i64 i→OwnR 4 h v 86 8 es→Ext 4 h0 h →
  (∀f' h' v' es',f' 13=v'→f' 12=.int .i64 to→(∀r,r<12→f' r=f r)→es'.length≤ups.length→RowR es' (outs++upOuts to rest)→OwnR 4 h' v' 86 8 es'→Ext 4 h0 h'→P (run D 59 S t133k0 f' h')) →
  P (run D 59 (.block 0::.seq t133k0::S) (.loop t133l0) f h):=by
 intro rest
 induction rest with
 | nil =>
  intro i outs es v f h hd hr he h12 h13 h36 h37 h38 ho x hP
  have hi:=drop_nil hd
  have:¬(i<ups.length):=by omega
  have k:∀r q:Nat,r<12→12≤q→¬r=q:=fun r q h1 h2=>by omega
  rw [run_loop_of t133l0.eq_1]
  simp [h37,h38,this]
  refine hP _ h v es (by simp [h13]) (by simp [h12]) (fun r hr2=>by simp [k r _ hr2]) (by omega) (by simpa [upOuts] using hr) ho x
 | cons e rest ih =>
  intro i outs es v f h hd hr he h12 h13 h36 h37 h38 ho x hP
  obtain ⟨hi,he',hd'⟩:=drop_at hd
  obtain ⟨⟨tc,td⟩,⟨sc,sd⟩,p,q,u⟩:=e
  have hnl:=x.le
  have hll:=x.lim
  have k:∀r q:Nat,r<12→12≤q→¬r=q:=fun r q h1 h2=>by omega
  rw [run_loop_of t133l0.eq_1]
  have hlm:h.lim≤h.n:=by omega
  simp [h12,h13,h36,h37,h38,hi,he',eEntry,x.wf,turn,hlm,e122,s122]
  generalize hA:appendD _ _ _ _ _ _=A
  obtain ⟨v',K,rfl,p',x',_⟩:=OwnR.append (ho.push.push) (by simp [x.wf]) (by simp;omega) (by simp;omega) hA (by simp;omega) (by decide)
  clear hA
  simp [h38]
  rw [wrap64 (by omega) (by omega)]
  generalize hF:upd _ 38 _=F
  have hr':=RowR.append hr (RowR.one (to:=to) (k:=3) (tc:=tc) (td:=td) (ic:=sc) (id:=sd) (pd:=ePred p) (ad:=.isl false 0 []) (.inl rfl) (.inr rfl))
  refine ih (i+1) _ _ v' F K hd' hr' ⟨by simp;omega,by omega⟩ ?_ ?_ ?_ ?_ ?_ (by simpa [rawO] using p') ((x.push.push).trans x') ?_
  all_goals first
   | (rw [←hF];simp [h12,h13,h36,h37];done)
   | skip
  intro f' h' v2 es' a1 a2 a3 a4 a5 a6 a7
  refine hP f' h' v2 es' a1 a2 (fun r hr2=>?_) a4 (by simpa [upOuts] using a5) a6 a7
  rw [a3 r hr2,←hF]
  simp [k r _ hr2]
theorem take_adv {b:Broker} (h:InvK b) {t s:ID} {q:Int} (hu:(takeB b t s q).2.2=true):(takeB b t s q).1.adverts=b.adverts∧∃ a,advOf b t=some a:=by
 rcases take_cases h t s q with ⟨e,_⟩|⟨e,_,_,_,_,ht⟩|⟨e,hm,hi,_,_,r',u',ht,_⟩
 ·rw [e]at hu;cases hu
 ·rw [ht]at hu;cases hu
 ·rw [ht]
  refine ⟨rfl,?_⟩
  obtain ⟨a,ha,_⟩:=rightEnt_iff.1 (h.ent e hm)
  have:e.tree=t:=by simp only [isE,Bool.and_eq_true,decide_eq_true_eq]at hi;first|exact hi.1|exact hi.2
  exact ⟨a,by rw [←this];exact ha⟩
theorem takeL_le {b:Broker} (h:InvK b) (t s:ID) (q:Int):(takeB b t s q).2.1.length≤b.entries.length:=by
 exact take_ups_le b t s q
set_option maxRecDepth 8000 in
theorem s133 (b:Broker) (tc td sc sd q:Int) (hi:InvK b) (hz:Sized b) :
  pcF D t133 [eBroker .none b,.agg [.int .i64 tc,.int .i64 td],.agg [.int .i64 sc,.int .i64 sd],.int .i64 q]=some (.tup [eBroker .none (dropB b ⟨tc,td⟩ ⟨sc,sd⟩ q).1,eL false 8 eOut (dropB b ⟨tc,td⟩ ⟨sc,sd⟩ q).2]):=by
 have ht:=kRTake hi hz tc td sc sd q
 unfold pcF
 rw [goRun_eq _ _ _ _ (by simp [t133])]
 cases hu:(takeB b ⟨tc,td⟩ ⟨sc,sd⟩ q).2.2 with
 | false =>
  rw [hu]at ht
  have hd:dropB b ⟨tc,td⟩ ⟨sc,sd⟩ q=((takeB b ⟨tc,td⟩ ⟨sc,sd⟩ q).1,[]):=by simp [dropB,hu]
  rw [hd]
  simp [t133,e38,ht,turn,resultsOf,eL_nil]
 | true =>
  rw [hu]at ht
  obtain ⟨hadv,a,ha⟩:=take_adv hi hu
  have hd:dropB b ⟨tc,td⟩ ⟨sc,sd⟩ q=((takeB b ⟨tc,td⟩ ⟨sc,sd⟩ q).1,upOuts (parentOf b ⟨tc,td⟩) (takeB b ⟨tc,td⟩ ⟨sc,sd⟩ q).2.1++[⟨parentOf b ⟨tc,td⟩,4,⟨tc,td⟩,⟨sc,sd⟩,[]⟩]):=by simp [dropB,hu]
  rw [hd]
  have hfi:=find_idx (fun a:Advert=>decide (a.id=⟨tc,td⟩)) b.adverts
  have ha':b.adverts.find? (fun a=>decide (a.id=⟨tc,td⟩))=some a:=ha
  rw [ha']at hfi
  obtain ⟨j,hj,hja⟩:=hfi
  have hFi:pcF D t24 [eBroker .none (takeB b ⟨tc,td⟩ ⟨sc,sd⟩ q).1,.agg [.int .i64 tc,.int .i64 td]]=some (.int .i64 j):=by
   have:=s24 (.int .i64 (takeB b ⟨tc,td⟩ ⟨sc,sd⟩ q).1.me) (eL false 1 cInt (takeB b ⟨tc,td⟩ ⟨sc,sd⟩ q).1.near) (eL false 2 eID (takeB b ⟨tc,td⟩ ⟨sc,sd⟩ q).1.seen) (eL false 7 eEntry (takeB b ⟨tc,td⟩ ⟨sc,sd⟩ q).1.entries) (eL false 3 eOwn (takeB b ⟨tc,td⟩ ⟨sc,sd⟩ q).1.owns) false (takeB b ⟨tc,td⟩ ⟨sc,sd⟩ q).1.adverts tc td (by rw [hadv];have:=hz.adv;omega)
   rw [hadv,hj]at this
   simpa [idxOf,eBroker,Tags.none,hadv] using this
  have hpar:parentOf b ⟨tc,td⟩=a.parent:=by rw [parentOf_eq,ha];rfl
  have hjl:j<b.adverts.length:=(List.getElem?_eq_some_iff.1 hja).1
  have hjg:b.adverts[j]=a:=(List.getElem?_eq_some_iff.1 hja).2
  rw [hpar]
  simp [t133,e38,ht,turn,e24,hFi,hadv,hjl,hjg,eAdvert]
  generalize hF:upd _ 38 _=F
  generalize hH:Heap.push _ _=H0
  have hul:(takeB b ⟨tc,td⟩ ⟨sc,sd⟩ q).2.1.length≤100000:=Nat.le_trans (takeL_le hi ..) hz.ent
  generalize (takeB b ⟨tc,td⟩ ⟨sc,sd⟩ q).2.1=ups at *
  generalize hb1:(takeB b ⟨tc,td⟩ ⟨sc,sd⟩ q).1=b1 at *
  have hn4:H0.n=4:=by rw [←hH];simp
  have hl0:H0.lim=0:=by rw [←hH];simp
  have hw0:WF H0:=by rw [←hH];simp
  refine l133 [] false ups hul a.parent H0 (by omega) (fun r=>pcOut (fin [.cell 8 (some 6),.t 9] r)=some (.tup [eBroker .none b1,eL false 8 eOut (upOuts a.parent ups++[⟨a.parent,4,⟨tc,td⟩,⟨sc,sd⟩,[]⟩])])) ups 0 [] [] .nsl F H0 rfl RowR.nil ⟨by simp,Nat.zero_le _⟩ (by rw [←hF];simp) (by rw [←hF];simp) (by rw [←hF];simp) (by rw [←hF];simp) (by rw [←hF];simp) (.nil rfl rfl) (.refl (by omega) hw0) fun f' h' v' es' q13 q12 qr hel hrw hov x=>?_
  have q4:f' 4=.ptr 0 6 0 0:=by rw [qr 4 (by decide),←hF];simp
  have q5:f' 5=.ptr 1 2 0 0:=by rw [qr 5 (by decide),←hF];simp
  have q6:f' 6=.ptr 2 2 0 0:=by rw [qr 6 (by decide),←hF];simp
  have q8:f' 8=.ptr 3 6 0 0:=by rw [qr 8 (by decide),←hF];simp
  have a0:h'.get 0=some (.arr 29 6 [eBroker .none b1] (some 1)):=(x.get 0 (by decide)).trans (by rw [←hH];simp)
  have a1:h'.get 1=some (.arr 37 2 [.agg [.int .i64 tc,.int .i64 td]] (some 1)):=(x.get 1 (by decide)).trans (by rw [←hH];simp)
  have a2:h'.get 2=some (.arr 37 2 [.agg [.int .i64 sc,.int .i64 sd]] (some 1)):=(x.get 2 (by decide)).trans (by rw [←hH];simp)
  have a3:h'.get 3=some (.arr 29 6 [.agg [.int .i64 0,.nsl,.nsl,.nsl,.nsl,.nsl]] (some 1)):=(x.get 3 (by decide)).trans (by rw [←hH];simp)
  have al:h'.lim=0:=x.lim.trans hl0
  obtain ⟨m,hmn⟩:∃ m,h'.n=m+4:=⟨h'.n-4,by have:=x.le;omega⟩
  have hrow:=RowR.append hrw (RowR.one (to:=a.parent) (k:=4) (tc:=tc) (td:=td) (ic:=sc) (id:=sd) (pd:=.nsl) (ad:=.nsl) (p:=[]) (.inr ⟨rfl,rfl⟩) (.inl rfl))
  simp only [List.nil_append]at hrow
  cases hov with
  | nil hv hx =>
   subst hv
   subst hx
   simp [t133k0,q4,q5,q6,q8,q12,q13,a0,a1,a2,a3,al,hmn,x.wf]
   generalize hA:appendD _ _ _ _ _ _=A
   obtain ⟨v2,K,rfl,p',x',_⟩:=OwnR.append (lo:=4) (OwnR.start 4 _ 86 8) (by simp [x.wf]) (by simp [hmn]<;>omega) (by simp [hmn,al]) hA (by simp<;>omega) (by decide)
   clear hA
   have b0:=x'.get 0 (by decide)
   have b1':=x'.get 1 (by decide)
   have b2:=x'.get 2 (by decide)
   have b3:=x'.get 3 (by decide)
   have bl:=x'.lim
   have bn:=x'.le
   have l3:3<K.n:=by omega
   simp [hmn,a0,a1,a2,a3,al]at b0 b1' b2 b3 bl p'
   have r1:∀o,resolve false (Dm.wl (K.set 3 o) 0) 199 v2=some (eL false 8 eOut (upOuts a.parent ups++[⟨a.parent,4,⟨tc,td⟩,⟨sc,sd⟩,[]⟩])):=fun o=>out_res ((by simpa [rawO] using (p'.setLow (o:=o) x'.wf (by decide) l3).wl (Nat.zero_le _)):OwnR 4 (Dm.wl (K.set 3 o) 0) v2 86 8 _) hrow false (by decide)
   have hu2:unlent 199 (eL false 8 eOut (upOuts a.parent ups++[⟨a.parent,4,⟨tc,td⟩,⟨sc,sd⟩,[]⟩]))=true:=unl_eL (fun y _=>(plain_out y).2) 199 (by decide)
   simp [q8,b0,b1',b2,b3,bl,al,l3,x'.wf,turn,resultsOf,r1,hu2]
  | arr id sp cap hv hg hlm hlo =>
   subst hv
   have hidn:=get_some_lt hg
   have e0:¬0=id:=by omega
   have e1:¬1=id:=by omega
   have e2:¬2=id:=by omega
   simp [t133k0,q4,q5,q6,q8,q12,q13,a0,a1,a2,a3,al,hmn,x.wf,e0,e1,e2]
   generalize hA:appendD _ _ _ _ _ _=A
   obtain ⟨v2,K,rfl,p',x',_⟩:=OwnR.append (lo:=4) (OwnR.push (.arr id sp cap rfl hg hlm hlo)) (by simp [x.wf]) (by simp [hmn]<;>omega) (by simp [hmn,al]) hA (by simp<;>omega) (by decide)
   clear hA
   have b0:=x'.get 0 (by decide)
   have b1':=x'.get 1 (by decide)
   have b2:=x'.get 2 (by decide)
   have b3:=x'.get 3 (by decide)
   have bl:=x'.lim
   have bn:=x'.le
   have l3:3<K.n:=by omega
   simp [hmn,a0,a1,a2,a3,al]at b0 b1' b2 b3 bl p'
   have r1:∀o,resolve false (K.set 3 o) 199 v2=some (eL false 8 eOut (upOuts a.parent ups++[⟨a.parent,4,⟨tc,td⟩,⟨sc,sd⟩,[]⟩])):=fun o=>out_res ((by simpa [rawO] using p'.setLow (o:=o) x'.wf (by decide) l3):OwnR 4 (K.set 3 o) v2 86 8 _) hrow false (by decide)
   have hu2:unlent 199 (eL false 8 eOut (upOuts a.parent ups++[⟨a.parent,4,⟨tc,td⟩,⟨sc,sd⟩,[]⟩]))=true:=unl_eL (fun y _=>(plain_out y).2) 199 (by decide)
   simp [q8,b0,b1',b2,b3,bl,al,l3,x'.wf,turn,resultsOf,r1,hu2]
end Go.Dm.Tc
/-
What the reference's functions compute,part 16: subscriptions by a link.
-/
namespace Go.Dm.Tc
def onSubB (b:Broker) (q:Int) (t s:ID) (p:Pred):Broker×List OutS :=
 ((addB b ⟨t,s,p,q,false⟩).1,if (addB b ⟨t,s,p,q,false⟩).2=true then [⟨parentOf b t,3,t,s,p⟩] else [])
theorem add_adv {b:Broker} {e:Entry} (hu:(addB b e).2=true):∃ a,advOf b e.tree=some a:=by
 unfold addB at hu
 split at hu
 ·rename_i hm
  obtain ⟨a,ha,_⟩:=mayAdd_iff.1 hm
  exact ⟨a,ha⟩
 ·cases hu
theorem rfind {b c:Broker} (hadv:c.adverts=b.adverts) (hz:Sized b) {tc td:Int} {a:Advert} (ha:advOf b ⟨tc,td⟩=some a) :
  ∃ j:Nat,pcF D t24 [eBroker .none c,.agg [.int .i64 tc,.int .i64 td]]=some (.int .i64 j)∧∃ hj:j<b.adverts.length,b.adverts[j]=a:=by
 have hfi:=find_idx (fun a:Advert=>decide (a.id=⟨tc,td⟩)) b.adverts
 have ha':b.adverts.find? (fun a=>decide (a.id=⟨tc,td⟩))=some a:=ha
 rw [ha']at hfi
 obtain ⟨j,hj,hja⟩:=hfi
 refine ⟨j,?_,(List.getElem?_eq_some_iff.1 hja)⟩
 have:=s24 (.int .i64 c.me) (eL false 1 cInt c.near) (eL false 2 eID c.seen) (eL false 7 eEntry c.entries) (eL false 3 eOwn c.owns) false c.adverts tc td (by rw [hadv];have:=hz.adv;omega)
 rw [hadv,hj]at this
 simpa [idxOf,eBroker,Tags.none,hadv] using this
theorem s63 (b:Broker) (k tc td sc sd q:Int) (p:Pred) (hi:InvK b) (hz:Sized b) :
  pcF D t63 [eBroker .none b,.int .i64 q,.agg [.int .i64 k,.int .i64 tc,.int .i64 td,.int .i64 sc,.int .i64 sd,ePred p,.isl false 0 []]]=some (.tup [eBroker .none (dropB b ⟨tc,td⟩ ⟨sc,sd⟩ q).1,eL false 8 eOut (dropB b ⟨tc,td⟩ ⟨sc,sd⟩ q).2]):=by
 have hd:=s133 b tc td sc sd q hi hz
 have hu2:∀os:List OutS,unlent 199 (eL false 8 eOut os)=true:=fun os=>unl_eL (fun y _=>(plain_out y).2) 199 (by decide)
 unfold pcF
 rw [goRun_eq _ _ _ _ (by simp [t63])]
 simp [t63,e133,hd,turn,resultsOf,hu2]
set_option maxRecDepth 8000 in
theorem s62 (b:Broker) (k tc td sc sd q:Int) (p:Pred) (hi:InvK b) (hz:Sized b) (hp:PredOk p) :
  pcF D t62 [eBroker .none b,.int .i64 q,.agg [.int .i64 k,.int .i64 tc,.int .i64 td,.int .i64 sc,.int .i64 sd,ePred p,.isl false 0 []]]=some (.tup [eBroker .none (onSubB b q ⟨tc,td⟩ ⟨sc,sd⟩ p).1,eL false 8 eOut (onSubB b q ⟨tc,td⟩ ⟨sc,sd⟩ p).2]):=by
 have hadd:=kRAdd hi hz tc td sc sd hp q false
 unfold pcF
 rw [goRun_eq _ _ _ _ (by simp [t62])]
 cases hu:(addB b ⟨⟨tc,td⟩,⟨sc,sd⟩,p,q,false⟩).2 with
 | false =>
  rw [hu]at hadd
  have hd:onSubB b q ⟨tc,td⟩ ⟨sc,sd⟩ p=((addB b ⟨⟨tc,td⟩,⟨sc,sd⟩,p,q,false⟩).1,[]):=by simp [onSubB,hu]
  rw [hd]
  simp [t62,e37,hadd,turn,resultsOf,eL_nil]
 | true =>
  rw [hu]at hadd
  obtain ⟨a,ha⟩:=add_adv hu
  obtain ⟨j,hFi,hjl,hjg⟩:=rfind (addB_rows b ⟨⟨tc,td⟩,⟨sc,sd⟩,p,q,false⟩).2.1 hz ha
  have hadv:=(addB_rows b ⟨⟨tc,td⟩,⟨sc,sd⟩,p,q,false⟩).2.1
  have hpar:parentOf b ⟨tc,td⟩=a.parent:=by rw [parentOf_eq,ha];rfl
  have hd:onSubB b q ⟨tc,td⟩ ⟨sc,sd⟩ p=((addB b ⟨⟨tc,td⟩,⟨sc,sd⟩,p,q,false⟩).1,[⟨a.parent,3,⟨tc,td⟩,⟨sc,sd⟩,p⟩]):=by simp [onSubB,hu,hpar]
  rw [hd]
  have ri:∀h,resolve false h 197 (.isl false 0 [])=some (.isl false 0 []):=fun _=>rfl
  simp [t62,ri,e37,hadd,turn,e24,hFi,hadv,hjl,hjg,eAdvert,e122,s122,resultsOf]
  have hu2:unlent 199 (eL false 8 eOut [⟨a.parent,3,⟨tc,td⟩,⟨sc,sd⟩,p⟩])=true:=unl_eL (fun y _=>(plain_out y).2) 199 (by decide)
  exact ⟨hu2,rfl⟩
end Go.Dm.Tc
/-
What the reference's functions compute,part 17: a client of the broker's ends a subscription.
-/
namespace Go.Dm.Tc
def endStep (x:ID) (st:Broker×List OutS) (a:Advert):Broker×List OutS:=((dropB st.1 a.id x (-1)).1,st.2++(dropB st.1 a.id x (-1)).2)
def endOwn (b:Broker) (x:ID):Broker:={b with owns:=without (fun o=>o.id) x b.owns}
def unsubscribeB (b:Broker) (x:ID):Broker×List OutS :=
 if (without (fun o:OwnS=>o.id) x b.owns).length=b.owns.length then (b,[]) else b.adverts.foldl (endStep x) (endOwn b x,[])
theorem rowR_out:∀(os:List OutS),RowR (os.map eOut) os:=fun os=>⟨by simp,fun tag h n hn=>mapM_self fun x hx=>by
 obtain ⟨o,_,rfl⟩:=List.mem_map.1 hx
 exact (plain_out o).1 tag h n (by omega)⟩
theorem drop_fst (b:Broker) (t s:ID) (q:Int):(dropB b t s q).1=(takeB b t s q).1:=by unfold dropB;split<;>rfl
theorem drop_len {b:Broker} (h:InvK b) (t s:ID) (q:Int):(dropB b t s q).2.length≤b.entries.length+1:=by
 unfold dropB
 split
 ·have:=takeL_le h t s q;simp [upOuts];exact this
 ·simp
theorem ZL.take {b:Broker} (h:ZL b 0) (hi:InvK b) (t s:ID) (q:Int):ZL (takeB b t s q).1 0:=by
 obtain ⟨h1,h2,h3,h4,h5⟩:=h
 rcases take_cases hi t s q with ⟨e,_⟩|⟨e,_,_,_,_,ht⟩|⟨e,hm,_,_,_,r',u',ht,hr,_⟩
 ·rw [e];exact ⟨h1,h2,h3,h4,h5⟩
 ·rw [ht]
  have:=List.length_filter_le (fun x=>!isE t s x) b.entries
  exact ⟨h1,h2,h3,h4,by simp only;omega⟩
 ·rw [ht]
  have:=List.length_filter_le (fun x=>!isE t s x) b.entries
  have h6:=hr.len
  exact ⟨h1,h2,h3,h4,by simp only;omega⟩
theorem l61 (xc xd:Int) (t:Bool) (advs:List Advert) (hl:advs.length≤1000) (tx tb tn:Nat) :
  ∀(rest:List Advert) (i:Nat) (nb:Broker) (outs:List OutS) (es:List DV) (v:DV) (f:FEnv) (h:Heap),advs.drop i=rest→InvK nb→ZL nb 0→RowR es outs→es.length≤i*100001 →
  f 2=.ptr 0 6 0 0→f 3=.ptr 1 2 0 0→f 4=.ptr 2 6 0 0→f 9=v→f 40=eL t 4 eAdvert advs→f 41=.int .i64 advs.length→f 42=.int .i64 i →
  h.get 1=some (.arr tx 2 [.agg [.int .i64 xc,.int .i64 xd]] (some 1))→h.get 2=some (.arr tb 6 [zB] (some 1))→h.get 0=some (.arr tn 6 [eBroker .none nb] (some 1))→OwnR 3 h v 86 8 es→h.lim=0→3≤h.n→WF h →
  pcOut (fin [.cell 4 (some 6),.t 5] (run D 63 [.block 2,.seq t61k0] (.loop t61l1) f h))=some (.tup [eBroker .none (rest.foldl (endStep ⟨xc,xd⟩) (nb,outs)).1,eL false 8 eOut (rest.foldl (endStep ⟨xc,xd⟩) (nb,outs)).2]):=by
 intro rest
 induction rest with
 | nil =>
  intro i nb outs es v f h hd hi0 hz hr hes h2 h3 h4 h9 hW hL hI g1 g2 gB hv hlim hn wf
  have hi:=drop_nil hd
  have:¬(i<advs.length):=by omega
  have l2:2<h.n:=by omega
  have r1:=fun o=>out_res (hv.setLow (o:=o) wf (by decide:2<3) l2) hr false (n:=199) (by decide)
  have hu:unlent 199 (eL false 8 eOut outs)=true:=unl_eL (fun y _=>(plain_out y).2) 199 (by decide)
  rw [run_loop_of t61l1.eq_1]
  simp only [zB]at g2
  simp [t61k0,hL,hI,this,h2,h4,h9,gB,g2,hlim,l2,wf,turn,resultsOf,r1,hu]
 | cons o rest ih =>
  intro i nb outs es v f h hd hi0 hz hr hes h2 h3 h4 h9 hW hL hI g1 g2 gB hv hlim hn wf
  obtain ⟨hi,he,hd'⟩:=drop_at hd
  obtain ⟨⟨oc,od⟩,op,oq⟩:=o
  have hdr:=s133 nb oc od xc xd (-1) hi0 hz.sized
  have hi1:InvK (dropB nb ⟨oc,od⟩ ⟨xc,xd⟩ (-1)).1:=by rw [drop_fst];exact hi0.take ..
  have hz1:ZL (dropB nb ⟨oc,od⟩ ⟨xc,xd⟩ (-1)).1 0:=by rw [drop_fst];exact hz.take hi0 ..
  have hdl:=drop_len hi0 ⟨oc,od⟩ ⟨xc,xd⟩ (-1)
  have hent:=hz.ent
  obtain ⟨m,hmn⟩:∃ m,h.n=m+3:=⟨h.n-3,by omega⟩
  rw [run_loop_of t61l1.eq_1]
  simp only [List.foldl_cons]
  have hst:endStep ⟨xc,xd⟩ (nb,outs) ⟨⟨oc,od⟩,op,oq⟩=((dropB nb ⟨oc,od⟩ ⟨xc,xd⟩ (-1)).1,outs++(dropB nb ⟨oc,od⟩ ⟨xc,xd⟩ (-1)).2):=rfl
  rw [hst]
  generalize hB1:(dropB nb ⟨oc,od⟩ ⟨xc,xd⟩ (-1)).1=b1 at *
  generalize hO1:(dropB nb ⟨oc,od⟩ ⟨xc,xd⟩ (-1)).2=o1 at *
  have hel:∀p1 p2 p3,elems (((h.push p1).push p2).push p3) 8 v=some es:=fun p1 p2 p3=>hv.push.push.push.elems
  simp [hL,hI,hW,hi,he,eAdvert,h2,h3,h4,h9,hmn,g1,gB,hlim,wf,turn,e133,hdr,hel]
  have ofr:∀p1 p2,OwnI (m+5) (((h.push p1).push p2).push (.arr 86 8 [] (some 0))) (m+3+1+1) 86 8 []:=fun p1 p2=>by
   have:=OwnI.fresh (lo:=m+5) (h:=(h.push p1).push p2) (ety:=86) (sz:=8) (xs:=[]) (cap:=some 0) (by simp [hlim]) (by simp [hmn])
   simpa [hmn] using this
  have hi1000:i*100001≤1000*100001:=Nat.mul_le_mul_right _ (by omega)
  generalize hA:appendD _ _ _ _ _ _=A
  obtain ⟨i1,K1,rfl,u1,x1,y1,j1⟩:=(ofr _ _).append (n:=0) rfl (by simp [wf]) (by simp [hmn]) (by simp [hlim]) hA (by simp;omega) (by decide)
  clear hA
  have a0:=x1.get 0 (by omega)
  have a1:=x1.get 1 (by omega)
  have a2:=x1.get 2 (by omega)
  have a4:=x1.get (m+3+1) (by omega)
  have al:=x1.lim
  have an:=x1.le
  have ul:=u1.lo
  simp [hmn,g1,g2,gB,hlim,wf]at a0 a1 a2 a4 al u1
  have m4:¬m+3+1=i1:=by omega
  simp [h9,m4]
  generalize hA:appendD _ _ _ _ _ _=A
  obtain ⟨i2,K2,rfl,u2,x2,y2,j2⟩:=u1.append (by simp) x1.wf an (by omega) hA (by simp;omega) (by decide)
  clear hA
  have b0:=x2.get 0 (by omega)
  have b1':=x2.get 1 (by omega)
  have b2:=x2.get 2 (by omega)
  have bl:=x2.lim
  have bn:=x2.le
  have l0:0<K2.n:=by omega
  rw [a0]at b0
  rw [a1]at b1'
  rw [a2]at b2
  rw [al]at bl
  simp [hI,h2,b0,bl,l0,x2.wf,turn]
  rw [wrap64 (by omega) (by omega)]
  generalize hF:upd _ 42 _=F
  have hr':=RowR.append hr (rowR_out o1)
  have hv':OwnR 3 (K2.set 0 (.arr tn 6 [eBroker .none b1] (some 1))) (.sl i2 8 0 (es.length+o1.length)) 86 8 (es++o1.map eOut):=by
   have:=(u2.toR.setLow (o:=.arr tn 6 [eBroker .none b1] (some 1)) x2.wf (by omega:0<m+5) l0).lower (by omega:3≤m+5)
   simpa using this
  refine ih (i+1) b1 (outs++o1) _ _ F _ hd' hi1 hz1 hr' (by simp [Nat.add_mul];omega) ?_ ?_ ?_ ?_ ?_ ?_ ?_ ?_ ?_ ?_ hv' ?_ ?_ ?_
  all_goals first
   | (rw [←hF];simp [h2,h3,h4,h9,hW,hL];done)
   | (simp [b0,b1',b2,bl,l0,x2.wf];done)
   | (simp;omega)
end Go.Dm.Tc
/-
What the reference's functions compute,part 18: a client of the broker's ends a subscription,all of it.
-/
namespace Go.Dm.Tc
theorem m61 (S:List Fr) (xc xd:Int) (t:Bool) (owns:List OwnS) (hl:owns.length≤100000) (tx:Nat) (h0:Heap) (g1:h0.get 1=some (.arr tx 2 [.agg [.int .i64 xc,.int .i64 xd]] (some 1))) (hlim:h0.lim=0) (P:Res→Prop) :
  ∀(rest:List OwnS) (i:Nat) (acc:List OwnS) (v:DV) (f:FEnv) (h:Heap),owns.drop i=rest→(acc.length≤i∧i≤owns.length)→f 3=.ptr 1 2 0 0→f 6=v→f 15=eL t 3 eOwn owns→f 16=.int .i64 owns.length→f 17=.int .i64 i→OwnR 3 h v 60 3 (acc.map eOwn)→Ext 3 h0 h →
  (∀f' h' v',f' 6=v'→(∀r,r<6→f' r=f r)→OwnR 3 h' v' 60 3 ((acc++without (fun o=>o.id) ⟨xc,xd⟩ rest).map eOwn)→Ext 3 h0 h'→P (run D 63 S t61k1 f' h')) →
  P (run D 63 (.block 0::.seq t61k1::S) (.loop t61l0) f h):=by
 intro rest
 induction rest with
 | nil =>
  intro i acc v f h hd he h3 h6 h15 h16 h17 ho x hP
  have hi:=drop_nil hd
  have:¬(i<owns.length):=by omega
  have k:∀r q:Nat,r<6→6≤q→¬r=q:=fun r q h1 h2=>by omega
  rw [run_loop_of t61l0.eq_1]
  simp [h16,h17,this]
  exact hP _ h v (by simp [h6]) (fun r hr=>by simp [k r _ hr]) (by simpa [without] using ho) x
 | cons o rest ih =>
  intro i acc v f h hd he h3 h6 h15 h16 h17 ho x hP
  obtain ⟨hi,he',hd'⟩:=drop_at hd
  obtain ⟨⟨oc,od⟩,op⟩:=o
  have a1:=(x.get 1 (by decide)).trans g1
  have al:=x.lim.trans hlim
  obtain ⟨m,hmn⟩:∃ m,h.n=m+3:=⟨h.n-3,by have:=x.le;omega⟩
  have k:∀r q:Nat,r<6→6≤q→¬r=q:=fun r q h1 h2=>by omega
  rw [run_loop_of t61l0.eq_1]
  by_cases hx:oc=xc∧od=xd
  ·obtain ⟨rfl,rfl⟩:=hx
   simp [h3,h6,h15,h16,h17,hi,he',eOwn,x.wf,al,a1,hmn,turn]
   rw [wrap64 (by omega) (by omega)]
   generalize hF:upd _ 17 _=F
   refine ih (i+1) acc v F _ hd' (by omega) ?_ ?_ ?_ ?_ ?_ ho.push x.push fun f' h' v' q6 qr q8 q9=>?_
   all_goals first
    | (rw [←hF];simp [h3,h6,h15,h16];done)
    | skip
   refine hP f' h' v' q6 (fun r hr=>?_) (by simpa [without] using q8) q9
   rw [qr r hr,←hF]
   simp [k r _ hr]
  ·have hx':¬(oc=xc∧od=xd):=hx
   have hx2:¬oc=xc∨¬od=xd:=by omega
   have hid:¬(⟨oc,od⟩:ID)=⟨xc,xd⟩:=fun e=>hx (by injection e with e1 e2;exact ⟨e1,e2⟩)
   simp [h3,h6,h15,h16,h17,hi,he',eOwn,x.wf,al,a1,hmn,turn,hx',hx2]
   generalize hA:appendD _ _ _ _ _ _=A
   obtain ⟨v',K,rfl,p',x',_⟩:=OwnR.append (ho.push.push) (by simp [x.wf]) (by simp [hmn]<;>omega) (by simp [al]) hA (by simp;omega) (by decide)
   clear hA
   simp [h17,hx2]
   rw [wrap64 (by omega) (by omega)]
   generalize hF:upd _ 17 _=F
   refine ih (i+1) (acc++[⟨⟨oc,od⟩,op⟩]) v' F K hd' (by simp;omega) ?_ ?_ ?_ ?_ ?_ (by simpa [eOwn] using p') ((x.push.push).trans x') fun f' h' v2 q6 qr q8 q9=>?_
   all_goals first
    | (rw [←hF];simp [h3,h6,h15,h16];done)
    | skip
   refine hP f' h' v2 q6 (fun r hr=>?_) (by simpa [without,hid] using q8) q9
   rw [qr r hr,←hF]
   simp [k r _ hr]
end Go.Dm.Tc
/-
What the reference's functions compute,part 19: the end of a subscription,with the row still written.
-/
namespace Go.Dm.Tc
theorem r61 (xc xd:Int) (t:Bool) (advs:List Advert) (hl:advs.length≤1000) (tx tb tn:Nat) (nb:Broker) (hi0:InvK nb) (hz:ZL nb 0) (w:DV) (f:FEnv) (h:Heap)
  (h2:f 2=.ptr 0 6 0 0) (h3:f 3=.ptr 1 2 0 0) (h4:f 4=.ptr 2 6 0 0) (h9:f 9=.nsl) (hW:f 40=eL t 4 eAdvert advs) (hL:f 41=.int .i64 advs.length) (hI:f 42=.int .i64 0)
  (g1:h.get 1=some (.arr tx 2 [.agg [.int .i64 xc,.int .i64 xd]] (some 1))) (g2:h.get 2=some (.arr tb 6 [zB] (some 1))) (gB:h.get 0=some (.arr tn 6 [.agg [.int .i64 nb.me,eL false 1 cInt nb.near,eL false 4 eAdvert nb.adverts,eL false 2 eID nb.seen,eL false 7 eEntry nb.entries,w]] (some 1)))
  (hv:OwnR 3 h w 60 3 (nb.owns.map eOwn)) (hlim:h.lim=0) (hn:3≤h.n) (wf:WF h) :
  pcOut (fin [.cell 4 (some 6),.t 5] (run D 63 [.block 2,.seq t61k0] (.loop t61l1) f h))=some (.tup [eBroker .none (advs.foldl (endStep ⟨xc,xd⟩) (nb,[])).1,eL false 8 eOut (advs.foldl (endStep ⟨xc,xd⟩) (nb,[])).2]):=by
 cases advs with
 | nil =>
  have l2:2<h.n:=by omega
  have r1:∀o,resolve false (h.set 2 o) 198 w=some (eL false 3 eOwn nb.owns):=fun o=>(hv.setLow (o:=o) wf (by decide:2<3) l2).resolve (n:=198) false (fun y _=>(plain_own y).1) (by decide)
  rw [run_loop_of t61l1.eq_1]
  simp only [zB]at g2
  simp only [List.length_nil]at hL
  simp [t61k0,hL,hI,h2,h4,h9,gB,g2,hlim,l2,wf,turn,resultsOf,r1]
  exact ⟨rfl,rfl⟩
 | cons o rest =>
  have hi:0<(o::rest).length:=by simp
  obtain ⟨⟨oc,od⟩,op,oq⟩:=o
  have hdr:=s133 nb oc od xc xd (-1) hi0 hz.sized
  have hi1:InvK (dropB nb ⟨oc,od⟩ ⟨xc,xd⟩ (-1)).1:=by rw [drop_fst];exact hi0.take ..
  have hz1:ZL (dropB nb ⟨oc,od⟩ ⟨xc,xd⟩ (-1)).1 0:=by rw [drop_fst];exact hz.take hi0 ..
  have hdl:=drop_len hi0 ⟨oc,od⟩ ⟨xc,xd⟩ (-1)
  have hent:=hz.ent
  obtain ⟨m,hmn⟩:∃ m,h.n=m+3:=⟨h.n-3,by omega⟩
  rw [run_loop_of t61l1.eq_1]
  simp only [List.foldl_cons]
  have hst:endStep ⟨xc,xd⟩ (nb,[]) ⟨⟨oc,od⟩,op,oq⟩=((dropB nb ⟨oc,od⟩ ⟨xc,xd⟩ (-1)).1,(dropB nb ⟨oc,od⟩ ⟨xc,xd⟩ (-1)).2):=by simp [endStep]
  rw [hst]
  generalize hB1:(dropB nb ⟨oc,od⟩ ⟨xc,xd⟩ (-1)).1=b1 at *
  generalize hO1:(dropB nb ⟨oc,od⟩ ⟨xc,xd⟩ (-1)).2=o1 at *
  simp only [List.length_cons]at hL
  cases hv with
  | nil hv hx =>
   subst hv
   have hbb:DV.agg [.int .i64 nb.me,eL false 1 cInt nb.near,eL false 4 eAdvert nb.adverts,eL false 2 eID nb.seen,eL false 7 eEntry nb.entries,.isl false 0 []]=eBroker .none nb:=by
    have:nb.owns=[]:=by simpa using hx
    unfold eBroker
    rw [this];rfl
   simp [hL,hI,hW,eAdvert,h2,h3,h4,h9,hmn,g1,gB,hlim,wf,turn,e133,hbb,hdr]
   have ofr:∀p1 p2,OwnI (m+5) (((h.push p1).push p2).push (.arr 86 8 [] (some 0))) (m+3+1+1) 86 8 []:=fun p1 p2=>by
    have:=OwnI.fresh (lo:=m+5) (h:=(h.push p1).push p2) (ety:=86) (sz:=8) (xs:=[]) (cap:=some 0) (by simp [hlim]) (by simp [hmn])
    simpa [hmn] using this
   generalize hA:appendD _ _ _ _ _ _=A
   obtain ⟨i1,K1,rfl,u1,x1,y1,j1⟩:=(ofr _ _).append (n:=0) rfl (by simp [wf]) (by simp [hmn]) (by simp [hlim]) hA (by simp) (by decide)
   clear hA
   have a0:=x1.get 0 (by omega)
   have a1:=x1.get 1 (by omega)
   have a2:=x1.get 2 (by omega)
   have a4:=x1.get (m+3+1) (by omega)
   have al:=x1.lim
   have an:=x1.le
   have ul:=u1.lo
   simp [hmn,g1,g2,gB,hlim,wf]at a0 a1 a2 a4 al u1
   have m4:¬m+3+1=i1:=by omega
   simp [h9,m4]
   generalize hA:appendD _ _ _ _ _ _=A
   obtain ⟨i2,K2,rfl,u2,x2,y2,j2⟩:=u1.append (by simp) x1.wf an (by omega) hA (by simp;omega) (by decide)
   clear hA
   have b0:=x2.get 0 (by omega)
   have b1':=x2.get 1 (by omega)
   have b2:=x2.get 2 (by omega)
   have bl:=x2.lim
   have bn:=x2.le
   have l0:0<K2.n:=by omega
   rw [a0]at b0
   rw [a1]at b1'
   rw [a2]at b2
   rw [al]at bl
   simp [hI,h2,b0,bl,l0,x2.wf,turn]
   generalize hF:upd _ 42 _=F
   have hv':OwnR 3 (K2.set 0 (.arr tn 6 [eBroker .none b1] (some 1))) (.sl i2 8 0 o1.length) 86 8 (o1.map eOut):=by
    have:=(u2.toR.setLow (o:=.arr tn 6 [eBroker .none b1] (some 1)) x2.wf (by omega:0<m+5) l0).lower (by omega:3≤m+5)
    simpa using this
   refine l61 xc xd t (⟨⟨oc,od⟩,op,oq⟩::rest) hl tx tb tn rest 1 b1 o1 _ _ F _ rfl hi1 hz1 (rowR_out o1) (by simp;omega) ?_ ?_ ?_ ?_ ?_ ?_ ?_ ?_ ?_ ?_ hv' ?_ ?_ ?_
   all_goals first
    | (rw [←hF];simp [h2,h3,h4,h9,hW,hL];done)
    | (simp [b0,b1',b2,bl,l0,x2.wf];done)
    | (simp;omega)
  | arr iw sp cap hv hg hlm hlo =>
   have ho:OwnI 3 h iw 60 3 (nb.owns.map eOwn):=⟨⟨sp,cap,hg⟩,hlm,hlo⟩
   have hil:=ho.lt
   subst hv
   simp only [List.length_map]at gB
   have k0:¬iw=0:=by omega
   have k1:¬iw=1:=by omega
   have k2:¬iw=2:=by omega
   have k0':¬0=iw:=by omega
   have k1':¬1=iw:=by omega
   have k2':¬2=iw:=by omega
   have k3:¬iw=m+3:=by omega
   have k4:¬iw=m+3+1:=by omega
   have k5:iw<m+3:=by omega
   have k6:iw<m+3+1:=by omega
   have hfr:∀p1,freeze (h.push p1) (.sl iw 3 0 nb.owns.length)=some (eL false 3 eOwn nb.owns,(h.push p1).set iw .dead):=fun p1=>fr_own ho.push rfl
   have hbb:DV.agg [.int .i64 nb.me,eL false 1 cInt nb.near,eL false 4 eAdvert nb.adverts,eL false 2 eID nb.seen,eL false 7 eEntry nb.entries,eL false 3 eOwn nb.owns]=eBroker .none nb:=rfl
   simp [hL,hI,hW,eAdvert,h2,h3,h4,h9,hmn,g1,gB,hlim,wf,turn,e133,hbb,hdr,hfr,k0,k1,k2,k0',k1',k2',k3,k4,k5,k6]
   have ofr:∀p1 p2,OwnI (m+5) ((((h.set iw .dead).push p1).push p2).push (.arr 86 8 [] (some 0))) (m+3+1+1) 86 8 []:=fun p1 p2=>by
    have:=OwnI.fresh (lo:=m+5) (h:=((h.set iw .dead).push p1).push p2) (ety:=86) (sz:=8) (xs:=[]) (cap:=some 0) (by simp [hlim]) (by simp [hmn])
    simpa [hmn] using this
   generalize hA:appendD _ _ _ _ _ _=A
   obtain ⟨i1,K1,rfl,u1,x1,y1,j1⟩:=(ofr _ _).append (n:=0) rfl (by simp [wf]) (by simp [hmn]) (by simp [hlim]) hA (by simp) (by decide)
   clear hA
   have a0:=x1.get 0 (by omega)
   have a1:=x1.get 1 (by omega)
   have a2:=x1.get 2 (by omega)
   have a4:=x1.get (m+3+1) (by omega)
   have al:=x1.lim
   have an:=x1.le
   have ul:=u1.lo
   simp [hmn,g1,g2,gB,hlim,wf,k0,k1,k2,k0',k1',k2',k3,k4,k5,k6]at a0 a1 a2 a4 al u1
   have m4:¬m+3+1=i1:=by omega
   simp [h9,m4]
   generalize hA:appendD _ _ _ _ _ _=A
   obtain ⟨i2,K2,rfl,u2,x2,y2,j2⟩:=u1.append (by simp) x1.wf an (by omega) hA (by simp;omega) (by decide)
   clear hA
   have b0:=x2.get 0 (by omega)
   have b1':=x2.get 1 (by omega)
   have b2:=x2.get 2 (by omega)
   have bl:=x2.lim
   have bn:=x2.le
   have l0:0<K2.n:=by omega
   rw [a0]at b0
   rw [a1]at b1'
   rw [a2]at b2
   rw [al]at bl
   simp [hI,h2,b0,bl,l0,x2.wf,turn]
   generalize hF:upd _ 42 _=F
   have hv':OwnR 3 (K2.set 0 (.arr tn 6 [eBroker .none b1] (some 1))) (.sl i2 8 0 o1.length) 86 8 (o1.map eOut):=by
    have:=(u2.toR.setLow (o:=.arr tn 6 [eBroker .none b1] (some 1)) x2.wf (by omega:0<m+5) l0).lower (by omega:3≤m+5)
    simpa using this
   refine l61 xc xd t (⟨⟨oc,od⟩,op,oq⟩::rest) hl tx tb tn rest 1 b1 o1 _ _ F _ rfl hi1 hz1 (rowR_out o1) (by simp;omega) ?_ ?_ ?_ ?_ ?_ ?_ ?_ ?_ ?_ ?_ hv' ?_ ?_ ?_
   all_goals first
    | (rw [←hF];simp [h2,h3,h4,h9,hW,hL];done)
    | (simp [b0,b1',b2,bl,l0,x2.wf];done)
    | (simp;omega)
end Go.Dm.Tc
/-
What the reference's functions compute,part 20: the end of a subscription,all of it.
-/
namespace Go.Dm.Tc
theorem InvK.endOwn {b:Broker} (h:InvK b) (x:ID):InvK (endOwn b x):=by
 obtain ⟨h1,h2,h3,h4,h5,h6,h7,h8,h9,h10,h11,h12,h13⟩:=h
 refine ⟨h1,h2,h3,h4,without_rising (fun o:OwnS=>o.id) x h5,h6,h7,h8,h9,?_,h11,h12,h13⟩
 intro o ho
 exact h10 o ((List.mem_filter.1 ho).1)
theorem ZL.endOwn {b:Broker} (h:ZL b 0) (x:ID):ZL (endOwn b x) 0 :=
 ⟨h.near,h.adv,h.seen,Nat.le_trans (List.length_filter_le ..) h.own,h.ent⟩
theorem s61 (b:Broker) (xc xd:Int) (hi:InvK b) (hz:ZL b 0) (ha:b.adverts.length≤1000) :
  pcF D t61 [eBroker .none b,.agg [.int .i64 xc,.int .i64 xd]]=some (.tup [eBroker .none (unsubscribeB b ⟨xc,xd⟩).1,eL false 8 eOut (unsubscribeB b ⟨xc,xd⟩).2]):=by
 unfold pcF
 rw [goRun_eq _ _ _ _ (by simp [t61])]
 simp [t61]
 generalize hF:upd _ 17 _=F
 generalize hH:Heap.push _ _=H
 have g0:H.get 0=some (.arr 29 6 [eBroker .none b] (some 1)):=by rw [←hH];simp
 have g1:H.get 1=some (.arr 37 2 [.agg [.int .i64 xc,.int .i64 xd]] (some 1)):=by rw [←hH];simp
 have g2:H.get 2=some (.arr 29 6 [.agg [.int .i64 0,.nsl,.nsl,.nsl,.nsl,.nsl]] (some 1)):=by rw [←hH];simp
 have hn3:H.n=3:=by rw [←hH];simp
 have hlim:H.lim=0:=by rw [←hH];simp
 have wf:WF H:=by rw [←hH];simp
 refine m61 [] xc xd false b.owns hz.own _ H g1 hlim (fun r=>pcOut (fin [.cell 4 (some 6),.t 5] r)=some (.tup [eBroker .none (unsubscribeB b ⟨xc,xd⟩).1,eL false 8 eOut (unsubscribeB b ⟨xc,xd⟩).2])) b.owns 0 [] .nsl F H rfl ⟨Nat.zero_le _,Nat.zero_le _⟩ (by rw [←hF];simp) (by rw [←hF];simp) (by rw [←hF];simp [Tags.none]) (by rw [←hF];simp) (by rw [←hF];simp) (.nil rfl rfl) (.refl (by omega) wf) fun f' h' v' q6 qr hov x=>?_
 have q2:f' 2=.ptr 0 6 0 0:=by rw [qr 2 (by decide),←hF];simp
 have q3:f' 3=.ptr 1 2 0 0:=by rw [qr 3 (by decide),←hF];simp
 have q4:f' 4=.ptr 2 6 0 0:=by rw [qr 4 (by decide),←hF];simp
 have a0:=(x.get 0 (by decide)).trans g0
 have a1:=(x.get 1 (by decide)).trans g1
 have a2:=(x.get 2 (by decide)).trans g2
 have al:=x.lim.trans hlim
 have hn:=x.le
 have l0:0<h'.n:=by omega
 have l2:2<h'.n:=by omega
 simp only [List.nil_append]at hov
 have hlen:=hov.lenV
 simp only [List.length_map]at hlen
 by_cases he:(without (fun o:OwnS=>o.id) ⟨xc,xd⟩ b.owns).length=b.owns.length
 ·have hu:unsubscribeB b ⟨xc,xd⟩=(b,[]):=by simp only [unsubscribeB,he,if_true]
  rw [hu]
  rw [he]at hlen
  simp [t61k1,q2,q3,q4,q6,a0,a1,a2,al,hlen,l2,x.wf,turn,resultsOf,eL_nil]
 ·have hu:unsubscribeB b ⟨xc,xd⟩=b.adverts.foldl (endStep ⟨xc,xd⟩) (endOwn b ⟨xc,xd⟩,[]):=by simp only [unsubscribeB,if_neg he]
  rw [hu]
  have he':¬((without (fun o:OwnS=>o.id) ⟨xc,xd⟩ b.owns).length:Int)=b.owns.length:=by omega
  simp [t61k1,q2,q3,q4,q6,a0,a1,a2,al,hlen,he,he',l0,l2,x.wf,turn,hov.storable,hov.ecells]
  generalize hF2:upd _ 42 _=F2
  refine r61 xc xd false b.adverts ha 37 29 29 (endOwn b ⟨xc,xd⟩) (hi.endOwn _) (hz.endOwn _) v' F2 _ ?_ ?_ ?_ ?_ ?_ ?_ ?_ ?_ ?_ ?_ (hov.setLow x.wf (by decide) l0) ?_ ?_ ?_
  all_goals first
   | (rw [←hF2];simp [q2,q3,q4];done)
   | (rw [←hF2];simp [q2,q3,q4,Tags.none];done)
   | (simp [a1,l0,x.wf];rfl)
   | (simp [a1,a2,al,l0,x.wf,zB];done)
   | (simp [l0,x.wf];rfl)
   | (simp;omega)
end Go.Dm.Tc
/-
What the reference's functions compute,part 21: a message comes by a link;a broker's side.
-/
namespace Go.Dm.Tc
theorem res_islS (t:Bool) (h:Heap) (n:Nat):resolve t h (n+1) (.isl false 0 [])=some (.isl false 0 []):=rfl
def stepB (b:Broker) (q k:Int) (t s:ID) (p:Pred):Broker×List OutS :=
 if k=1 then advertiseB b q t p else if k=2 then unadvertiseB b q t else if k=3 then onSubB b q t s p else dropB b t s q
set_option maxRecDepth 8000 in
theorem s111 (b:Broker) (q k tc td sc sd:Int) (p:Pred) (hi:InvK b) (hz:ZL b b.owns.length) (hp:PredOk p) (hf:linkB b q=true) (hlow:b.adverts.length<100000∧b.seen.length<100000) (hk:k=1∨k=2∨k=3∨k=4) :
  pcF D t111 [eBroker .none b,.int .i64 q,.agg [.int .i64 k,.int .i64 tc,.int .i64 td,.int .i64 sc,.int .i64 sd,ePred p,.isl false 0 []]]=some (.tup [eBroker .none (stepB b q k ⟨tc,td⟩ ⟨sc,sd⟩ p).1,eL false 8 eOut (stepB b q k ⟨tc,td⟩ ⟨sc,sd⟩ p).2,.isl false 0 []]):=by
 have h1:=s59 b tc td q p hi hz hp hf hlow
 have h2:=s58 b tc td q hi hz.sized
 have h3:=s62 b k tc td sc sd q p hi hz.sized hp
 have h4:=s63 b k tc td sc sd q p hi hz.sized
 have hu2:∀os:List OutS,unlent 199 (eL false 8 eOut os)=true:=fun os=>unl_eL (fun y _=>(plain_out y).2) 199 (by decide)
 unfold pcF
 rw [goRun_eq _ _ _ _ (by simp [t111])]
 rcases hk with rfl|rfl|rfl|rfl
 ·simp [t111,stepB,e59,h1,turn,resultsOf,hu2]
 ·simp [t111,stepB,e58,h2,turn,resultsOf,hu2]
 ·simp [t111,stepB,e62,res_islS,h3,turn,resultsOf,hu2]
 ·simp [t111,stepB,e63,res_islS,h4,turn,resultsOf,hu2]
def sideB (b:Broker) (n:Int):Int:=(b.near[(within n 0 b.near.length).toNat]?).getD (-1)
theorem s30 (t:Tags) (b:Broker) (n:Int) (hz:Sized b):pcF D t30 [eBroker t b,.int .i64 n]=some (.int .i64 (sideB b n)):=by
 unfold sideB
 have hw:=s16 n 0 b.near.length (by omega) (by decide) (by have:=hz.near;omega)
 obtain ⟨w1,w2⟩:=within_bounds n (lo:=0) (hi:=b.near.length) (by omega)
 generalize within n 0 b.near.length=w at *
 obtain ⟨k,rfl⟩:∃ k:Nat,w=k:=⟨w.toNat,by omega⟩
 unfold pcF
 rw [goRun_eq _ _ _ _ (by simp [t30])]
 by_cases hk:k<b.near.length
 ·simp [t30,e16,hw,hk,cInt]
 ·simp [t30,e16,hw,hk]
end Go.Dm.Tc
/-
What every broker keeps that is told anything: plain laws.
-/
namespace Go.Dm.Tc
structure Rest (a b:Broker) (k:Nat):Prop where
 me:b.me=a.me
 near:b.near=a.near
 adv:b.adverts=a.adverts
 seen:b.seen=a.seen
 own:b.owns=a.owns
 ent:b.entries.length≤a.entries.length+k
theorem Rest.refl (a:Broker) (k:Nat):Rest a a k:=⟨rfl,rfl,rfl,rfl,rfl,by omega⟩
theorem Rest.trans {a b c:Broker} {j k:Nat} (h1:Rest a b j) (h2:Rest b c k):Rest a c (j+k) :=
 ⟨h2.me.trans h1.me,h2.near.trans h1.near,h2.adv.trans h1.adv,h2.seen.trans h1.seen,h2.own.trans h1.own,by have:=h1.ent;have:=h2.ent;omega⟩
theorem Rest.mono {a b:Broker} {j k:Nat} (h:Rest a b j) (hk:j≤k):Rest a b k:=⟨h.me,h.near,h.adv,h.seen,h.own,by have:=h.ent;omega⟩
theorem addB_rest (b:Broker) (e:Entry):Rest b (addB b e).1 1:=by
 obtain ⟨h1,h2,h3,h4,h5,h6⟩:=addB_rows b e
 exact ⟨h5,h1,h2,h3,h4,h6⟩
theorem adv_keep (frm:Int) (x:ID) (p:Pred):∀(l:List OwnS) (st:Broker×List OutS),InvK st.1→(∀o∈l,PredOk o.pred)→InvK (l.foldl (advStep frm x p) st).1∧Rest st.1 (l.foldl (advStep frm x p) st).1 l.length
 | [],st,h,_=>⟨h,.refl _ _⟩
 | o::r,st,h,hp=>by
  have h1:InvK (advStep frm x p st o).1∧Rest st.1 (advStep frm x p st o).1 1:=by
   unfold advStep
   split
   ·exact ⟨h.add (by simp [linkB]) (hp o (List.mem_cons_self ..)),addB_rest ..⟩
   ·exact ⟨h,.refl _ _⟩
  have h2:=adv_keep frm x p r (advStep frm x p st o) h1.1 fun o ho=>hp o (List.mem_cons_of_mem _ ho)
  exact ⟨h2.1,(h1.2.trans h2.2).mono (by simp only [List.length_cons];omega)⟩
theorem sub_keep (x:ID) (p:Pred) (hp:PredOk p):∀(l:List Advert) (st:Broker×List OutS),InvK st.1→InvK (l.foldl (subStep x p) st).1∧Rest st.1 (l.foldl (subStep x p) st).1 l.length
 | [],st,h=>⟨h,.refl _ _⟩
 | o::r,st,h=>by
  have h1:InvK (subStep x p st o).1∧Rest st.1 (subStep x p st o).1 1:=by
   unfold subStep
   split
   ·exact ⟨h.add (by simp [linkB]) hp,addB_rest ..⟩
   ·exact ⟨h,.refl _ _⟩
  have h2:=sub_keep x p hp r (subStep x p st o) h1.1
  exact ⟨h2.1,(h1.2.trans h2.2).mono (by simp only [List.length_cons];omega)⟩
theorem end_keep (x:ID):∀(l:List Advert) (st:Broker×List OutS),InvK st.1→InvK (l.foldl (endStep x) st).1∧Rest st.1 (l.foldl (endStep x) st).1 0
 | [],st,h=>⟨h,.refl _ _⟩
 | o::r,st,h=>by
  have h1:InvK (endStep x st o).1∧Rest st.1 (endStep x st o).1 0:=by
   unfold endStep
   rw [drop_fst]
   refine ⟨h.take ..,?_⟩
   have hl:=take_len h o.id x (-1)
   rw [take_rest]at hl ⊢
   exact ⟨rfl,rfl,rfl,rfl,rfl,hl⟩
  have h2:=end_keep x r (endStep x st o) h1.1
  exact ⟨h2.1,(h1.2.trans h2.2).mono (by omega)⟩
end Go.Dm.Tc
/-
What every broker keeps that is told anything,call by call.
-/
namespace Go.Dm.Tc
theorem sq_succ (n:Nat):(n+1)*(n+1)=n*n+n+n+1:=by rw [Nat.add_mul,Nat.mul_add];omega
theorem Rest.sz {a b:Broker} {k n:Nat} (h:Rest a b k) (z:SzK a n) (hk:k≤n+n+1):SzK b (n+1):=by
 obtain ⟨h1,h2,h3,h4,h5,h6⟩:=h
 obtain ⟨z1,z2,z3,z4,z5⟩:=z
 have:=sq_succ n
 exact ⟨by rw [h2];exact z1,by rw [h3];omega,by rw [h4];omega,by rw [h5];omega,by omega⟩
theorem advertise_keep {b:Broker} {n:Nat} (h:InvK b) (z:SzK b n) {frm:Int} {x:ID} {p:Pred} (hf:linkB b frm=true) (hp:PredOk p):InvK (advertiseB b frm x p).1∧SzK (advertiseB b frm x p).1 (n+1):=by
 unfold advertiseB
 split
 ·rename_i hq
  have hi:=h.learn (a:=⟨x,p,frm⟩) hf hp
  have hk:=adv_keep frm x p b.owns ((learnB b ⟨x,p,frm⟩).1,toAll b.near frm 1 x.client x.seq 0 0 p) hi h.po
  refine ⟨hk.1,?_⟩
  obtain ⟨h1,h2,h3,h4,h5,h6⟩:=hk.2
  have z':=z.learn ⟨x,p,frm⟩
  have he:(learnB b ⟨x,p,frm⟩).1.entries=b.entries:=by unfold learnB;split<;>rfl
  have hn:(learnB b ⟨x,p,frm⟩).1.near=b.near:=by unfold learnB;split<;>rfl
  have ho:(learnB b ⟨x,p,frm⟩).1.owns=b.owns:=by unfold learnB;split<;>rfl
  obtain ⟨z1,z2,z3,z4,z5⟩:=z
  have:=sq_succ n
  simp only at h2 h3 h4 h5 h6
  rw [he]at h6
  exact ⟨by rw [h2,hn];exact z1,by rw [h3];exact z'.adv,by rw [h4];exact z'.seen,by rw [h5,ho];omega,by omega⟩
 ·exact ⟨h,z.mono (by omega)⟩
theorem unadvertise_keep {b:Broker} {n:Nat} (h:InvK b) (z:SzK b n) (frm:Int) (x:ID):InvK (unadvertiseB b frm x).1∧SzK (unadvertiseB b frm x).1 (n+1):=by
 unfold unadvertiseB
 split
 ·exact ⟨h.forget x frm,(z.forget x frm).mono (by omega)⟩
 ·exact ⟨h,z.mono (by omega)⟩
theorem onSub_keep {b:Broker} {n:Nat} (h:InvK b) (z:SzK b n) {q:Int} {t s:ID} {p:Pred} (hf:linkB b q=true) (hp:PredOk p):InvK (onSubB b q t s p).1∧SzK (onSubB b q t s p).1 (n+1) :=
 ⟨h.add hf hp,z.add _⟩
theorem drop_keep {b:Broker} {n:Nat} (h:InvK b) (z:SzK b n) (t s:ID) (q:Int):InvK (dropB b t s q).1∧SzK (dropB b t s q).1 (n+1):=by
 rw [drop_fst]
 exact ⟨h.take ..,(z.take h ..).mono (by omega)⟩
theorem subscribe_keep {b:Broker} {n:Nat} (h:InvK b) (z:SzK b n) {x:ID} {p:Pred} (hp:PredOk p):InvK (subscribeB b x p).1∧SzK (subscribeB b x p).1 (n+1):=by
 unfold subscribeB
 split
 ·exact ⟨h,z.mono (by omega)⟩
 ·rename_i hh
  have hi:=h.subOwn hp (hit_own h.ro x (by simpa using hh))
  have hk:=sub_keep x p hp b.adverts (subOwn b x p,[]) hi
  refine ⟨hk.1,?_⟩
  obtain ⟨h1,h2,h3,h4,h5,h6⟩:=hk.2
  have hl:(subOwn b x p).owns.length=b.owns.length+1:=insAt_len ..
  obtain ⟨z1,z2,z3,z4,z5⟩:=z
  have:=sq_succ n
  simp only at h2 h3 h4 h5 h6
  exact ⟨by rw [h2];exact z1,by rw [h3];exact Nat.le_succ_of_le z2,by rw [h4];exact Nat.le_succ_of_le z3,by rw [h5,hl];omega,by have:(subOwn b x p).entries=b.entries:=rfl;rw [this]at h6;omega⟩
theorem unsubscribe_keep {b:Broker} {n:Nat} (h:InvK b) (z:SzK b n) (x:ID):InvK (unsubscribeB b x).1∧SzK (unsubscribeB b x).1 (n+1):=by
 unfold unsubscribeB
 split
 ·exact ⟨h,z.mono (by omega)⟩
 ·have hk:=end_keep x b.adverts (endOwn b x,[]) (h.endOwn x)
  have z':SzK (endOwn b x) n:=⟨z.near,z.adv,z.seen,Nat.le_trans (List.length_filter_le ..) z.own,z.ent⟩
  exact ⟨hk.1,hk.2.sz z' (by omega)⟩
end Go.Dm.Tc
/-
The broker that numbers make: what it is.
-/
namespace Go.Dm.Tc
def tellB (b:Broker) (q:StepK):Broker :=
 let t:ID:=⟨within q.tree 0 2,0⟩
 let x:ID:=⟨within q.client 0 4,within q.seq 0 2⟩
 let f:=sideB b q.frm
 let k:=within q.kind 1 7
 let p:=mkPred q.has q.vals
 if k=6 then (subscribeB b x p).1 else if k=7 then (unsubscribeB b x).1
 else if k=3∧f=-1∨k=4∧f=-1∨k=5 then (advertiseB b f t p).1
 else (stepB b f k t x p).1
def nearK (n:Nat):List Int:=(List.range n).map fun i:Nat=>((i:Int)+1)
def startK (n:Nat):Broker:=⟨0,nearK n,[],[],[],[]⟩
def brokerK (near:Int) (l:List StepK):Broker:=(l.take 12).foldl tellB (startK (within near 1 4).toNat)
theorem side_link (b:Broker) (n:Int):linkB b (sideB b n)=true:=by
 unfold sideB linkB
 cases h:b.near[(within n 0 b.near.length).toNat]? with
 | none=>simp
 | some x=>simp [List.mem_of_getElem? h]
theorem tell_keep {b:Broker} {n:Nat} (h:InvK b) (z:SzK b n) (q:StepK):InvK (tellB b q)∧SzK (tellB b q) (n+1):=by
 have hp:=mkPred_ok q.has q.vals
 have hf:=side_link b q.frm
 unfold tellB
 simp only
 split
 ·exact subscribe_keep h z hp
 ·split
  ·exact unsubscribe_keep h z _
  ·split
   ·exact advertise_keep h z hf hp
   ·unfold stepB
    split
    ·exact advertise_keep h z hf hp
    ·split
     ·exact unadvertise_keep h z _ _
     ·split
      ·exact onSub_keep h z hf hp
      ·exact drop_keep h z _ _ _
theorem nearK_rises (n:Nat) (hn:n≤4):risesB (fun x y=>decide (x<y)) (nearK n)=true∧∀x∈nearK n,0≤x:=by
 rcases n with _|_|_|_|_|n
 ·decide
 ·decide
 ·decide
 ·decide
 ·decide
 ·omega
theorem start_keep (n:Nat) (hn:n≤4):InvK (startK n)∧SzK (startK n) 0 :=
 ⟨InvK.start (nearK_rises n hn).1 (nearK_rises n hn).2,SzK.start (by simp [nearK];omega)⟩
theorem tells_keep : ∀ (l : List StepK) {b : Broker} {n : Nat}, InvK b → SzK b n → InvK (l.foldl tellB b) ∧ SzK (l.foldl tellB b) (n + l.length)
  | [], _, _, h, z => ⟨h, z⟩
  | q :: r, b, n, h, z => by
    obtain ⟨h1, z1⟩ := tell_keep h z q
    obtain ⟨h2, z2⟩ := tells_keep r h1 z1
    exact ⟨h2, by have : n + (q :: r).length = n + 1 + r.length := by simp only [List.length_cons]; omega
                  rw [this]; exact z2⟩
theorem brokerK_keep (near:Int) (l:List StepK):InvK (brokerK near l)∧SzK (brokerK near l) 12:=by
 have hw:=within_bounds near (lo:=1) (hi:=4) (by decide)
 obtain ⟨h,z⟩:=start_keep (within near 1 4).toNat (by omega)
 obtain ⟨h2,z2⟩:=tells_keep (l.take 12) h z
 exact ⟨h2,z2.mono (by simp only [List.length_take];omega)⟩
end Go.Dm.Tc
/-
The broker that numbers make: the walk.
-/
namespace Go.Dm.Tc
set_option maxRecDepth 8000 in
set_option maxHeartbeats 4000000 in
theorem l29 (t:Bool) (near:Int) (l:List StepK) (hh:∀q∈l,q.has.length≤9223372036854775807) (tx tb tn:Nat) :
  ∀(n i:Nat) (nb:Broker) (f:FEnv) (h:Heap),12-i=n→InvK nb→SzK nb i→i≤12 →
  f 1=.ptr 0 2 0 0→f 2=.ptr 1 6 0 0→f 3=.ptr 2 6 0 0→f 5=.int .i64 i →
  h.get 0=some (.arr tx 2 [.agg [.int .i64 near,eL t 7 eStepK l]] (some 1))→h.get 1=some (.arr tb 6 [zB] (some 1))→h.get 2=some (.arr tn 6 [eBroker .none nb] (some 1))→h.lim=0→3≤h.n→WF h →
  pcOut (fin [.cell 2 (some 6)] (run D 124 [.block 2,.seq t29k0] (.loop t29l1) f h))=some (eBroker .none (((l.take 12).drop i).foldl tellB nb)):=by
 intro n
 induction n with
 | zero =>
  intro i nb f h hn hi hz hi12 h1 h2 h3 h5 g0 g1 g2 hlim hn3 wf
  have:i=12:=by omega
  subst this
  have he:(l.take 12).drop 12=[]:=List.drop_eq_nil_of_le (by simp;omega)
  have l1:1<h.n:=by omega
  rw [run_loop_of t29l1.eq_1,he]
  simp only [zB]at g1
  by_cases hlt:12<l.length
  ·have hlt':(12:Int)<l.length:=by omega
   simp [hlt',t29k0,h1,h2,h3,h5,g0,g1,g2,hlt,hlim,l1,wf,turn]
  ·have hlt':¬(12:Int)<l.length:=by omega
   simp [hlt',t29k0,h1,h2,h3,h5,g0,g1,g2,hlt,hlim,l1,wf,turn]
 | succ n ih =>
  intro i nb f h hn hi hz hi12 h1 h2 h3 h5 g0 g1 g2 hlim hn3 wf
  have hi12':i<12:=by omega
  have hi12i:(i:Int)<12:=by omega
  by_cases hlt:i<l.length
  ·have hlti:(i:Int)<l.length:=by omega
   have hz':Sized nb:=hz.sized (by omega)
   have hside:=s30 .none nb l[i].frm hz'
   have hpred:=s18 false false l[i].has l[i].vals (hh _ (List.getElem_mem hlt))
   have w1:=s16 l[i].tree 0 2 (by decide) (by decide) (by decide)
   have w2:=s16 l[i].client 0 4 (by decide) (by decide) (by decide)
   have w3:=s16 l[i].seq 0 2 (by decide) (by decide) (by decide)
   have w4:=s16 l[i].kind 1 7 (by decide) (by decide) (by decide)
   obtain ⟨m,hmn⟩:∃ m,h.n=m+3:=⟨h.n-3,by omega⟩
   rw [run_loop_of t29l1.eq_1]
   by_cases k6:within l[i].kind 1 7=6
   ·simp [h1,h3,h5,g0,g2,hlt,hlti,hi12i,hlim,wf,hmn,turn,eStepK,e16,w1,w2,w3,w4,e30,hside,e18,hpred,k6]
    have hS:=s46 nb (within l[i].client 0 4) (within l[i].seq 0 2) (mkPred l[i].has l[i].vals) hi ⟨by have:=hz.near;omega,by have:=hz.adv;omega,by have:=hz.seen;omega,by have:=hz.own;omega,by have:=hz.ent;have:=hz.adv;have:=Nat.mul_le_mul hi12 hi12;omega⟩ (mkPred_ok ..) (by have:=hz.own;omega)
    have hte:tellB nb l[i]=(subscribeB nb ⟨within l[i].client 0 4,within l[i].seq 0 2⟩ (mkPred l[i].has l[i].vals)).1:=by simp [tellB,k6]
    have hdr:(l.take 12).drop i=l[i]::(l.take 12).drop (i+1):=by
     have:i<(l.take 12).length:=by simp;omega
     rw [List.drop_eq_getElem_cons this];simp
    rw [hdr,List.foldl_cons]
    simp [e46,hS,hmn,g2,hlim,wf,h3,h5,turn,t29s1]
    rw [wrap64 (by omega) (by omega)]
    generalize hF:upd _ 5 _=F
    have hk:=tell_keep hi hz l[i]
    rw [←hte]
    refine ih (i+1) (tellB nb l[i]) F _ (by omega) hk.1 hk.2 (by omega) ?_ ?_ ?_ ?_ ?_ ?_ ?_ ?_ ?_ ?_
    all_goals first
     | (rw [←hF];simp [h1,h2,h3];done)
     | (simp [hmn,g0,g1,g2,hlim,wf];done)
     | (simp [hmn]<;>omega)
   ·by_cases k7:within l[i].kind 1 7=7
    ·simp [h1,h3,h5,g0,g2,hlt,hlti,hi12i,hlim,wf,hmn,turn,eStepK,e16,w1,w2,w3,w4,e30,hside,e18,hpred,k7]
     have hS:=s61 nb (within l[i].client 0 4) (within l[i].seq 0 2) hi ⟨by have:=hz.near;omega,by have:=hz.adv;omega,by have:=hz.seen;omega,by have:=hz.own;omega,by have:=hz.ent;have:=Nat.mul_le_mul hi12 hi12;omega⟩ (by have:=hz.adv;omega)
     have hte:tellB nb l[i]=(unsubscribeB nb ⟨within l[i].client 0 4,within l[i].seq 0 2⟩).1:=by simp [tellB,k7]
     have hdr:(l.take 12).drop i=l[i]::(l.take 12).drop (i+1):=by
      have:i<(l.take 12).length:=by simp;omega
      rw [List.drop_eq_getElem_cons this];simp
     rw [hdr,List.foldl_cons]
     simp [e61,hS,hmn,g2,hlim,wf,h3,h5,turn,t29s1]
     rw [wrap64 (by omega) (by omega)]
     generalize hF:upd _ 5 _=F
     have hk:=tell_keep hi hz l[i]
     rw [←hte]
     refine ih (i+1) (tellB nb l[i]) F _ (by omega) hk.1 hk.2 (by omega) ?_ ?_ ?_ ?_ ?_ ?_ ?_ ?_ ?_ ?_
     all_goals first
      | (rw [←hF];simp [h1,h2,h3];done)
      | (simp [hmn,g0,g1,g2,hlim,wf];done)
      | (simp [hmn]<;>omega)
    ·by_cases k5:within l[i].kind 1 7=5
     ·simp [h1,h3,h5,g0,g2,hlt,hlti,hi12i,hlim,wf,hmn,turn,eStepK,e16,w1,w2,w3,w4,e30,hside,e18,hpred,k5]
      have hS:=s59 nb (within l[i].tree 0 2) 0 (sideB nb l[i].frm) (mkPred l[i].has l[i].vals) hi ⟨by have:=hz.near;omega,by have:=hz.adv;omega,by have:=hz.seen;omega,by have:=hz.own;omega,by have:=hz.ent;have:=hz.own;have:=Nat.mul_le_mul hi12 hi12;omega⟩ (mkPred_ok ..) (side_link ..) ⟨by have:=hz.adv;omega,by have:=hz.seen;omega⟩
      have hte:tellB nb l[i]=(advertiseB nb (sideB nb l[i].frm) ⟨within l[i].tree 0 2,0⟩ (mkPred l[i].has l[i].vals)).1:=by simp [tellB,k5]
      have hdr:(l.take 12).drop i=l[i]::(l.take 12).drop (i+1):=by
       have:i<(l.take 12).length:=by simp;omega
       rw [List.drop_eq_getElem_cons this];simp
      rw [hdr,List.foldl_cons]
      simp [e59,hS,hmn,g2,hlim,wf,h3,h5,turn,t29s1]
      rw [wrap64 (by omega) (by omega)]
      generalize hF:upd _ 5 _=F
      have hk:=tell_keep hi hz l[i]
      rw [←hte]
      refine ih (i+1) (tellB nb l[i]) F _ (by omega) hk.1 hk.2 (by omega) ?_ ?_ ?_ ?_ ?_ ?_ ?_ ?_ ?_ ?_
      all_goals first
       | (rw [←hF];simp [h1,h2,h3];done)
       | (simp [hmn,g0,g1,g2,hlim,wf];done)
       | (simp [hmn]<;>omega)
     ·by_cases k3:within l[i].kind 1 7=3∧sideB nb l[i].frm=-1
      ·simp [h1,h3,h5,g0,g2,hlt,hlti,hi12i,hlim,wf,hmn,turn,eStepK,e16,w1,w2,w3,w4,e30,hside,e18,hpred,k3.1,k3.2]
       have hS:=s59 nb (within l[i].tree 0 2) 0 (sideB nb l[i].frm) (mkPred l[i].has l[i].vals) hi ⟨by have:=hz.near;omega,by have:=hz.adv;omega,by have:=hz.seen;omega,by have:=hz.own;omega,by have:=hz.ent;have:=hz.own;have:=Nat.mul_le_mul hi12 hi12;omega⟩ (mkPred_ok ..) (side_link ..) ⟨by have:=hz.adv;omega,by have:=hz.seen;omega⟩
       have hS2:=hS
       rw [k3.2]at hS2
       have hte:tellB nb l[i]=(advertiseB nb (sideB nb l[i].frm) ⟨within l[i].tree 0 2,0⟩ (mkPred l[i].has l[i].vals)).1:=by simp [tellB,k3.1,k3.2]
       have hdr:(l.take 12).drop i=l[i]::(l.take 12).drop (i+1):=by
        have:i<(l.take 12).length:=by simp;omega
        rw [List.drop_eq_getElem_cons this];simp
       rw [hdr,List.foldl_cons]
       simp [e59,hS2,hmn,g2,hlim,wf,h3,h5,turn,t29s1]
       rw [wrap64 (by omega) (by omega)]
       generalize hF:upd _ 5 _=F
       have hk:=tell_keep hi hz l[i]
       rw [k3.2]at hte
       rw [←hte]
       refine ih (i+1) (tellB nb l[i]) F _ (by omega) hk.1 hk.2 (by omega) ?_ ?_ ?_ ?_ ?_ ?_ ?_ ?_ ?_ ?_
       all_goals first
        | (rw [←hF];simp [h1,h2,h3];done)
        | (simp [hmn,g0,g1,g2,hlim,wf];done)
        | (simp [hmn]<;>omega)
      ·by_cases k4:within l[i].kind 1 7=4∧sideB nb l[i].frm=-1
       ·simp [h1,h3,h5,g0,g2,hlt,hlti,hi12i,hlim,wf,hmn,turn,eStepK,e16,w1,w2,w3,w4,e30,hside,e18,hpred,k4.1,k4.2]
        have hS:=s59 nb (within l[i].tree 0 2) 0 (sideB nb l[i].frm) (mkPred l[i].has l[i].vals) hi ⟨by have:=hz.near;omega,by have:=hz.adv;omega,by have:=hz.seen;omega,by have:=hz.own;omega,by have:=hz.ent;have:=hz.own;have:=Nat.mul_le_mul hi12 hi12;omega⟩ (mkPred_ok ..) (side_link ..) ⟨by have:=hz.adv;omega,by have:=hz.seen;omega⟩
        have hS2:=hS
        rw [k4.2]at hS2
        have hte:tellB nb l[i]=(advertiseB nb (sideB nb l[i].frm) ⟨within l[i].tree 0 2,0⟩ (mkPred l[i].has l[i].vals)).1:=by simp [tellB,k4.1,k4.2]
        have hdr:(l.take 12).drop i=l[i]::(l.take 12).drop (i+1):=by
         have:i<(l.take 12).length:=by simp;omega
         rw [List.drop_eq_getElem_cons this];simp
        rw [hdr,List.foldl_cons]
        simp [e59,hS2,hmn,g2,hlim,wf,h3,h5,turn,t29s1]
        rw [wrap64 (by omega) (by omega)]
        generalize hF:upd _ 5 _=F
        have hk:=tell_keep hi hz l[i]
        rw [k4.2]at hte
        rw [←hte]
        refine ih (i+1) (tellB nb l[i]) F _ (by omega) hk.1 hk.2 (by omega) ?_ ?_ ?_ ?_ ?_ ?_ ?_ ?_ ?_ ?_
        all_goals first
         | (rw [←hF];simp [h1,h2,h3];done)
         | (simp [hmn,g0,g1,g2,hlim,wf];done)
         | (simp [hmn]<;>omega)
       ·have hk4:within l[i].kind 1 7=1∨within l[i].kind 1 7=2∨within l[i].kind 1 7=3∨within l[i].kind 1 7=4:=by have:=within_bounds l[i].kind (lo:=1) (hi:=7) (by decide);omega
        have hk5:=hk4
        rcases hk5 with kk|kk|kk|kk
        ·simp [h1,h3,h5,g0,g2,hlt,hlti,hi12i,hlim,wf,hmn,turn,eStepK,e16,w1,w2,w3,w4,e30,hside,e18,hpred,kk]
         have hS:=s111 nb (sideB nb l[i].frm) (within l[i].kind 1 7) (within l[i].tree 0 2) 0 (within l[i].client 0 4) (within l[i].seq 0 2) (mkPred l[i].has l[i].vals) hi ⟨by have:=hz.near;omega,by have:=hz.adv;omega,by have:=hz.seen;omega,by have:=hz.own;omega,by have:=hz.ent;have:=hz.own;have:=Nat.mul_le_mul hi12 hi12;omega⟩ (mkPred_ok ..) (side_link ..) ⟨by have:=hz.adv;omega,by have:=hz.seen;omega⟩ hk4
         rw [kk]at hS
         have hte:tellB nb l[i]=(stepB nb (sideB nb l[i].frm) 1 ⟨within l[i].tree 0 2,0⟩ ⟨within l[i].client 0 4,within l[i].seq 0 2⟩ (mkPred l[i].has l[i].vals)).1:=by simp [tellB,kk]
         have hdr:(l.take 12).drop i=l[i]::(l.take 12).drop (i+1):=by
          have:i<(l.take 12).length:=by simp;omega
          rw [List.drop_eq_getElem_cons this];simp
         rw [hdr,List.foldl_cons]
         simp [e111,hS,hmn,g2,hlim,wf,h3,h5,turn,t29s1]
         rw [wrap64 (by omega) (by omega)]
         generalize hF:upd _ 5 _=F
         have hk:=tell_keep hi hz l[i]
         rw [←hte]
         refine ih (i+1) (tellB nb l[i]) F _ (by omega) hk.1 hk.2 (by omega) ?_ ?_ ?_ ?_ ?_ ?_ ?_ ?_ ?_ ?_
         all_goals first
          | (rw [←hF];simp [h1,h2,h3];done)
          | (simp [hmn,g0,g1,g2,hlim,wf];done)
          | (simp [hmn]<;>omega)
        ·simp [h1,h3,h5,g0,g2,hlt,hlti,hi12i,hlim,wf,hmn,turn,eStepK,e16,w1,w2,w3,w4,e30,hside,e18,hpred,kk]
         have hS:=s111 nb (sideB nb l[i].frm) (within l[i].kind 1 7) (within l[i].tree 0 2) 0 (within l[i].client 0 4) (within l[i].seq 0 2) (mkPred l[i].has l[i].vals) hi ⟨by have:=hz.near;omega,by have:=hz.adv;omega,by have:=hz.seen;omega,by have:=hz.own;omega,by have:=hz.ent;have:=hz.own;have:=Nat.mul_le_mul hi12 hi12;omega⟩ (mkPred_ok ..) (side_link ..) ⟨by have:=hz.adv;omega,by have:=hz.seen;omega⟩ hk4
         rw [kk]at hS
         have hte:tellB nb l[i]=(stepB nb (sideB nb l[i].frm) 2 ⟨within l[i].tree 0 2,0⟩ ⟨within l[i].client 0 4,within l[i].seq 0 2⟩ (mkPred l[i].has l[i].vals)).1:=by simp [tellB,kk]
         have hdr:(l.take 12).drop i=l[i]::(l.take 12).drop (i+1):=by
          have:i<(l.take 12).length:=by simp;omega
          rw [List.drop_eq_getElem_cons this];simp
         rw [hdr,List.foldl_cons]
         simp [e111,hS,hmn,g2,hlim,wf,h3,h5,turn,t29s1]
         rw [wrap64 (by omega) (by omega)]
         generalize hF:upd _ 5 _=F
         have hk:=tell_keep hi hz l[i]
         rw [←hte]
         refine ih (i+1) (tellB nb l[i]) F _ (by omega) hk.1 hk.2 (by omega) ?_ ?_ ?_ ?_ ?_ ?_ ?_ ?_ ?_ ?_
         all_goals first
          | (rw [←hF];simp [h1,h2,h3];done)
          | (simp [hmn,g0,g1,g2,hlim,wf];done)
          | (simp [hmn]<;>omega)
        ·have kf:¬sideB nb l[i].frm=-1:=fun e=>k3 ⟨kk,e⟩
         simp [h1,h3,h5,g0,g2,hlt,hlti,hi12i,hlim,wf,hmn,turn,eStepK,e16,w1,w2,w3,w4,e30,hside,e18,hpred,kk,kf]
         have hS:=s111 nb (sideB nb l[i].frm) (within l[i].kind 1 7) (within l[i].tree 0 2) 0 (within l[i].client 0 4) (within l[i].seq 0 2) (mkPred l[i].has l[i].vals) hi ⟨by have:=hz.near;omega,by have:=hz.adv;omega,by have:=hz.seen;omega,by have:=hz.own;omega,by have:=hz.ent;have:=hz.own;have:=Nat.mul_le_mul hi12 hi12;omega⟩ (mkPred_ok ..) (side_link ..) ⟨by have:=hz.adv;omega,by have:=hz.seen;omega⟩ hk4
         rw [kk]at hS
         have hte:tellB nb l[i]=(stepB nb (sideB nb l[i].frm) 3 ⟨within l[i].tree 0 2,0⟩ ⟨within l[i].client 0 4,within l[i].seq 0 2⟩ (mkPred l[i].has l[i].vals)).1:=by simp [tellB,kk,kf]
         have hdr:(l.take 12).drop i=l[i]::(l.take 12).drop (i+1):=by
          have:i<(l.take 12).length:=by simp;omega
          rw [List.drop_eq_getElem_cons this];simp
         rw [hdr,List.foldl_cons]
         simp [e111,hS,hmn,g2,hlim,wf,h3,h5,turn,t29s1]
         rw [wrap64 (by omega) (by omega)]
         generalize hF:upd _ 5 _=F
         have hk:=tell_keep hi hz l[i]
         rw [←hte]
         refine ih (i+1) (tellB nb l[i]) F _ (by omega) hk.1 hk.2 (by omega) ?_ ?_ ?_ ?_ ?_ ?_ ?_ ?_ ?_ ?_
         all_goals first
          | (rw [←hF];simp [h1,h2,h3];done)
          | (simp [hmn,g0,g1,g2,hlim,wf];done)
          | (simp [hmn]<;>omega)
        ·have kf:¬sideB nb l[i].frm=-1:=fun e=>k4 ⟨kk,e⟩
         simp [h1,h3,h5,g0,g2,hlt,hlti,hi12i,hlim,wf,hmn,turn,eStepK,e16,w1,w2,w3,w4,e30,hside,e18,hpred,kk,kf]
         have hS:=s111 nb (sideB nb l[i].frm) (within l[i].kind 1 7) (within l[i].tree 0 2) 0 (within l[i].client 0 4) (within l[i].seq 0 2) (mkPred l[i].has l[i].vals) hi ⟨by have:=hz.near;omega,by have:=hz.adv;omega,by have:=hz.seen;omega,by have:=hz.own;omega,by have:=hz.ent;have:=hz.own;have:=Nat.mul_le_mul hi12 hi12;omega⟩ (mkPred_ok ..) (side_link ..) ⟨by have:=hz.adv;omega,by have:=hz.seen;omega⟩ hk4
         rw [kk]at hS
         have hte:tellB nb l[i]=(stepB nb (sideB nb l[i].frm) 4 ⟨within l[i].tree 0 2,0⟩ ⟨within l[i].client 0 4,within l[i].seq 0 2⟩ (mkPred l[i].has l[i].vals)).1:=by simp [tellB,kk,kf]
         have hdr:(l.take 12).drop i=l[i]::(l.take 12).drop (i+1):=by
          have:i<(l.take 12).length:=by simp;omega
          rw [List.drop_eq_getElem_cons this];simp
         rw [hdr,List.foldl_cons]
         simp [e111,hS,hmn,g2,hlim,wf,h3,h5,turn,t29s1]
         rw [wrap64 (by omega) (by omega)]
         generalize hF:upd _ 5 _=F
         have hk:=tell_keep hi hz l[i]
         rw [←hte]
         refine ih (i+1) (tellB nb l[i]) F _ (by omega) hk.1 hk.2 (by omega) ?_ ?_ ?_ ?_ ?_ ?_ ?_ ?_ ?_ ?_
         all_goals first
          | (rw [←hF];simp [h1,h2,h3];done)
          | (simp [hmn,g0,g1,g2,hlim,wf];done)
          | (simp [hmn]<;>omega)
  ·have hlti:¬(i:Int)<l.length:=by omega
   have he:(l.take 12).drop i=[]:=List.drop_eq_nil_of_le (by simp;omega)
   have l1:1<h.n:=by omega
   rw [run_loop_of t29l1.eq_1,he]
   simp only [zB]at g1
   simp [t29k0,h1,h2,h3,h5,g0,g1,g2,hlt,hlti,hlim,l1,wf,turn]
end Go.Dm.Tc
/-
The broker that numbers make: its neighbours,and the first that it is told.
-/
namespace Go.Dm.Tc
theorem fr_near {lo:Nat} {h:Heap} {i ety:Nat} {os:List Int} {n:Nat} (o:OwnI lo h i ety 1 (os.map cInt)) (hn:n=os.length):freeze h (.sl i 1 0 n)=some (eL false 1 cInt os,h.set i .dead):=by
 subst hn
 obtain ⟨⟨sp,cap,hg⟩,hl,_⟩:=o
 have hb:(List.take os.length (List.map cInt os++sp)).all (below 200 0)=true:=by
  rw [List.take_left' (by simp),List.all_eq_true]
  intro x hx
  obtain ⟨y,_,rfl⟩:=List.mem_map.1 hx
  rfl
 simp only [freeze,hg,hl,List.drop_zero,hb,List.length_append,List.length_map,Nat.zero_add,Nat.le_add_right,and_self,if_true]
 rw [List.take_left' (by simp)]
 cases os<;>rfl
theorem res_near {t:Bool} {ety K:Nat} (H:Heap) (sp:List DV) (cap:Option Nat):resSlO t H 198 1 0 K (some (.arr ety 1 ((nearK K).map cInt++sp) cap))=some (eL t 1 cInt (nearK K)):=by
 have hl:(nearK K).length=K:=by simp [nearK]
 rw [resSlO_some,if_pos ⟨rfl,by simp [hl]⟩,List.drop_zero,List.take_left' (by simp [hl])]
 have:resL t H 198 ((nearK K).map cInt)=some ((nearK K).map cInt):=mapM_self fun x hx=>by
  obtain ⟨y,_,rfl⟩:=List.mem_map.1 hx
  exact plain_int.1 y t H 198 (by decide)
 rw [this]
 rfl
theorem nearK_len (n:Nat):(nearK n).length=n:=by simp [nearK]
set_option maxRecDepth 8000 in
set_option maxHeartbeats 4000000 in
theorem n29 (t:Bool) (near:Int) (l:List StepK) (hh:∀q∈l,q.has.length≤9223372036854775807) (tx tb tn:Nat)
  (K:Nat) (hK:K≤4) (iw:Nat) (f:FEnv) (h:Heap)
  (h1:f 1=.ptr 0 2 0 0) (h2:f 2=.ptr 1 6 0 0) (h3:f 3=.ptr 2 6 0 0) (h5:f 5=.int .i64 0)
  (g0:h.get 0=some (.arr tx 2 [.agg [.int .i64 near,eL t 7 eStepK l]] (some 1))) (g1:h.get 1=some (.arr tb 6 [zB] (some 1))) (g2:h.get 2=some (.arr tn 6 [.agg [.int .i64 0,.sl iw 1 0 K,.nsl,.nsl,.nsl,.nsl]] (some 1)))
  (ho:OwnI 3 h iw 3 1 ((nearK K).map cInt)) (hlim:h.lim=0) (hn3:3≤h.n) (wf:WF h) :
  pcOut (fin [.cell 2 (some 6)] (run D 124 [.block 2,.seq t29k0] (.loop t29l1) f h))=some (eBroker .none ((l.take 12).foldl tellB (startK K))):=by
 obtain ⟨hi,hz⟩:=start_keep K hK
 have hil:=ho.lt
 have hi3:=ho.lo
 have l1:1<h.n:=by omega
 by_cases hlt:0<l.length
 ·have hlti:(0:Int)<l.length:=by omega
  have hz':Sized (startK K):=hz.sized (by omega)
  have hside:=s30 ⟨true,false,false,false,false⟩ (startK K) l[0].frm hz'
  have hpred:=s18 false false l[0].has l[0].vals (hh _ (List.getElem_mem hlt))
  have w1:=s16 l[0].tree 0 2 (by decide) (by decide) (by decide)
  have w2:=s16 l[0].client 0 4 (by decide) (by decide) (by decide)
  have w3:=s16 l[0].seq 0 2 (by decide) (by decide) (by decide)
  have w4:=s16 l[0].kind 1 7 (by decide) (by decide) (by decide)
  obtain ⟨m,hmn⟩:∃ m,h.n=m+3:=⟨h.n-3,by omega⟩
  have m0:¬iw=0:=by omega
  have m1:¬iw=1:=by omega
  have m2:¬iw=2:=by omega
  have m0':¬0=iw:=by omega
  have m1':¬1=iw:=by omega
  have m2':¬2=iw:=by omega
  have m3:¬iw=m+3:=by omega
  have m4:¬iw=m+3+1:=by omega
  have m5:¬iw=m+3+1+1:=by omega
  have m6:¬iw=m+3+1+1+1:=by omega
  have j3:iw<m+3:=by omega
  have j4:iw<m+3+1:=by omega
  have j5:iw<m+3+1+1:=by omega
  have j6:iw<m+3+1+1+1:=by omega
  have hfr:∀o1 o2 o3 o4,freeze ((((h.push o1).push o2).push o3).push o4) (.sl iw 1 0 K)=some (eL false 1 cInt (nearK K),((((h.push o1).push o2).push o3).push o4).set iw .dead):=fun o1 o2 o3 o4=>fr_near ho.push.push.push.push (nearK_len K).symm
  obtain ⟨sp,cap,hg⟩:=ho.get
  have hr1:∀H,resSlO true H 198 1 0 K (some (.arr 3 1 ((nearK K).map cInt++sp) cap))=some (eL true 1 cInt (nearK K)):=fun H=>res_near H sp cap
  have hbb:DV.agg [.int .i64 0,eL false 1 cInt (nearK K),.isl false 0 [],.isl false 0 [],.isl false 0 [],.isl false 0 []]=eBroker .none (startK K):=rfl
  have hbt:DV.agg [.int .i64 0,eL true 1 cInt (nearK K),.isl false 0 [],.isl false 0 [],.isl false 0 [],.isl false 0 []]=eBroker ⟨true,false,false,false,false⟩ (startK K):=rfl
  have hfold:(l.take 12).foldl tellB (startK K)=((l.take 12).drop 1).foldl tellB (tellB (startK K) l[0]):=by cases l with
   | nil=>simp at hlt
   | cons a l=>simp
  have hi12:0≤12:=by decide
  obtain ⟨R,hR⟩:∃ R,R=eBroker .none (((l.take 12).drop 1).foldl tellB (tellB (startK K) l[0])):=⟨_,rfl⟩
  rw [hfold,←hR,run_loop_of t29l1.eq_1]
  by_cases k6:within l[0].kind 1 7=6
  ·simp [h1,h3,h5,g0,g2,hlt,hlti,hlim,wf,hmn,turn,eStepK,e16,w1,w2,w3,w4,e30,hr1,-resSlO_some,hg,j3,j4,j5,j6,m0,m1,m2,m0',m1',m2',m3,m4,m5,m6,hbt,hside,e18,hpred,k6]
   have hS:=s46 (startK K) (within l[0].client 0 4) (within l[0].seq 0 2) (mkPred l[0].has l[0].vals) hi ⟨by have:=hz.near;omega,by have:=hz.adv;omega,by have:=hz.seen;omega,by have:=hz.own;omega,by have:=hz.ent;have:=hz.adv;have:=Nat.mul_le_mul hi12 hi12;omega⟩ (mkPred_ok ..) (by have:=hz.own;omega)
   have hte:tellB (startK K) l[0]=(subscribeB (startK K) ⟨within l[0].client 0 4,within l[0].seq 0 2⟩ (mkPred l[0].has l[0].vals)).1:=by simp [tellB,k6]
   simp [e46,hS,hmn,g2,hlim,wf,h3,h5,turn,hfr,hbb,j3,j4,j5,j6,m0,m1,m2,m0',m1',m2',m3,m4,m5,m6,t29s1]
   rw [hR]
   generalize hF:upd _ 5 _=F
   have hk:=tell_keep hi hz l[0]
   rw [←hte]
   refine l29 t near l hh tx tb tn 11 1 (tellB (startK K) l[0]) F _ (by decide) hk.1 hk.2 (by decide) ?_ ?_ ?_ ?_ ?_ ?_ ?_ ?_ ?_ ?_
   all_goals first
    | (rw [←hF];simp [h1,h2,h3];done)
    | (simp [hmn,g0,g1,g2,hlim,wf,j3,j4,j5,j6,m0,m1,m2,m0',m1',m2',m3,m4,m5,m6];done)
    | (simp [hmn,m0,m1,m2,m0',m1',m2',m3,m4,m5,m6]<;>omega)
  ·by_cases k7:within l[0].kind 1 7=7
   ·simp [h1,h3,h5,g0,g2,hlt,hlti,hlim,wf,hmn,turn,eStepK,e16,w1,w2,w3,w4,e30,hr1,-resSlO_some,hg,j3,j4,j5,j6,m0,m1,m2,m0',m1',m2',m3,m4,m5,m6,hbt,hside,e18,hpred,k7]
    have hS:=s61 (startK K) (within l[0].client 0 4) (within l[0].seq 0 2) hi ⟨by have:=hz.near;omega,by have:=hz.adv;omega,by have:=hz.seen;omega,by have:=hz.own;omega,by have:=hz.ent;have:=Nat.mul_le_mul hi12 hi12;omega⟩ (by have:=hz.adv;omega)
    have hte:tellB (startK K) l[0]=(unsubscribeB (startK K) ⟨within l[0].client 0 4,within l[0].seq 0 2⟩).1:=by simp [tellB,k7]
    simp [e61,hS,hmn,g2,hlim,wf,h3,h5,turn,hfr,hbb,j3,j4,j5,j6,m0,m1,m2,m0',m1',m2',m3,m4,m5,m6,t29s1]
    rw [hR]
    generalize hF:upd _ 5 _=F
    have hk:=tell_keep hi hz l[0]
    rw [←hte]
    refine l29 t near l hh tx tb tn 11 1 (tellB (startK K) l[0]) F _ (by decide) hk.1 hk.2 (by decide) ?_ ?_ ?_ ?_ ?_ ?_ ?_ ?_ ?_ ?_
    all_goals first
     | (rw [←hF];simp [h1,h2,h3];done)
     | (simp [hmn,g0,g1,g2,hlim,wf,j3,j4,j5,j6,m0,m1,m2,m0',m1',m2',m3,m4,m5,m6];done)
     | (simp [hmn,m0,m1,m2,m0',m1',m2',m3,m4,m5,m6]<;>omega)
   ·by_cases k5:within l[0].kind 1 7=5
    ·simp [h1,h3,h5,g0,g2,hlt,hlti,hlim,wf,hmn,turn,eStepK,e16,w1,w2,w3,w4,e30,hr1,-resSlO_some,hg,j3,j4,j5,j6,m0,m1,m2,m0',m1',m2',m3,m4,m5,m6,hbt,hside,e18,hpred,k5]
     have hS:=s59 (startK K) (within l[0].tree 0 2) 0 (sideB (startK K) l[0].frm) (mkPred l[0].has l[0].vals) hi ⟨by have:=hz.near;omega,by have:=hz.adv;omega,by have:=hz.seen;omega,by have:=hz.own;omega,by have:=hz.ent;have:=hz.own;have:=Nat.mul_le_mul hi12 hi12;omega⟩ (mkPred_ok ..) (side_link ..) ⟨by have:=hz.adv;omega,by have:=hz.seen;omega⟩
     have hte:tellB (startK K) l[0]=(advertiseB (startK K) (sideB (startK K) l[0].frm) ⟨within l[0].tree 0 2,0⟩ (mkPred l[0].has l[0].vals)).1:=by simp [tellB,k5]
     simp [e59,hS,hmn,g2,hlim,wf,h3,h5,turn,hfr,hbb,j3,j4,j5,j6,m0,m1,m2,m0',m1',m2',m3,m4,m5,m6,t29s1]
     rw [hR]
     generalize hF:upd _ 5 _=F
     have hk:=tell_keep hi hz l[0]
     rw [←hte]
     refine l29 t near l hh tx tb tn 11 1 (tellB (startK K) l[0]) F _ (by decide) hk.1 hk.2 (by decide) ?_ ?_ ?_ ?_ ?_ ?_ ?_ ?_ ?_ ?_
     all_goals first
      | (rw [←hF];simp [h1,h2,h3];done)
      | (simp [hmn,g0,g1,g2,hlim,wf,j3,j4,j5,j6,m0,m1,m2,m0',m1',m2',m3,m4,m5,m6];done)
      | (simp [hmn,m0,m1,m2,m0',m1',m2',m3,m4,m5,m6]<;>omega)
    ·by_cases k3:within l[0].kind 1 7=3∧sideB (startK K) l[0].frm=-1
     ·simp [h1,h3,h5,g0,g2,hlt,hlti,hlim,wf,hmn,turn,eStepK,e16,w1,w2,w3,w4,e30,hr1,-resSlO_some,hg,j3,j4,j5,j6,m0,m1,m2,m0',m1',m2',m3,m4,m5,m6,hbt,hside,e18,hpred,k3.1,k3.2]
      have hS:=s59 (startK K) (within l[0].tree 0 2) 0 (sideB (startK K) l[0].frm) (mkPred l[0].has l[0].vals) hi ⟨by have:=hz.near;omega,by have:=hz.adv;omega,by have:=hz.seen;omega,by have:=hz.own;omega,by have:=hz.ent;have:=hz.own;have:=Nat.mul_le_mul hi12 hi12;omega⟩ (mkPred_ok ..) (side_link ..) ⟨by have:=hz.adv;omega,by have:=hz.seen;omega⟩
      have hS2:=hS
      rw [k3.2]at hS2
      have hte:tellB (startK K) l[0]=(advertiseB (startK K) (sideB (startK K) l[0].frm) ⟨within l[0].tree 0 2,0⟩ (mkPred l[0].has l[0].vals)).1:=by simp [tellB,k3.1,k3.2]
      simp [e59,hS2,hmn,g2,hlim,wf,h3,h5,turn,hfr,hbb,j3,j4,j5,j6,m0,m1,m2,m0',m1',m2',m3,m4,m5,m6,t29s1]
      rw [hR]
      generalize hF:upd _ 5 _=F
      have hk:=tell_keep hi hz l[0]
      rw [k3.2]at hte
      rw [←hte]
      refine l29 t near l hh tx tb tn 11 1 (tellB (startK K) l[0]) F _ (by decide) hk.1 hk.2 (by decide) ?_ ?_ ?_ ?_ ?_ ?_ ?_ ?_ ?_ ?_
      all_goals first
       | (rw [←hF];simp [h1,h2,h3];done)
       | (simp [hmn,g0,g1,g2,hlim,wf,j3,j4,j5,j6,m0,m1,m2,m0',m1',m2',m3,m4,m5,m6];done)
       | (simp [hmn,m0,m1,m2,m0',m1',m2',m3,m4,m5,m6]<;>omega)
     ·by_cases k4:within l[0].kind 1 7=4∧sideB (startK K) l[0].frm=-1
      ·simp [h1,h3,h5,g0,g2,hlt,hlti,hlim,wf,hmn,turn,eStepK,e16,w1,w2,w3,w4,e30,hr1,-resSlO_some,hg,j3,j4,j5,j6,m0,m1,m2,m0',m1',m2',m3,m4,m5,m6,hbt,hside,e18,hpred,k4.1,k4.2]
       have hS:=s59 (startK K) (within l[0].tree 0 2) 0 (sideB (startK K) l[0].frm) (mkPred l[0].has l[0].vals) hi ⟨by have:=hz.near;omega,by have:=hz.adv;omega,by have:=hz.seen;omega,by have:=hz.own;omega,by have:=hz.ent;have:=hz.own;have:=Nat.mul_le_mul hi12 hi12;omega⟩ (mkPred_ok ..) (side_link ..) ⟨by have:=hz.adv;omega,by have:=hz.seen;omega⟩
       have hS2:=hS
       rw [k4.2]at hS2
       have hte:tellB (startK K) l[0]=(advertiseB (startK K) (sideB (startK K) l[0].frm) ⟨within l[0].tree 0 2,0⟩ (mkPred l[0].has l[0].vals)).1:=by simp [tellB,k4.1,k4.2]
       simp [e59,hS2,hmn,g2,hlim,wf,h3,h5,turn,hfr,hbb,j3,j4,j5,j6,m0,m1,m2,m0',m1',m2',m3,m4,m5,m6,t29s1]
       rw [hR]
       generalize hF:upd _ 5 _=F
       have hk:=tell_keep hi hz l[0]
       rw [k4.2]at hte
       rw [←hte]
       refine l29 t near l hh tx tb tn 11 1 (tellB (startK K) l[0]) F _ (by decide) hk.1 hk.2 (by decide) ?_ ?_ ?_ ?_ ?_ ?_ ?_ ?_ ?_ ?_
       all_goals first
        | (rw [←hF];simp [h1,h2,h3];done)
        | (simp [hmn,g0,g1,g2,hlim,wf,j3,j4,j5,j6,m0,m1,m2,m0',m1',m2',m3,m4,m5,m6];done)
        | (simp [hmn,m0,m1,m2,m0',m1',m2',m3,m4,m5,m6]<;>omega)
      ·have hk4:within l[0].kind 1 7=1∨within l[0].kind 1 7=2∨within l[0].kind 1 7=3∨within l[0].kind 1 7=4:=by have:=within_bounds l[0].kind (lo:=1) (hi:=7) (by decide);omega
       have hk5:=hk4
       rcases hk5 with kk|kk|kk|kk
       ·simp [h1,h3,h5,g0,g2,hlt,hlti,hlim,wf,hmn,turn,eStepK,e16,w1,w2,w3,w4,e30,hr1,-resSlO_some,hg,j3,j4,j5,j6,m0,m1,m2,m0',m1',m2',m3,m4,m5,m6,hbt,hside,e18,hpred,kk]
        have hS:=s111 (startK K) (sideB (startK K) l[0].frm) (within l[0].kind 1 7) (within l[0].tree 0 2) 0 (within l[0].client 0 4) (within l[0].seq 0 2) (mkPred l[0].has l[0].vals) hi ⟨by have:=hz.near;omega,by have:=hz.adv;omega,by have:=hz.seen;omega,by have:=hz.own;omega,by have:=hz.ent;have:=hz.own;have:=Nat.mul_le_mul hi12 hi12;omega⟩ (mkPred_ok ..) (side_link ..) ⟨by have:=hz.adv;omega,by have:=hz.seen;omega⟩ hk4
        rw [kk]at hS
        have hte:tellB (startK K) l[0]=(stepB (startK K) (sideB (startK K) l[0].frm) 1 ⟨within l[0].tree 0 2,0⟩ ⟨within l[0].client 0 4,within l[0].seq 0 2⟩ (mkPred l[0].has l[0].vals)).1:=by simp [tellB,kk]
        simp [e111,hS,hmn,g2,hlim,wf,h3,h5,turn,hfr,hbb,j3,j4,j5,j6,m0,m1,m2,m0',m1',m2',m3,m4,m5,m6,t29s1]
        rw [hR]
        generalize hF:upd _ 5 _=F
        have hk:=tell_keep hi hz l[0]
        rw [←hte]
        refine l29 t near l hh tx tb tn 11 1 (tellB (startK K) l[0]) F _ (by decide) hk.1 hk.2 (by decide) ?_ ?_ ?_ ?_ ?_ ?_ ?_ ?_ ?_ ?_
        all_goals first
         | (rw [←hF];simp [h1,h2,h3];done)
         | (simp [hmn,g0,g1,g2,hlim,wf,j3,j4,j5,j6,m0,m1,m2,m0',m1',m2',m3,m4,m5,m6];done)
         | (simp [hmn,m0,m1,m2,m0',m1',m2',m3,m4,m5,m6]<;>omega)
       ·simp [h1,h3,h5,g0,g2,hlt,hlti,hlim,wf,hmn,turn,eStepK,e16,w1,w2,w3,w4,e30,hr1,-resSlO_some,hg,j3,j4,j5,j6,m0,m1,m2,m0',m1',m2',m3,m4,m5,m6,hbt,hside,e18,hpred,kk]
        have hS:=s111 (startK K) (sideB (startK K) l[0].frm) (within l[0].kind 1 7) (within l[0].tree 0 2) 0 (within l[0].client 0 4) (within l[0].seq 0 2) (mkPred l[0].has l[0].vals) hi ⟨by have:=hz.near;omega,by have:=hz.adv;omega,by have:=hz.seen;omega,by have:=hz.own;omega,by have:=hz.ent;have:=hz.own;have:=Nat.mul_le_mul hi12 hi12;omega⟩ (mkPred_ok ..) (side_link ..) ⟨by have:=hz.adv;omega,by have:=hz.seen;omega⟩ hk4
        rw [kk]at hS
        have hte:tellB (startK K) l[0]=(stepB (startK K) (sideB (startK K) l[0].frm) 2 ⟨within l[0].tree 0 2,0⟩ ⟨within l[0].client 0 4,within l[0].seq 0 2⟩ (mkPred l[0].has l[0].vals)).1:=by simp [tellB,kk]
        simp [e111,hS,hmn,g2,hlim,wf,h3,h5,turn,hfr,hbb,j3,j4,j5,j6,m0,m1,m2,m0',m1',m2',m3,m4,m5,m6,t29s1]
        rw [hR]
        generalize hF:upd _ 5 _=F
        have hk:=tell_keep hi hz l[0]
        rw [←hte]
        refine l29 t near l hh tx tb tn 11 1 (tellB (startK K) l[0]) F _ (by decide) hk.1 hk.2 (by decide) ?_ ?_ ?_ ?_ ?_ ?_ ?_ ?_ ?_ ?_
        all_goals first
         | (rw [←hF];simp [h1,h2,h3];done)
         | (simp [hmn,g0,g1,g2,hlim,wf,j3,j4,j5,j6,m0,m1,m2,m0',m1',m2',m3,m4,m5,m6];done)
         | (simp [hmn,m0,m1,m2,m0',m1',m2',m3,m4,m5,m6]<;>omega)
       ·have kf:¬sideB (startK K) l[0].frm=-1:=fun e=>k3 ⟨kk,e⟩
        simp [h1,h3,h5,g0,g2,hlt,hlti,hlim,wf,hmn,turn,eStepK,e16,w1,w2,w3,w4,e30,hr1,-resSlO_some,hg,j3,j4,j5,j6,m0,m1,m2,m0',m1',m2',m3,m4,m5,m6,hbt,hside,e18,hpred,kk,kf]
        have hS:=s111 (startK K) (sideB (startK K) l[0].frm) (within l[0].kind 1 7) (within l[0].tree 0 2) 0 (within l[0].client 0 4) (within l[0].seq 0 2) (mkPred l[0].has l[0].vals) hi ⟨by have:=hz.near;omega,by have:=hz.adv;omega,by have:=hz.seen;omega,by have:=hz.own;omega,by have:=hz.ent;have:=hz.own;have:=Nat.mul_le_mul hi12 hi12;omega⟩ (mkPred_ok ..) (side_link ..) ⟨by have:=hz.adv;omega,by have:=hz.seen;omega⟩ hk4
        rw [kk]at hS
        have hte:tellB (startK K) l[0]=(stepB (startK K) (sideB (startK K) l[0].frm) 3 ⟨within l[0].tree 0 2,0⟩ ⟨within l[0].client 0 4,within l[0].seq 0 2⟩ (mkPred l[0].has l[0].vals)).1:=by simp [tellB,kk,kf]
        simp [e111,hS,hmn,g2,hlim,wf,h3,h5,turn,hfr,hbb,j3,j4,j5,j6,m0,m1,m2,m0',m1',m2',m3,m4,m5,m6,t29s1]
        rw [hR]
        generalize hF:upd _ 5 _=F
        have hk:=tell_keep hi hz l[0]
        rw [←hte]
        refine l29 t near l hh tx tb tn 11 1 (tellB (startK K) l[0]) F _ (by decide) hk.1 hk.2 (by decide) ?_ ?_ ?_ ?_ ?_ ?_ ?_ ?_ ?_ ?_
        all_goals first
         | (rw [←hF];simp [h1,h2,h3];done)
         | (simp [hmn,g0,g1,g2,hlim,wf,j3,j4,j5,j6,m0,m1,m2,m0',m1',m2',m3,m4,m5,m6];done)
         | (simp [hmn,m0,m1,m2,m0',m1',m2',m3,m4,m5,m6]<;>omega)
       ·have kf:¬sideB (startK K) l[0].frm=-1:=fun e=>k4 ⟨kk,e⟩
        simp [h1,h3,h5,g0,g2,hlt,hlti,hlim,wf,hmn,turn,eStepK,e16,w1,w2,w3,w4,e30,hr1,-resSlO_some,hg,j3,j4,j5,j6,m0,m1,m2,m0',m1',m2',m3,m4,m5,m6,hbt,hside,e18,hpred,kk,kf]
        have hS:=s111 (startK K) (sideB (startK K) l[0].frm) (within l[0].kind 1 7) (within l[0].tree 0 2) 0 (within l[0].client 0 4) (within l[0].seq 0 2) (mkPred l[0].has l[0].vals) hi ⟨by have:=hz.near;omega,by have:=hz.adv;omega,by have:=hz.seen;omega,by have:=hz.own;omega,by have:=hz.ent;have:=hz.own;have:=Nat.mul_le_mul hi12 hi12;omega⟩ (mkPred_ok ..) (side_link ..) ⟨by have:=hz.adv;omega,by have:=hz.seen;omega⟩ hk4
        rw [kk]at hS
        have hte:tellB (startK K) l[0]=(stepB (startK K) (sideB (startK K) l[0].frm) 4 ⟨within l[0].tree 0 2,0⟩ ⟨within l[0].client 0 4,within l[0].seq 0 2⟩ (mkPred l[0].has l[0].vals)).1:=by simp [tellB,kk,kf]
        simp [e111,hS,hmn,g2,hlim,wf,h3,h5,turn,hfr,hbb,j3,j4,j5,j6,m0,m1,m2,m0',m1',m2',m3,m4,m5,m6,t29s1]
        rw [hR]
        generalize hF:upd _ 5 _=F
        have hk:=tell_keep hi hz l[0]
        rw [←hte]
        refine l29 t near l hh tx tb tn 11 1 (tellB (startK K) l[0]) F _ (by decide) hk.1 hk.2 (by decide) ?_ ?_ ?_ ?_ ?_ ?_ ?_ ?_ ?_ ?_
        all_goals first
         | (rw [←hF];simp [h1,h2,h3];done)
         | (simp [hmn,g0,g1,g2,hlim,wf,j3,j4,j5,j6,m0,m1,m2,m0',m1',m2',m3,m4,m5,m6];done)
         | (simp [hmn,m0,m1,m2,m0',m1',m2',m3,m4,m5,m6]<;>omega)
 ·have hl0:l=[]:=by cases l<;>simp_all
  subst hl0
  obtain ⟨sp,cap,hg⟩:=ho.get
  have hr1:∀H,resSlO false H 198 1 0 K (some (.arr 3 1 ((nearK K).map cInt++sp) cap))=some (eL false 1 cInt (nearK K)):=fun H=>res_near H sp cap
  have hbb:DV.agg [.int .i64 0,eL false 1 cInt (nearK K),.isl false 0 [],.isl false 0 [],.isl false 0 [],.isl false 0 []]=eBroker .none (startK K):=rfl
  have k1:¬iw=1:=by omega
  have k2:¬iw=2:=by omega
  have l2:2<h.n:=by omega
  rw [run_loop_of t29l1.eq_1]
  simp only [zB]at g1
  simp [t29k0,h1,h2,h3,h5,g0,g1,g2,hlim,l1,l2,wf,turn,hr1,-resSlO_some,hg,k1,k2,hbb]
theorem nearK_succ (i:Nat):(nearK (i+1)).map cInt=(nearK i).map cInt++[.int .i64 ((i:Int)+1)]:=by
 simp [nearK,List.range_succ,cInt]
set_option maxRecDepth 8000 in
theorem r29 (t:Bool) (near:Int) (l:List StepK) (hh:∀q∈l,q.has.length≤9223372036854775807) (tx tb tn:Nat) (K:Nat) (hK1:1≤K) (hK:K≤4) :
  ∀(n i:Nat) (v:DV) (f:FEnv) (h:Heap),K-i=n→i≤K→f 1=.ptr 0 2 0 0→f 2=.ptr 1 6 0 0→f 3=.ptr 2 6 0 0→f 14=.int .i64 K→f 15=.int .i64 i →
  h.get 0=some (.arr tx 2 [.agg [.int .i64 near,eL t 7 eStepK l]] (some 1))→h.get 1=some (.arr tb 6 [zB] (some 1))→h.get 2=some (.arr tn 6 [.agg [.int .i64 0,v,.nsl,.nsl,.nsl,.nsl]] (some 1)) →
  OwnR 3 h v 3 1 ((nearK i).map cInt)→h.lim=0→3≤h.n→WF h →
  pcOut (fin [.cell 2 (some 6)] (run D 124 [.block 0,.seq t29k1] (.loop t29l0) f h))=some (eBroker .none ((l.take 12).foldl tellB (startK K))):=by
 intro n
 induction n with
 | zero =>
  intro i v f h hn hi h1 h2 h3 h14 h15 g0 g1 g2 ho hlim hn3 wf
  have:i=K:=by omega
  subst this
  rw [run_loop_of t29l0.eq_1]
  simp [h14,h15,t29k1]
  cases ho with
  | nil hv hx=>exact absurd hx (by rw [List.map_eq_nil_iff];intro e;have:=nearK_len i;rw [e]at this;simp at this;omega)
  | arr iw sp cap hv hg hl1 hl2 =>
   rw [hv]at g2
   rw [List.length_map,nearK_len]at g2
   refine n29 t near l hh tx tb tn i hK iw _ _ ?_ ?_ ?_ ?_ g0 g1 g2 ⟨⟨sp,cap,hg⟩,hl1,hl2⟩ hlim hn3 wf
   all_goals simp [h1,h2,h3]
 | succ n ih =>
  intro i v f h hn hi h1 h2 h3 h14 h15 g0 g1 g2 ho hlim hn3 wf
  have hlt:i<K:=by omega
  have hlti:(i:Int)<K:=by omega
  obtain ⟨m,hmn⟩:∃ m,h.n=m+3:=⟨h.n-3,by omega⟩
  rw [run_loop_of t29l0.eq_1]
  simp [h3,h14,h15,hlt,hlti,g2,hmn,hlim,wf,turn,t29s0]
  rw [wrap64 (by omega) (by omega)]
  generalize hA:appendD _ _ _ _ _ _=A
  obtain ⟨v',H,rfl,p',x',_⟩:=OwnR.append (lo:=3) ho.push (by simp [wf]) (by simp [hmn]) (by simp [hlim]) hA (by simp [nearK_len];omega) (by decide)
  rw [←nearK_succ]at p'
  clear hA
  have a0:=x'.get 0 (by decide)
  have a1:=x'.get 1 (by decide)
  have a2:=x'.get 2 (by decide)
  have al:=x'.lim
  have aw:=x'.wf
  have an:=x'.le
  have l2:2<H.n:=by omega
  simp [hmn,g0,g1,g2,hlim]at a0 a1 a2 al
  obtain ⟨m',hm'⟩:∃ m',H.n=m'+3:=⟨H.n-3,by omega⟩
  have hst:storable 1 v'=true∧ecells 1 v'=[v']:=⟨p'.storable,by cases p' with
   | nil hv _=>rw [hv];rfl
   | arr _ _ _ hv _ _ _=>rw [hv];rfl⟩
  simp [h3,h15,a2,al,aw,hm',turn,hst.1,hst.2]
  rw [wrap64 (by omega) (by omega)]
  generalize hF:upd _ 15 _=F
  refine ih (i+1) v' F _ (by omega) (by omega) ?_ ?_ ?_ ?_ ?_ ?_ ?_ ?_ (p'.setLow aw (by decide) l2) ?_ ?_ ?_
  all_goals first
   | (rw [←hF];simp [h1,h2,h3,h14];done)
   | (simp [hm',a0,a1,a2,al,aw];done)
   | (simp [hm']<;>omega)
set_option maxRecDepth 8000 in
theorem s29 (t:Bool) (near:Int) (l:List StepK) (hh:∀q∈l,q.has.length≤9223372036854775807) :
  pcF D t29 [.agg [.int .i64 near,eL t 7 eStepK l]]=some (eBroker .none (brokerK near l)):=by
 have hw:=s16 near 1 4 (by decide) (by decide) (by decide)
 have hb:=within_bounds near (lo:=1) (hi:=4) (by decide)
 unfold brokerK
 generalize within near 1 4=w at *
 obtain ⟨K,rfl⟩:∃ K:Nat,w=K:=⟨w.toNat,by omega⟩
 rw [Int.toNat_natCast]
 unfold pcF
 rw [goRun_eq _ _ _ _ (by simp [t29])]
 simp [t29,e16,hw]
 refine r29 t near l hh 55 29 29 K (by omega) (by omega) K 0 .nsl _ _ (by omega) (by omega) ?_ ?_ ?_ ?_ ?_ ?_ ?_ ?_ (.nil rfl rfl) ?_ ?_ ?_
 all_goals simp [zB]
end Go.Dm.Tc
/-
The broker that numbers make: how far its numbers go.
-/
namespace Go.Dm.Tc
structure LowK (b:Broker):Prop where
 near:∀x∈b.near,1≤x∧x≤4
 ne:0<b.near.length
 seen:∀x∈b.seen,x.client≤4
 own:∀o∈b.owns,o.id.client≤4
 ent:∀e∈b.entries,e.sub.client≤4
theorem LowK.learn {b:Broker} (h:LowK b) {a:Advert} (ha:a.id.client≤4):LowK (learnB b a).1:=by
 unfold learnB
 split
 ·exact h
 ·refine ⟨h.near,h.ne,fun x hx=>?_,h.own,h.ent⟩
  have hx:=(ins_mem (fun x:ID=>x) a.id b.seen x).1 hx
  rcases hx with rfl|hx
  ·exact ha
  ·exact h.seen x hx
theorem LowK.forget {b:Broker} (h:LowK b) (x:ID) (q:Int):LowK (forgetB b x q).1:=by
 unfold forgetB
 split
 ·exact h
 ·split
  ·exact ⟨h.near,h.ne,h.seen,h.own,fun e he=>h.ent e (mem_without.1 he).1⟩
  ·exact h
theorem LowK.add {b:Broker} (h:LowK b) {e:Entry} (he:e.sub.client≤4):LowK (addB b e).1:=by
 unfold addB
 split
 ·refine ⟨h.near,h.ne,h.seen,h.own,fun x hx=>?_⟩
  rcases insE_mem.1 hx with rfl|hx
  ·exact he
  ·exact h.ent x hx
 ·exact h
theorem LowK.take {b:Broker} (h:LowK b) (hi:InvK b) (t s:ID) (q:Int):LowK (takeB b t s q).1:=by
 rcases take_cases hi t s q with ⟨e,_⟩|⟨e,_,_,_,_,ht⟩|⟨e,_,_,_,_,r',u',ht,hr,_⟩
 ·rw [e];exact h
 ·rw [ht]
  exact ⟨h.near,h.ne,h.seen,h.own,fun x hx=>h.ent x (List.mem_filter.1 hx).1⟩
 ·rw [ht]
  refine ⟨h.near,h.ne,h.seen,h.own,fun x hx=>?_⟩
  rcases hr.mem hx with hx|⟨y,hy,_,_,rfl⟩
  ·exact h.ent x (List.mem_filter.1 hx).1
  ·exact h.ent y (List.mem_filter.1 hy).1
theorem low_adv (frm:Int) (x:ID) (p:Pred):∀(l:List OwnS) (st:Broker×List OutS),LowK st.1→(∀o∈l,o.id.client≤4)→LowK (l.foldl (advStep frm x p) st).1
 | [],_,h,_=>h
 | o::r,st,h,hp=>by
  have h1:LowK (advStep frm x p st o).1:=by
   unfold advStep
   split
   ·exact h.add (hp o (List.mem_cons_self ..))
   ·exact h
  exact low_adv frm x p r _ h1 fun o ho=>hp o (List.mem_cons_of_mem _ ho)
theorem low_sub (x:ID) (p:Pred) (hx:x.client≤4):∀(l:List Advert) (st:Broker×List OutS),LowK st.1→LowK (l.foldl (subStep x p) st).1
 | [],_,h=>h
 | o::r,st,h=>by
  have h1:LowK (subStep x p st o).1:=by
   unfold subStep
   split
   ·exact h.add hx
   ·exact h
  exact low_sub x p hx r _ h1
theorem lowK_end (x:ID):∀(l:List Advert) (st:Broker×List OutS),InvK st.1→LowK st.1→LowK (l.foldl (endStep x) st).1
 | [],_,_,h=>h
 | o::r,st,hi,h=>by
  have h1:LowK (endStep x st o).1:=by
   unfold endStep
   rw [drop_fst]
   exact h.take hi ..
  have h2:InvK (endStep x st o).1:=by
   unfold endStep
   rw [drop_fst]
   exact hi.take ..
  exact lowK_end x r _ h2 h1
theorem low_advertise {b:Broker} (h:LowK b) (frm:Int) {x:ID} (hx:x.client≤4) (p:Pred):LowK (advertiseB b frm x p).1:=by
 unfold advertiseB
 split
 ·exact low_adv _ _ _ _ _ (h.learn (a:=⟨x,p,frm⟩) hx) h.own
 ·exact h
theorem low_unadvertise {b:Broker} (h:LowK b) (frm:Int) (x:ID):LowK (unadvertiseB b frm x).1:=by
 unfold unadvertiseB
 split
 ·exact h.forget ..
 ·exact h
theorem low_subscribe {b:Broker} (h:LowK b) {x:ID} (hx:x.client≤4) (p:Pred):LowK (subscribeB b x p).1:=by
 unfold subscribeB
 split
 ·exact h
 ·refine low_sub _ _ hx _ _ ⟨h.near,h.ne,h.seen,fun o ho=>?_,h.ent⟩
  have ho:=(ins_mem (fun o:OwnS=>o.id) ⟨x,p⟩ b.owns o).1 ho
  rcases ho with rfl|ho
  ·exact hx
  ·exact h.own o ho
theorem low_unsubscribe {b:Broker} (h:LowK b) (hi:InvK b) (x:ID):LowK (unsubscribeB b x).1:=by
 unfold unsubscribeB
 split
 ·exact h
 ·exact lowK_end _ _ _ (hi.endOwn x) ⟨h.near,h.ne,h.seen,fun o ho=>h.own o (mem_without.1 ho).1,h.ent⟩
theorem tell_low {b:Broker} (h:LowK b) (hi:InvK b) (q:StepK):LowK (tellB b q):=by
 have w1:=within_bounds q.tree (lo:=0) (hi:=2) (by decide)
 have w2:=within_bounds q.client (lo:=0) (hi:=4) (by decide)
 have hT:(⟨within q.tree 0 2,0⟩:ID).client≤4:=by simp only;omega
 have hX:(⟨within q.client 0 4,within q.seq 0 2⟩:ID).client≤4:=by simp only;omega
 unfold tellB
 simp only
 split
 ·exact low_subscribe h hX _
 ·split
  ·exact low_unsubscribe h hi _
  ·split
   ·exact low_advertise h _ hT _
   ·unfold stepB
    split
    ·exact low_advertise h _ hT _
    ·split
     ·exact low_unadvertise h _ _
     ·split
      ·exact h.add hX
      ·rw [drop_fst];exact h.take hi ..
theorem tells_low:∀(l:List StepK) {b:Broker} {n:Nat},InvK b→SzK b n→LowK b→LowK (l.foldl tellB b)
 | [],_,_,_,_,h=>h
 | q::r,_,_,hi,z,h=>tells_low r (tell_keep hi z q).1 (tell_keep hi z q).2 (tell_low h hi q)
theorem start_low (n : Nat) (h1 : 1 ≤ n) (hn : n ≤ 4) : LowK (startK n) :=
  ⟨by rcases n with _ | _ | _ | _ | _ | n
      · decide
      · decide
      · decide
      · decide
      · decide
      · omega, by simp [startK, nearK]; omega, fun x h => (by cases h), fun x h => (by cases h), fun x h => (by cases h)⟩
theorem brokerK_low (near:Int) (l:List StepK):LowK (brokerK near l):=by
 have hw:=within_bounds near (lo:=1) (hi:=4) (by decide)
 obtain ⟨h,z⟩:=start_keep (within near 1 4).toNat (by omega)
 exact tells_low (l.take 12) h z (start_low _ (by omega) (by omega))
end Go.Dm.Tc
