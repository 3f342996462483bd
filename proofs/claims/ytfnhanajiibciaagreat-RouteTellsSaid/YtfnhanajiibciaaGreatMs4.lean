/-
What the program's routes compute, part 2: an entry taken out; subscriptions by a link.
-/
import Derived.Test.YtfnhanajiibciaaGreatMs3
import Derived.Test.YtfnhanajiibciaaGreatMs2
set_option linter.all false
namespace Go.Dm.Tc
theorem l129 (S:List Fr) (t:Bool) (ups:List Entry) (hl:ups.length≤100000) (ac ad to:Int) (ap:Pred) (h0:Heap) (hlim:h0.lim≤5) (g4:h0.get 4=some (.arr 42 4 [.agg [.int .i64 ac,.int .i64 ad,ePred ap,.int .i64 to]] (some 1))) (P:Res→Prop) :
  ∀(rest:List Entry) (i:Nat) (outs:List OutS) (es:List DV) (v:DV) (f:FEnv) (h:Heap),ups.drop i=rest→RowR es outs→(es.length≤i∧i≤ups.length)→f 10=.ptr 4 4 0 0→f 14=v→f 35=eL t 7 eEntry ups→f 36=.int .i64 ups.length→f 37=.int .i64 i→OwnR 5 h v 86 8 es→Ext 5 h0 h →
  (∀f' h' v' es',f' 14=v'→(∀r,r<12→f' r=f r)→es'.length≤ups.length→RowR es' (outs++upOuts to rest)→OwnR 5 h' v' 86 8 es'→Ext 5 h0 h'→P (run D 60 S t129k0 f' h')) →
  P (run D 60 (.block 0::.seq t129k0::S) (.loop t129l0) f h):=by
 intro rest
 induction rest with
 | nil =>
  intro i outs es v f h hd hr he h10 h14 h35 h36 h37 ho x hP
  have hi:=drop_nil hd
  have:¬(i<ups.length):=by omega
  have k:∀r q:Nat,r<12→12≤q→¬r=q:=fun r q h1 h2=>by omega
  rw [run_loop_of t129l0.eq_1]
  simp [h36,h37,this]
  refine hP _ h v es (by simp [h14]) (fun r hr2=>by simp [k r _ hr2]) (by omega) (by simpa [upOuts] using hr) ho x
 | cons e rest ih =>
  intro i outs es v f h hd hr he h10 h14 h35 h36 h37 ho x hP
  obtain ⟨hi,he',hd'⟩:=drop_at hd
  obtain ⟨⟨tc,td⟩,⟨sc,sd⟩,p,q,u⟩:=e
  have hnl:=x.le
  have hll:=x.lim
  have a4:=(x.get 4 (by decide)).trans g4
  have k:∀r q:Nat,r<12→12≤q→¬r=q:=fun r q h1 h2=>by omega
  obtain ⟨m,hmn⟩:∃ m,h.n=m+5:=⟨h.n-5,by omega⟩
  rw [run_loop_of t129l0.eq_1]
  have hlm:h.lim≤m+5:=by omega
  simp [h10,h14,h35,h36,h37,hi,he',a4,eEntry,hmn,x.wf,turn,hlm,e120,s120]
  generalize hA:appendD _ _ _ _ _ _=A
  obtain ⟨v',K,rfl,p',x',_⟩:=OwnR.append (ho.push.push) (by simp [x.wf]) (by simp [hmn]<;>omega) (by simp [hmn];omega) hA (by simp;omega) (by decide)
  clear hA
  simp [h37]
  rw [wrap64 (by omega) (by omega)]
  generalize hF:upd _ 37 _=F
  have hr':=RowR.append hr (RowR.one (to:=to) (k:=3) (tc:=tc) (td:=td) (ic:=sc) (id:=sd) (pd:=ePred p) (ad:=.isl false 0 []) (.inl rfl) (.inr rfl))
  refine ih (i+1) _ _ v' F K hd' hr' ⟨by simp;omega,by omega⟩ ?_ ?_ ?_ ?_ ?_ (by simpa [rawO] using p') ((x.push.push).trans x') ?_
  all_goals first
   | (rw [←hF];simp [h10,h14,h35,h36];done)
   | skip
  intro f' h' v2 es' a1 a3 a4 a5 a6 a7
  refine hP f' h' v2 es' a1 (fun r hr2=>?_) a4 (by simpa [upOuts] using a5) a6 a7
  rw [a3 r hr2,←hF]
  simp [k r _ hr2]
set_option maxRecDepth 8000 in
theorem s129 (b:Broker) (tc td sc sd q:Int) (hi:InvK b) (hz:Sized b) :
  pcF D t129 [eBroker .none b,.agg [.int .i64 tc,.int .i64 td],.agg [.int .i64 sc,.int .i64 sd],.int .i64 q]=some (.tup [eBroker .none (dropB b ⟨tc,td⟩ ⟨sc,sd⟩ q).1,eL false 8 eOut (dropB b ⟨tc,td⟩ ⟨sc,sd⟩ q).2]):=by
 have ht:=kTake hi hz tc td sc sd q
 have hFd:=kAF .none hi hz tc td
 unfold pcF
 rw [goRun_eq _ _ _ _ (by simp [t129])]
 cases hu:(takeB b ⟨tc,td⟩ ⟨sc,sd⟩ q).2.2 with
 | false =>
  rw [hu]at ht
  have hd:dropB b ⟨tc,td⟩ ⟨sc,sd⟩ q=((takeB b ⟨tc,td⟩ ⟨sc,sd⟩ q).1,[]):=by simp [dropB,hu]
  rw [hd]
  generalize (advOf b ⟨tc,td⟩).getD advZero=a at *
  obtain ⟨⟨vc,vd⟩,vp,vq⟩:=a
  simp [t129,e23,hFd,eAdvert,e34,ht,turn,resultsOf,eL_nil]
 | true =>
  rw [hu]at ht
  obtain ⟨hadv,⟨⟨ac,ad⟩,ap,aq⟩,ha⟩:=take_adv hi hu
  rw [ha]at hFd
  have hpar:parentOf b ⟨tc,td⟩=aq:=by rw [parentOf_eq,ha];rfl
  have hd:dropB b ⟨tc,td⟩ ⟨sc,sd⟩ q=((takeB b ⟨tc,td⟩ ⟨sc,sd⟩ q).1,upOuts aq (takeB b ⟨tc,td⟩ ⟨sc,sd⟩ q).2.1++[⟨aq,4,⟨tc,td⟩,⟨sc,sd⟩,[]⟩]):=by simp [dropB,hu,hpar]
  rw [hd]
  simp [t129,e23,hFd,eAdvert,e34,ht,turn]
  generalize hF:upd _ 37 _=F
  generalize hH:Heap.push _ _=H0
  have hul:(takeB b ⟨tc,td⟩ ⟨sc,sd⟩ q).2.1.length≤100000:=Nat.le_trans (takeL_le hi ..) hz.ent
  generalize (takeB b ⟨tc,td⟩ ⟨sc,sd⟩ q).2.1=ups at *
  generalize hb1:(takeB b ⟨tc,td⟩ ⟨sc,sd⟩ q).1=b1 at *
  have hn4:H0.n=5:=by rw [←hH];simp
  have hl0:H0.lim=0:=by rw [←hH];simp
  have hw0:WF H0:=by rw [←hH];simp
  refine l129 [] false ups hul ac ad aq ap H0 (by omega) (by rw [←hH];simp) (fun r=>pcOut (fin [.cell 8 (some 6),.t 9] r)=some (.tup [eBroker .none b1,eL false 8 eOut (upOuts aq ups++[⟨aq,4,⟨tc,td⟩,⟨sc,sd⟩,[]⟩])])) ups 0 [] [] .nsl F H0 rfl RowR.nil ⟨by simp,Nat.zero_le _⟩ (by rw [←hF];simp) (by rw [←hF];simp) (by rw [←hF];simp) (by rw [←hF];simp) (by rw [←hF];simp) (.nil rfl rfl) (.refl (by omega) hw0) fun f' h' v' es' q14 qr hel hrw hov x=>?_
  have q4:f' 4=.ptr 0 6 0 0:=by rw [qr 4 (by decide),←hF];simp
  have q5:f' 5=.ptr 1 2 0 0:=by rw [qr 5 (by decide),←hF];simp
  have q6:f' 6=.ptr 2 2 0 0:=by rw [qr 6 (by decide),←hF];simp
  have q8:f' 8=.ptr 3 6 0 0:=by rw [qr 8 (by decide),←hF];simp
  have q10:f' 10=.ptr 4 4 0 0:=by rw [qr 10 (by decide),←hF];simp
  have a0:h'.get 0=some (.arr 29 6 [eBroker .none b1] (some 1)):=(x.get 0 (by decide)).trans (by rw [←hH];simp)
  have a1:h'.get 1=some (.arr 37 2 [.agg [.int .i64 tc,.int .i64 td]] (some 1)):=(x.get 1 (by decide)).trans (by rw [←hH];simp)
  have a2:h'.get 2=some (.arr 37 2 [.agg [.int .i64 sc,.int .i64 sd]] (some 1)):=(x.get 2 (by decide)).trans (by rw [←hH];simp)
  have a3:h'.get 3=some (.arr 29 6 [.agg [.int .i64 0,.nsl,.nsl,.nsl,.nsl,.nsl]] (some 1)):=(x.get 3 (by decide)).trans (by rw [←hH];simp)
  have a4:h'.get 4=some (.arr 42 4 [.agg [.int .i64 ac,.int .i64 ad,ePred ap,.int .i64 aq]] (some 1)):=(x.get 4 (by decide)).trans (by rw [←hH];simp)
  have al:h'.lim=0:=x.lim.trans hl0
  obtain ⟨m,hmn⟩:∃ m,h'.n=m+5:=⟨h'.n-5,by have:=x.le;omega⟩
  have hrow:=RowR.append hrw (RowR.one (to:=aq) (k:=4) (tc:=tc) (td:=td) (ic:=sc) (id:=sd) (pd:=.nsl) (ad:=.nsl) (p:=[]) (.inr ⟨rfl,rfl⟩) (.inl rfl))
  simp only [List.nil_append]at hrow
  have hu2:unlent 199 (eL false 8 eOut (upOuts aq ups++[⟨aq,4,⟨tc,td⟩,⟨sc,sd⟩,[]⟩]))=true:=unl_eL (fun y _=>(plain_out y).2) 199 (by decide)
  cases hov with
  | nil hv hx =>
   subst hv
   subst hx
   simp [t129k0,q4,q5,q6,q8,q10,q14,a0,a1,a2,a3,a4,al,hmn,x.wf]
   generalize hA:appendD _ _ _ _ _ _=A
   obtain ⟨v2,K,rfl,p',x',_⟩:=OwnR.append (lo:=5) (OwnR.start 5 _ 86 8) (by simp [x.wf]) (by simp [hmn]<;>omega) (by simp [hmn,al]) hA (by simp<;>omega) (by decide)
   clear hA
   have b0:=x'.get 0 (by decide)
   have b1':=x'.get 1 (by decide)
   have b2:=x'.get 2 (by decide)
   have b3:=x'.get 3 (by decide)
   have b4:=x'.get 4 (by decide)
   have bl:=x'.lim
   have bn:=x'.le
   have l3:3<K.n:=by omega
   simp [hmn,a0,a1,a2,a3,a4,al]at b0 b1' b2 b3 b4 bl p'
   have r1:∀o,resolve false (Dm.wl (K.set 3 o) 0) 199 v2=some (eL false 8 eOut (upOuts aq ups++[⟨aq,4,⟨tc,td⟩,⟨sc,sd⟩,[]⟩])):=fun o=>out_res ((by simpa [rawO] using (p'.setLow (o:=o) x'.wf (by decide) l3).wl (Nat.zero_le _)):OwnR 5 (Dm.wl (K.set 3 o) 0) v2 86 8 _) hrow false (by decide)
   simp [q8,b0,b1',b2,b3,b4,bl,al,l3,x'.wf,turn,resultsOf,r1,hu2]
  | arr id sp cap hv hg hlm hlo =>
   subst hv
   have hidn:=get_some_lt hg
   have e0:¬0=id:=by omega
   have e1:¬1=id:=by omega
   have e2:¬2=id:=by omega
   have e4:¬4=id:=by omega
   simp [t129k0,q4,q5,q6,q8,q10,q14,a0,a1,a2,a3,a4,al,hmn,x.wf,e0,e1,e2,e4]
   generalize hA:appendD _ _ _ _ _ _=A
   obtain ⟨v2,K,rfl,p',x',_⟩:=OwnR.append (lo:=5) (OwnR.push (.arr id sp cap rfl hg hlm hlo)) (by simp [x.wf]) (by simp [hmn]<;>omega) (by simp [hmn,al]) hA (by simp<;>omega) (by decide)
   clear hA
   have b0:=x'.get 0 (by decide)
   have b1':=x'.get 1 (by decide)
   have b2:=x'.get 2 (by decide)
   have b3:=x'.get 3 (by decide)
   have b4:=x'.get 4 (by decide)
   have bl:=x'.lim
   have bn:=x'.le
   have l3:3<K.n:=by omega
   simp [hmn,a0,a1,a2,a3,a4,al]at b0 b1' b2 b3 b4 bl p'
   have r1:∀o,resolve false (K.set 3 o) 199 v2=some (eL false 8 eOut (upOuts aq ups++[⟨aq,4,⟨tc,td⟩,⟨sc,sd⟩,[]⟩])):=fun o=>out_res ((by simpa [rawO] using p'.setLow (o:=o) x'.wf (by decide) l3):OwnR 5 (K.set 3 o) v2 86 8 _) hrow false (by decide)
   simp [q8,b0,b1',b2,b3,b4,bl,al,l3,x'.wf,turn,resultsOf,r1,hu2]
theorem s53 (b:Broker) (k tc td sc sd q:Int) (p:Pred) (hi:InvK b) (hz:Sized b) :
  pcF D t53 [eBroker .none b,.int .i64 q,.agg [.int .i64 k,.int .i64 tc,.int .i64 td,.int .i64 sc,.int .i64 sd,ePred p,.isl false 0 []]]=some (.tup [eBroker .none (dropB b ⟨tc,td⟩ ⟨sc,sd⟩ q).1,eL false 8 eOut (dropB b ⟨tc,td⟩ ⟨sc,sd⟩ q).2]):=by
 have hd:=s129 b tc td sc sd q hi hz
 have hu2:∀os:List OutS,unlent 199 (eL false 8 eOut os)=true:=fun os=>unl_eL (fun y _=>(plain_out y).2) 199 (by decide)
 unfold pcF
 rw [goRun_eq _ _ _ _ (by simp [t53])]
 simp [t53,e129,hd,turn,resultsOf,hu2]
theorem s52 (b:Broker) (k tc td sc sd q:Int) (p:Pred) (hi:InvK b) (hz:Sized b) (hp:PredOk p) :
  pcF D t52 [eBroker .none b,.int .i64 q,.agg [.int .i64 k,.int .i64 tc,.int .i64 td,.int .i64 sc,.int .i64 sd,ePred p,.isl false 0 []]]=some (.tup [eBroker .none (onSubB b q ⟨tc,td⟩ ⟨sc,sd⟩ p).1,eL false 8 eOut (onSubB b q ⟨tc,td⟩ ⟨sc,sd⟩ p).2]):=by
 have hd:=s127 b tc td sc sd q p hi hz hp
 have hu2:∀os:List OutS,unlent 199 (eL false 8 eOut os)=true:=fun os=>unl_eL (fun y _=>(plain_out y).2) 199 (by decide)
 unfold pcF
 rw [goRun_eq _ _ _ _ (by simp [t52])]
 simp [t52,e127,hd,turn,resultsOf,hu2]
end Go.Dm.Tc
/-
What the program's routes compute,part 3: a client of the broker's subscribes.
-/
namespace Go.Dm.Tc
theorem sub_on {nb:Broker} {x:ID} {p:Pred} {a:Advert} (outs:List OutS) (hm:meetsP p a.pred=true) (hpar:parentOf nb a.id=a.parent) :
  subStep x p (nb,outs) a=((onSubB nb (-1) a.id x p).1,outs++(onSubB nb (-1) a.id x p).2):=by
 unfold subStep onSubB
 rw [if_pos hm,hpar]
 simp only
 split<;>simp
theorem on_len (b:Broker) (q:Int) (t s:ID) (p:Pred):(onSubB b q t s p).2.length≤1:=by
 unfold onSubB
 simp only
 split<;>simp
theorem par_at {nb:Broker} {advs:List Advert} (hi:InvK nb) (ha:nb.adverts=advs) {a:Advert} (hm:a∈advs):parentOf nb a.id=a.parent:=by
 rw [parentOf_eq,(advOf_some hi.ra).2 ⟨by rw [ha];exact hm,rfl⟩];rfl
set_option maxRecDepth 8000 in
theorem l50 (xc xd:Int) (p:Pred) (hp:PredOk p) (t:Bool) (advs:List Advert) (ho:∀o∈advs,PredOk o.pred) (hl:advs.length≤100000) (tx tb tn:Nat) :
  ∀(rest:List Advert) (i:Nat) (nb:Broker) (outs:List OutS) (es:List DV) (v:DV) (f:FEnv) (h:Heap),advs.drop i=rest→InvK nb→ZL nb rest.length→nb.adverts=advs→RowR es outs→es.length+rest.length≤1000000 →
  f 2=ePred p→f 3=.ptr 0 6 0 0→f 4=.ptr 1 2 0 0→f 6=.ptr 2 6 0 0→f 10=v→f 34=eL t 4 eAdvert advs→f 35=.int .i64 advs.length→f 36=.int .i64 i →
  h.get 1=some (.arr tx 2 [.agg [.int .i64 xc,.int .i64 xd]] (some 1))→h.get 2=some (.arr tb 6 [zB] (some 1))→h.get 0=some (.arr tn 6 [eBroker .none nb] (some 1))→OwnR 3 h v 86 8 es→h.lim=0→3≤h.n→WF h →
  pcOut (fin [.cell 6 (some 6),.t 7] (run D 62 [.block 0,.seq t50k0] (.loop t50l0) f h))=some (.tup [eBroker .none (rest.foldl (subStep ⟨xc,xd⟩ p) (nb,outs)).1,eL false 8 eOut (rest.foldl (subStep ⟨xc,xd⟩ p) (nb,outs)).2]):=by
 intro rest
 induction rest with
 | nil =>
  intro i nb outs es v f h hd hi0 hz hadv hr hes h2 h3 h4 h6 h10 hW hL hI g1 g2 gB hv hlim hn wf
  have hi:=drop_nil hd
  have:¬(i<advs.length):=by omega
  have l2:2<h.n:=by omega
  have r1:=fun o=>out_res (hv.setLow (o:=o) wf (by decide:2<3) l2) hr false (n:=199) (by decide)
  have hu:unlent 199 (eL false 8 eOut outs)=true:=unl_eL (fun y _=>(plain_out y).2) 199 (by decide)
  rw [run_loop_of t50l0.eq_1]
  simp only [zB]at g2
  simp [t50k0,hL,hI,this,h3,h6,h10,gB,g2,hlim,l2,wf,turn,resultsOf,r1,hu]
 | cons o rest ih =>
  intro i nb outs es v f h hd hi0 hz hadv hr hes h2 h3 h4 h6 h10 hW hL hI g1 g2 gB hv hlim hn wf
  obtain ⟨hi,he,hd'⟩:=drop_at hd
  have hom:o∈advs:=by rw [←he];exact List.getElem_mem hi
  have hop:=ho o hom
  have hpar:=par_at hi0 hadv hom
  obtain ⟨⟨oc,od⟩,op,oq⟩:=o
  simp only at hop hpar
  have hm:=s47 p op hp hop
  have hadd:=s127 nb oc od xc xd (-1) p hi0 hz.sized hp
  have hi1:=hi0.add (e:=⟨⟨oc,od⟩,⟨xc,xd⟩,p,-1,false⟩) (by simp [linkB]) hp
  have hz1:=hz.add ⟨⟨oc,od⟩,⟨xc,xd⟩,p,-1,false⟩
  have hadv1:=(addB_rows nb ⟨⟨oc,od⟩,⟨xc,xd⟩,p,-1,false⟩).2.1.trans hadv
  have hl1:=on_len nb (-1) ⟨oc,od⟩ ⟨xc,xd⟩ p
  obtain ⟨m,hmn⟩:∃ m,h.n=m+3:=⟨h.n-3,by omega⟩
  simp only [List.length_cons]at hes
  rw [run_loop_of t50l0.eq_1]
  simp only [List.foldl_cons]
  cases hq:meetsP p op with
  | false =>
   rw [hq]at hm
   have hst:subStep ⟨xc,xd⟩ p (nb,outs) ⟨⟨oc,od⟩,op,oq⟩=(nb,outs):=by simp [subStep,hq]
   rw [hst]
   simp [hL,hI,hW,hi,he,eAdvert,h2,hlim,wf,turn,e47,hm]
   rw [wrap64 (by omega) (by omega)]
   generalize hF:upd _ 36 _=F
   refine ih (i+1) nb outs es v F _ hd' hi0 (hz.less (by simp)) hadv hr (by omega) ?_ ?_ ?_ ?_ ?_ ?_ ?_ ?_ ?_ ?_ ?_ hv.push ?_ ?_ ?_
   all_goals first
    | (rw [←hF];simp [h2,h3,h4,h6,h10,hW,hL];done)
    | (simp [hmn,g1,g2,gB,hlim,wf];done)
    | (simp [hmn]<;>omega)
  | true =>
   rw [hq]at hm
   have hst:=sub_on (nb:=nb) (x:=⟨xc,xd⟩) (p:=p) (a:=⟨⟨oc,od⟩,op,oq⟩) outs hq hpar
   rw [hst]
   have hfst:(onSubB nb (-1) ⟨oc,od⟩ ⟨xc,xd⟩ p).1=(addB nb ⟨⟨oc,od⟩,⟨xc,xd⟩,p,-1,false⟩).1:=rfl
   rw [←hfst]at hi1 hz1 hadv1
   simp only
   generalize (onSubB nb (-1) ⟨oc,od⟩ ⟨xc,xd⟩ p).1=b1 at *
   generalize (onSubB nb (-1) ⟨oc,od⟩ ⟨xc,xd⟩ p).2=o1 at *
   have hel1:∀H,elems H 8 (eL false 8 eOut o1)=some (o1.map eOut):=fun H=>elems_eL ..
   cases hv with
   | nil hv hx =>
    subst hv
    subst hx
    simp [hL,hI,hW,hi,he,eAdvert,h2,h3,h4,h10,hmn,g1,gB,hlim,wf,turn,e47,hm,e127,hadd]
    generalize hA:appendD _ _ _ _ _ _=A
    obtain ⟨v',K,rfl,p',x',_⟩:=OwnR.append (lo:=3) (OwnR.start 3 _ 86 8) (by simp [wf]) (by simp [hmn]<;>omega) (by simp [hmn,hlim]) hA (by simp<;>omega) (by decide)
    clear hA
    have a1:=x'.get 1 (by decide)
    have a2:=x'.get 2 (by decide)
    have aB:=x'.get 0 (by decide)
    have al:=x'.lim
    have an:=x'.le
    have l0:0<K.n:=by omega
    simp [hmn,g1,g2,gB,hlim,wf]at a1 a2 aB al p'
    simp [hI,h3,aB,al,l0,x'.wf,turn,hlim]
    rw [wrap64 (by omega) (by omega)]
    generalize hF:upd _ 36 _=F
    have hr':=RowR.append hr (rowR_out o1)
    have hv':=(p'.setLow (o:=.arr tn 6 [eBroker .none b1] (some 1)) x'.wf (by decide:0<3) l0).wl (Nat.zero_le 3)
    refine ih (i+1) b1 (outs++o1) _ v' F _ hd' hi1 hz1 hadv1 hr' (by simp<;>omega) ?_ ?_ ?_ ?_ ?_ ?_ ?_ ?_ ?_ ?_ ?_ (by simpa using hv') ?_ ?_ ?_
    all_goals first
     | (rw [←hF];simp [h2,h3,h4,h6,h10,hW,hL];done)
     | (simp [a1,a2,aB,al,l0,x'.wf];done)
     | (simp<;>omega)
   | arr iv sp cap hv hg hlm hlo =>
    subst hv
    have hidn:=get_some_lt hg
    have q1:¬m+3+1=iv:=by omega
    simp [hL,hI,hW,hi,he,eAdvert,h2,h3,h4,h10,hmn,g1,gB,hlim,wf,turn,e47,hm,e127,hadd,q1]
    generalize hA:appendD _ _ _ _ _ _=A
    obtain ⟨v',K,rfl,p',x',_⟩:=OwnR.append (lo:=3) (OwnR.push (OwnR.push (.arr iv sp cap rfl hg hlm hlo))) (by simp [wf]) (by simp [hmn]<;>omega) (by simp [hmn,hlim]) hA (by simp<;>omega) (by decide)
    clear hA
    have a1:=x'.get 1 (by decide)
    have a2:=x'.get 2 (by decide)
    have aB:=x'.get 0 (by decide)
    have al:=x'.lim
    have an:=x'.le
    have l0:0<K.n:=by omega
    simp [hmn,g1,g2,gB,hlim,wf]at a1 a2 aB al
    simp [hI,h3,aB,al,l0,x'.wf,turn]
    rw [wrap64 (by omega) (by omega)]
    generalize hF:upd _ 36 _=F
    have hr':=RowR.append hr (rowR_out o1)
    have hv':=p'.setLow (o:=.arr tn 6 [eBroker .none b1] (some 1)) x'.wf (by decide:0<3) l0
    refine ih (i+1) b1 (outs++o1) _ v' F _ hd' hi1 hz1 hadv1 hr' (by simp<;>omega) ?_ ?_ ?_ ?_ ?_ ?_ ?_ ?_ ?_ ?_ ?_ hv' ?_ ?_ ?_
    all_goals first
     | (rw [←hF];simp [h2,h3,h4,h6,h10,hW,hL];done)
     | (simp [a1,a2,aB,al,l0,x'.wf];done)
     | (simp<;>omega)
end Go.Dm.Tc
/-
What the program's routes compute,part 4: a client of the broker's subscribes,with the row still written.
-/
namespace Go.Dm.Tc
set_option maxRecDepth 8000 in
theorem n50 (xc xd:Int) (p:Pred) (hp:PredOk p) (t:Bool) (advs:List Advert) (ho:∀o∈advs,PredOk o.pred) (hl:advs.length≤100000) (tx tb tn:Nat) (nb:Broker) (hi0:InvK nb) (hadv:nb.adverts=advs) (iw:Nat) :
  ∀(rest:List Advert) (i:Nat) (f:FEnv) (h:Heap),advs.drop i=rest→ZL nb rest.length →
  f 2=ePred p→f 3=.ptr 0 6 0 0→f 4=.ptr 1 2 0 0→f 6=.ptr 2 6 0 0→f 10=.nsl→f 34=eL t 4 eAdvert advs→f 35=.int .i64 advs.length→f 36=.int .i64 i →
  h.get 1=some (.arr tx 2 [.agg [.int .i64 xc,.int .i64 xd]] (some 1))→h.get 2=some (.arr tb 6 [zB] (some 1)) →
  h.get 0=some (.arr tn 6 [.agg [.int .i64 nb.me,eL false 1 cInt nb.near,eL false 4 eAdvert nb.adverts,eL false 2 eID nb.seen,eL false 7 eEntry nb.entries,.sl iw 3 0 nb.owns.length]] (some 1))→OwnI 3 h iw 60 3 (nb.owns.map eOwn)→h.lim=0→3≤h.n→WF h →
  pcOut (fin [.cell 6 (some 6),.t 7] (run D 62 [.block 0,.seq t50k0] (.loop t50l0) f h))=some (.tup [eBroker .none (rest.foldl (subStep ⟨xc,xd⟩ p) (nb,[])).1,eL false 8 eOut (rest.foldl (subStep ⟨xc,xd⟩ p) (nb,[])).2]):=by
 intro rest
 induction rest with
 | nil =>
  intro i f h hd hz h2 h3 h4 h6 h10 hW hL hI g1 g2 gB hv hlim hn wf
  have hi:=drop_nil hd
  have:¬(i<advs.length):=by omega
  have l2:2<h.n:=by omega
  have r1:∀o,resolve false (h.set 2 o) 198 (.sl iw 3 0 nb.owns.length)=some (eL false 3 eOwn nb.owns):=fun o=>by
   have:=(hv.setLow (o:=o) wf (by decide:2<3) l2).toR.resolve (n:=198) false (fun y _=>(plain_own y).1) (by decide)
   simpa using this
  rw [run_loop_of t50l0.eq_1]
  simp only [zB]at g2
  simp [t50k0,hL,hI,this,h3,h6,h10,gB,g2,hlim,l2,wf,turn,resultsOf,r1]
  exact ⟨rfl,rfl⟩
 | cons o rest ih =>
  intro i f h hd hz h2 h3 h4 h6 h10 hW hL hI g1 g2 gB hv hlim hn wf
  obtain ⟨hi,he,hd'⟩:=drop_at hd
  have hom:o∈advs:=by rw [←he];exact List.getElem_mem hi
  have hop:=ho o hom
  have hpar:=par_at hi0 hadv hom
  obtain ⟨⟨oc,od⟩,op,oq⟩:=o
  simp only at hop hpar
  have hm:=s47 p op hp hop
  have hadd:=s127 nb oc od xc xd (-1) p hi0 hz.sized hp
  have hi1:=hi0.add (e:=⟨⟨oc,od⟩,⟨xc,xd⟩,p,-1,false⟩) (by simp [linkB]) hp
  have hz1:=hz.add ⟨⟨oc,od⟩,⟨xc,xd⟩,p,-1,false⟩
  have hadv1:=(addB_rows nb ⟨⟨oc,od⟩,⟨xc,xd⟩,p,-1,false⟩).2.1.trans hadv
  have hl1:=on_len nb (-1) ⟨oc,od⟩ ⟨xc,xd⟩ p
  obtain ⟨m,hmn⟩:∃ m,h.n=m+3:=⟨h.n-3,by omega⟩
  have hil:=hv.lt
  have hi3:=hv.lo
  have k0:¬iw=0:=by omega
  have k1:¬iw=1:=by omega
  have k2:¬iw=2:=by omega
  have k0':¬0=iw:=by omega
  have k1':¬1=iw:=by omega
  have k2':¬2=iw:=by omega
  have k3:¬iw=m+3:=by omega
  have k4:¬iw=m+3+1:=by omega
  have k5:iw<m+3:=by omega
  have k6:iw<m+3+1:=by omega
  have hfr:∀o1,freeze (h.push o1) (.sl iw 3 0 nb.owns.length)=some (eL false 3 eOwn nb.owns,(h.push o1).set iw .dead):=fun o1=>fr_own hv.push rfl
  have hbb:DV.agg [.int .i64 nb.me,eL false 1 cInt nb.near,eL false 4 eAdvert nb.adverts,eL false 2 eID nb.seen,eL false 7 eEntry nb.entries,eL false 3 eOwn nb.owns]=eBroker .none nb:=rfl
  rw [run_loop_of t50l0.eq_1]
  simp only [List.foldl_cons]
  cases hq:meetsP p op with
  | false =>
   rw [hq]at hm
   have hst:subStep ⟨xc,xd⟩ p (nb,[]) ⟨⟨oc,od⟩,op,oq⟩=(nb,[]):=by simp [subStep,hq]
   rw [hst]
   simp [hL,hI,hW,hi,he,eAdvert,h2,hlim,wf,turn,e47,hm]
   rw [wrap64 (by omega) (by omega)]
   generalize hF:upd _ 36 _=F
   refine ih (i+1) F _ hd' (hz.less (by simp)) ?_ ?_ ?_ ?_ ?_ ?_ ?_ ?_ ?_ ?_ ?_ hv.push ?_ ?_ ?_
   all_goals first
    | (rw [←hF];simp [h2,h3,h4,h6,h10,hW,hL];done)
    | (simp [hmn,g1,g2,gB,hlim,wf];done)
    | (simp [hmn]<;>omega)
  | true =>
   rw [hq]at hm
   have hst:=sub_on (nb:=nb) (x:=⟨xc,xd⟩) (p:=p) (a:=⟨⟨oc,od⟩,op,oq⟩) [] hq hpar
   rw [hst]
   have hfst:(onSubB nb (-1) ⟨oc,od⟩ ⟨xc,xd⟩ p).1=(addB nb ⟨⟨oc,od⟩,⟨xc,xd⟩,p,-1,false⟩).1:=rfl
   rw [←hfst]at hi1 hz1 hadv1
   simp only [List.nil_append]
   generalize (onSubB nb (-1) ⟨oc,od⟩ ⟨xc,xd⟩ p).1=b1 at *
   generalize (onSubB nb (-1) ⟨oc,od⟩ ⟨xc,xd⟩ p).2=o1 at *
   simp [hL,hI,hW,hi,he,eAdvert,h2,h3,h4,h10,hmn,g1,gB,hlim,wf,turn,e47,hm,e127,hfr,hbb,hadd,k0,k1,k2,k0',k1',k2',k3,k4,k5,k6]
   generalize hA:appendD _ _ _ _ _ _=A
   obtain ⟨v',K,rfl,p',x',_⟩:=OwnR.append (lo:=3) (OwnR.start 3 _ 86 8) (by simp [wf,hmn,k5,k6]) (by simp [hmn]<;>omega) (by simp [hmn,hlim]) hA (by simp<;>omega) (by decide)
   clear hA
   have a1:=x'.get 1 (by decide)
   have a2:=x'.get 2 (by decide)
   have aB:=x'.get 0 (by decide)
   have al:=x'.lim
   have an:=x'.le
   have l0:0<K.n:=by omega
   simp [hmn,g1,g2,gB,hlim,wf,k0,k1,k2,k0',k1',k2',k3,k4,k5,k6]at a1 a2 aB al p'
   simp [hI,h3,aB,al,l0,x'.wf,turn,hlim]
   rw [wrap64 (by omega) (by omega)]
   generalize hF:upd _ 36 _=F
   have hv':=(p'.setLow (o:=.arr tn 6 [eBroker .none b1] (some 1)) x'.wf (by decide:0<3) l0).wl (Nat.zero_le 3)
   refine l50 xc xd p hp t advs ho hl tx tb tn rest (i+1) b1 o1 _ v' F _ hd' hi1 hz1 hadv1 (rowR_out o1) (by have:=hz.ent;simp at this ⊢;omega) ?_ ?_ ?_ ?_ ?_ ?_ ?_ ?_ ?_ ?_ ?_ (by simpa using hv') ?_ ?_ ?_
   all_goals first
    | (rw [←hF];simp [h2,h3,h4,h6,h10,hW,hL];done)
    | (simp [a1,a2,aB,al,l0,x'.wf];done)
    | (simp<;>omega)
set_option maxRecDepth 8000 in
theorem s50 (b:Broker) (xc xd:Int) (p:Pred) (hi:InvK b) (hz:ZL b b.adverts.length) (hp:PredOk p) (ho:b.owns.length<100000) :
  pcF D t50 [eBroker .none b,.agg [.int .i64 xc,.int .i64 xd],ePred p]=some (.tup [eBroker .none (subscribeB b ⟨xc,xd⟩ p).1,eL false 8 eOut (subscribeB b ⟨xc,xd⟩ p).2]):=by
 have hown:=s124 .none b xc xd hi.ro (by omega)
 unfold pcF
 rw [goRun_eq _ _ _ _ (by simp [t50])]
 cases hh:hitAt (fun o:OwnS=>cmpID o.id ⟨xc,xd⟩) b.owns with
 | true =>
  rw [hh]at hown
  have ha:subscribeB b ⟨xc,xd⟩ p=(b,[]):=by simp only [subscribeB,hh,if_true]
  rw [ha]
  simp [t50,e124,hown,turn,resultsOf,eL_nil]
 | false =>
  rw [hh]at hown
  have ha:subscribeB b ⟨xc,xd⟩ p=b.adverts.foldl (subStep ⟨xc,xd⟩ p) (subOwn b ⟨xc,xd⟩ p,[]):=by simp only [subscribeB,hh];rfl
  rw [ha]
  have hno:=hit_own hi.ro ⟨xc,xd⟩ hh
  have hinv:=hi.subOwn hp hno
  obtain ⟨R,hR⟩:∃ R,R=DV.tup [eBroker .none (b.adverts.foldl (subStep ⟨xc,xd⟩ p) (subOwn b ⟨xc,xd⟩ p,[])).1,eL false 8 eOut (b.adverts.foldl (subStep ⟨xc,xd⟩ p) (subOwn b ⟨xc,xd⟩ p,[])).2]:=⟨_,rfl⟩
  rw [←hR]
  have hownl:b.owns.length≤1000000:=by omega
  simp [t50,e124,hown,turn,e126]
  generalize hA:cloneHook _ _ _ _ _=A
  obtain ⟨v5,K,rfl,o5,x,_⟩:=clone_own (lo:=3) (elems_eL ..) (by simp) (by simp) (by simp) (by simp;omega) (by decide) hA
  clear hA
  have a0:=x.get 0 (by decide)
  have a1:=x.get 1 (by decide)
  have a2:=x.get 2 (by decide)
  have q0:=x.lim
  have w0:=x.wf
  have n0:=x.le
  simp at a0 a1 a2 q0
  have nn0:¬0=K.n:=by omega
  have nn1:¬1=K.n:=by omega
  have nn2:¬2=K.n:=by omega
  have z1:∀o,((K.push o).lim)=K.lim:=fun o=>rfl
  simp [a0,a1,a2,q0,w0,turn]
  generalize hA:fc D _ _ _=A
  obtain ⟨v5',K2,rfl,p5,x2,_⟩:=q125 hA 3 b.owns ⟨⟨xc,xd⟩,p⟩ (vety:=60) (c:=1) (o5.push.wl (Nat.zero_le 3)) (by simp [eOwn]) (lowIdx_le _ _) hownl (by simp [w0]) (by simp;omega) (by simp)
  clear hA
  have b0:=x2.get 0 (by decide)
  have b1:=x2.get 1 (by decide)
  have b2:=x2.get 2 (by decide)
  have q2:=x2.lim
  have w2:=x2.wf
  have n2:=x2.le
  simp [a0,a1,a2,q0,w0,nn0,nn1,nn2]at b0 b1 b2 q2
  have hins:b.owns.take (lowIdx (fun a:OwnS=>cmpID a.id ⟨xc,xd⟩) b.owns)++⟨⟨xc,xd⟩,p⟩::b.owns.drop (lowIdx (fun a:OwnS=>cmpID a.id ⟨xc,xd⟩) b.owns)=(subOwn b ⟨xc,xd⟩ p).owns:=rfl
  rw [hins]at p5
  have hlen:(subOwn b ⟨xc,xd⟩ p).owns.length=b.owns.length+1:=insAt_len ..
  have hlen0:(subOwn b ⟨xc,xd⟩ p).owns≠[]:=fun e=>by rw [e]at hlen;simp at hlen
  cases p5 with
  | nil hv hx=>exact absurd (List.map_eq_nil_iff.1 hx) hlen0
  | arr iw hv hg hlm hlo =>
   subst hv
   rw [List.length_map]
   have hbu:eBroker .none b=DV.agg [.int .i64 b.me,eL false 1 cInt b.near,eL false 4 eAdvert b.adverts,eL false 2 eID b.seen,eL false 7 eEntry b.entries,eL false 3 eOwn b.owns]:=rfl
   rw [hbu]at b0
   have l0:0<K2.n:=by omega
   simp [b0,b1,b2,q2,w2,l0,turn]
   generalize hF2:upd _ 36 _=F2
   rw [hR]
   have hz2:ZL (subOwn b ⟨xc,xd⟩ p) b.adverts.length:=⟨hz.near,hz.adv,hz.seen,by rw [hlen];omega,hz.ent⟩
   have ho2:OwnI 3 K2 iw 60 3 ((subOwn b ⟨xc,xd⟩ p).owns.map eOwn):=⟨⟨[],none,by simpa using hg⟩,hlm,hlo⟩
   refine n50 xc xd p hp false b.adverts hi.pa hz.adv 37 29 29 (subOwn b ⟨xc,xd⟩ p) (hi.subOwn hp hno) rfl iw b.adverts 0 F2 _ rfl hz2 ?_ ?_ ?_ ?_ ?_ ?_ ?_ ?_ ?_ ?_ ?_ (ho2.setLow w2 (by decide) l0) ?_ ?_ ?_
   all_goals first
    | (rw [←hF2];simp;done)
    | (simp [b1,b2,q2,w2,l0,zB];done)
    | (simp [w2,l0,subOwn];done)
    | (simp [w2,l0];rfl)
    | (simp;omega)
end Go.Dm.Tc
/-
What the program's routes compute,part 5: a client of the broker's ends a subscription.
-/
namespace Go.Dm.Tc
set_option maxRecDepth 8000 in
theorem l51 (xc xd:Int) (t:Bool) (advs:List Advert) (hl:advs.length≤1000) (tx tb tn:Nat) :
  ∀(rest:List Advert) (i:Nat) (nb:Broker) (outs:List OutS) (es:List DV) (v:DV) (f:FEnv) (h:Heap),advs.drop i=rest→InvK nb→ZL nb 0→RowR es outs→es.length≤i*100001 →
  f 2=.ptr 0 6 0 0→f 3=.ptr 1 2 0 0→f 4=.ptr 2 6 0 0→f 8=v→f 31=eL t 4 eAdvert advs→f 32=.int .i64 advs.length→f 33=.int .i64 i →
  h.get 1=some (.arr tx 2 [.agg [.int .i64 xc,.int .i64 xd]] (some 1))→h.get 2=some (.arr tb 6 [zB] (some 1))→h.get 0=some (.arr tn 6 [eBroker .none nb] (some 1))→OwnR 3 h v 86 8 es→h.lim=0→3≤h.n→WF h →
  pcOut (fin [.cell 4 (some 6),.t 5] (run D 52 [.block 0,.seq t51k0] (.loop t51l0) f h))=some (.tup [eBroker .none (rest.foldl (endStep ⟨xc,xd⟩) (nb,outs)).1,eL false 8 eOut (rest.foldl (endStep ⟨xc,xd⟩) (nb,outs)).2]):=by
 intro rest
 induction rest with
 | nil =>
  intro i nb outs es v f h hd hi0 hz hr hes h2 h3 h4 h8 hW hL hI g1 g2 gB hv hlim hn wf
  have hi:=drop_nil hd
  have:¬(i<advs.length):=by omega
  have l2:2<h.n:=by omega
  have r1:=fun o=>out_res (hv.setLow (o:=o) wf (by decide:2<3) l2) hr false (n:=199) (by decide)
  have hu:unlent 199 (eL false 8 eOut outs)=true:=unl_eL (fun y _=>(plain_out y).2) 199 (by decide)
  rw [run_loop_of t51l0.eq_1]
  simp only [zB]at g2
  simp [t51k0,hL,hI,this,h2,h4,h8,gB,g2,hlim,l2,wf,turn,resultsOf,r1,hu]
 | cons o rest ih =>
  intro i nb outs es v f h hd hi0 hz hr hes h2 h3 h4 h8 hW hL hI g1 g2 gB hv hlim hn wf
  obtain ⟨hi,he,hd'⟩:=drop_at hd
  obtain ⟨⟨oc,od⟩,op,oq⟩:=o
  have hdr:=s129 nb oc od xc xd (-1) hi0 hz.sized
  have hi1:InvK (dropB nb ⟨oc,od⟩ ⟨xc,xd⟩ (-1)).1:=by rw [drop_fst];exact hi0.take ..
  have hz1:ZL (dropB nb ⟨oc,od⟩ ⟨xc,xd⟩ (-1)).1 0:=by rw [drop_fst];exact hz.take hi0 ..
  have hdl:=drop_len hi0 ⟨oc,od⟩ ⟨xc,xd⟩ (-1)
  have hent:=hz.ent
  obtain ⟨m,hmn⟩:∃ m,h.n=m+3:=⟨h.n-3,by omega⟩
  rw [run_loop_of t51l0.eq_1]
  simp only [List.foldl_cons]
  have hst:endStep ⟨xc,xd⟩ (nb,outs) ⟨⟨oc,od⟩,op,oq⟩=((dropB nb ⟨oc,od⟩ ⟨xc,xd⟩ (-1)).1,outs++(dropB nb ⟨oc,od⟩ ⟨xc,xd⟩ (-1)).2):=rfl
  rw [hst]
  generalize hB1:(dropB nb ⟨oc,od⟩ ⟨xc,xd⟩ (-1)).1=b1 at *
  generalize hO1:(dropB nb ⟨oc,od⟩ ⟨xc,xd⟩ (-1)).2=o1 at *
  have hi1000:i*100001≤1000*100001:=Nat.mul_le_mul_right _ (by omega)
  have hr':=RowR.append hr (rowR_out o1)
  cases hv with
  | nil hv hx =>
   subst hv
   subst hx
   simp [hL,hI,hW,hi,he,eAdvert,h2,h3,h8,hmn,g1,gB,hlim,wf,turn,e129,hdr]
   generalize hA:appendD _ _ _ _ _ _=A
   obtain ⟨v',K,rfl,p',x',_⟩:=OwnR.append (lo:=3) (OwnR.start 3 _ 86 8) (by simp [wf]) (by simp [hmn]<;>omega) (by simp [hmn,hlim]) hA (by simp<;>omega) (by decide)
   clear hA
   have a1:=x'.get 1 (by decide)
   have a2:=x'.get 2 (by decide)
   have aB:=x'.get 0 (by decide)
   have al:=x'.lim
   have an:=x'.le
   have l0:0<K.n:=by omega
   simp [hmn,g1,g2,gB,hlim,wf]at a1 a2 aB al p'
   simp [hI,h2,aB,al,l0,x'.wf,turn,hlim]
   rw [wrap64 (by omega) (by omega)]
   generalize hF:upd _ 33 _=F
   have hv':=(p'.setLow (o:=.arr tn 6 [eBroker .none b1] (some 1)) x'.wf (by decide:0<3) l0).wl (Nat.zero_le 3)
   refine ih (i+1) b1 (outs++o1) _ v' F _ hd' hi1 hz1 hr' (by simp [Nat.add_mul];omega) ?_ ?_ ?_ ?_ ?_ ?_ ?_ ?_ ?_ ?_ (by simpa using hv') ?_ ?_ ?_
   all_goals first
    | (rw [←hF];simp [h2,h3,h4,h8,hW,hL];done)
    | (simp [a1,a2,aB,al,l0,x'.wf];done)
    | (simp<;>omega)
  | arr iv sp cap hv hg hlm hlo =>
   subst hv
   have hidn:=get_some_lt hg
   have q1:¬m+3+1=iv:=by omega
   simp [hL,hI,hW,hi,he,eAdvert,h2,h3,h8,hmn,g1,gB,hlim,wf,turn,e129,hdr,q1]
   generalize hA:appendD _ _ _ _ _ _=A
   obtain ⟨v',K,rfl,p',x',_⟩:=OwnR.append (lo:=3) (OwnR.push (OwnR.push (.arr iv sp cap rfl hg hlm hlo))) (by simp [wf]) (by simp [hmn]<;>omega) (by simp [hmn,hlim]) hA (by simp<;>omega) (by decide)
   clear hA
   have a1:=x'.get 1 (by decide)
   have a2:=x'.get 2 (by decide)
   have aB:=x'.get 0 (by decide)
   have al:=x'.lim
   have an:=x'.le
   have l0:0<K.n:=by omega
   simp [hmn,g1,g2,gB,hlim,wf]at a1 a2 aB al
   simp [hI,h2,aB,al,l0,x'.wf,turn]
   rw [wrap64 (by omega) (by omega)]
   generalize hF:upd _ 33 _=F
   have hv':=p'.setLow (o:=.arr tn 6 [eBroker .none b1] (some 1)) x'.wf (by decide:0<3) l0
   refine ih (i+1) b1 (outs++o1) _ v' F _ hd' hi1 hz1 hr' (by simp [Nat.add_mul];omega) ?_ ?_ ?_ ?_ ?_ ?_ ?_ ?_ ?_ ?_ hv' ?_ ?_ ?_
   all_goals first
    | (rw [←hF];simp [h2,h3,h4,h8,hW,hL];done)
    | (simp [a1,a2,aB,al,l0,x'.wf];done)
    | (simp<;>omega)
set_option maxRecDepth 8000 in
theorem r51 (xc xd:Int) (t:Bool) (advs:List Advert) (hl:advs.length≤1000) (tx tb tn:Nat) (nb:Broker) (hi0:InvK nb) (hz:ZL nb 0) (w:DV) (f:FEnv) (h:Heap)
  (h2:f 2=.ptr 0 6 0 0) (h3:f 3=.ptr 1 2 0 0) (h4:f 4=.ptr 2 6 0 0) (h8:f 8=.nsl) (hW:f 31=eL t 4 eAdvert advs) (hL:f 32=.int .i64 advs.length) (hI:f 33=.int .i64 0)
  (g1:h.get 1=some (.arr tx 2 [.agg [.int .i64 xc,.int .i64 xd]] (some 1))) (g2:h.get 2=some (.arr tb 6 [zB] (some 1))) (gB:h.get 0=some (.arr tn 6 [.agg [.int .i64 nb.me,eL false 1 cInt nb.near,eL false 4 eAdvert nb.adverts,eL false 2 eID nb.seen,eL false 7 eEntry nb.entries,w]] (some 1)))
  (hv:OwnR 3 h w 60 3 (nb.owns.map eOwn)) (hlim:h.lim=0) (hn:3≤h.n) (wf:WF h) :
  pcOut (fin [.cell 4 (some 6),.t 5] (run D 52 [.block 0,.seq t51k0] (.loop t51l0) f h))=some (.tup [eBroker .none (advs.foldl (endStep ⟨xc,xd⟩) (nb,[])).1,eL false 8 eOut (advs.foldl (endStep ⟨xc,xd⟩) (nb,[])).2]):=by
 cases advs with
 | nil =>
  have l2:2<h.n:=by omega
  have r1:∀o,resolve false (h.set 2 o) 198 w=some (eL false 3 eOwn nb.owns):=fun o=>(hv.setLow (o:=o) wf (by decide:2<3) l2).resolve (n:=198) false (fun y _=>(plain_own y).1) (by decide)
  rw [run_loop_of t51l0.eq_1]
  simp only [zB]at g2
  simp only [List.length_nil]at hL
  simp [t51k0,hL,hI,h2,h4,h8,gB,g2,hlim,l2,wf,turn,resultsOf,r1]
  exact ⟨rfl,rfl⟩
 | cons o rest =>
  have hi:0<(o::rest).length:=by simp
  obtain ⟨⟨oc,od⟩,op,oq⟩:=o
  have hdr:=s129 nb oc od xc xd (-1) hi0 hz.sized
  have hi1:InvK (dropB nb ⟨oc,od⟩ ⟨xc,xd⟩ (-1)).1:=by rw [drop_fst];exact hi0.take ..
  have hz1:ZL (dropB nb ⟨oc,od⟩ ⟨xc,xd⟩ (-1)).1 0:=by rw [drop_fst];exact hz.take hi0 ..
  have hdl:=drop_len hi0 ⟨oc,od⟩ ⟨xc,xd⟩ (-1)
  have hent:=hz.ent
  obtain ⟨m,hmn⟩:∃ m,h.n=m+3:=⟨h.n-3,by omega⟩
  rw [run_loop_of t51l0.eq_1]
  simp only [List.foldl_cons]
  have hst:endStep ⟨xc,xd⟩ (nb,[]) ⟨⟨oc,od⟩,op,oq⟩=((dropB nb ⟨oc,od⟩ ⟨xc,xd⟩ (-1)).1,(dropB nb ⟨oc,od⟩ ⟨xc,xd⟩ (-1)).2):=by simp [endStep]
  rw [hst]
  generalize hB1:(dropB nb ⟨oc,od⟩ ⟨xc,xd⟩ (-1)).1=b1 at *
  generalize hO1:(dropB nb ⟨oc,od⟩ ⟨xc,xd⟩ (-1)).2=o1 at *
  simp only [List.length_cons]at hL
  cases hv with
  | nil hv hx =>
   subst hv
   have hbb:DV.agg [.int .i64 nb.me,eL false 1 cInt nb.near,eL false 4 eAdvert nb.adverts,eL false 2 eID nb.seen,eL false 7 eEntry nb.entries,.isl false 0 []]=eBroker .none nb:=by
    have:nb.owns=[]:=by simpa using hx
    unfold eBroker
    rw [this];rfl
   simp [hL,hI,hW,eAdvert,h2,h3,h8,hmn,g1,gB,hlim,wf,turn,e129,hbb,hdr]
   generalize hA:appendD _ _ _ _ _ _=A
   obtain ⟨v',K,rfl,p',x',_⟩:=OwnR.append (lo:=3) (OwnR.start 3 _ 86 8) (by simp [wf]) (by simp [hmn]<;>omega) (by simp [hmn,hlim]) hA (by simp<;>omega) (by decide)
   clear hA
   have a1:=x'.get 1 (by decide)
   have a2:=x'.get 2 (by decide)
   have aB:=x'.get 0 (by decide)
   have al:=x'.lim
   have an:=x'.le
   have l0:0<K.n:=by omega
   simp [hmn,g1,g2,gB,hlim,wf]at a1 a2 aB al p'
   simp [hI,h2,aB,al,l0,x'.wf,turn,hlim]
   generalize hF:upd _ 33 _=F
   have hv':=(p'.setLow (o:=.arr tn 6 [eBroker .none b1] (some 1)) x'.wf (by decide:0<3) l0).wl (Nat.zero_le 3)
   refine l51 xc xd t (⟨⟨oc,od⟩,op,oq⟩::rest) hl tx tb tn rest 1 b1 o1 _ v' F _ rfl hi1 hz1 (rowR_out o1) (by simp;omega) ?_ ?_ ?_ ?_ ?_ ?_ ?_ ?_ ?_ ?_ (by simpa using hv') ?_ ?_ ?_
   all_goals first
    | (rw [←hF];simp [h2,h3,h4,h8,hW,hL];done)
    | (simp [a1,a2,aB,al,l0,x'.wf];done)
    | (simp<;>omega)
  | arr iw sp cap hv hg hlm hlo =>
   have ho:OwnI 3 h iw 60 3 (nb.owns.map eOwn):=⟨⟨sp,cap,hg⟩,hlm,hlo⟩
   have hil:=ho.lt
   subst hv
   simp only [List.length_map]at gB
   have k0:¬iw=0:=by omega
   have k1:¬iw=1:=by omega
   have k2:¬iw=2:=by omega
   have k0':¬0=iw:=by omega
   have k1':¬1=iw:=by omega
   have k2':¬2=iw:=by omega
   have k3:¬iw=m+3:=by omega
   have k4:¬iw=m+3+1:=by omega
   have k5:iw<m+3:=by omega
   have k6:iw<m+3+1:=by omega
   have hfr:∀p1,freeze (h.push p1) (.sl iw 3 0 nb.owns.length)=some (eL false 3 eOwn nb.owns,(h.push p1).set iw .dead):=fun p1=>fr_own ho.push rfl
   have hbb:DV.agg [.int .i64 nb.me,eL false 1 cInt nb.near,eL false 4 eAdvert nb.adverts,eL false 2 eID nb.seen,eL false 7 eEntry nb.entries,eL false 3 eOwn nb.owns]=eBroker .none nb:=rfl
   simp [hL,hI,hW,eAdvert,h2,h3,h8,hmn,g1,gB,hlim,wf,turn,e129,hbb,hdr,hfr,k0,k1,k2,k0',k1',k2',k3,k4,k5,k6]
   generalize hA:appendD _ _ _ _ _ _=A
   obtain ⟨v',K,rfl,p',x',_⟩:=OwnR.append (lo:=3) (OwnR.start 3 _ 86 8) (by simp [wf,hmn,k5,k6]) (by simp [hmn]<;>omega) (by simp [hmn,hlim]) hA (by simp<;>omega) (by decide)
   clear hA
   have a1:=x'.get 1 (by decide)
   have a2:=x'.get 2 (by decide)
   have aB:=x'.get 0 (by decide)
   have al:=x'.lim
   have an:=x'.le
   have l0:0<K.n:=by omega
   simp [hmn,g1,g2,gB,hlim,wf,k0,k1,k2,k0',k1',k2',k3,k4,k5,k6]at a1 a2 aB al p'
   simp [hI,h2,aB,al,l0,x'.wf,turn,hlim]
   generalize hF:upd _ 33 _=F
   have hv':=(p'.setLow (o:=.arr tn 6 [eBroker .none b1] (some 1)) x'.wf (by decide:0<3) l0).wl (Nat.zero_le 3)
   refine l51 xc xd t (⟨⟨oc,od⟩,op,oq⟩::rest) hl tx tb tn rest 1 b1 o1 _ v' F _ rfl hi1 hz1 (rowR_out o1) (by simp;omega) ?_ ?_ ?_ ?_ ?_ ?_ ?_ ?_ ?_ ?_ (by simpa using hv') ?_ ?_ ?_
   all_goals first
    | (rw [←hF];simp [h2,h3,h4,h8,hW,hL];done)
    | (simp [a1,a2,aB,al,l0,x'.wf];done)
    | (simp<;>omega)
end Go.Dm.Tc
/-
What the program's routes compute,part 6: a client of the broker's ends a subscription,all of it.
-/
namespace Go.Dm.Tc
set_option maxRecDepth 8000 in
theorem s51 (b:Broker) (xc xd:Int) (hi:InvK b) (hz:ZL b 0) (ha:b.adverts.length≤1000) :
  pcF D t51 [eBroker .none b,.agg [.int .i64 xc,.int .i64 xd]]=some (.tup [eBroker .none (unsubscribeB b ⟨xc,xd⟩).1,eL false 8 eOut (unsubscribeB b ⟨xc,xd⟩).2]):=by
 have hol:b.owns.length≤100000:=hz.own
 have hown:=s124 .none b xc xd hi.ro (by omega)
 have hf:=hit_find (fun a:OwnS=>a.id) hi.ro ⟨xc,xd⟩
 unfold pcF
 rw [goRun_eq _ _ _ _ (by simp [t51])]
 cases hq:b.owns.find? (fun a=>decide (a.id=⟨xc,xd⟩)) with
 | none =>
  rw [hq]at hf
  simp only at hf
  rw [hf]at hown
  have hw:without (fun o:OwnS=>o.id) ⟨xc,xd⟩ b.owns=b.owns:=by
   unfold without
   rw [List.filter_eq_self]
   intro o ho
   have:=(find_key_none (fun a:OwnS=>a.id) ⟨xc,xd⟩).1 hq o ho
   simp [this]
  have hu:unsubscribeB b ⟨xc,xd⟩=(b,[]):=by simp only [unsubscribeB,hw,if_true]
  rw [hu]
  simp [t51,e124,hown,turn,resultsOf,eL_nil]
 | some o =>
  rw [hq]at hf
  simp only at hf
  obtain ⟨hf1,hf2⟩:=hf
  rw [hf1]at hown
  have hox:o.id=⟨xc,xd⟩:=by simpa using List.find?_some hq
  obtain ⟨i,hix⟩:∃ i,lowIdx (fun b:OwnS=>cmpID b.id ⟨xc,xd⟩) b.owns=i:=⟨_,rfl⟩
  rw [hix]at hf2 hown
  have hilt:i<b.owns.length:=by
   by_cases h:i<b.owns.length
   ·exact h
   ·rw [List.getElem?_eq_none (by omega)]at hf2;cases hf2
  have hwo:=without_at (fun a:OwnS=>a.id) hi.ro hf2 hox
  have hwl:¬(without (fun o:OwnS=>o.id) ⟨xc,xd⟩ b.owns).length=b.owns.length:=by
   rw [←hwo,List.length_append,List.length_take,List.length_drop];omega
  have hu:unsubscribeB b ⟨xc,xd⟩=b.adverts.foldl (endStep ⟨xc,xd⟩) (endOwn b ⟨xc,xd⟩,[]):=by simp only [unsubscribeB,if_neg hwl]
  rw [hu]
  obtain ⟨R,hR⟩:∃ R,R=DV.tup [eBroker .none (b.adverts.foldl (endStep ⟨xc,xd⟩) (endOwn b ⟨xc,xd⟩,[])).1,eL false 8 eOut (b.adverts.foldl (endStep ⟨xc,xd⟩) (endOwn b ⟨xc,xd⟩,[])).2]:=⟨_,rfl⟩
  rw [←hR]
  have hw:IntKind.i64.wrap ((i:Int)+1)=(i:Int)+1:=wrap64 (by omega) (by omega)
  simp [t51,e124,hown,turn,e126]
  generalize hA:cloneHook _ _ _ _ _=A
  obtain ⟨v5,K,rfl,o5,x,_⟩:=clone_own (lo:=3) (elems_eL ..) (by simp) (by simp) (by simp) (by simp;omega) (by decide) hA
  clear hA
  have a0:=x.get 0 (by decide)
  have a1:=x.get 1 (by decide)
  have a2:=x.get 2 (by decide)
  have q0:=x.lim
  have w0:=x.wf
  have n0:=x.le
  simp at a0 a1 a2 q0
  obtain ⟨v5',K2,hD,p5,x2,_⟩:=s128 3 K v5 b.owns i o5 hilt (by omega) w0 n0
  rw [hwo]at p5
  have b0:=x2.get 0 (by decide)
  have b1:=x2.get 1 (by decide)
  have b2:=x2.get 2 (by decide)
  have q2:=x2.lim
  have w2:=x2.wf
  have n2:=x2.le
  rw [a0]at b0
  rw [a1]at b1
  rw [a2]at b2
  rw [q0]at q2
  have hbu:eBroker .none b=DV.agg [.int .i64 b.me,eL false 1 cInt b.near,eL false 4 eAdvert b.adverts,eL false 2 eID b.seen,eL false 7 eEntry b.entries,eL false 3 eOwn b.owns]:=rfl
  rw [hbu]at b0
  have l0:0<K2.n:=by omega
  simp [hw,hD,b0,b1,b2,q2,w2,l0,turn,p5.storable,p5.ecells]
  generalize hF2:upd _ 33 _=F2
  rw [hR]
  refine r51 xc xd false b.adverts ha 37 29 29 (endOwn b ⟨xc,xd⟩) (hi.endOwn _) (hz.endOwn _) v5' F2 _ ?_ ?_ ?_ ?_ ?_ ?_ ?_ ?_ ?_ ?_ (p5.setLow w2 (by decide) l0) ?_ ?_ ?_
  all_goals first
   | (rw [←hF2];simp;done)
   | (simp [b1,b2,q2,w2,l0,zB];done)
   | (simp [w2,l0,endOwn];done)
   | (simp;omega)
end Go.Dm.Tc
/-
Two predicates meet either way about: plain laws.
-/
namespace Go.Dm.Tc
theorem PredOk.up {p:Pred} (h:PredOk p):NameUp p:=by
 have h1:=h.right
 unfold rightP at h1
 rw [Bool.and_eq_true]at h1
 unfold NameUp
 rw [List.pairwise_map]
 exact (rightA_names h1.1).2
end Go.Dm.Tc
/-
SubsFrom: plain laws.
-/
namespace Go.Dm.Tc
theorem add_is {b:Broker} (h:InvK b) {e:Entry} {a:Advert} (ha:advOf b e.tree=some a) (hn:entOf b e.tree e.sub=none) (hf:e.frm=a.parent→a.parent=-1) (hl:linkB b e.frm=true) (hp:PredOk e.pred) :
  entOf (addB b e).1 e.tree e.sub=some {e with up:=upOf b e}∧(addB b e).2=upOf b e∧(addB b e).1.entries.length=b.entries.length+1∧(upOf b e=true→a.parent≠-1):=by
 have hi:=h.add hl hp
 have hy:=add_yes ha hn hf
 refine ⟨?_,by rw [hy],by rw [hy];exact insE_len ..,?_⟩
 ·rw [entOf_some hi.re,hy]
  exact ⟨insE_mem.2 (.inl rfl),rfl,rfl⟩
 ·unfold upOf
  rw [parentOf_eq,ha]
  simp
  intro q _;exact q
theorem fresh {b:Broker} (h:LowK b) (t s:ID) (hs:4<s.client):entOf b t s=none:=by
 rw [entOf_none]
 rintro e he ⟨_,hq⟩
 have:=h.ent e he
 rw [hq]at this;omega
end Go.Dm.Tc
/-
FloodEnd,FloodBack: plain laws: taken back,and spread,what is behind.
-/
namespace Go.Dm.Tc
theorem advOf_mem {b:Broker} {x:ID} {a:Advert} (h:advOf b x=some a):a∈b.adverts∧a.id=x:=by
 refine ⟨List.mem_of_find?_eq_some h,?_⟩
 have:=List.find?_some h
 simpa using this
theorem forget_is {b:Broker} {x:ID} {q:Int} {a:Advert} (ha:advOf b x=some a) (hq:a.parent=q):forgetB b x q=({b with adverts:=without (fun a=>a.id) x b.adverts,entries:=without (fun e=>e.tree) x b.entries},true):=by
 unfold forgetB
 rw [show b.adverts.find? (fun a=>decide (a.id=x))=some a from ha]
 simp only [if_pos hq]
theorem unadv_is {b:Broker} {x:ID} {q:Int} {a:Advert} (ha:advOf b x=some a) (hq:a.parent=q):unadvertiseB b q x=({b with adverts:=without (fun a=>a.id) x b.adverts,entries:=without (fun e=>e.tree) x b.entries},toAll b.near q 2 x.client x.seq 0 0 []):=by
 unfold unadvertiseB
 rw [forget_is ha hq];rfl
theorem without_append {α:Type} (key:α→ID) (x:ID) (l k:List α):without key x (l++k)=without key x l++without key x k:=by
 unfold without;exact List.filter_append ..
theorem without_insE {x:ID} {e:Entry} (he:e.tree=x) (l:List Entry):without (fun e=>e.tree) x (insE e l)=without (fun e=>e.tree) x l:=by
 unfold insE
 rw [without_append]
 have:without (fun e:Entry=>e.tree) x (e::l.drop (lowIdx (sgnE e.tree e.sub) l))=without (fun e:Entry=>e.tree) x (l.drop (lowIdx (sgnE e.tree e.sub) l)):=by
  unfold without
  rw [List.filter_cons];simp [he]
 rw [this,←without_append,List.take_append_drop]
theorem without_insAt {x:ID} {a:Advert} (he:a.id=x) (l:List Advert):without (fun a:Advert=>a.id) x (insAt (fun a=>a.id) a l)=without (fun a:Advert=>a.id) x l:=by
 unfold insAt
 generalize lowIdx _ l=k
 rw [without_append]
 have:without (fun a:Advert=>a.id) x (a::l.drop k)=without (fun a:Advert=>a.id) x (l.drop k):=by
  unfold without
  rw [List.filter_cons];simp [he]
 rw [this,←without_append,List.take_append_drop]
theorem without_none {α:Type} {key:α→ID} {x:ID} {l:List α} (h:∀a∈l,key a≠x):without key x l=l:=by
 unfold without
 rw [List.filter_eq_self]
 intro a ha
 simp [h a ha]
theorem without_addB (b:Broker) {e:Entry} {x:ID} (he:e.tree=x):without (fun e:Entry=>e.tree) x (addB b e).1.entries=without (fun e:Entry=>e.tree) x b.entries:=by
 unfold addB
 split
 ·exact without_insE (e:={e with up:=upOf b e}) he b.entries
 ·rfl
theorem adv_outs (frm:Int) (x:ID) (p:Pred):∀(l:List OwnS) (st:Broker×List OutS),∃ l',(l.foldl (advStep frm x p) st).2=st.2++l'∧l'.length≤l.length∧(∀o∈l',o.to=frm∧o.kind=3∧o.tree=x) ∧
  (l.foldl (advStep frm x p) st).1.adverts=st.1.adverts∧(l.foldl (advStep frm x p) st).1.near=st.1.near∧(l.foldl (advStep frm x p) st).1.owns=st.1.owns∧(l.foldl (advStep frm x p) st).1.me=st.1.me ∧
  without (fun e:Entry=>e.tree) x (l.foldl (advStep frm x p) st).1.entries=without (fun e:Entry=>e.tree) x st.1.entries
 | [],st=>⟨[],by simp,by simp,fun _ h=>(by cases h),rfl,rfl,rfl,rfl,rfl⟩
 | o::r,st=>by
  obtain ⟨l',h1,h2,h3,h4,h5,h6,h7,h8⟩:=adv_outs frm x p r (advStep frm x p st o)
  have hs:∃ m,(advStep frm x p st o).2=st.2++m∧m.length≤1∧(∀o∈m,o.to=frm∧o.kind=3∧o.tree=x)∧(advStep frm x p st o).1.adverts=st.1.adverts∧(advStep frm x p st o).1.near=st.1.near∧(advStep frm x p st o).1.owns=st.1.owns∧(advStep frm x p st o).1.me=st.1.me ∧
    without (fun e:Entry=>e.tree) x (advStep frm x p st o).1.entries=without (fun e:Entry=>e.tree) x st.1.entries:=by
   unfold advStep
   split
   ·obtain ⟨k1,k2,k3,k4,k5,_⟩:=addB_rows st.1 ⟨x,o.id,o.pred,-1,false⟩
    by_cases hu:(addB st.1 ⟨x,o.id,o.pred,-1,false⟩).2=true
    ·exact ⟨[⟨frm,3,x,o.id,o.pred⟩],by simp [hu],by simp,by simp,k2,k1,k4,k5,without_addB _ rfl⟩
    ·exact ⟨[],by simp [hu],by simp,fun _ h=>(by cases h),k2,k1,k4,k5,without_addB _ rfl⟩
   ·exact ⟨[],by simp,by simp,fun _ h=>(by cases h),rfl,rfl,rfl,rfl,rfl⟩
  obtain ⟨m,g1,g2,g3,g4,g5,g6,g7,g8⟩:=hs
  refine ⟨m++l',by rw [List.foldl_cons,h1,g1,List.append_assoc],by simp;omega,fun o ho=>?_,by rw [List.foldl_cons,h4,g4],by rw [List.foldl_cons,h5,g5],by rw [List.foldl_cons,h6,g6],by rw [List.foldl_cons,h7,g7],by rw [List.foldl_cons,h8,g8]⟩
  rcases List.mem_append.1 ho with ho|ho
  ·exact g3 o ho
  ·exact h3 o ho
theorem back {b:Broker} (h:InvK b) {f:Int} {x:ID} {p:Pred} (hf:linkB b f=true) (hx:x ∉ b.seen) (hp:PredOk p) :
  ∃ l',(advertiseB b f x p).2=toAll b.near f 1 x.client x.seq 0 0 p++l'∧l'.length≤b.owns.length∧(∀o∈l',o.to=f∧o.kind=3∧o.tree=x) ∧
   (unadvertiseB (advertiseB b f x p).1 f x).2=toAll b.near f 2 x.client x.seq 0 0 []∧{(unadvertiseB (advertiseB b f x p).1 f x).1 with seen:=b.seen}=b:=by
 have hA:=advOf_learn h ⟨x,p,f⟩ hx x
 have hL:learnB b ⟨x,p,f⟩=({b with adverts:=insAt (fun a=>a.id) ⟨x,p,f⟩ b.adverts,seen:=insAt (fun x=>x) x b.seen},true):=by
  unfold learnB;rw [if_neg hx]
 have hadv:∀a∈b.adverts,a.id≠x:=fun a ha e=>hx (by rw [←e];exact h.sub a ha)
 have hent:∀e∈b.entries,e.tree≠x:=by
  intro e he q
  obtain ⟨a,ha,_⟩:=rightEnt_iff.1 (h.ent e he)
  have:=advOf_mem ha
  exact hadv a this.1 (by rw [this.2,q])
 obtain ⟨l',h1,h2,h3,h4,h5,h6,h7,h8⟩:=adv_outs f x p b.owns ((learnB b ⟨x,p,f⟩).1,toAll b.near f 1 x.client x.seq 0 0 p)
 have hE:advertiseB b f x p=b.owns.foldl (advStep f x p) ((learnB b ⟨x,p,f⟩).1,toAll b.near f 1 x.client x.seq 0 0 p):=by
  unfold advertiseB;rw [if_pos (by rw [hL])]
 have hc:advOf (advertiseB b f x p).1 x=some ⟨x,p,f⟩:=by
  rw [if_pos rfl]at hA
  rw [hE]
  unfold advOf at hA ⊢
  rw [h4];exact hA
 refine ⟨l',by rw [hE,h1],h2,h3,?_,?_⟩
 ·rw [unadv_is hc rfl,hE,h5,hL]
 ·rw [unadv_is hc rfl,hE]
  simp only
  rw [h4,h5,h6,h7,h8,hL]
  simp only
  rw [without_insAt (a:=⟨x,p,f⟩) rfl,without_none hadv,without_none hent]
end Go.Dm.Tc
/-
FloodEnd: an advertisement that is taken back: the law's walk.
-/
namespace Go.Dm.Tc
theorem SzK.zl {b:Broker} {n k:Nat} (hz:SzK b n) (hn:n≤20) (hk:k≤n):ZL b k :=
 ⟨by have:=hz.near;omega,by have:=hz.adv;omega,by have:=hz.seen;omega,by have:=hz.own;omega,by have:=hz.ent;have:=Nat.mul_le_mul hn hn;omega⟩
end Go.Dm.Tc
/-
FloodTells: an advertisement from anywhere,spread or taken back by the program and by the document: the law's walk.
-/
namespace Go.Dm.Tc
def OutsOk (os:List OutS):Prop:=(∀o∈os,o.pred.length≤1000000)∧os.length≤1000000
end Go.Dm.Tc
/-
FloodBack: an advertisement spread and taken back: the law's walk.
-/
namespace Go.Dm.Tc
end Go.Dm.Tc
/-
RouteTells: a subscription,its own or a link's,put in or taken out by the program and by the document: the law's walk.
-/
namespace Go.Dm.Tc
theorem s55:pcF D t55 []=some (.bool true):=pc_run (n:=2000) (args:=[]) e55 rfl (by kernel_rfl)
theorem sub_outs (x:ID) (p:Pred):∀(l:List Advert) (st:Broker×List OutS),∃ l',(l.foldl (subStep x p) st).2=st.2++l'∧l'.length≤l.length∧∀o∈l',o.kind=3∧o.id=x∧o.pred=p
 | [],st=>⟨[],by simp,by simp,fun _ h=>(by cases h)⟩
 | a::r,st=>by
  obtain ⟨l',h1,h2,h3⟩:=sub_outs x p r (subStep x p st a)
  have hs:∃ m,(subStep x p st a).2=st.2++m∧m.length≤1∧∀o∈m,o.kind=3∧o.id=x∧o.pred=p:=by
   unfold subStep
   split
   ·by_cases hu:(addB st.1 ⟨a.id,x,p,-1,false⟩).2=true
    ·exact ⟨[⟨a.parent,3,a.id,x,p⟩],by simp [hu],by simp,by simp⟩
    ·exact ⟨[],by simp [hu],by simp,fun _ h=>(by cases h)⟩
   ·exact ⟨[],by simp,by simp,fun _ h=>(by cases h)⟩
  obtain ⟨m,g1,g2,g3⟩:=hs
  refine ⟨m++l',by rw [List.foldl_cons,h1,g1,List.append_assoc],by simp;omega,fun o ho=>?_⟩
  rcases List.mem_append.1 ho with ho|ho
  ·exact g3 o ho
  ·exact h3 o ho
theorem subscribe_ok {b:Broker} {n:Nat} (z:SzK b n) (hn:n≤300) (x:ID) {p:Pred} (hp:PredOk p):OutsOk (subscribeB b x p).2:=by
 unfold subscribeB
 split
 ·exact ⟨fun o ho=>(by cases ho),by simp⟩
 ·obtain ⟨l',h1,h2,h3⟩:=sub_outs x p b.adverts (subOwn b x p,[])
  rw [h1]
  have:=z.adv
  refine ⟨fun o ho=>?_,by simp;omega⟩
  rw [(h3 o (by simpa using ho)).2.2]
  exact Nat.le_trans hp.len (by decide)
theorem drop_preds {b:Broker} (h:InvK b) (t s:ID) (q:Int):∀o∈(dropB b t s q).2,o.pred.length≤1000000:=by
 unfold dropB
 split
 ·intro o ho
  simp only at ho
  rcases List.mem_append.1 ho with ho|ho
  ·unfold upOuts at ho
   obtain ⟨e,he,rfl⟩:=List.mem_map.1 ho
   rcases take_cases h t s q with ⟨hc,_⟩|⟨_,_,_,_,_,hc⟩|⟨_,_,_,_,_,r',u',hc,_,_,hup⟩
   ·rw [hc]at he;cases he
   ·rw [hc]at he;cases he
   ·rw [hc]at he
    have:=(List.mem_filter.1 (hup e he).2.2.2.1).1
    exact Nat.le_trans (h.pe _ this).len (by decide)
  ·rw [List.mem_singleton.1 ho];exact Nat.zero_le _
 ·intro o ho;cases ho
theorem end_preds (x:ID):∀(l:List Advert) (st:Broker×List OutS),InvK st.1→(∀o∈st.2,o.pred.length≤1000000)→∀o∈(l.foldl (endStep x) st).2,o.pred.length≤1000000
 | [],_,_,h=>h
 | a::r,st,hi,h=>by
  refine end_preds x r (endStep x st a) ?_ ?_
  ·unfold endStep;rw [drop_fst];exact hi.take ..
  ·intro o ho
   unfold endStep at ho
   rcases List.mem_append.1 ho with ho|ho
   ·exact h o ho
   ·exact drop_preds hi _ _ _ o ho
theorem end_len (x:ID) {N:Nat}:∀(l:List Advert) (st:Broker×List OutS),InvK st.1→st.1.entries.length≤N→(l.foldl (endStep x) st).2.length≤st.2.length+l.length*(N+1)
 | [],st,_,_=>by simp
 | a::r,st,hi,h=>by
  have h1:InvK (endStep x st a).1:=by unfold endStep;rw [drop_fst];exact hi.take ..
  have h2:(endStep x st a).1.entries.length≤N:=by unfold endStep;rw [drop_fst];exact Nat.le_trans (take_len hi ..) h
  have h3:(endStep x st a).2.length≤st.2.length+(N+1):=by
   unfold endStep
   have:=drop_len hi a.id x (-1)
   simp only [List.length_append]
   omega
  have:=end_len x r (endStep x st a) h1 h2
  rw [List.foldl_cons,List.length_cons,Nat.add_mul]
  omega
theorem unsubscribe_ok {b:Broker} {n:Nat} (h:InvK b) (z:SzK b n) (hn:n≤50) (x:ID):OutsOk (unsubscribeB b x).2:=by
 unfold unsubscribeB
 split
 ·exact ⟨fun o ho=>(by cases ho),by simp⟩
 ·refine ⟨end_preds x _ _ (h.endOwn x) (fun o ho=>by cases ho),?_⟩
  have h1:=end_len x (N:=2500) b.adverts (endOwn b x,[]) (h.endOwn x) (by have:=z.ent;have:=Nat.mul_le_mul hn hn;show b.entries.length≤_;omega)
  have h2:=z.adv
  have h3:b.adverts.length*2501≤50*2501:=Nat.mul_le_mul_right _ (by omega)
  simp only [List.length_nil]at h1
  omega
theorem onSub_ok (b:Broker) (q:Int) (t s:ID) {p:Pred} (hp:PredOk p):OutsOk (onSubB b q t s p).2:=by
 have h1:=on_len b q t s p
 refine ⟨?_,by omega⟩
 unfold onSubB
 simp only
 split
 ·intro o ho
  rw [List.mem_singleton.1 ho]
  exact Nat.le_trans hp.len (by decide)
 ·intro o ho;cases ho
theorem drop_ok {b:Broker} {n:Nat} (h:InvK b) (z:SzK b n) (hn:n≤300) (t s:ID) (q:Int):OutsOk (dropB b t s q).2 :=
 ⟨drop_preds h t s q,by have:=drop_len h t s q;have:=z.ent;have:=Nat.mul_le_mul hn hn;omega⟩
structure Behind (c:Broker) (os:List OutS):Prop where
 brokers:pcF D t25 [eBroker .none c,eBroker .none c]=some (.bool true)
 outs:pcF D t60 [eL false 8 eOut os,eL false 8 eOut os]=some (.bool true)
 right:pcF D t27 [eBroker .none c]=some (.bool true)
 tight:pcF D t41 [eBroker .none c]=some (.bool true)
theorem behind {c:Broker} {n:Nat} (hc:InvK c) (hz:SzK c n) (hn:n≤300) {os:List OutS} (ho:OutsOk os):Behind c os:=by
 have z:=hz.sized hn
 have h:=kBrokers .none hc z .none c
 rw [decide_eq_true rfl]at h
 exact ⟨h,s60 false false os ho.1 ho.2,kRight .none hc z,kTight .none hc z⟩
set_option maxRecDepth 16000 in
set_option maxHeartbeats 4000000 in
theorem s14 (k:BrokK) (what frm tree client seq:Int) (p:PK) (hk:∀z∈k.steps,z.has.length≤9223372036854775807) (hp:p.has.length≤9223372036854775807) :
  pcF D t14 [eBrokK k,.int .i64 what,.int .i64 frm,.int .i64 tree,.int .i64 client,.int .i64 seq,ePK p]=some (.bool true):=by
 have hB:=s29 false k.near k.steps hk
 have hP:=s18 false false p.has p.vals hp
 obtain ⟨hi,hz⟩:=brokerK_keep k.near k.steps
 have hlow:=brokerK_low k.near k.steps
 generalize brokerK k.near k.steps=b at *
 have hq:=mkPred_ok p.has p.vals
 generalize mkPred p.has p.vals=q at *
 have z:=hz.sized (by decide)
 have hne:=hlow.ne
 have hnl:=hz.near
 have w1:=s16 tree 0 2 (by decide) (by decide) (by decide)
 have w2:=s16 client 0 4 (by decide) (by decide) (by decide)
 have w3:=s16 seq 0 2 (by decide) (by decide) (by decide)
 have w4:=s16 what 0 3 (by decide) (by decide) (by decide)
 have b4:=within_bounds what (lo:=0) (hi:=3) (by decide)
 have w5:=s16 frm 0 ((b.near.length:Int)-1) (by omega) (by decide) (by omega)
 have b5:=within_bounds frm (lo:=0) (hi:=(b.near.length:Int)-1) (by omega)
 generalize within tree 0 2=T at *
 generalize within client 0 4=C at *
 generalize within seq 0 2=Q at *
 generalize within what 0 3=W at *
 generalize within frm 0 ((b.near.length:Int)-1)=F0 at *
 obtain ⟨j,rfl⟩:∃ j:Nat,F0=j:=⟨F0.toNat,by omega⟩
 have hj:j<b.near.length:=by omega
 have hwl:IntKind.i64.wrap ((b.near.length:Int)-1)=(b.near.length:Int)-1:=wrap64 (by omega) (by omega)
 obtain ⟨f,hf⟩:∃ f,b.near[j]=f:=⟨_,rfl⟩
 have hfk:linkB b f=true:=by unfold linkB;rw [←hf];simp
 have hR:=s55
 have hC:=kCopy .none z
 have hSame:=kBrokers .none hi z .none b
 have hlow2:b.owns.length<100000:=by have:=hz.own;omega
 unfold pcF
 rw [goRun_eq _ _ _ _ (by simp [t14])]
 have hW:W=0∨W=1∨W=2∨W=3:=by omega
 rcases hW with rfl|rfl|rfl|rfl
 ·have hV:=s50 b C Q q hi (hz.zl (by decide) hz.adv) hq hlow2
  have hU:=s46 b C Q q hi (hz.zl (by decide) hz.adv) hq hlow2
  obtain ⟨hic,hzc⟩:=subscribe_keep (x:=⟨C,Q⟩) hi hz hq
  obtain ⟨e1,e2,e3,e4⟩:=behind hic hzc (by decide) (subscribe_ok hz (by decide) ⟨C,Q⟩ hq)
  generalize (subscribeB b ⟨C,Q⟩ q).1=c at *
  generalize (subscribeB b ⟨C,Q⟩ q).2=os at *
  simp [t14,eBrokK,ePK,e29,hB,e16,w1,w2,w3,w4,w5,hwl,hj,hf,cInt,e18,hP,e17,hC,e50,hV,e46,hU,e25,e1,hSame,e60,e2,e27,e3,e41,e4,e55,hR,turn,t14s0]
 ·have hV:=s51 b C Q hi (hz.zl (by decide) (Nat.zero_le _)) (by have:=hz.adv;omega)
  have hU:=s61 b C Q hi (hz.zl (by decide) (Nat.zero_le _)) (by have:=hz.adv;omega)
  obtain ⟨hic,hzc⟩:=unsubscribe_keep hi hz ⟨C,Q⟩
  obtain ⟨e1,e2,e3,e4⟩:=behind hic hzc (by decide) (unsubscribe_ok hi hz (by decide) ⟨C,Q⟩)
  generalize (unsubscribeB b ⟨C,Q⟩).1=c at *
  generalize (unsubscribeB b ⟨C,Q⟩).2=os at *
  simp [t14,eBrokK,ePK,e29,hB,e16,w1,w2,w3,w4,w5,hwl,hj,hf,cInt,e18,hP,e17,hC,e51,hV,e61,hU,e25,e1,hSame,e60,e2,e27,e3,e41,e4,e55,hR,turn,t14s0]
 ·have hV:=s52 b 3 T 0 C Q f q hi z hq
  have hU:=s62 b 3 T 0 C Q f q hi z hq
  obtain ⟨hic,hzc⟩:=onSub_keep (t:=⟨T,0⟩) (s:=⟨C,Q⟩) hi hz hfk hq
  obtain ⟨e1,e2,e3,e4⟩:=behind hic hzc (by decide) (onSub_ok b f ⟨T,0⟩ ⟨C,Q⟩ hq)
  generalize (onSubB b f ⟨T,0⟩ ⟨C,Q⟩ q).1=c at *
  generalize (onSubB b f ⟨T,0⟩ ⟨C,Q⟩ q).2=os at *
  simp [t14,eBrokK,ePK,e29,hB,e16,w1,w2,w3,w4,w5,hwl,hj,hf,cInt,e18,hP,e17,hC,e52,hV,e62,hU,res_islS,e25,e1,hSame,e60,e2,e27,e3,e41,e4,e55,hR,turn,t14s0]
 ·have hV:=s53 b 4 T 0 C Q f [] hi z
  have hU:=s63 b 4 T 0 C Q f [] hi z
  rw [show ePred []=.isl false 0 [] from rfl]at hV hU
  obtain ⟨hic,hzc⟩:=drop_keep hi hz ⟨T,0⟩ ⟨C,Q⟩ f
  obtain ⟨e1,e2,e3,e4⟩:=behind hic hzc (by decide) (drop_ok hi hz (by decide) ⟨T,0⟩ ⟨C,Q⟩ f)
  generalize (dropB b ⟨T,0⟩ ⟨C,Q⟩ f).1=c at *
  generalize (dropB b ⟨T,0⟩ ⟨C,Q⟩ f).2=os at *
  simp [t14,eBrokK,ePK,e29,hB,e16,w1,w2,w3,w4,w5,hwl,hj,hf,cInt,e18,hP,e17,hC,e53,hV,e63,hU,res_islS,e25,e1,hSame,e60,e2,e27,e3,e41,e4,e55,hR,turn,t14s0]
end Go.Dm.Tc
/-
RouteBack: plain laws: subscribed,and ended at once.
-/
namespace Go.Dm.Tc
theorem hit_no_own {l:List OwnS} (hr:Rising (l.map (·.id))) {x:ID} (h:∀o∈l,o.id≠x):hitAt (fun o:OwnS=>cmpID o.id x) l=false:=by
 have hf:=hit_find (fun a:OwnS=>a.id) hr x
 rw [(find_key_none (fun a:OwnS=>a.id) x).2 h]at hf
 exact hf
def upIn (b:Broker) (t x:ID):Bool:=match entOf b t x with|some e=>e.up|none=>false
structure Subd (b nb:Broker) (x:ID) (q:Pred) (done:List Advert) (outs:List OutS):Prop where
 inv:InvK nb
 adv:nb.adverts=b.adverts
 near:nb.near=b.near
 seen:nb.seen=b.seen
 me:nb.me=b.me
 own:nb.owns=(subOwn b x q).owns
 keep:nb.entries.filter (fun e=>!decide (e.sub=x))=b.entries
 has:∀a∈done,meetsP q a.pred=true→∃ u,entOf nb a.id x=some ⟨a.id,x,q,-1,u⟩
 from':∀e∈nb.entries,e.sub=x→∃ a∈done,a.id=e.tree∧meetsP q a.pred=true
 len:nb.entries.length=b.entries.length+done.countP fun a=>meetsP q a.pred
 cnt:outs.length=done.countP fun a=>upIn nb a.id x
structure Ended (c nb:Broker) (x:ID) (done:List Advert) (outs:List OutS):Prop where
 inv:InvK nb
 adv:nb.adverts=c.adverts
 near:nb.near=c.near
 seen:nb.seen=c.seen
 me:nb.me=c.me
 own:nb.owns=(endOwn c x).owns
 ent:nb.entries=c.entries.filter fun e=>!(decide (e.sub=x) && done.any fun a=>decide (a.id=e.tree))
 cnt:outs.length=done.countP fun a=>upIn c a.id x
 kind:∀o∈outs,o.kind=4∧o.id=x
end Go.Dm.Tc
/-
RouteBack: subscribed,and ended at once: the law's walk.
-/
namespace Go.Dm.Tc
structure Last (b c d e:Broker) (out back none again:List OutS) (n met:Nat):Prop where
 h1:out.length=n
 h2:back.length=n
 h3:c.entries.length=b.entries.length+met
 h4:d=b
 h5:none=[]
 h6:again=[]
 h7:e=c
end Go.Dm.Tc
/-
FloodLate: plain laws: an advertisement that comes late is met by those that were there.
-/
namespace Go.Dm.Tc
def tLate:ID:=⟨20,0⟩
def xLate (i:Nat):ID:=⟨((i % 4:Nat):Int),(i:Int)⟩
def bLate:Broker:=⟨0,[1,2],[],[],[],[]⟩
theorem count_insAt {key:OwnS→ID} (f:OwnS→Bool) (a:OwnS) (l:List OwnS):(insAt key a l).countP f=l.countP f+if f a=true then 1 else 0:=by
 unfold insAt
 generalize lowIdx _ l=k
 rw [List.countP_append,List.countP_cons]
 have:=congrArg (List.countP f) (List.take_append_drop k l)
 rw [List.countP_append]at this
 omega
structure LateI (fr:Int) (a:Pred) (b c:Broker) (n i:Nat):Prop where
 ib:InvK b
 zb:SzK b i
 ic:InvK c
 zc:SzK c (i+1)
 badv:b.adverts=[]
 bseen:b.seen=[]
 bnear:b.near=[1,2]
 bent:b.entries=[]
 cadv:c.adverts=[⟨tLate,a,fr⟩]
 own:c.owns=b.owns
 low:∀o∈b.owns,o.id.seq<i
 cnt:n=b.owns.countP fun o=>meetsP o.pred a
 len:c.entries.length=n
 has:∀o∈b.owns,meetsP o.pred a=true→∃ u,entOf c tLate o.id=some ⟨tLate,o.id,o.pred,-1,u⟩
 from':∀e∈c.entries,e.tree=tLate∧∃ o∈b.owns,o.id=e.sub
theorem LateI.start {fr:Int} {a:Pred} (hf:fr=1∨fr=-1) (ha:PredOk a):LateI fr a bLate (advertiseB bLate fr tLate a).1 0 0:=by
 have hi:InvK bLate:=.start rfl (by decide)
 have hz:SzK bLate 0:=.start (by decide)
 have hl:linkB bLate fr=true:=by rcases hf with rfl|rfl<;>rfl
 obtain ⟨h1,h2⟩:=advertise_keep (x:=tLate) hi hz hl ha
 exact ⟨hi,hz,h1,h2,rfl,rfl,rfl,rfl,rfl,rfl,fun o ho=>(by cases ho),rfl,rfl,fun o ho=>(by cases ho),fun o ho=>(by cases ho)⟩
theorem LateI.step {fr:Int} {a:Pred} {b c:Broker} {n i:Nat} (h:LateI fr a b c n i) {p:Pred} (hp:PredOk p) :
  LateI fr a (subscribeB b (xLate i) p).1 (subscribeB c (xLate i) p).1 (if meetsP p a=true then n+1 else n) (i+1):=by
 have hno:∀o∈b.owns,o.id≠xLate i:=fun o ho e=>by
  have:=h.low o ho
  rw [e]at this
  simp [xLate]at this
 have hno':∀o∈c.owns,o.id≠xLate i:=by rw [h.own];exact hno
 have hb:subscribeB b (xLate i) p=(subOwn b (xLate i) p,[]):=by
  unfold subscribeB
  rw [hit_no_own h.ib.ro hno,h.badv];rfl
 have hc:subscribeB c (xLate i) p=subStep (xLate i) p (subOwn c (xLate i) p,[]) ⟨tLate,a,fr⟩:=by
  unfold subscribeB
  rw [hit_no_own h.ic.ro hno',h.cadv];rfl
 obtain ⟨k1,k2⟩:=subscribe_keep (x:=xLate i) h.ib h.zb hp
 obtain ⟨k3,k4⟩:=subscribe_keep (x:=xLate i) h.ic h.zc hp
 have hown:(subOwn c (xLate i) p).owns=(subOwn b (xLate i) p).owns:=by unfold subOwn;rw [h.own]
 have hmem:∀o,o∈(subOwn b (xLate i) p).owns↔o=⟨xLate i,p⟩∨o∈b.owns:=fun o=>ins_mem (fun o:OwnS=>o.id) ⟨xLate i,p⟩ b.owns o
 have hcnt:(subOwn b (xLate i) p).owns.countP (fun o=>meetsP o.pred a)=n+if meetsP p a=true then 1 else 0:=by rw [h.cnt];exact count_insAt ..
 have hlow:∀o∈(subOwn b (xLate i) p).owns,o.id.seq<((i+1:Nat):Int):=by
  intro o ho
  rcases (hmem o).1 ho with rfl|ho
  ·simp [xLate];omega
  ·have:=h.low o ho;omega
 have hnone:entOf c tLate (xLate i)=none:=by
  rw [entOf_none]
  rintro e he ⟨_,h2⟩
  obtain ⟨_,o,ho,h3⟩:=h.from' e he
  exact hno o ho (h3.trans h2)
 rw [hb]at k1 k2 ⊢
 by_cases hm:meetsP p a=true
 ·rw [if_pos hm]
  rw [if_pos hm]at hcnt
  have hca:(subscribeB c (xLate i) p).1=(addB (subOwn c (xLate i) p) ⟨tLate,xLate i,p,-1,false⟩).1:=by
   rw [hc];unfold subStep;rw [if_pos hm]
  have hio:InvK (subOwn c (xLate i) p):=h.ic.subOwn hp hno'
  have hadv:advOf (subOwn c (xLate i) p) tLate=some ⟨tLate,a,fr⟩:=by
   unfold advOf
   show c.adverts.find? _=_
   rw [h.cadv];rfl
  obtain ⟨c1,c2,c3,_⟩:=add_is (e:=⟨tLate,xLate i,p,-1,false⟩) hio hadv hnone (fun e=>e.symm) (by simp [linkB]) hp
  have hy:=add_yes (e:=⟨tLate,xLate i,p,-1,false⟩) hadv hnone (fun e=>e.symm)
  obtain ⟨r1,r2,r3,r4,r5,_⟩:=addB_rows (subOwn c (xLate i) p) ⟨tLate,xLate i,p,-1,false⟩
  rw [←hca]at c1 c3 r1 r2 r3 r4 r5
  have hent:(subscribeB c (xLate i) p).1.entries=insE ⟨tLate,xLate i,p,-1,upOf (subOwn c (xLate i) p) ⟨tLate,xLate i,p,-1,false⟩⟩ c.entries:=by rw [hca,hy];rfl
  have hes:(subOwn c (xLate i) p).entries=c.entries:=rfl
  refine ⟨k1,k2,k3,k4,h.badv,h.bseen,h.bnear,h.bent,r2.trans h.cadv,r4.trans hown,hlow,hcnt.symm,by rw [c3,hes,h.len],?_,?_⟩
  ·intro o ho hom
   rcases (hmem o).1 ho with rfl|ho
   ·exact ⟨_,c1⟩
   ·obtain ⟨u,hu⟩:=h.has o ho hom
    refine ⟨u,?_⟩
    have:=(entOf_some h.ic.re).1 hu
    rw [entOf_some k3.re,hent]
    exact ⟨insE_mem.2 (.inr this.1),rfl,rfl⟩
  ·intro e he
   rw [hent]at he
   rcases insE_mem.1 he with rfl|he
   ·exact ⟨rfl,⟨xLate i,p⟩,(hmem _).2 (.inl rfl),rfl⟩
   ·obtain ⟨h1,o,ho,h2⟩:=h.from' e he
    exact ⟨h1,o,(hmem _).2 (.inr ho),h2⟩
 ·rw [if_neg hm]
  rw [if_neg hm,Nat.add_zero]at hcnt
  have hca:(subscribeB c (xLate i) p).1=subOwn c (xLate i) p:=by
   rw [hc];unfold subStep;rw [if_neg hm]
  rw [hca]at k3 k4 ⊢
  refine ⟨k1,k2,k3,k4,h.badv,h.bseen,h.bnear,h.bent,h.cadv,hown,hlow,hcnt.symm,h.len,?_,?_⟩
  ·intro o ho hom
   rcases (hmem o).1 ho with rfl|ho
   ·exact absurd hom hm
   ·exact h.has o ho hom
  ·intro e he
   obtain ⟨h1,o,ho,h2⟩:=h.from' e he
   exact ⟨h1,o,(hmem _).2 (.inr ho),h2⟩
structure LatePass (fr:Int) (a:Pred) (nb:Broker) (K:Nat) (done:List OwnS) (outs:List OutS):Prop where
 inv:InvK nb
 adv:nb.adverts=[⟨tLate,a,fr⟩]
 len:nb.entries.length=done.countP fun o=>meetsP o.pred a
 from':∀e∈nb.entries,e.tree=tLate∧e.frm=-1∧∃ o∈done,o.id=e.sub∧o.pred=e.pred∧meetsP o.pred a=true
 outs:outs.length=K+nb.entries.countP fun e=>e.up
end Go.Dm.Tc
/-
FloodLate: an advertisement that comes late is met by those that were there: the law's walk.
-/
namespace Go.Dm.Tc
end Go.Dm.Tc
/-
FloodLate: the law's walk,its first loop and the whole.
-/
namespace Go.Dm.Tc
end Go.Dm.Tc
/-
RouteWide: plain laws: the widest subscription,and its end.
-/
namespace Go.Dm.Tc
def wWide:ID:=⟨30,0⟩
theorem ent_add {b:Broker} {e:Entry} (h:InvK b) (h':InvK (addB b e).1) {t s:ID} {d:Entry} (hd:entOf b t s=some d):entOf (addB b e).1 t s=some d:=by
 have hm:=(entOf_some h.re).1 hd
 rw [entOf_some h'.re]
 refine ⟨?_,hm.2⟩
 unfold addB
 split
 ·exact insE_mem.2 (.inr hm.1)
 ·exact hm.1
theorem add_under {b:Broker} (h:InvK b) {t:ID} (hw:entOf b t wWide=some ⟨t,wWide,[],-1,true⟩) (x:ID) (p:Pred):(addB b ⟨t,x,p,-1,false⟩).2=false:=by
 have hc:coveredB b.entries t p=true:=coveredB_iff.2 ⟨_,((entOf_some h.re).1 hw).1,rfl,rfl,covers_nil p⟩
 unfold addB
 split
 ·unfold upOf
  simp [hc]
 ·rfl
structure WideI (A:List Advert) (b:Broker) (i:Nat):Prop where
 inv:InvK b
 sz:SzK b (i+4)
 adv:b.adverts=A
 w:∀a∈A,entOf b a.id wWide=some ⟨a.id,wWide,[],-1,true⟩
 own:∀o∈b.owns,o.id=wWide∨o.id.client<i
 hasw:⟨wWide,[]⟩∈b.owns
theorem wide_pass {A:List Advert} {x:ID} {p:Pred} (hp:PredOk p):∀(r:List Advert) (st:Broker×List OutS),(∀a∈r,a∈A)→InvK st.1→(∀a∈A,entOf st.1 a.id wWide=some ⟨a.id,wWide,[],-1,true⟩)→st.2=[] →
  (∀a∈A,entOf (r.foldl (subStep x p) st).1 a.id wWide=some ⟨a.id,wWide,[],-1,true⟩)∧(r.foldl (subStep x p) st).2=[]∧(r.foldl (subStep x p) st).1.adverts=st.1.adverts∧(r.foldl (subStep x p) st).1.owns=st.1.owns
 | [],st,_,_,hw,ho=>⟨hw,ho,rfl,rfl⟩
 | a::r,st,hA,hi,hw,ho=>by
  have hs:InvK (subStep x p st a).1∧(∀c∈A,entOf (subStep x p st a).1 c.id wWide=some ⟨c.id,wWide,[],-1,true⟩)∧(subStep x p st a).2=[]∧(subStep x p st a).1.adverts=st.1.adverts∧(subStep x p st a).1.owns=st.1.owns:=by
   unfold subStep
   split
   ·have h':=hi.add (e:=⟨a.id,x,p,-1,false⟩) (by simp [linkB]) hp
    obtain ⟨_,r2,_,r4,_⟩:=addB_rows st.1 ⟨a.id,x,p,-1,false⟩
    refine ⟨h',fun c hc=>ent_add hi h' (hw c hc),?_,r2,r4⟩
    rw [add_under hi (hw a (hA a (List.mem_cons_self ..))) x p]
    simpa using ho
   ·exact ⟨hi,hw,ho,rfl,rfl⟩
  obtain ⟨h1,h2,h3,h4,h5⟩:=hs
  obtain ⟨k1,k2,k3,k4⟩:=wide_pass hp r (subStep x p st a) (fun c hc=>hA c (List.mem_cons_of_mem _ hc)) h1 h2 h3
  exact ⟨k1,k2,k3.trans h4,k4.trans h5⟩
theorem WideI.step {A : List Advert} {b : Broker} {i : Nat} (h : WideI A b i) {p : Pred} (hp : PredOk p) : (subscribeB b ⟨(i : Int), 1⟩ p).2 = [] ∧ WideI A (subscribeB b ⟨(i : Int), 1⟩ p).1 (i + 1) := by
  have hno : ∀ o ∈ b.owns, o.id ≠ ⟨(i : Int), 1⟩ := fun o ho e => by
    rcases h.own o ho with h1 | h1
    · rw [e] at h1
      have := congrArg ID.seq h1
      simp [wWide] at this
    · rw [e] at h1; simp at h1
  obtain ⟨k1, k2⟩ := subscribe_keep (x := ⟨(i : Int), 1⟩) h.inv h.sz hp
  have hs : subscribeB b ⟨(i : Int), 1⟩ p = b.adverts.foldl (subStep ⟨(i : Int), 1⟩ p) (subOwn b ⟨(i : Int), 1⟩ p, []) := by
    unfold subscribeB
    rw [hit_no_own h.inv.ro hno]; rfl
  have hio := h.inv.subOwn hp hno
  obtain ⟨p1, p2, p3, p4⟩ := wide_pass (A := A) hp b.adverts (subOwn b ⟨(i : Int), 1⟩ p, []) (fun a ha => by rw [h.adv] at ha; exact ha) hio (fun a ha => h.w a ha) rfl
  rw [← hs] at p1 p2 p3 p4
  have hmem : ∀ o, o ∈ (subOwn b ⟨(i : Int), 1⟩ p).owns ↔ o = ⟨⟨(i : Int), 1⟩, p⟩ ∨ o ∈ b.owns := fun o => ins_mem (fun o : OwnS => o.id) ⟨⟨(i : Int), 1⟩, p⟩ b.owns o
  refine ⟨p2, k1, by have : i + 1 + 4 = i + 4 + 1 := by omega
                     rw [this]; exact k2, p3.trans h.adv, p1, ?_, ?_⟩
  · intro o ho
    rw [p4] at ho
    rcases (hmem o).1 ho with rfl | ho
    · right; simp only; omega
    · rcases h.own o ho with h1 | h1
      · exact .inl h1
      · right; omega
  · rw [p4]; exact (hmem _).2 (.inr h.hasw)
structure WideEnd (A:List Advert) (nb:Broker) (done r:List Advert) (outs:List OutS):Prop where
 inv:InvK nb
 w:∀a∈r,entOf nb a.id wWide=some ⟨a.id,wWide,[],-1,true⟩
 each:∀o∈outs,(∃ a∈done,a.id=o.tree)∧(o.kind=4∧o.id=wWide∨o.kind=3∧∃ e,entOf nb o.tree o.id=some e∧e.up=true)
 pairs:outs.Pairwise fun x y=>x.kind=4→ltID x.tree y.tree=true
 cnt:(outs.countP fun o=>decide (o.kind=4))=done.length
end Go.Dm.Tc
/-
RouteWide: the widest subscription,and its end: the law's walk.
-/
namespace Go.Dm.Tc
end Go.Dm.Tc
/-
RouteWide: the law's walk,its first loop and the whole.
-/
namespace Go.Dm.Tc
end Go.Dm.Tc
