/-
What the program's routes compute, part 5: a client of the broker's ends a subscription.
-/
import Derived.Test.YtfnhanajiibciaaGreatMs3
import Derived.Test.YtfnhanajiibciaaGreatMs2
set_option linter.all false
namespace Go.Dm.Tc
set_option maxRecDepth 8000 in
theorem l51 (xc xd:Int) (t:Bool) (advs:List Advert) (hl:advs.length≤1000) (tx tb tn:Nat) :
  ∀ (rest:List Advert) (i:Nat) (nb:Broker) (outs:List OutS) (es:List DV) (v:DV) (f:FEnv) (h:Heap),advs.drop i=rest→InvK nb→ZL nb 0→RowR es outs→es.length≤i * 100001 →
  f 2=.ptr 0 6 0 0→f 3=.ptr 1 2 0 0→f 4=.ptr 2 6 0 0→f 8=v→f 31=eL t 4 eAdvert advs→f 32=.int .i64 advs.length→f 33=.int .i64 i →
  h.get 1=some (.arr tx 2 [.agg [.int .i64 xc,.int .i64 xd]] (some 1))→h.get 2=some (.arr tb 6 [zB] (some 1))→h.get 0=some (.arr tn 6 [eBroker .none nb] (some 1))→OwnR 3 h v 86 8 es→h.lim=0→3≤h.n→WF h →
  pcOut (fin [.cell 4 (some 6),.t 5] (run D 52 [.block 0,.seq t51k0] (.loop t51l0) f h))=some (.tup [eBroker .none (rest.foldl (endStep ⟨xc,xd⟩) (nb,outs)).1,eL false 8 eOut (rest.foldl (endStep ⟨xc,xd⟩) (nb,outs)).2]):=by
 intro rest
 induction rest with
 | nil =>
  intro i nb outs es v f h hd hi0 hz hr hes h2 h3 h4 h8 hW hL hI g1 g2 gB hv hlim hn wf
  have hi:=drop_nil hd
  have:¬ (i < advs.length):=by omega
  have l2:2 < h.n:=by omega
  have r1:=fun o=>out_res (hv.setLow (o:=o) wf (by decide:2 < 3) l2) hr false (n:=199) (by decide)
  have hu:unlent 199 (eL false 8 eOut outs)=true:=unl_eL (fun y _=>(plain_out y).2) 199 (by decide)
  rw [run_loop_of t51l0.eq_1]
  simp only [zB] at g2
  simp [t51k0,hL,hI,this,h2,h4,h8,gB,g2,hlim,l2,wf,turn,resultsOf,r1,hu]
 | cons o rest ih =>
  intro i nb outs es v f h hd hi0 hz hr hes h2 h3 h4 h8 hW hL hI g1 g2 gB hv hlim hn wf
  obtain ⟨hi,he,hd'⟩:=drop_at hd
  obtain ⟨⟨oc,od⟩,op,oq⟩:=o
  have hdr:=s129 nb oc od xc xd (-1) hi0 hz.sized
  have hi1:InvK (dropB nb ⟨oc,od⟩ ⟨xc,xd⟩ (-1)).1:=by rw [drop_fst];exact hi0.take ..
  have hz1:ZL (dropB nb ⟨oc,od⟩ ⟨xc,xd⟩ (-1)).1 0:=by rw [drop_fst];exact hz.take hi0 ..
  have hdl:=drop_len hi0 ⟨oc,od⟩ ⟨xc,xd⟩ (-1)
  have hent:=hz.ent
  obtain ⟨m,hmn⟩:∃ m,h.n=m+3:=⟨h.n - 3,by omega⟩
  rw [run_loop_of t51l0.eq_1]
  simp only [List.foldl_cons]
  have hst:endStep ⟨xc,xd⟩ (nb,outs) ⟨⟨oc,od⟩,op,oq⟩=((dropB nb ⟨oc,od⟩ ⟨xc,xd⟩ (-1)).1,outs++(dropB nb ⟨oc,od⟩ ⟨xc,xd⟩ (-1)).2):=rfl
  rw [hst]
  generalize hB1:(dropB nb ⟨oc,od⟩ ⟨xc,xd⟩ (-1)).1=b1 at *
  generalize hO1:(dropB nb ⟨oc,od⟩ ⟨xc,xd⟩ (-1)).2=o1 at *
  have hi1000:i * 100001≤1000 * 100001:=Nat.mul_le_mul_right _ (by omega)
  have hr':=RowR.append hr (rowR_out o1)
  cases hv with
  | nil hv hx =>
   subst hv
   subst hx
   simp [hL,hI,hW,hi,he,eAdvert,h2,h3,h8,hmn,g1,gB,hlim,wf,turn,e129,hdr]
   generalize hA:appendD _ _ _ _ _ _=A
   obtain ⟨v',K,rfl,p',x',_⟩:=OwnR.append (lo:=3) (OwnR.start 3 _ 86 8) (by simp [wf]) (by simp [hmn] <;> omega) (by simp [hmn,hlim]) hA (by simp <;> omega) (by decide)
   clear hA
   have a1:=x'.get 1 (by decide)
   have a2:=x'.get 2 (by decide)
   have aB:=x'.get 0 (by decide)
   have al:=x'.lim
   have an:=x'.le
   have l0:0 < K.n:=by omega
   simp [hmn,g1,g2,gB,hlim,wf] at a1 a2 aB al p'
   simp [hI,h2,aB,al,l0,x'.wf,turn,hlim]
   rw [wrap64 (by omega) (by omega)]
   generalize hF:upd _ 33 _=F
   have hv':=(p'.setLow (o:=.arr tn 6 [eBroker .none b1] (some 1)) x'.wf (by decide:0 < 3) l0).wl (Nat.zero_le 3)
   refine ih (i+1) b1 (outs++o1) _ v' F _ hd' hi1 hz1 hr' (by simp [Nat.add_mul];omega) ?_ ?_ ?_ ?_ ?_ ?_ ?_ ?_ ?_ ?_ (by simpa using hv') ?_ ?_ ?_
   all_goals first
    | (rw [← hF];simp [h2,h3,h4,h8,hW,hL];done)
    | (simp [a1,a2,aB,al,l0,x'.wf];done)
    | (simp <;> omega)
  | arr iv sp cap hv hg hlm hlo =>
   subst hv
   have hidn:=get_some_lt hg
   have q1:¬ m+3+1=iv:=by omega
   simp [hL,hI,hW,hi,he,eAdvert,h2,h3,h8,hmn,g1,gB,hlim,wf,turn,e129,hdr,q1]
   generalize hA:appendD _ _ _ _ _ _=A
   obtain ⟨v',K,rfl,p',x',_⟩:=OwnR.append (lo:=3) (OwnR.push (OwnR.push (.arr iv sp cap rfl hg hlm hlo))) (by simp [wf]) (by simp [hmn] <;> omega) (by simp [hmn,hlim]) hA (by simp <;> omega) (by decide)
   clear hA
   have a1:=x'.get 1 (by decide)
   have a2:=x'.get 2 (by decide)
   have aB:=x'.get 0 (by decide)
   have al:=x'.lim
   have an:=x'.le
   have l0:0 < K.n:=by omega
   simp [hmn,g1,g2,gB,hlim,wf] at a1 a2 aB al
   simp [hI,h2,aB,al,l0,x'.wf,turn]
   rw [wrap64 (by omega) (by omega)]
   generalize hF:upd _ 33 _=F
   have hv':=p'.setLow (o:=.arr tn 6 [eBroker .none b1] (some 1)) x'.wf (by decide:0 < 3) l0
   refine ih (i+1) b1 (outs++o1) _ v' F _ hd' hi1 hz1 hr' (by simp [Nat.add_mul];omega) ?_ ?_ ?_ ?_ ?_ ?_ ?_ ?_ ?_ ?_ hv' ?_ ?_ ?_
   all_goals first
    | (rw [← hF];simp [h2,h3,h4,h8,hW,hL];done)
    | (simp [a1,a2,aB,al,l0,x'.wf];done)
    | (simp <;> omega)
set_option maxRecDepth 8000 in
theorem r51 (xc xd:Int) (t:Bool) (advs:List Advert) (hl:advs.length≤1000) (tx tb tn:Nat) (nb:Broker) (hi0:InvK nb) (hz:ZL nb 0) (w:DV) (f:FEnv) (h:Heap)
  (h2:f 2=.ptr 0 6 0 0) (h3:f 3=.ptr 1 2 0 0) (h4:f 4=.ptr 2 6 0 0) (h8:f 8=.nsl) (hW:f 31=eL t 4 eAdvert advs) (hL:f 32=.int .i64 advs.length) (hI:f 33=.int .i64 0)
  (g1:h.get 1=some (.arr tx 2 [.agg [.int .i64 xc,.int .i64 xd]] (some 1))) (g2:h.get 2=some (.arr tb 6 [zB] (some 1))) (gB:h.get 0=some (.arr tn 6 [.agg [.int .i64 nb.me,eL false 1 cInt nb.near,eL false 4 eAdvert nb.adverts,eL false 2 eID nb.seen,eL false 7 eEntry nb.entries,w]] (some 1)))
  (hv:OwnR 3 h w 60 3 (nb.owns.map eOwn)) (hlim:h.lim=0) (hn:3≤h.n) (wf:WF h) :
  pcOut (fin [.cell 4 (some 6),.t 5] (run D 52 [.block 0,.seq t51k0] (.loop t51l0) f h))=some (.tup [eBroker .none (advs.foldl (endStep ⟨xc,xd⟩) (nb,[])).1,eL false 8 eOut (advs.foldl (endStep ⟨xc,xd⟩) (nb,[])).2]):=by
 cases advs with
 | nil =>
  have l2:2 < h.n:=by omega
  have r1:∀ o,resolve false (h.set 2 o) 198 w=some (eL false 3 eOwn nb.owns):=fun o=>(hv.setLow (o:=o) wf (by decide:2 < 3) l2).resolve (n:=198) false (fun y _=>(plain_own y).1) (by decide)
  rw [run_loop_of t51l0.eq_1]
  simp only [zB] at g2
  simp only [List.length_nil] at hL
  simp [t51k0,hL,hI,h2,h4,h8,gB,g2,hlim,l2,wf,turn,resultsOf,r1]
  exact ⟨rfl,rfl⟩
 | cons o rest =>
  have hi:0 < (o::rest).length:=by simp
  obtain ⟨⟨oc,od⟩,op,oq⟩:=o
  have hdr:=s129 nb oc od xc xd (-1) hi0 hz.sized
  have hi1:InvK (dropB nb ⟨oc,od⟩ ⟨xc,xd⟩ (-1)).1:=by rw [drop_fst];exact hi0.take ..
  have hz1:ZL (dropB nb ⟨oc,od⟩ ⟨xc,xd⟩ (-1)).1 0:=by rw [drop_fst];exact hz.take hi0 ..
  have hdl:=drop_len hi0 ⟨oc,od⟩ ⟨xc,xd⟩ (-1)
  have hent:=hz.ent
  obtain ⟨m,hmn⟩:∃ m,h.n=m+3:=⟨h.n - 3,by omega⟩
  rw [run_loop_of t51l0.eq_1]
  simp only [List.foldl_cons]
  have hst:endStep ⟨xc,xd⟩ (nb,[]) ⟨⟨oc,od⟩,op,oq⟩=((dropB nb ⟨oc,od⟩ ⟨xc,xd⟩ (-1)).1,(dropB nb ⟨oc,od⟩ ⟨xc,xd⟩ (-1)).2):=by simp [endStep]
  rw [hst]
  generalize hB1:(dropB nb ⟨oc,od⟩ ⟨xc,xd⟩ (-1)).1=b1 at *
  generalize hO1:(dropB nb ⟨oc,od⟩ ⟨xc,xd⟩ (-1)).2=o1 at *
  simp only [List.length_cons] at hL
  cases hv with
  | nil hv hx =>
   subst hv
   have hbb:DV.agg [.int .i64 nb.me,eL false 1 cInt nb.near,eL false 4 eAdvert nb.adverts,eL false 2 eID nb.seen,eL false 7 eEntry nb.entries,.isl false 0 []]=eBroker .none nb:=by
    have:nb.owns=[]:=by simpa using hx
    unfold eBroker
    rw [this];rfl
   simp [hL,hI,hW,eAdvert,h2,h3,h8,hmn,g1,gB,hlim,wf,turn,e129,hbb,hdr]
   generalize hA:appendD _ _ _ _ _ _=A
   obtain ⟨v',K,rfl,p',x',_⟩:=OwnR.append (lo:=3) (OwnR.start 3 _ 86 8) (by simp [wf]) (by simp [hmn] <;> omega) (by simp [hmn,hlim]) hA (by simp <;> omega) (by decide)
   clear hA
   have a1:=x'.get 1 (by decide)
   have a2:=x'.get 2 (by decide)
   have aB:=x'.get 0 (by decide)
   have al:=x'.lim
   have an:=x'.le
   have l0:0 < K.n:=by omega
   simp [hmn,g1,g2,gB,hlim,wf] at a1 a2 aB al p'
   simp [hI,h2,aB,al,l0,x'.wf,turn,hlim]
   generalize hF:upd _ 33 _=F
   have hv':=(p'.setLow (o:=.arr tn 6 [eBroker .none b1] (some 1)) x'.wf (by decide:0 < 3) l0).wl (Nat.zero_le 3)
   refine l51 xc xd t (⟨⟨oc,od⟩,op,oq⟩::rest) hl tx tb tn rest 1 b1 o1 _ v' F _ rfl hi1 hz1 (rowR_out o1) (by simp;omega) ?_ ?_ ?_ ?_ ?_ ?_ ?_ ?_ ?_ ?_ (by simpa using hv') ?_ ?_ ?_
   all_goals first
    | (rw [← hF];simp [h2,h3,h4,h8,hW,hL];done)
    | (simp [a1,a2,aB,al,l0,x'.wf];done)
    | (simp <;> omega)
  | arr iw sp cap hv hg hlm hlo =>
   have ho:OwnI 3 h iw 60 3 (nb.owns.map eOwn):=⟨⟨sp,cap,hg⟩,hlm,hlo⟩
   have hil:=ho.lt
   subst hv
   simp only [List.length_map] at gB
   have k0:¬ iw=0:=by omega
   have k1:¬ iw=1:=by omega
   have k2:¬ iw=2:=by omega
   have k0':¬ 0=iw:=by omega
   have k1':¬ 1=iw:=by omega
   have k2':¬ 2=iw:=by omega
   have k3:¬ iw=m+3:=by omega
   have k4:¬ iw=m+3+1:=by omega
   have k5:iw < m+3:=by omega
   have k6:iw < m+3+1:=by omega
   have hfr:∀ p1,freeze (h.push p1) (.sl iw 3 0 nb.owns.length)=some (eL false 3 eOwn nb.owns,(h.push p1).set iw .dead):=fun p1=>fr_own ho.push rfl
   have hbb:DV.agg [.int .i64 nb.me,eL false 1 cInt nb.near,eL false 4 eAdvert nb.adverts,eL false 2 eID nb.seen,eL false 7 eEntry nb.entries,eL false 3 eOwn nb.owns]=eBroker .none nb:=rfl
   simp [hL,hI,hW,eAdvert,h2,h3,h8,hmn,g1,gB,hlim,wf,turn,e129,hbb,hdr,hfr,k0,k1,k2,k0',k1',k2',k3,k4,k5,k6]
   generalize hA:appendD _ _ _ _ _ _=A
   obtain ⟨v',K,rfl,p',x',_⟩:=OwnR.append (lo:=3) (OwnR.start 3 _ 86 8) (by simp [wf,hmn,k5,k6]) (by simp [hmn] <;> omega) (by simp [hmn,hlim]) hA (by simp <;> omega) (by decide)
   clear hA
   have a1:=x'.get 1 (by decide)
   have a2:=x'.get 2 (by decide)
   have aB:=x'.get 0 (by decide)
   have al:=x'.lim
   have an:=x'.le
   have l0:0 < K.n:=by omega
   simp [hmn,g1,g2,gB,hlim,wf,k0,k1,k2,k0',k1',k2',k3,k4,k5,k6] at a1 a2 aB al p'
   simp [hI,h2,aB,al,l0,x'.wf,turn,hlim]
   generalize hF:upd _ 33 _=F
   have hv':=(p'.setLow (o:=.arr tn 6 [eBroker .none b1] (some 1)) x'.wf (by decide:0 < 3) l0).wl (Nat.zero_le 3)
   refine l51 xc xd t (⟨⟨oc,od⟩,op,oq⟩::rest) hl tx tb tn rest 1 b1 o1 _ v' F _ rfl hi1 hz1 (rowR_out o1) (by simp;omega) ?_ ?_ ?_ ?_ ?_ ?_ ?_ ?_ ?_ ?_ (by simpa using hv') ?_ ?_ ?_
   all_goals first
    | (rw [← hF];simp [h2,h3,h4,h8,hW,hL];done)
    | (simp [a1,a2,aB,al,l0,x'.wf];done)
    | (simp <;> omega)
end Go.Dm.Tc
/-
What the program's routes compute,part 6: a client of the broker's ends a subscription,all of it.
-/
namespace Go.Dm.Tc
set_option maxRecDepth 8000 in
theorem s51 (b:Broker) (xc xd:Int) (hi:InvK b) (hz:ZL b 0) (ha:b.adverts.length≤1000) :
  pcF D t51 [eBroker .none b,.agg [.int .i64 xc,.int .i64 xd]]=some (.tup [eBroker .none (unsubscribeB b ⟨xc,xd⟩).1,eL false 8 eOut (unsubscribeB b ⟨xc,xd⟩).2]):=by
 have hol:b.owns.length≤100000:=hz.own
 have hown:=s124 .none b xc xd hi.ro (by omega)
 have hf:=hit_find (fun a:OwnS=>a.id) hi.ro ⟨xc,xd⟩
 unfold pcF
 rw [goRun_eq _ _ _ _ (by simp [t51])]
 cases hq:b.owns.find? (fun a=>decide (a.id=⟨xc,xd⟩)) with
 | none =>
  rw [hq] at hf
  simp only at hf
  rw [hf] at hown
  have hw:without (fun o:OwnS=>o.id) ⟨xc,xd⟩ b.owns=b.owns:=by
   unfold without
   rw [List.filter_eq_self]
   intro o ho
   have:=(find_key_none (fun a:OwnS=>a.id) ⟨xc,xd⟩).1 hq o ho
   simp [this]
  have hu:unsubscribeB b ⟨xc,xd⟩=(b,[]):=by simp only [unsubscribeB,hw,if_true]
  rw [hu]
  simp [t51,e124,hown,turn,resultsOf,eL_nil]
 | some o =>
  rw [hq] at hf
  simp only at hf
  obtain ⟨hf1,hf2⟩:=hf
  rw [hf1] at hown
  have hox:o.id=⟨xc,xd⟩:=by simpa using List.find?_some hq
  obtain ⟨i,hix⟩:∃ i,lowIdx (fun b:OwnS=>cmpID b.id ⟨xc,xd⟩) b.owns=i:=⟨_,rfl⟩
  rw [hix] at hf2 hown
  have hilt:i < b.owns.length:=by
   by_cases h:i < b.owns.length
   ·exact h
   ·rw [List.getElem?_eq_none (by omega)] at hf2;cases hf2
  have hwo:=without_at (fun a:OwnS=>a.id) hi.ro hf2 hox
  have hwl:¬ (without (fun o:OwnS=>o.id) ⟨xc,xd⟩ b.owns).length=b.owns.length:=by
   rw [← hwo,List.length_append,List.length_take,List.length_drop];omega
  have hu:unsubscribeB b ⟨xc,xd⟩=b.adverts.foldl (endStep ⟨xc,xd⟩) (endOwn b ⟨xc,xd⟩,[]):=by simp only [unsubscribeB,if_neg hwl]
  rw [hu]
  obtain ⟨R,hR⟩:∃ R,R=DV.tup [eBroker .none (b.adverts.foldl (endStep ⟨xc,xd⟩) (endOwn b ⟨xc,xd⟩,[])).1,eL false 8 eOut (b.adverts.foldl (endStep ⟨xc,xd⟩) (endOwn b ⟨xc,xd⟩,[])).2]:=⟨_,rfl⟩
  rw [← hR]
  have hw:IntKind.i64.wrap ((i:Int)+1)=(i:Int)+1:=wrap64 (by omega) (by omega)
  simp [t51,e124,hown,turn,e126]
  generalize hA:cloneHook _ _ _ _ _=A
  obtain ⟨v5,K,rfl,o5,x,_⟩:=clone_own (lo:=3) (elems_eL ..) (by simp) (by simp) (by simp) (by simp;omega) (by decide) hA
  clear hA
  have a0:=x.get 0 (by decide)
  have a1:=x.get 1 (by decide)
  have a2:=x.get 2 (by decide)
  have q0:=x.lim
  have w0:=x.wf
  have n0:=x.le
  simp at a0 a1 a2 q0
  obtain ⟨v5',K2,hD,p5,x2,_⟩:=s128 3 K v5 b.owns i o5 hilt (by omega) w0 n0
  rw [hwo] at p5
  have b0:=x2.get 0 (by decide)
  have b1:=x2.get 1 (by decide)
  have b2:=x2.get 2 (by decide)
  have q2:=x2.lim
  have w2:=x2.wf
  have n2:=x2.le
  rw [a0] at b0
  rw [a1] at b1
  rw [a2] at b2
  rw [q0] at q2
  have hbu:eBroker .none b=DV.agg [.int .i64 b.me,eL false 1 cInt b.near,eL false 4 eAdvert b.adverts,eL false 2 eID b.seen,eL false 7 eEntry b.entries,eL false 3 eOwn b.owns]:=rfl
  rw [hbu] at b0
  have l0:0 < K2.n:=by omega
  simp [hw,hD,b0,b1,b2,q2,w2,l0,turn,p5.storable,p5.ecells]
  generalize hF2:upd _ 33 _=F2
  rw [hR]
  refine r51 xc xd false b.adverts ha 37 29 29 (endOwn b ⟨xc,xd⟩) (hi.endOwn _) (hz.endOwn _) v5' F2 _ ?_ ?_ ?_ ?_ ?_ ?_ ?_ ?_ ?_ ?_ (p5.setLow w2 (by decide) l0) ?_ ?_ ?_
  all_goals first
   | (rw [← hF2];simp;done)
   | (simp [b1,b2,q2,w2,l0,zB];done)
   | (simp [w2,l0,endOwn];done)
   | (simp;omega)
end Go.Dm.Tc
/-
Two predicates meet either way about: plain laws.
-/
namespace Go.Dm.Tc
theorem name_one {out:Pred} (hu:NameUp out) {x y:Cons} (hx:x∈out) (hy:y∈out) (h:x.name=y.name):x=y:=by
 obtain ⟨i,hi,rfl⟩:=List.mem_iff_getElem.1 hx
 obtain ⟨j,hj,rfl⟩:=List.mem_iff_getElem.1 hy
 rcases Nat.lt_trichotomy i j with hlt | e | hlt
 ·have:=List.pairwise_iff_getElem.1 hu i j (by simpa using hi) (by simpa using hj) hlt
  simp only [List.getElem_map] at this
  rw [h,bl_irr] at this;cases this
 ·subst e;rfl
 ·have:=List.pairwise_iff_getElem.1 hu j i (by simpa using hj) (by simpa using hi) hlt
  simp only [List.getElem_map] at this
  rw [h,bl_irr] at this;cases this
theorem low_name {out:Pred} (hu:NameUp out) {i:Nat} (hi:i < out.length):lowIdx (cmpN out[i].name) out=i:=by
 refine lowIdx_eq (Nat.le_of_lt hi) (fun q hq=>?_) (fun hq=>?_)
 ·have:=List.pairwise_iff_getElem.1 hu q i (by simp;omega) (by simpa using hi) hq
  simp only [List.getElem_map] at this
  exact cmpB_lt.2 this
 ·unfold cmpN
  rw [cmpB_lt,bl_irr];decide
theorem insC_in {out:Pred} (hu:NameUp out) {c x:Cons} (hx:x∈out) (hn:x.name=c.name) :
  (joinC x c=none∧insC out c=none)∨∃ b o,joinC x c=some b∧insC out c=some o∧o.length=out.length∧∀ y:Cons,y.name≠c.name→(y∈o↔y∈out):=by
 obtain ⟨i,hi,rfl⟩:=List.mem_iff_getElem.1 hx
 have hl:lowIdx (cmpN c.name) out=i:=by rw [← hn];exact low_name hu hi
 have hh:hitAt (cmpN c.name) out=true:=by
  unfold hitAt
  rw [hl,List.getElem?_eq_getElem hi]
  simp [cmpN,hn,cmpB_eq]
 unfold insC
 rw [if_pos hh,hl,List.getElem?_eq_getElem hi]
 cases hj:joinC out[i] c with
 | none=>exact .inl ⟨rfl,by simp only [hj]⟩
 | some b =>
  refine .inr ⟨b,out.set i b,rfl,by simp only [hj],by simp,fun y hy=>?_⟩
  have hb:b.name≠y.name:=by
   have:=joinC_name hn hj
   rw [this,hn];exact fun e=>hy e.symm
  constructor
  ·intro h
   rcases List.mem_or_eq_of_mem_set h with h | h
   ·exact h
   ·rw [h] at hb;exact absurd rfl hb
  ·intro h
   obtain ⟨j,hj2,rfl⟩:=List.mem_iff_getElem.1 h
   have hij:i≠j:=fun e=>by subst e;exact hy hn
   exact List.mem_iff_getElem.2 ⟨j,by simpa using hj2,by rw [List.getElem_set_ne hij]⟩
theorem insC_out {out:Pred} {c:Cons} (hno:∀ x∈out,x.name≠c.name) :
  (out.length=5∧insC out c=none)∨(out.length≠5∧∃ o,insC out c=some o∧o.length=out.length+1∧∀ y:Cons,y∈o↔y=c∨y∈out):=by
 have hh:¬ hitAt (cmpN c.name) out=true:=by
  intro h
  obtain ⟨x,h1,h2,_⟩:=hit_get h
  exact hno x (List.mem_of_getElem? h1) (cmpB_eq.1 h2)
 have hl:=lowIdx_le (cmpN c.name) out
 unfold insC
 rw [if_neg hh]
 by_cases h5:out.length=5
 ·rw [if_pos h5];exact .inl ⟨h5,rfl⟩
 ·rw [if_neg h5]
  refine .inr ⟨h5,_,rfl,by simp only [List.length_append,List.length_cons,List.length_take,List.length_drop];omega,fun y=>?_⟩
  rw [List.mem_append,List.mem_cons]
  constructor
  ·rintro (h | h | h)
   ·exact .inr (List.mem_of_mem_take h)
   ·exact .inl h
   ·exact .inr (List.mem_of_mem_drop h)
  ·rintro (h | h)
   ·exact .inr (.inl h)
   ·rw [← List.take_append_drop (lowIdx (cmpN c.name) out) out,List.mem_append] at h
    exact h.elim .inl fun h=>.inr (.inr h)
def newC (out l:Pred):Nat:=l.countP fun c=>!out.any fun x=>decide (x.name=c.name)
theorem newC_same {o out:Pred} {n:List UInt8} (h:∀ y:Cons,y.name≠n→(y∈o↔y∈out)):∀ {l:Pred},(∀ c∈l,c.name≠n)→newC o l=newC out l:=by
 intro l hl
 unfold newC
 refine List.countP_congr fun c hc=>?_
 have:(o.any fun x=>decide (x.name=c.name))=out.any fun x=>decide (x.name=c.name):=by
  rw [Bool.eq_iff_iff,List.any_eq_true,List.any_eq_true]
  constructor
  ·rintro ⟨x,hx,hn⟩
   have hn':x.name=c.name:=by simpa using hn
   exact ⟨x,(h x (by rw [hn'];exact hl c hc)).1 hx,hn⟩
  ·rintro ⟨x,hx,hn⟩
   have hn':x.name=c.name:=by simpa using hn
   exact ⟨x,(h x (by rw [hn'];exact hl c hc)).2 hx,hn⟩
 rw [this]
theorem make_iff:∀ (l:Pred) {out:Pred},NameUp out→(∀ x∈out,Kind3 x.kind)→(∀ c∈l,Kind3 c.kind)→out.length≤5→Unlike l →
  (hasO (makeC out l)=true↔(∀ c∈l,∀ x∈out,x.name=c.name→hasO (joinC x c)=true)∧out.length+newC out l≤5)
 | [],out,_,_,_,h5,_=>by simp [makeC,hasO,newC,h5]
 | c::r,out,hu,hk,hkl,h5,hl=>by
  have hl':=List.pairwise_cons.1 hl
  have hkr:∀ d∈r,Kind3 d.kind:=fun d hd=>hkl d (List.mem_cons_of_mem _ hd)
  have hcr:∀ d∈r,d.name≠c.name:=fun d hd e=>hl'.1 d hd e.symm
  by_cases hex:∃ x∈out,x.name=c.name
  ·obtain ⟨x,hx,hn⟩:=hex
   have hnew:newC out (c::r)=newC out r:=by
    unfold newC
    rw [List.countP_cons]
    have:(out.any fun x=>decide (x.name=c.name))=true:=List.any_eq_true.2 ⟨x,hx,by simp [hn]⟩
    simp [this]
   rcases insC_in hu hx hn with ⟨hj,hi⟩ | ⟨b,o,hj,hi,hlen,hE⟩
   ·have:makeC out (c::r)=none:=by simp [makeC,hi]
    rw [this]
    constructor
    ·intro h;cases h
    ·rintro ⟨h,_⟩
     have:=h c (List.mem_cons_self ..) x hx hn
     rw [hj] at this;cases this
   ·have hm:makeC out (c::r)=makeC o r:=by simp [makeC,hi]
    obtain ⟨k1,k2,k3⟩:=insC_ok hu hk h5 (hkl c (List.mem_cons_self ..)) hi
    rw [hm,make_iff r k1 k2 hkr k3 hl'.2,hlen,hnew,newC_same hE hcr]
    refine and_congr_left fun _=>?_
    constructor
    ·intro h d hd y hy hyn
     rcases List.mem_cons.1 hd with rfl | hd
     ·rw [name_one hu hy hx (hyn.trans hn.symm),hj];rfl
     ·exact h d hd y ((hE y (by rw [hyn];exact hcr d hd)).2 hy) hyn
    ·intro h d hd y hy hyn
     exact h d (List.mem_cons_of_mem _ hd) y ((hE y (by rw [hyn];exact hcr d hd)).1 hy) hyn
  ·have hno:∀ x∈out,x.name≠c.name:=fun x hx e=>hex ⟨x,hx,e⟩
   have hnew:newC out (c::r)=newC out r+1:=by
    unfold newC
    rw [List.countP_cons]
    have:(out.any fun x=>decide (x.name=c.name))=false:=by
     rw [List.any_eq_false]
     intro x hx
     simp [hno x hx]
    simp [this]
   rcases insC_out hno with ⟨h5',hi⟩ | ⟨h5',o,hi,hlen,hE⟩
   ·have:makeC out (c::r)=none:=by simp [makeC,hi]
    rw [this,hnew,h5']
    constructor
    ·intro h;cases h
    ·rintro ⟨_,h⟩;omega
   ·have hm:makeC out (c::r)=makeC o r:=by simp [makeC,hi]
    obtain ⟨k1,k2,k3⟩:=insC_ok hu hk h5 (hkl c (List.mem_cons_self ..)) hi
    have hE':∀ y:Cons,y.name≠c.name→(y∈o↔y∈out):=fun y hy=>by
     rw [hE]
     exact ⟨fun h=>h.elim (fun e=>absurd (by rw [e]) hy) id,.inr⟩
    rw [hm,make_iff r k1 k2 hkr k3 hl'.2,hlen,hnew,newC_same hE' hcr]
    have har:out.length+1+newC out r=out.length+(newC out r+1):=by omega
    rw [har]
    refine and_congr_left fun _=>?_
    constructor
    ·intro h d hd y hy hyn
     rcases List.mem_cons.1 hd with rfl | hd
     ·exact absurd hyn (hno y hy)
     ·exact h d hd y ((hE' y (by rw [hyn];exact hcr d hd)).2 hy) hyn
    ·intro h d hd y hy hyn
     exact h d (List.mem_cons_of_mem _ hd) y ((hE' y (by rw [hyn];exact hcr d hd)).1 hy) hyn
theorem make_self:∀ (l:Pred) {out:Pred},NameUp (out++l)→(out++l).length≤5→makeC out l=some (out++l)
 | [],out,_,_=>by simp [makeC]
 | c::r,out,hu,h5=>by
  have hlt:∀ x∈out,Go.Op.bytesLess x.name c.name=true:=by
   intro x hx
   unfold NameUp at hu
   rw [List.map_append,List.pairwise_append] at hu
   exact hu.2.2 x.name (List.mem_map_of_mem hx) c.name (by simp)
  have hl:lowIdx (cmpN c.name) out=out.length :=
   lowIdx_eq (Nat.le_refl _) (fun q hq=>cmpB_lt.2 (hlt _ (List.getElem_mem _))) (fun hq=>absurd hq (by omega))
  have hi:insC out c=some (out++[c]):=by
   unfold insC
   have hh:¬ hitAt (cmpN c.name) out=true:=by
    unfold hitAt
    rw [hl,List.getElem?_eq_none (Nat.le_refl _)]
    simp
   rw [if_neg hh,hl]
   simp only [List.length_append,List.length_cons] at h5
   rw [if_neg (by omega)]
   simp
  have h2:out++c::r=(out++[c])++r:=by simp
  rw [h2] at hu h5 ⊢
  have:=make_self r hu h5
  simp only [makeC,hi,this]
theorem make_append:∀ (l r:Pred) {out o:Pred},makeC out l=some o→makeC out (l++r)=makeC o r
 | [],r,out,o,h=>by
  simp only [makeC,Option.some.injEq] at h
  rw [h];rfl
 | c::l,r,out,o,h=>by
  simp only [makeC,List.cons_append] at h ⊢
  split at h
  ·rename_i o1 h1
   exact make_append l r h
  ·cases h
theorem PredOk.up {p:Pred} (h:PredOk p):NameUp p:=by
 have h1:=h.right
 unfold rightP at h1
 rw [Bool.and_eq_true] at h1
 unfold NameUp
 rw [List.pairwise_map]
 exact (rightA_names h1.1).2
theorem PredOk.kinds {p:Pred} (h:PredOk p):∀ c∈p,Kind3 c.kind:=fun c hc=>right_kind (h.one c hc).1
theorem meets_iff {a b:Pred} (ha:PredOk a) (hb:PredOk b):meetsP a b=true↔(∀ c∈b,∀ x∈a,x.name=c.name→hasO (joinC x c)=true)∧a.length+newC a b≤5:=by
 unfold meetsP
 rw [make_append a b (make_self (out:=[]) a (by simpa using ha.up) (by simpa using ha.len))]
 simp only [List.nil_append]
 exact make_iff b ha.up ha.kinds hb.kinds ha.len hb.unlike
theorem begins_eq {s p:List UInt8} (h:s.length=p.length):beginsS s p=decide (s=p):=by
 unfold beginsS
 rw [← h,List.take_length]
 by_cases e:s=p <;> simp [e]
theorem joinC_sym (a b:Cons) (ha:Kind3 a.kind) (hb:Kind3 b.kind):hasO (joinC a b)=hasO (joinC b a):=by
 obtain ⟨nm,k,lo,hi,tx⟩:=a
 obtain ⟨nm',k',lo',hi',tx'⟩:=b
 simp only [Kind3] at ha hb
 rcases ha with rfl | rfl | rfl <;> rcases hb with rfl | rfl | rfl
 ·have h1:mxI lo lo'=mxI lo' lo:=by unfold mxI;split <;> split <;> omega
  have h2:mnI hi hi'=mnI hi' hi:=by unfold mnI;split <;> split <;> omega
  simp only [joinC,h1,h2]
  split <;> split <;> simp_all [hasO]
 ·simp [joinC,hasO]
 ·simp [joinC,hasO]
 ·simp [joinC,hasO]
 ·simp only [joinC,holdsT]
  by_cases h:tx=tx'
  ·subst h;simp [hasO]
  ·have h':¬ tx'=tx:=fun e=>h e.symm
   simp [h,h',hasO]
 ·simp only [joinC]
  cases h:holdsT ⟨nm',3,lo',hi',tx'⟩ tx <;> simp [h,hasO]
 ·simp [joinC,hasO]
 ·simp only [joinC]
  cases h:holdsT ⟨nm,3,lo,hi,tx⟩ tx' <;> simp [h,hasO]
 ·simp only [joinC]
  rcases Nat.lt_trichotomy tx.length tx'.length with h | h | h
  ·have h':¬ tx'.length < tx.length:=by omega
   cases hq:beginsS tx' tx <;> simp [h,h',hq,hasO]
  ·have h1:¬ tx.length < tx'.length:=by omega
   have h2:¬ tx'.length < tx.length:=by omega
   simp only [h1,h2,begins_eq h,begins_eq h.symm]
   by_cases e:tx=tx'
   ·subst e;simp [hasO]
   ·have e':¬ tx'=tx:=fun q=>e q.symm
    simp [e,e',hasO]
  ·have h':¬ tx.length < tx'.length:=by omega
   cases hq:beginsS tx tx' <;> simp [h,h',hq,hasO]
theorem names_nodup {p:Pred} (h:Unlike p):(p.map (·.name)).Nodup:=by
 unfold List.Nodup
 rw [List.pairwise_map]
 exact h
theorem newC_sym {a b:Pred} (ha:Unlike a) (hb:Unlike b):a.length+newC a b=b.length+newC b a:=by
 have key:∀ a b:Pred,b.countP (fun c=>a.any fun x=>decide (x.name=c.name))=((b.map (·.name)).filter fun n=>decide (n∈a.map (·.name))).length:=by
  intro a b
  rw [← List.countP_eq_length_filter,List.countP_map]
  refine List.countP_congr fun c _=>?_
  simp only [Function.comp,List.any_eq_true,decide_eq_true_eq,List.mem_map]
 have hn:∀ a b:Pred,newC a b+b.countP (fun c=>a.any fun x=>decide (x.name=c.name))=b.length:=by
  intro a b
  have:=List.length_eq_countP_add_countP (fun c:Cons=>a.any fun x=>decide (x.name=c.name)) (l:=b)
  have h2:newC a b=b.countP (fun c=>decide ¬ (a.any fun x=>decide (x.name=c.name))=true):=by
   unfold newC
   refine List.countP_congr fun c _=>?_
   cases (a.any fun x=>decide (x.name=c.name)) <;> simp
  omega
 have hp:((b.map (·.name)).filter fun n=>decide (n∈a.map (·.name))).length=((a.map (·.name)).filter fun n=>decide (n∈b.map (·.name))).length:=by
  refine List.Perm.length_eq ?_
  rw [List.perm_ext_iff_of_nodup ((names_nodup hb).filter _) ((names_nodup ha).filter _)]
  intro n
  simp only [List.mem_filter,decide_eq_true_eq]
  exact ⟨fun h=>⟨h.2,h.1⟩,fun h=>⟨h.2,h.1⟩⟩
 have h1:=hn a b
 have h2:=hn b a
 rw [key] at h1 h2
 omega
theorem meets_sym {a b:Pred} (ha:PredOk a) (hb:PredOk b):meetsP a b=meetsP b a:=by
 rw [Bool.eq_iff_iff,meets_iff ha hb,meets_iff hb ha,newC_sym ha.unlike hb.unlike]
 refine and_congr_left fun _=>?_
 constructor
 ·intro h c hc x hx hn
  rw [joinC_sym x c (hb.kinds x hx) (ha.kinds c hc)]
  exact h x hx c hc hn.symm
 ·intro h c hc x hx hn
  rw [joinC_sym x c (ha.kinds x hx) (hb.kinds c hc)]
  exact h x hx c hc hn.symm
end Go.Dm.Tc
/-
SubsFrom: plain laws.
-/
namespace Go.Dm.Tc
theorem add_is {b:Broker} (h:InvK b) {e:Entry} {a:Advert} (ha:advOf b e.tree=some a) (hn:entOf b e.tree e.sub=none) (hf:e.frm=a.parent→a.parent=-1) (hl:linkB b e.frm=true) (hp:PredOk e.pred) :
  entOf (addB b e).1 e.tree e.sub=some { e with up:=upOf b e }∧(addB b e).2=upOf b e∧(addB b e).1.entries.length=b.entries.length+1∧(upOf b e=true→a.parent≠-1):=by
 have hi:=h.add hl hp
 have hy:=add_yes ha hn hf
 refine ⟨?_,by rw [hy],by rw [hy];exact insE_len ..,?_⟩
 ·rw [entOf_some hi.re,hy]
  exact ⟨insE_mem.2 (.inl rfl),rfl,rfl⟩
 ·unfold upOf
  rw [parentOf_eq,ha]
  simp
  intro q _;exact q
theorem fresh {b:Broker} (h:LowK b) (t s:ID) (hs:4 < s.client):entOf b t s=none:=by
 rw [entOf_none]
 rintro e he ⟨_,hq⟩
 have:=h.ent e he
 rw [hq] at this;omega
end Go.Dm.Tc
/-
FloodEnd,FloodBack: plain laws: taken back,and spread,what is behind.
-/
namespace Go.Dm.Tc
theorem advOf_mem {b:Broker} {x:ID} {a:Advert} (h:advOf b x=some a):a∈b.adverts∧a.id=x:=by
 refine ⟨List.mem_of_find?_eq_some h,?_⟩
 have:=List.find?_some h
 simpa using this
theorem forget_is {b:Broker} {x:ID} {q:Int} {a:Advert} (ha:advOf b x=some a) (hq:a.parent=q):forgetB b x q=({ b with adverts:=without (fun a=>a.id) x b.adverts,entries:=without (fun e=>e.tree) x b.entries },true):=by
 unfold forgetB
 rw [show b.adverts.find? (fun a=>decide (a.id=x))=some a from ha]
 simp only [if_pos hq]
theorem unadv_is {b:Broker} {x:ID} {q:Int} {a:Advert} (ha:advOf b x=some a) (hq:a.parent=q):unadvertiseB b q x=({ b with adverts:=without (fun a=>a.id) x b.adverts,entries:=without (fun e=>e.tree) x b.entries },toAll b.near q 2 x.client x.seq 0 0 []):=by
 unfold unadvertiseB
 rw [forget_is ha hq];rfl
theorem without_append {α:Type} (key:α→ID) (x:ID) (l k:List α):without key x (l++k)=without key x l++without key x k:=by
 unfold without;exact List.filter_append ..
theorem without_insE {x:ID} {e:Entry} (he:e.tree=x) (l:List Entry):without (fun e=>e.tree) x (insE e l)=without (fun e=>e.tree) x l:=by
 unfold insE
 rw [without_append]
 have:without (fun e:Entry=>e.tree) x (e::l.drop (lowIdx (sgnE e.tree e.sub) l))=without (fun e:Entry=>e.tree) x (l.drop (lowIdx (sgnE e.tree e.sub) l)):=by
  unfold without
  rw [List.filter_cons];simp [he]
 rw [this,← without_append,List.take_append_drop]
theorem without_insAt {x:ID} {a:Advert} (he:a.id=x) (l:List Advert):without (fun a:Advert=>a.id) x (insAt (fun a=>a.id) a l)=without (fun a:Advert=>a.id) x l:=by
 unfold insAt
 generalize lowIdx _ l=k
 rw [without_append]
 have:without (fun a:Advert=>a.id) x (a::l.drop k)=without (fun a:Advert=>a.id) x (l.drop k):=by
  unfold without
  rw [List.filter_cons];simp [he]
 rw [this,← without_append,List.take_append_drop]
theorem without_none {α:Type} {key:α→ID} {x:ID} {l:List α} (h:∀ a∈l,key a≠x):without key x l=l:=by
 unfold without
 rw [List.filter_eq_self]
 intro a ha
 simp [h a ha]
theorem without_addB (b:Broker) {e:Entry} {x:ID} (he:e.tree=x):without (fun e:Entry=>e.tree) x (addB b e).1.entries=without (fun e:Entry=>e.tree) x b.entries:=by
 unfold addB
 split
 ·exact without_insE (e:={ e with up:=upOf b e }) he b.entries
 ·rfl
theorem adv_outs (frm:Int) (x:ID) (p:Pred):∀ (l:List OwnS) (st:Broker × List OutS),∃ l',(l.foldl (advStep frm x p) st).2=st.2++l'∧l'.length≤l.length∧(∀ o∈l',o.to=frm∧o.kind=3∧o.tree=x) ∧
  (l.foldl (advStep frm x p) st).1.adverts=st.1.adverts∧(l.foldl (advStep frm x p) st).1.near=st.1.near∧(l.foldl (advStep frm x p) st).1.owns=st.1.owns∧(l.foldl (advStep frm x p) st).1.me=st.1.me ∧
  without (fun e:Entry=>e.tree) x (l.foldl (advStep frm x p) st).1.entries=without (fun e:Entry=>e.tree) x st.1.entries
 | [],st=>⟨[],by simp,by simp,fun _ h=>(by cases h),rfl,rfl,rfl,rfl,rfl⟩
 | o::r,st=>by
  obtain ⟨l',h1,h2,h3,h4,h5,h6,h7,h8⟩:=adv_outs frm x p r (advStep frm x p st o)
  have hs:∃ m,(advStep frm x p st o).2=st.2++m∧m.length≤1∧(∀ o∈m,o.to=frm∧o.kind=3∧o.tree=x)∧(advStep frm x p st o).1.adverts=st.1.adverts∧(advStep frm x p st o).1.near=st.1.near∧(advStep frm x p st o).1.owns=st.1.owns∧(advStep frm x p st o).1.me=st.1.me ∧
    without (fun e:Entry=>e.tree) x (advStep frm x p st o).1.entries=without (fun e:Entry=>e.tree) x st.1.entries:=by
   unfold advStep
   split
   ·obtain ⟨k1,k2,k3,k4,k5,_⟩:=addB_rows st.1 ⟨x,o.id,o.pred,-1,false⟩
    by_cases hu:(addB st.1 ⟨x,o.id,o.pred,-1,false⟩).2=true
    ·exact ⟨[⟨frm,3,x,o.id,o.pred⟩],by simp [hu],by simp,by simp,k2,k1,k4,k5,without_addB _ rfl⟩
    ·exact ⟨[],by simp [hu],by simp,fun _ h=>(by cases h),k2,k1,k4,k5,without_addB _ rfl⟩
   ·exact ⟨[],by simp,by simp,fun _ h=>(by cases h),rfl,rfl,rfl,rfl,rfl⟩
  obtain ⟨m,g1,g2,g3,g4,g5,g6,g7,g8⟩:=hs
  refine ⟨m++l',by rw [List.foldl_cons,h1,g1,List.append_assoc],by simp;omega,fun o ho=>?_,by rw [List.foldl_cons,h4,g4],by rw [List.foldl_cons,h5,g5],by rw [List.foldl_cons,h6,g6],by rw [List.foldl_cons,h7,g7],by rw [List.foldl_cons,h8,g8]⟩
  rcases List.mem_append.1 ho with ho | ho
  ·exact g3 o ho
  ·exact h3 o ho
theorem back {b:Broker} (h:InvK b) {f:Int} {x:ID} {p:Pred} (hf:linkB b f=true) (hx:x ∉ b.seen) (hp:PredOk p) :
  ∃ l',(advertiseB b f x p).2=toAll b.near f 1 x.client x.seq 0 0 p++l'∧l'.length≤b.owns.length∧(∀ o∈l',o.to=f∧o.kind=3∧o.tree=x) ∧
   (unadvertiseB (advertiseB b f x p).1 f x).2=toAll b.near f 2 x.client x.seq 0 0 []∧{ (unadvertiseB (advertiseB b f x p).1 f x).1 with seen:=b.seen }=b:=by
 have hA:=advOf_learn h ⟨x,p,f⟩ hx x
 have hL:learnB b ⟨x,p,f⟩=({ b with adverts:=insAt (fun a=>a.id) ⟨x,p,f⟩ b.adverts,seen:=insAt (fun x=>x) x b.seen },true):=by
  unfold learnB;rw [if_neg hx]
 have hadv:∀ a∈b.adverts,a.id≠x:=fun a ha e=>hx (by rw [← e];exact h.sub a ha)
 have hent:∀ e∈b.entries,e.tree≠x:=by
  intro e he q
  obtain ⟨a,ha,_⟩:=rightEnt_iff.1 (h.ent e he)
  have:=advOf_mem ha
  exact hadv a this.1 (by rw [this.2,q])
 obtain ⟨l',h1,h2,h3,h4,h5,h6,h7,h8⟩:=adv_outs f x p b.owns ((learnB b ⟨x,p,f⟩).1,toAll b.near f 1 x.client x.seq 0 0 p)
 have hE:advertiseB b f x p=b.owns.foldl (advStep f x p) ((learnB b ⟨x,p,f⟩).1,toAll b.near f 1 x.client x.seq 0 0 p):=by
  unfold advertiseB;rw [if_pos (by rw [hL])]
 have hc:advOf (advertiseB b f x p).1 x=some ⟨x,p,f⟩:=by
  rw [if_pos rfl] at hA
  rw [hE]
  unfold advOf at hA ⊢
  rw [h4];exact hA
 refine ⟨l',by rw [hE,h1],h2,h3,?_,?_⟩
 ·rw [unadv_is hc rfl,hE,h5,hL]
 ·rw [unadv_is hc rfl,hE]
  simp only
  rw [h4,h5,h6,h7,h8,hL]
  simp only
  rw [without_insAt (a:=⟨x,p,f⟩) rfl,without_none hadv,without_none hent]
end Go.Dm.Tc
/-
FloodEnd: an advertisement that is taken back: the law's walk.
-/
namespace Go.Dm.Tc
theorem frA_nsl (h:Heap):freezeA h .nsl=some (.nsl,h):=_root_.id rfl
theorem SzK.zl {b:Broker} {n k:Nat} (hz:SzK b n) (hn:n≤20) (hk:k≤n):ZL b k :=
 ⟨by have:=hz.near;omega,by have:=hz.adv;omega,by have:=hz.seen;omega,by have:=hz.own;omega,by have:=hz.ent;have:=Nat.mul_le_mul hn hn;omega⟩
end Go.Dm.Tc
/-
FloodTells: an advertisement from anywhere,spread or taken back by the program and by the document: the law's walk.
-/
namespace Go.Dm.Tc
def OutsOk (os:List OutS):Prop:=(∀ o∈os,o.pred.length≤1000000)∧os.length≤1000000
end Go.Dm.Tc
/-
FloodBack: an advertisement spread and taken back: the law's walk.
-/
namespace Go.Dm.Tc
end Go.Dm.Tc
/-
RouteTells: a subscription,its own or a link's,put in or taken out by the program and by the document: the law's walk.
-/
namespace Go.Dm.Tc
theorem s55:pcF D t55 []=some (.bool true):=pc_run (n:=2000) (args:=[]) e55 rfl (by kernel_rfl)
theorem sub_outs (x:ID) (p:Pred):∀ (l:List Advert) (st:Broker × List OutS),∃ l',(l.foldl (subStep x p) st).2=st.2++l'∧l'.length≤l.length∧∀ o∈l',o.kind=3∧o.id=x∧o.pred=p
 | [],st=>⟨[],by simp,by simp,fun _ h=>(by cases h)⟩
 | a::r,st=>by
  obtain ⟨l',h1,h2,h3⟩:=sub_outs x p r (subStep x p st a)
  have hs:∃ m,(subStep x p st a).2=st.2++m∧m.length≤1∧∀ o∈m,o.kind=3∧o.id=x∧o.pred=p:=by
   unfold subStep
   split
   ·by_cases hu:(addB st.1 ⟨a.id,x,p,-1,false⟩).2=true
    ·exact ⟨[⟨a.parent,3,a.id,x,p⟩],by simp [hu],by simp,by simp⟩
    ·exact ⟨[],by simp [hu],by simp,fun _ h=>(by cases h)⟩
   ·exact ⟨[],by simp,by simp,fun _ h=>(by cases h)⟩
  obtain ⟨m,g1,g2,g3⟩:=hs
  refine ⟨m++l',by rw [List.foldl_cons,h1,g1,List.append_assoc],by simp;omega,fun o ho=>?_⟩
  rcases List.mem_append.1 ho with ho | ho
  ·exact g3 o ho
  ·exact h3 o ho
theorem drop_preds {b:Broker} (h:InvK b) (t s:ID) (q:Int):∀ o∈(dropB b t s q).2,o.pred.length≤1000000:=by
 unfold dropB
 split
 ·intro o ho
  simp only at ho
  rcases List.mem_append.1 ho with ho | ho
  ·unfold upOuts at ho
   obtain ⟨e,he,rfl⟩:=List.mem_map.1 ho
   rcases take_cases h t s q with ⟨hc,_⟩ | ⟨_,_,_,_,_,hc⟩ | ⟨_,_,_,_,_,r',u',hc,_,_,hup⟩
   ·rw [hc] at he;cases he
   ·rw [hc] at he;cases he
   ·rw [hc] at he
    have:=(List.mem_filter.1 (hup e he).2.2.2.1).1
    exact Nat.le_trans (h.pe _ this).len (by decide)
  ·rw [List.mem_singleton.1 ho];exact Nat.zero_le _
 ·intro o ho;cases ho
theorem end_preds (x:ID):∀ (l:List Advert) (st:Broker × List OutS),InvK st.1→(∀ o∈st.2,o.pred.length≤1000000)→∀ o∈(l.foldl (endStep x) st).2,o.pred.length≤1000000
 | [],_,_,h=>h
 | a::r,st,hi,h=>by
  refine end_preds x r (endStep x st a) ?_ ?_
  ·unfold endStep;rw [drop_fst];exact hi.take ..
  ·intro o ho
   unfold endStep at ho
   rcases List.mem_append.1 ho with ho | ho
   ·exact h o ho
   ·exact drop_preds hi _ _ _ o ho
theorem end_len (x:ID) {N:Nat}:∀ (l:List Advert) (st:Broker × List OutS),InvK st.1→st.1.entries.length≤N→(l.foldl (endStep x) st).2.length≤st.2.length+l.length * (N+1)
 | [],st,_,_=>by simp
 | a::r,st,hi,h=>by
  have h1:InvK (endStep x st a).1:=by unfold endStep;rw [drop_fst];exact hi.take ..
  have h2:(endStep x st a).1.entries.length≤N:=by unfold endStep;rw [drop_fst];exact Nat.le_trans (take_len hi ..) h
  have h3:(endStep x st a).2.length≤st.2.length+(N+1):=by
   unfold endStep
   have:=drop_len hi a.id x (-1)
   simp only [List.length_append]
   omega
  have:=end_len x r (endStep x st a) h1 h2
  rw [List.foldl_cons,List.length_cons,Nat.add_mul]
  omega
theorem unsubscribe_ok {b:Broker} {n:Nat} (h:InvK b) (z:SzK b n) (hn:n≤50) (x:ID):OutsOk (unsubscribeB b x).2:=by
 unfold unsubscribeB
 split
 ·exact ⟨fun o ho=>(by cases ho),by simp⟩
 ·refine ⟨end_preds x _ _ (h.endOwn x) (fun o ho=>by cases ho),?_⟩
  have h1:=end_len x (N:=2500) b.adverts (endOwn b x,[]) (h.endOwn x) (by have:=z.ent;have:=Nat.mul_le_mul hn hn;show b.entries.length≤_;omega)
  have h2:=z.adv
  have h3:b.adverts.length * 2501≤50 * 2501:=Nat.mul_le_mul_right _ (by omega)
  simp only [List.length_nil] at h1
  omega
end Go.Dm.Tc
/-
RouteBack: plain laws: subscribed,and ended at once.
-/
namespace Go.Dm.Tc
theorem hit_no_own {l:List OwnS} (hr:Rising (l.map (·.id))) {x:ID} (h:∀ o∈l,o.id≠x):hitAt (fun o:OwnS=>cmpID o.id x) l=false:=by
 have hf:=hit_find (fun a:OwnS=>a.id) hr x
 rw [(find_key_none (fun a:OwnS=>a.id) x).2 h] at hf
 exact hf
theorem hit_yes_own {l:List OwnS} (hr:Rising (l.map (·.id))) {x:ID} {o:OwnS} (h:o∈l) (ho:o.id=x):hitAt (fun o:OwnS=>cmpID o.id x) l=true:=by
 have hf:=hit_find (fun a:OwnS=>a.id) hr x
 rw [(find_key (fun a:OwnS=>a.id) hr x o).2 ⟨h,ho⟩] at hf
 exact hf.1
def upIn (b:Broker) (t x:ID):Bool:=match entOf b t x with | some e=>e.up | none=>false
theorem rise_id {l:List Advert} (hr:Rising (l.map (·.id))) {done r:List Advert} {a:Advert} (h:done++a::r=l):∀ d∈done,d.id≠a.id:=by
 subst h
 intro d hd e
 unfold Rising at hr
 rw [List.map_append,List.map_cons,List.pairwise_append] at hr
 have:=hr.2.2 d.id (List.mem_map_of_mem hd) a.id (List.mem_cons_self ..)
 rw [e,cmpID_lt] at this;omega
structure Subd (b nb:Broker) (x:ID) (q:Pred) (done:List Advert) (outs:List OutS):Prop where
 inv:InvK nb
 adv:nb.adverts=b.adverts
 near:nb.near=b.near
 seen:nb.seen=b.seen
 me:nb.me=b.me
 own:nb.owns=(subOwn b x q).owns
 keep:nb.entries.filter (fun e=>!decide (e.sub=x))=b.entries
 has:∀ a∈done,meetsP q a.pred=true→∃ u,entOf nb a.id x=some ⟨a.id,x,q,-1,u⟩
 from':∀ e∈nb.entries,e.sub=x→∃ a∈done,a.id=e.tree∧meetsP q a.pred=true
 len:nb.entries.length=b.entries.length+done.countP fun a=>meetsP q a.pred
 cnt:outs.length=done.countP fun a=>upIn nb a.id x
theorem filter_insE {x:ID} {e:Entry} (he:e.sub=x) (l:List Entry):(insE e l).filter (fun e=>!decide (e.sub=x))=l.filter (fun e=>!decide (e.sub=x)):=by
 unfold insE
 generalize lowIdx _ l=k
 rw [List.filter_append,List.filter_cons]
 simp only [he,decide_true,Bool.not_true,Bool.false_eq_true,if_false]
 rw [← List.filter_append,List.take_append_drop]
theorem sub_pass {b:Broker} {x:ID} {q:Pred} (hb:InvK b) (hq:PredOk q):∀ (r done:List Advert) (st:Broker × List OutS),done++r=b.adverts→Subd b st.1 x q done st.2 →
  Subd b (r.foldl (subStep x q) st).1 x q b.adverts (r.foldl (subStep x q) st).2
 | [],done,st,h,s=>by
  rw [List.append_nil] at h
  rw [← h];exact s
 | a::r,done,st,h,s=>by
  have hne:=rise_id hb.ra h
  have hno:entOf st.1 a.id x=none:=by
   rw [entOf_none]
   rintro e he ⟨h1,h2⟩
   obtain ⟨d,hd,h3,_⟩:=s.from' e he h2
   exact hne d hd (h3.trans h1)
  have ha:advOf st.1 a.id=some a:=(advOf_some s.inv.ra).2 ⟨by rw [s.adv,← h];simp,rfl⟩
  refine sub_pass hb hq r (done++[a]) (subStep x q st a) (by rw [← h];simp) ?_
  unfold subStep
  by_cases hm:meetsP q a.pred=true
  ·rw [if_pos hm]
   obtain ⟨c1,c2,c3,_⟩:=add_is (e:=⟨a.id,x,q,-1,false⟩) s.inv ha hno (fun e=>e.symm) (by simp [linkB]) hq
   have hi:=s.inv.add (e:=⟨a.id,x,q,-1,false⟩) (by simp [linkB]) hq
   have hy:=add_yes (e:=⟨a.id,x,q,-1,false⟩) ha hno (fun e=>e.symm)
   simp only at c1 c2 c3 hy
   have hoth:∀ t,t≠a.id→entOf (addB st.1 ⟨a.id,x,q,-1,false⟩).1 t x=entOf st.1 t x:=by
    intro t ht
    cases hq:entOf st.1 t x with
    | none =>
     rw [entOf_none] at hq ⊢
     intro e he
     rw [hy] at he
     rcases insE_mem.1 he with rfl | he
     ·exact fun hh=>ht hh.1.symm
     ·exact hq e he
    | some e =>
     have he:=(entOf_some s.inv.re).1 hq
     rw [entOf_some hi.re,hy]
     exact ⟨insE_mem.2 (.inr he.1),he.2⟩
   obtain ⟨k1,k2,k3,k4,k5,_⟩:=addB_rows st.1 ⟨a.id,x,q,-1,false⟩
   refine ⟨hi,k2.trans s.adv,k1.trans s.near,k3.trans s.seen,k5.trans s.me,k4.trans s.own,?_,?_,?_,?_,?_⟩
   ·rw [hy]
    simp only
    rw [filter_insE (x:=x) (e:=⟨a.id,x,q,-1,upOf st.1 ⟨a.id,x,q,-1,false⟩⟩) rfl];exact s.keep
   ·intro d hd hdm
    rcases List.mem_append.1 hd with hd | hd
    ·rw [hoth d.id (hne d hd)];exact s.has d hd hdm
    ·rw [List.mem_singleton.1 hd];exact ⟨_,c1⟩
   ·intro e he hx
    rw [hy] at he
    rcases insE_mem.1 he with rfl | he
    ·exact ⟨a,by simp,rfl,hm⟩
    ·obtain ⟨d,hd,h2⟩:=s.from' e he hx
     exact ⟨d,by simp [hd],h2⟩
   ·rw [c3,s.len,List.countP_append]
    simp [hm];omega
   ·have hcong:done.countP (fun d=>upIn (addB st.1 ⟨a.id,x,q,-1,false⟩).1 d.id x)=done.countP (fun d=>upIn st.1 d.id x) :=
     List.countP_congr fun d hd=>by unfold upIn;rw [hoth d.id (hne d hd)]
    have hu:upIn (addB st.1 ⟨a.id,x,q,-1,false⟩).1 a.id x=upOf st.1 ⟨a.id,x,q,-1,false⟩:=by unfold upIn;rw [c1]
    rw [List.countP_append,hcong,← s.cnt,c2]
    cases hup:upOf st.1 ⟨a.id,x,q,-1,false⟩ <;> simp [List.countP_cons,hu,hup]
  ·rw [if_neg hm]
   refine ⟨s.inv,s.adv,s.near,s.seen,s.me,s.own,s.keep,?_,?_,?_,?_⟩
   ·intro d hd hdm
    rcases List.mem_append.1 hd with hd | hd
    ·exact s.has d hd hdm
    ·rw [List.mem_singleton.1 hd] at hdm;exact absurd hdm hm
   ·intro e he hx
    obtain ⟨d,hd,h2⟩:=s.from' e he hx
    exact ⟨d,by simp [hd],h2⟩
   ·rw [s.len,List.countP_append]
    simp [List.countP_cons,hm]
   ·have hu:upIn st.1 a.id x=false:=by unfold upIn;rw [hno]
    rw [List.countP_append,s.cnt]
    simp [List.countP_cons,hu]
theorem takeL_none (t:ID):∀ (rest done ups:List Entry),(∀ e∈rest,e.tree=t→e.up=false→coveredB (done++rest) t e.pred=true)→takeL t done rest ups=(done++rest,ups)
 | [],done,ups,_=>by simp [takeL]
 | e::r,done,ups,h=>by
  unfold takeL
  have hc:¬ (e.tree=t∧e.up=false∧coveredB (done++e::r) t e.pred=false):=by
   rintro ⟨h1,h2,h3⟩
   rw [h e (List.mem_cons_self ..) h1 h2] at h3;cases h3
  rw [if_neg hc]
  have hap:done++e::r=(done++[e])++r:=by simp
  rw [hap] at h ⊢
  exact takeL_none t r (done++[e]) ups fun d hd=>h d (List.mem_cons_of_mem _ hd)
structure Ended (c nb:Broker) (x:ID) (done:List Advert) (outs:List OutS):Prop where
 inv:InvK nb
 adv:nb.adverts=c.adverts
 near:nb.near=c.near
 seen:nb.seen=c.seen
 me:nb.me=c.me
 own:nb.owns=(endOwn c x).owns
 ent:nb.entries=c.entries.filter fun e=>!(decide (e.sub=x) && done.any fun a=>decide (a.id=e.tree))
 cnt:outs.length=done.countP fun a=>upIn c a.id x
 kind:∀ o∈outs,o.kind=4∧o.id=x
theorem end_pass {b c:Broker} {x:ID} {q:Pred} {souts:List OutS} (hb:InvK b) (s:Subd b c x q b.adverts souts):∀ (r done:List Advert) (st:Broker × List OutS),done++r=c.adverts→Ended c st.1 x done st.2 →
  Ended c (r.foldl (endStep x) st).1 x c.adverts (r.foldl (endStep x) st).2
 | [],done,st,h,t=>by
  rw [List.append_nil] at h
  rw [← h];exact t
 | a::r,done,st,h,t=>by
  have hne:=rise_id s.inv.ra h
  refine end_pass hb s r (done++[a]) (endStep x st a) (by rw [← h];simp) ?_
  have hany:∀ e:Entry,((done++[a]).any fun d=>decide (d.id=e.tree))=((done.any fun d=>decide (d.id=e.tree)) || decide (a.id=e.tree)):=fun e=>by simp [List.any_append]
  have hmem:∀ e,e∈st.1.entries↔e∈c.entries∧¬ (e.sub=x∧∃ d∈done,d.id=e.tree):=by
   intro e
   rw [t.ent,List.mem_filter]
   refine and_congr_right fun _=>?_
   rw [Bool.not_eq_true',Bool.and_eq_false_iff,decide_eq_false_iff_not,List.any_eq_false]
   constructor
   ·rintro (h | h) ⟨h1,d,hd,h2⟩
    ·exact h h1
    ·exact h d hd (by simp [h2])
   ·intro hh
    by_cases hx:e.sub=x
    ·exact .inr fun d hd hd2=>hh ⟨hx,d,hd,by simpa using hd2⟩
    ·exact .inl hx
  have hsame:entOf st.1 a.id x=entOf c a.id x:=by
   cases hq:entOf c a.id x with
   | none =>
    rw [entOf_none] at hq ⊢
    intro e he
    exact hq e ((hmem e).1 he).1
   | some e =>
    have he:=(entOf_some s.inv.re).1 hq
    rw [entOf_some t.inv.re]
    refine ⟨(hmem e).2 ⟨he.1,?_⟩,he.2⟩
    rintro ⟨_,d,hd,h2⟩
    exact hne d hd (h2.trans he.2.1)
  have hpar:parentOf st.1 a.id=parentOf b a.id:=by rw [parentOf_eq,parentOf_eq];unfold advOf;rw [t.adv,s.adv]
  cases hq:entOf c a.id x with
  | none =>
   rw [hq] at hsame
   have hT:takeB st.1 a.id x (-1)=(st.1,[],false):=by
    unfold takeB
    rw [show st.1.entries.find? (isE a.id x)=none from hsame]
   have hD:dropB st.1 a.id x (-1)=(st.1,[]):=by unfold dropB;rw [hT];rfl
   unfold endStep
   rw [hD]
   refine ⟨t.inv,t.adv,t.near,t.seen,t.me,t.own,?_,?_,by simpa using t.kind⟩
   ·simp only
    rw [t.ent]
    refine List.filter_congr fun e he=>?_
    rw [hany]
    have:(decide (e.sub=x) && decide (a.id=e.tree))=false:=by
     rw [Bool.and_eq_false_iff,decide_eq_false_iff_not,decide_eq_false_iff_not]
     by_cases h1:e.sub=x
     ·exact .inr fun h2=>(entOf_none.1 hq e he) ⟨h2.symm,h1⟩
     ·exact .inl h1
    cases h1:decide (e.sub=x) <;> simp_all
   ·have hu:upIn c a.id x=false:=by unfold upIn;rw [hq]
    simp only [List.append_nil]
    rw [t.cnt,List.countP_append]
    simp [List.countP_cons,hu]
  | some e =>
   rw [hq] at hsame
   have he:=(entOf_some s.inv.re).1 hq
   have hfrm:e.frm=-1:=by
    obtain ⟨d,hd,h2,h3⟩:=s.from' e he.1 he.2.2
    obtain ⟨u,hu⟩:=s.has d hd h3
    have:d.id=a.id:=h2.trans he.2.1
    rw [this,hq] at hu
    injection hu with hu
    rw [hu]
   have hisE:∀ y:Entry,isE a.id x y=decide (y.tree=a.id∧y.sub=x):=fun y=>rfl
   have hbin:∀ y∈b.entries,y∈st.1.entries.filter fun y=>!isE a.id x y:=by
    intro y hy
    rw [← s.keep] at hy
    have hy':=List.mem_filter.1 hy
    have hys:y.sub≠x:=by simpa using hy'.2
    refine List.mem_filter.2 ⟨(hmem y).2 ⟨hy'.1,fun hh=>hys hh.1⟩,?_⟩
    rw [hisE];simp [hys]
   have hcov:e.up=true→∀ y∈st.1.entries.filter (fun y=>!isE a.id x y),y.tree=a.id→y.up=false→coveredB ([]++st.1.entries.filter fun y=>!isE a.id x y) a.id y.pred=true:=by
    intro heu y hy hyt hyu
    have hy':=List.mem_filter.1 hy
    have hys:y.sub≠x:=by
     intro hx
     have:=hy'.2
     rw [hisE] at this
     simp [hyt,hx] at this
    have hyb:y∈b.entries:=by
     rw [← s.keep]
     exact List.mem_filter.2 ⟨((hmem y).1 hy'.1).1,by simp [hys]⟩
    have hp:parentOf b a.id≠-1:=by
     have:=t.inv.up ((entOf_some t.inv.re).1 hsame).1 heu
     rw [he.2.1,hpar] at this;exact this
    rw [List.nil_append]
    refine covered_mono hbin ?_
    rcases tightB_iff.1 hb.tight y hyb with h1 | h1 | h1
    ·rw [hyu] at h1;cases h1
    ·rw [hyt] at h1;exact absurd h1 hp
    ·rw [hyt] at h1;exact h1
   have hT:takeB st.1 a.id x (-1)=({ st.1 with entries:=st.1.entries.filter fun y=>!isE a.id x y },[],e.up):=by
    unfold takeB
    rw [show st.1.entries.find? (isE a.id x)=some e from hsame]
    simp only [if_pos hfrm]
    cases heu:e.up with
    | false=>rfl
    | true =>
     simp only [if_true]
     rw [takeL_none a.id _ [] [] (hcov heu)]
     rfl
   have hD:dropB st.1 a.id x (-1)=({ st.1 with entries:=st.1.entries.filter fun y=>!isE a.id x y },if e.up=true then [⟨parentOf st.1 a.id,4,a.id,x,[]⟩] else []):=by
    unfold dropB;rw [hT]
    cases e.up <;> rfl
   have hinv:InvK (dropB st.1 a.id x (-1)).1:=by rw [drop_fst];exact t.inv.take ..
   rw [hD] at hinv
   unfold endStep
   rw [hD]
   refine ⟨hinv,t.adv,t.near,t.seen,t.me,t.own,?_,?_,?_⟩
   ·simp only
    rw [t.ent,List.filter_filter]
    refine List.filter_congr fun y hy=>?_
    rw [hany,hisE]
    by_cases h1:y.sub=x <;> by_cases h2:y.tree=a.id
    ·have h3:a.id=y.tree:=h2.symm
     simp [h1,h2]
    ·have h3:¬ a.id=y.tree:=fun e=>h2 e.symm
     simp [h1,h2,h3]
    ·simp [h1]
    ·simp [h1]
   ·have hu:upIn c a.id x=e.up:=by unfold upIn;rw [hq]
    simp only [List.length_append]
    rw [t.cnt,List.countP_append]
    cases heu:e.up <;> simp [List.countP_cons,hu,heu]
   ·intro o ho
    rcases List.mem_append.1 ho with ho | ho
    ·exact t.kind o ho
    ·cases heu:e.up with
     | false=>rw [heu] at ho;simp at ho
     | true=>rw [heu] at ho;simp at ho;rw [ho];exact ⟨rfl,rfl⟩
end Go.Dm.Tc
/-
RouteBack: subscribed,and ended at once: the law's walk.
-/
namespace Go.Dm.Tc
structure Last (b c d e:Broker) (out back none again:List OutS) (n met:Nat):Prop where
 h1:out.length=n
 h2:back.length=n
 h3:c.entries.length=b.entries.length+met
 h4:d=b
 h5:none=[]
 h6:again=[]
 h7:e=c
set_option maxRecDepth 16000 in
set_option maxHeartbeats 4000000 in
theorem k13 {b c d e:Broker} {out back none again:List OutS} {n met:Nat} (w:Last b c d e out back none again n met) (hi:InvK b) (z:Sized b) (hic:InvK c) (zc:Sized c) (f:FEnv) (h:Heap)
  (h5:f 5=.ptr 2 6 0 0) (h7:f 7=.ptr 4 6 0 0) (h8:f 8=eL false 8 eOut out) (h9:f 9=.ptr 5 6 0 0) (h10:f 10=eL false 8 eOut back) (h12:f 12=eL false 8 eOut none) (h13:f 13=.ptr 7 6 0 0) (h14:f 14=eL false 8 eOut again) (h15:f 15=.int .i64 n) (h16:f 16=.int .i64 met)
  (g2:h.get 2=some (.arr 29 6 [eBroker .none b] (some 1))) (g4:h.get 4=some (.arr 29 6 [eBroker .none c] (some 1))) (g5:h.get 5=some (.arr 29 6 [eBroker .none d] (some 1))) (g7:h.get 7=some (.arr 29 6 [eBroker .none e] (some 1))) (hlim:h.lim=0) (hn:8≤h.n) (wf:WF h) :
  pcOut (fin [.t 4] (run D 168 [] t13k0 f h))=some (.bool true):=by
 obtain ⟨w1,w2,w3,rfl,rfl,rfl,rfl⟩:=w
 have hR:=s55
 have hs1:=kSame .none hi z .none d
 have hs2:=kSame .none hic zc .none e
 have hce:=zc.ent
 have hw:IntKind.i64.wrap ((d.entries.length:Int)+met)=d.entries.length+met:=wrap64 (by omega) (by omega)
 simp only [t13k0]
 simp [h5,h7,h8,h9,h10,h12,h13,h14,h15,h16,g2,g4,g5,g7,hlim,wf,turn,w1,w2,w3,hw,e26,hs1,hs2,e55,hR]
set_option maxRecDepth 16000 in
set_option maxHeartbeats 4000000 in
theorem l13c {b c d e:Broker} {out back none again:List OutS} {n met:Nat} (w:Last b c d e out back none again n met) (hi:InvK b) (z:Sized b) (hic:InvK c) (zc:Sized c) (hbk:∀ o∈back,o.kind=4∧o.id=⟨15,3⟩) (hbl:back.length≤1000000) :
  ∀ (rest:List OutS) (i:Nat) (f:FEnv) (h:Heap),back.drop i=rest→f 5=.ptr 2 6 0 0→f 6=.ptr 3 2 0 0→f 7=.ptr 4 6 0 0→f 8=eL false 8 eOut out→f 9=.ptr 5 6 0 0→f 10=eL false 8 eOut back→f 12=eL false 8 eOut none→f 13=.ptr 7 6 0 0→f 14=eL false 8 eOut again→f 15=.int .i64 n→f 16=.int .i64 met→f 106=eL false 8 eOut back→f 107=.int .i64 back.length→f 108=.int .i64 i →
  h.get 2=some (.arr 29 6 [eBroker .none b] (some 1))→h.get 3=some (.arr 37 2 [.agg [.int .i64 15,.int .i64 3]] (some 1))→h.get 4=some (.arr 29 6 [eBroker .none c] (some 1))→h.get 5=some (.arr 29 6 [eBroker .none d] (some 1))→h.get 7=some (.arr 29 6 [eBroker .none e] (some 1))→h.lim=0→8≤h.n→WF h →
  pcOut (fin [.t 4] (run D 168 [.block 4,.seq t13k0] (.loop t13l2) f h))=some (.bool true):=by
 intro rest
 induction rest with
 | nil =>
  intro i f h hd h5 h6 h7 h8 h9 h10 h12 h13 h14 h15 h16 h106 h107 h108 g2 g3 g4 g5 g7 hlim hn wf
  have hil:=drop_nil hd
  have hlt:¬ (i < back.length):=by omega
  rw [run_loop_of t13l2.eq_1]
  simp [h107,h108,hlt]
  refine k13 w hi z hic zc _ _ ?_ ?_ ?_ ?_ ?_ ?_ ?_ ?_ ?_ ?_ g2 g4 g5 g7 hlim hn wf
  all_goals simp [h5,h7,h8,h9,h10,h12,h13,h14,h15,h16]
 | cons o rest ih =>
  intro i f h hd h5 h6 h7 h8 h9 h10 h12 h13 h14 h15 h16 h106 h107 h108 g2 g3 g4 g5 g7 hlim hn wf
  obtain ⟨hlt,he,hd'⟩:=drop_at hd
  obtain ⟨m,hmn⟩:∃ m,h.n=m+8:=⟨h.n - 8,by omega⟩
  have ho:=hbk o (by rw [← he];exact List.getElem_mem hlt)
  obtain ⟨to,k,⟨tc,td⟩,id,p⟩:=o
  obtain ⟨rfl,rfl⟩:=ho
  have hw2:IntKind.i64.wrap ((i:Int)+1)=(i:Int)+1:=wrap64 (by omega) (by omega)
  rw [run_loop_of t13l2.eq_1]
  simp [h106,h107,h108,h6,hlt,he,eOut,g3,hmn,hlim,wf,turn,t13s2,hw2]
  generalize hF:upd _ 108 _=F
  refine ih (i+1) F _ hd' ?_ ?_ ?_ ?_ ?_ ?_ ?_ ?_ ?_ ?_ ?_ ?_ ?_ ?_ ?_ ?_ ?_ ?_ ?_ ?_ ?_ ?_
  all_goals first
   | (rw [← hF];simp [h5,h6,h7,h8,h9,h10,h12,h13,h14,h15,h16,h106,h107];done)
   | (simp [hmn,g2,g3,g4,g5,g7,hlim,wf];done)
   | (simp [hmn] <;> omega)
set_option maxRecDepth 16000 in
set_option maxHeartbeats 4000000 in
theorem l13b {b c d e:Broker} {out back none again:List OutS} {n met:Nat} (w:Last b c d e out back none again n met) (hi:InvK b) (z:Sized b) (hic:InvK c) (zc:Sized c) (hou:∀ o∈out,o.kind=3∧o.id=⟨15,3⟩) (hul:out.length≤1000000) (hbk:∀ o∈back,o.kind=4∧o.id=⟨15,3⟩) (hbl:back.length≤1000000) :
  ∀ (rest:List OutS) (i:Nat) (f:FEnv) (h:Heap),out.drop i=rest→f 5=.ptr 2 6 0 0→f 6=.ptr 3 2 0 0→f 7=.ptr 4 6 0 0→f 8=eL false 8 eOut out→f 9=.ptr 5 6 0 0→f 10=eL false 8 eOut back→f 12=eL false 8 eOut none→f 13=.ptr 7 6 0 0→f 14=eL false 8 eOut again→f 15=.int .i64 n→f 16=.int .i64 met→f 88=eL false 8 eOut out→f 89=.int .i64 out.length→f 90=.int .i64 i →
  h.get 2=some (.arr 29 6 [eBroker .none b] (some 1))→h.get 3=some (.arr 37 2 [.agg [.int .i64 15,.int .i64 3]] (some 1))→h.get 4=some (.arr 29 6 [eBroker .none c] (some 1))→h.get 5=some (.arr 29 6 [eBroker .none d] (some 1))→h.get 7=some (.arr 29 6 [eBroker .none e] (some 1))→h.lim=0→8≤h.n→WF h →
  pcOut (fin [.t 4] (run D 168 [.block 2,.seq t13k1] (.loop t13l1) f h))=some (.bool true):=by
 intro rest
 induction rest with
 | nil =>
  intro i f h hd h5 h6 h7 h8 h9 h10 h12 h13 h14 h15 h16 h88 h89 h90 g2 g3 g4 g5 g7 hlim hn wf
  have hil:=drop_nil hd
  have hlt:¬ (i < out.length):=by omega
  rw [run_loop_of t13l1.eq_1]
  simp [h89,h90,hlt,t13k1,h10]
  refine l13c w hi z hic zc hbk hbl back 0 _ _ rfl ?_ ?_ ?_ ?_ ?_ ?_ ?_ ?_ ?_ ?_ ?_ ?_ ?_ ?_ g2 g3 g4 g5 g7 hlim hn wf
  all_goals simp [h5,h6,h7,h8,h9,h10,h12,h13,h14,h15,h16]
 | cons o rest ih =>
  intro i f h hd h5 h6 h7 h8 h9 h10 h12 h13 h14 h15 h16 h88 h89 h90 g2 g3 g4 g5 g7 hlim hn wf
  obtain ⟨hlt,he,hd'⟩:=drop_at hd
  obtain ⟨m,hmn⟩:∃ m,h.n=m+8:=⟨h.n - 8,by omega⟩
  have ho:=hou o (by rw [← he];exact List.getElem_mem hlt)
  obtain ⟨to,k,⟨tc,td⟩,id,p⟩:=o
  obtain ⟨rfl,rfl⟩:=ho
  have hw2:IntKind.i64.wrap ((i:Int)+1)=(i:Int)+1:=wrap64 (by omega) (by omega)
  rw [run_loop_of t13l1.eq_1]
  simp [h88,h89,h90,h6,hlt,he,eOut,g3,hmn,hlim,wf,turn,t13s1,hw2]
  generalize hF:upd _ 90 _=F
  refine ih (i+1) F _ hd' ?_ ?_ ?_ ?_ ?_ ?_ ?_ ?_ ?_ ?_ ?_ ?_ ?_ ?_ ?_ ?_ ?_ ?_ ?_ ?_ ?_ ?_
  all_goals first
   | (rw [← hF];simp [h5,h6,h7,h8,h9,h10,h12,h13,h14,h15,h16,h88,h89];done)
   | (simp [hmn,g2,g3,g4,g5,g7,hlim,wf];done)
   | (simp [hmn] <;> omega)
set_option maxRecDepth 16000 in
set_option maxHeartbeats 4000000 in
theorem l13a {b c d e:Broker} {out back none again:List OutS} {N M:Nat} (w:Last b c d e out back none again N M) (hi:InvK b) (z:Sized b) (hic:InvK c) (zc:Sized c) (hou:∀ o∈out,o.kind=3∧o.id=⟨15,3⟩) (hul:out.length≤1000000) (hbk:∀ o∈back,o.kind=4∧o.id=⟨15,3⟩) (hbl:back.length≤1000000)
  (q:Pred) (hq:PredOk q) (has vals:List Int) (hP:pcF D t18 [.agg [eL false 1 cInt has,eL false 1 cInt vals]]=some (ePred q)) (hhas:∀ a∈b.adverts,meetsP q a.pred=true→∃ u,entOf c a.id ⟨15,3⟩=some ⟨a.id,⟨15,3⟩,q,-1,u⟩) (hno:∀ a∈b.adverts,upIn c a.id ⟨15,3⟩=true→meetsP q a.pred=true) :
  ∀ (rest:List Advert) (i n m:Nat) (f:FEnv) (h:Heap),b.adverts.drop i=rest→(n+rest.countP fun a=>upIn c a.id ⟨15,3⟩)=N→(m+rest.countP fun a=>meetsP q a.pred)=M→n≤i∧m≤i→f 3=.ptr 1 2 0 0→f 5=.ptr 2 6 0 0→f 6=.ptr 3 2 0 0→f 7=.ptr 4 6 0 0→f 8=eL false 8 eOut out→f 9=.ptr 5 6 0 0→f 10=eL false 8 eOut back→f 12=eL false 8 eOut none→f 13=.ptr 7 6 0 0→f 14=eL false 8 eOut again→f 15=.int .i64 n→f 16=.int .i64 m→f 55=eL false 4 eAdvert b.adverts→f 56=.int .i64 b.adverts.length→f 57=.int .i64 i →
  h.get 1=some (.arr 32 2 [.agg [eL false 1 cInt has,eL false 1 cInt vals]] (some 1))→h.get 2=some (.arr 29 6 [eBroker .none b] (some 1))→h.get 3=some (.arr 37 2 [.agg [.int .i64 15,.int .i64 3]] (some 1))→h.get 4=some (.arr 29 6 [eBroker .none c] (some 1))→h.get 5=some (.arr 29 6 [eBroker .none d] (some 1))→h.get 7=some (.arr 29 6 [eBroker .none e] (some 1))→h.lim=0→8≤h.n→WF h →
  pcOut (fin [.t 4] (run D 168 [.block 0,.seq t13k2] (.loop t13l0) f h))=some (.bool true):=by
 have hal:=z.adv
 intro rest
 induction rest with
 | nil =>
  intro i n m f h hd hN hM hnm h3 h5 h6 h7 h8 h9 h10 h12 h13 h14 h15 h16 h55 h56 h57 g1 g2 g3 g4 g5 g7 hlim hn wf
  have hil:=drop_nil hd
  have hlt:¬ (i < b.adverts.length):=by omega
  have e1:n=N:=by simpa using hN
  have e2:m=M:=by simpa using hM
  subst e1
  subst e2
  rw [run_loop_of t13l0.eq_1]
  simp [h56,h57,hlt,t13k2,h8]
  refine l13b w hi z hic zc hou hul hbk hbl out 0 _ _ rfl ?_ ?_ ?_ ?_ ?_ ?_ ?_ ?_ ?_ ?_ ?_ ?_ ?_ ?_ g2 g3 g4 g5 g7 hlim hn wf
  all_goals simp [h5,h6,h7,h8,h9,h10,h12,h13,h14,h15,h16]
 | cons a rest ih =>
  intro i n m f h hd hN hM hnm h3 h5 h6 h7 h8 h9 h10 h12 h13 h14 h15 h16 h55 h56 h57 g1 g2 g3 g4 g5 g7 hlim hn wf
  obtain ⟨hlt,he,hd'⟩:=drop_at hd
  obtain ⟨k,hkn⟩:∃ k,h.n=k+8:=⟨h.n - 8,by omega⟩
  have hmem:a∈b.adverts:=by rw [← he];exact List.getElem_mem hlt
  have hap:=hi.pa a hmem
  have h1:=hhas a hmem
  have h2:=hno a hmem
  have hm:=s47 a.pred q hap hq
  rw [meets_sym hap hq] at hm
  have hE:=kEF .none hic zc a.id.client a.id.seq 15 3
  rw [List.countP_cons] at hN hM
  have hw1:IntKind.i64.wrap ((n:Int)+1)=(n:Int)+1:=wrap64 (by omega) (by omega)
  have hw2:IntKind.i64.wrap ((m:Int)+1)=(m:Int)+1:=wrap64 (by omega) (by omega)
  have hw3:IntKind.i64.wrap ((i:Int)+1)=(i:Int)+1:=wrap64 (by omega) (by omega)
  obtain ⟨⟨ac,ad⟩,ap,aq⟩:=a
  simp only at h1 h2 hm hE hN hM
  rw [run_loop_of t13l0.eq_1]
  cases hmq:meetsP q ap with
  | false =>
   rw [hmq] at hm h2
   have hu:upIn c ⟨ac,ad⟩ ⟨15,3⟩=false:=by
    cases hq:upIn c ⟨ac,ad⟩ ⟨15,3⟩ with
    | false=>rfl
    | true=>exact (h2 hq).symm
   simp only [hu,hmq,Bool.false_eq_true,if_false,Nat.add_zero] at hN hM
   simp [h55,h56,h57,h3,hlt,he,eAdvert,g1,hkn,hlim,wf,turn,e18,hP,e47,hm,t13s0,hw3]
   generalize hF:upd _ 57 _=F
   refine ih (i+1) n m F _ hd' hN hM ⟨by omega,by omega⟩ ?_ ?_ ?_ ?_ ?_ ?_ ?_ ?_ ?_ ?_ ?_ ?_ ?_ ?_ ?_ ?_ ?_ ?_ ?_ ?_ ?_ ?_ ?_ ?_
   all_goals first
    | (rw [← hF];simp [h3,h5,h6,h7,h8,h9,h10,h12,h13,h14,h15,h16,h55,h56];done)
    | (simp [hkn,g1,g2,g3,g4,g5,g7,hlim,wf];done)
    | (simp [hkn] <;> omega)
  | true =>
   rw [hmq] at hm
   obtain ⟨u,hen⟩:=h1 hmq
   have hu:upIn c ⟨ac,ad⟩ ⟨15,3⟩=u:=by unfold upIn;rw [hen]
   rw [hen] at hE
   simp only [hu,hmq,if_true] at hN hM
   cases u with
   | false =>
    simp only [Bool.false_eq_true,if_false,Nat.add_zero] at hN
    simp [h55,h56,h57,h3,h6,h7,h15,h16,hlt,he,eAdvert,g1,g3,g4,hkn,hlim,wf,turn,e18,hP,e47,hm,t13s0,hw2,hw3,e32,hE,hasO,eEntry]
    generalize hF:upd _ 57 _=F
    refine ih (i+1) n (m+1) F _ hd' hN (by omega) ⟨by omega,by omega⟩ ?_ ?_ ?_ ?_ ?_ ?_ ?_ ?_ ?_ ?_ ?_ ?_ ?_ ?_ ?_ ?_ ?_ ?_ ?_ ?_ ?_ ?_ ?_ ?_
    all_goals first
     | (rw [← hF];simp [h3,h5,h6,h7,h8,h9,h10,h12,h13,h14,h15,h16,h55,h56];done)
     | (simp [hkn,g1,g2,g3,g4,g5,g7,hlim,wf];done)
     | (simp [hkn] <;> omega)
   | true =>
    simp only [if_true] at hN
    simp [h55,h56,h57,h3,h6,h7,h15,h16,hlt,he,eAdvert,g1,g3,g4,hkn,hlim,wf,turn,e18,hP,e47,hm,t13s0,hw1,hw2,hw3,e32,hE,hasO,eEntry]
    generalize hF:upd _ 57 _=F
    refine ih (i+1) (n+1) (m+1) F _ hd' (by omega) (by omega) ⟨by omega,by omega⟩ ?_ ?_ ?_ ?_ ?_ ?_ ?_ ?_ ?_ ?_ ?_ ?_ ?_ ?_ ?_ ?_ ?_ ?_ ?_ ?_ ?_ ?_ ?_ ?_
    all_goals first
     | (rw [← hF];simp [h3,h5,h6,h7,h8,h9,h10,h12,h13,h14,h15,h16,h55,h56];done)
     | (simp [hkn,g1,g2,g3,g4,g5,g7,hlim,wf];done)
     | (simp [hkn] <;> omega)
theorem without_insG {α:Type} {key:α→ID} {x:ID} {a:α} (he:key a=x) (l:List α):without key x (insAt key a l)=without key x l:=by
 unfold insAt
 generalize lowIdx _ l=k
 rw [without_append]
 have:without key x (a::l.drop k)=without key x (l.drop k):=by
  unfold without
  rw [List.filter_cons];simp [he]
 rw [this,← without_append,List.take_append_drop]
set_option maxRecDepth 16000 in
set_option maxHeartbeats 4000000 in
theorem s13 (k:BrokK) (p:PK) (hk:∀ z∈k.steps,z.has.length≤9223372036854775807) (hp:p.has.length≤9223372036854775807) :
  pcF D t13 [eBrokK k,ePK p]=some (.bool true):=by
 have hB:=s29 false k.near k.steps hk
 have hP:=s18 false false p.has p.vals hp
 obtain ⟨hi,hz⟩:=brokerK_keep k.near k.steps
 have hlow:=brokerK_low k.near k.steps
 generalize brokerK k.near k.steps=b at *
 have hq:=mkPred_ok p.has p.vals
 generalize mkPred p.has p.vals=q at *
 have z:=hz.sized (by decide)
 have hxo:∀ o∈b.owns,o.id≠⟨15,3⟩:=fun o ho e=>by have:=hlow.own o ho;rw [e] at this;simp only at this;omega
 have hxe:∀ e∈b.entries,e.sub≠⟨15,3⟩:=fun o ho e=>by have:=hlow.ent o ho;rw [e] at this;simp only at this;omega
 have hhit:=hit_no_own hi.ro hxo
 have hsub:subscribeB b ⟨15,3⟩ q=b.adverts.foldl (subStep ⟨15,3⟩ q) (subOwn b ⟨15,3⟩ q,[]):=by
  unfold subscribeB
  rw [hhit];rfl
 have S0:Subd b (subOwn b ⟨15,3⟩ q) ⟨15,3⟩ q [] []:=by
  refine ⟨hi.subOwn hq hxo,rfl,rfl,rfl,rfl,rfl,?_,fun a ha=>(by cases ha),fun e he hx=>absurd hx (hxe e he),rfl,rfl⟩
  show b.entries.filter _=b.entries
  rw [List.filter_eq_self]
  intro e he
  simp [hxe e he]
 have hS:=sub_pass hi hq b.adverts [] (subOwn b ⟨15,3⟩ q,[]) rfl S0
 obtain ⟨l',so1,so2,so3⟩:=sub_outs ⟨15,3⟩ q b.adverts (subOwn b ⟨15,3⟩ q,[])
 obtain ⟨hic,hzc⟩:=subscribe_keep (x:=⟨15,3⟩) hi hz hq
 have hV:=s50 b 15 3 q hi (hz.zl (by decide) hz.adv) hq (by have:=hz.own;omega)
 rw [hsub] at hic hzc hV
 rw [List.nil_append] at so1
 rw [so1] at hV hS
 generalize (b.adverts.foldl (subStep ⟨15,3⟩ q) (subOwn b ⟨15,3⟩ q,[])).1=c at *
 have zc:=hzc.sized (by decide)
 have hcx:(⟨⟨15,3⟩,q⟩:OwnS)∈c.owns:=by rw [hS.own];exact (ins_mem (fun o:OwnS=>o.id) ⟨⟨15,3⟩,q⟩ b.owns _).2 (.inl rfl)
 have hown:without (fun o:OwnS=>o.id) ⟨15,3⟩ c.owns=b.owns:=by
  rw [hS.own]
  show without _ _ (insAt (fun o:OwnS=>o.id) ⟨⟨15,3⟩,q⟩ b.owns)=_
  rw [without_insG (key:=fun o:OwnS=>o.id) (a:=⟨⟨15,3⟩,q⟩) rfl,without_none hxo]
 have hcl:c.owns.length=b.owns.length+1:=by rw [hS.own];exact insAt_len ..
 have huns:unsubscribeB c ⟨15,3⟩=c.adverts.foldl (endStep ⟨15,3⟩) (endOwn c ⟨15,3⟩,[]):=by
  unfold unsubscribeB
  rw [if_neg (by rw [hown,hcl];omega)]
 have E0:Ended c (endOwn c ⟨15,3⟩) ⟨15,3⟩ [] []:=by
  refine ⟨hic.endOwn _,rfl,rfl,rfl,rfl,rfl,?_,rfl,fun o ho=>(by cases ho)⟩
  show c.entries=c.entries.filter _
  rw [eq_comm,List.filter_eq_self]
  intro e he
  simp
 have hE:=end_pass hi hS c.adverts [] (endOwn c ⟨15,3⟩,[]) rfl E0
 have hU:=s51 c 15 3 hic (hzc.zl (by decide) (Nat.zero_le _)) (by have:=hzc.adv;omega)
 have hbo:=unsubscribe_ok hic hzc (by decide) ⟨15,3⟩
 rw [huns] at hU hbo
 have hd:(c.adverts.foldl (endStep ⟨15,3⟩) (endOwn c ⟨15,3⟩,[])).1=b:=by
  have h1:=hE.ent
  have h2:=hE.own
  generalize (c.adverts.foldl (endStep ⟨15,3⟩) (endOwn c ⟨15,3⟩,[])).1=d at *
  have h3:d.entries=b.entries:=by
   rw [h1,← hS.keep]
   refine List.filter_congr fun e he=>?_
   by_cases hx:e.sub=⟨15,3⟩
   ·obtain ⟨a,ha,h4,_⟩:=hS.from' e he hx
    have:(c.adverts.any fun a=>decide (a.id=e.tree))=true:=List.any_eq_true.2 ⟨a,by rw [hS.adv];exact ha,by simp [h4]⟩
    simp [hx,this]
   ·simp [hx]
  have h4:d.owns=b.owns:=by rw [h2];exact hown
  have h5:=hE.adv.trans hS.adv
  have h6:=hE.near.trans hS.near
  have h7:=hE.seen.trans hS.seen
  have h8:=hE.me.trans hS.me
  obtain ⟨d1,d2,d3,d4,d5,d6⟩:=d
  obtain ⟨b1,b2,b3,b4,b5,b6⟩:=b
  simp only at h3 h4 h5 h6 h7 h8
  rw [h3,h4,h5,h6,h7,h8]
 have hN:unsubscribeB b ⟨15,3⟩=(b,[]):=by
  unfold unsubscribeB
  rw [without_none hxo,if_pos rfl]
 have hNu:=s51 b 15 3 hi (hz.zl (by decide) (Nat.zero_le _)) (by have:=hz.adv;omega)
 rw [hN] at hNu
 have hA:subscribeB c ⟨15,3⟩ []=(c,[]):=by
  unfold subscribeB
  rw [hit_yes_own hic.ro hcx rfl];rfl
 have hAg:=s50 c 15 3 [] hic (hzc.zl (by decide) hzc.adv) .nil (by have:=hzc.own;omega)
 rw [hA,show ePred []=.isl false 0 [] from rfl] at hAg
 have hno:∀ a∈b.adverts,upIn c a.id ⟨15,3⟩=true→meetsP q a.pred=true:=by
  intro a ha hu
  unfold upIn at hu
  cases hen:entOf c a.id ⟨15,3⟩ with
  | none=>rw [hen] at hu;cases hu
  | some e =>
   have he:=(entOf_some hic.re).1 hen
   obtain ⟨a2,ha2,h2,h3⟩:=hS.from' e he.1 he.2.2
   have e1:=(advOf_some hi.ra).2 ⟨ha,rfl⟩
   have e2:=(advOf_some hi.ra).2 ⟨ha2,h2.trans he.2.1⟩
   rw [e1] at e2
   injection e2 with e2
   rw [e2];exact h3
 have hbn:(c.adverts.foldl (endStep ⟨15,3⟩) (endOwn c ⟨15,3⟩,[])).2.length=b.adverts.countP fun a=>upIn c a.id ⟨15,3⟩:=by rw [hE.cnt,hS.adv]
 have hbk:=hE.kind
 rw [hd] at hU
 generalize (c.adverts.foldl (endStep ⟨15,3⟩) (endOwn c ⟨15,3⟩,[])).2=back at *
 unfold pcF
 rw [goRun_eq _ _ _ _ (by simp [t13])]
 simp [t13,eBrokK,ePK,e29,hB,e18,hP,e50,hV,e51,hU,hNu,hAg,frA_nsl,turn]
 refine l13a (b:=b) (c:=c) (d:=b) (e:=c) (out:=l') (back:=back) (none:=[]) (again:=[]) ⟨hS.cnt,hbn,hS.len,rfl,rfl,rfl,rfl⟩ hi z hic zc (fun o ho=>⟨(so3 o ho).1,(so3 o ho).2.1⟩) (by have:=hz.adv;omega) hbk hbo.2 q hq p.has p.vals hP hS.has hno b.adverts 0 0 0 _ _ rfl (by omega) (by omega) ⟨by omega,by omega⟩ ?_ ?_ ?_ ?_ ?_ ?_ ?_ ?_ ?_ ?_ ?_ ?_ ?_ ?_ ?_ ?_ ?_ ?_ ?_ ?_ ?_ ?_ ?_ ?_
 all_goals simp [Tags.none]
end Go.Dm.Tc
