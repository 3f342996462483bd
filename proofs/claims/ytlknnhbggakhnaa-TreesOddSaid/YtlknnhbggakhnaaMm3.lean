/-
Part 25 of "Dm": a region with an open order does what the machine says, whatever order is picked.
-/
import Derived.Test.YtlknnhbggakhnaaMm2
import Derived.RowKit3
import Derived.Lib.Overlaps
import Derived.Lib.Bytealg
set_option linter.all false
namespace Go.Dm
theorem countP_lt {p p':Nat→Bool} {i:Nat} (h1:p i=true) (h2:p' i=false):∀(l:List Nat),(∀x,x∈l→p' x=true→p x=true)→i∈l→l.countP p'<l.countP p:=by
 intro l
 induction l with
 | nil=>intro _ hi;cases hi
 | cons x l ih =>
  intro h hi
  have hmono:l.countP p'≤l.countP p:=List.countP_mono_left fun y hy=>h y (List.mem_cons_of_mem _ hy)
  simp only [List.countP_cons]
  rcases List.mem_cons.1 hi with e|hi'
  ·subst e
   simp only [h1,h2,if_true,Bool.false_eq_true,if_false]
   omega
  ·have:=ih (fun y hy=>h y (List.mem_cons_of_mem _ hy)) hi'
   cases hp':p' x with
   | false=>simp only [Bool.false_eq_true,if_false];omega
   | true=>simp only [h x (List.mem_cons_self ..) hp',if_true];omega
theorem cls_touches {d:DOp} (hd:d.cls=.env∨d.cls=.read):touches d=false:=by
 unfold DOp.cls at hd
 split at hd
 all_goals first|rfl|(rcases hd with h|h<;>(cases h;done))|skip
 ·split at hd
  ·rcases hd with h|h<;>cases h
  ·rename_i h;simpa using h
theorem rankAt_eq {dis:List (Nat×DOper)} {p:Nat}:rankAt dis p=rankD (dis.map (·.2)) p:=by
 unfold rankAt rankD
 rw [←List.map_take,List.filter_map,List.length_map]
 rfl
section
variable {P:Program} {call:CallF} {ops:List Oper} {dis:List (Nat×DOper)} {bs:List Nat} {E:Nat→Env} {HS:Nat→List Heap} {LS:Nat→DLog} {V:Nat→DV} {B:Nat→Bool} {c ĉ ĉ1:Ctx} {env:Env} {h:Heap}
 {listed:Array Bool} {a:Act} {k m0:Nat}
theorem tmps_reads {d:DOper} {env env':Env} (h:Agree d.reads env env'):Agree d.op.tmps env env':=fun t ht=>h t (by simp [DOper.reads,ht])
theorem guard_reads {d:DOper}:∀t w,d.guard=some (t,w)→t∈d.reads:=fun t w e=>by simp [DOper.reads,e]
theorem fit_cls (F:Fit P ops dis bs) {p:Nat} {y:Nat×DOper} (hy:dis[p]?=some y) (hk:y.2.kind≠.read):y.2.op.cls=.alloc∨y.2.op.cls=.heap:=by
 have hkf:=F.kind p y hy
 unfold kindFits at hkf
 cases hc:y.2.op.cls<;>rw [hc]at hkf<;>first|exact .inl rfl|exact .inr rfl|skip
 all_goals (cases hkk:y.2.kind<;>rw [hkk]at hkf<;>first|exact absurd hkk hk|cases hkf)
theorem heap_next (F:Fit P ops dis bs) (I:InvE ops dis HS V env listed a ĉ m0) (M:InvM dis E HS B c listed k ĉ) (hmax:Max dis listed k) {q:Nat} {x:Nat×DOper} {o:Oper} (U:Up ops dis listed q x o)
  (hcls:x.2.op.cls=.heap) (hk:x.2.kind≠.read):q=k:=by
 have hq:q<dis.length:=(List.getElem?_eq_some_iff.1 U.hx).1
 rcases hmax with e|⟨y,hy,hyk,hyL⟩
 ·exact absurd (M.front q x (by omega) U.hx hk) U.not
 ·rcases Nat.lt_trichotomy q k with h1|h1|h1
  ·exact absurd (M.front q x h1 U.hx hk) U.not
  ·exact h1
  ·cases hb:bitAt bs x.1 y.1 with
   | true=>exact absurd (ready_sure F I U (fit_lt F hy) hb) hyL
   | false =>
    have hf:=fit_free F h1 hy U.hx hb
    have hkf:=F.kind k y hy
    unfold kindFits at hkf
    simp only [freeP,hcls,Bool.and_eq_true]at hf
    have hf:=hf.2
    cases hc:y.2.op.cls<;>rw [hc]at hf hkf<;>simp only at hf hkf
    ·cases hkk:y.2.kind<;>rw [hkk]at hkf<;>simp only at hkf<;>first|exact absurd hkk hyk|cases hkf
    ·cases hkk:y.2.kind<;>rw [hkk]at hkf<;>simp only at hkf<;>first|exact absurd hkk hyk|cases hkf
    ·cases hf
    ·cases hf
theorem read_up (F:Fit P ops dis bs) (T:Trace call (dis.map (·.2)) env [h] .start E HS LS V B) (hc:CallKeeps call) (hl:h.lim≤h.n) (I:InvE ops dis HS V env listed a ĉ (headH (HS k)).n) (M:InvM dis E HS B c listed k ĉ) (hmax:Max dis listed k)
  {q:Nat} {x:Nat×DOper} {o:Oper} (U:Up ops dis listed q x o) (hop:compOp P o=some x.2.op) (hk:x.2.kind=.read) (hb:B q=true) :
  headH (HS (q+1))=headH (HS q)∧∃ nx v,(execOp a.eval o).run P ĉ.w=.ok nx ĉ.w∧(nx=.value v∨(nx=.skip∧v=Go.undef))∧VR (ĉ.cut (max (headH (HS q)).n (headH (HS k)).n)) (V q) v:=by
 have hq:q<dis.length:=(List.getElem?_eq_some_iff.1 U.hx).1
 have hk':k≤(dis.map (·.2)).length:=by simpa using M.k_le
 refine ⟨T.same U.hx (.inl hk),?_⟩
 obtain ⟨⟨hw,g,gs,hg,hf,ht⟩,_⟩:=T.step q x.2 (map_get U.hx)
 have hkf:=F.kind q x U.hx
 have hcls:x.2.op.cls=.env∨x.2.op.cls=.read:=by
  unfold kindFits at hkf
  rw [hk]at hkf
  cases hc:x.2.op.cls<;>rw [hc]at hkf<;>first|exact .inl rfl|exact .inr rfl|cases hkf
 have htc:=cls_touches hcls
 rcases ht hb with ⟨_,_,⟨h0,h1,hs0,hst⟩,hfree,hlog⟩|⟨hk2,_⟩|⟨hk2,_⟩|⟨hk2,_⟩
 rotate_left
 ·rw [hk]at hk2;cases hk2
 ·rw [hk]at hk2;cases hk2
 ·rw [hk]at hk2;cases hk2
 obtain ⟨h2,p1,p2,p3⟩:=M.rel.pad (max (headH (HS q)).n (headH (HS k)).n-(headH (HS k)).n)
 have hmx:(headH (HS k)).n+(max (headH (HS q)).n (headH (HS k)).n-(headH (HS k)).n)=max (headH (HS q)).n (headH (HS k)).n:=by omega
 rw [hmx]at p1
 have hEm:=mask_env F T hc hl I U
 have hst2:stepOp h2 (maskE (E q) x.2.reads) x.2.op=some (V q,h2):=by
  rw [stepOp_congr (tmps_reads maskE_agree)]at hst
  by_cases henv:x.2.op.cls=.env
  ·exact stepOp_env henv hst
  ·have hrd:=hcls.resolve_left henv
   refine stepOp_growsM ?_ htc hst
   obtain ⟨m,a1,a2,a3⟩:=T.snap q (by simp;omega) _ _ hs0
   have hmk:m≤k:=by
    rcases hmax with e|⟨y,hy,hyk,hyL⟩
    ·omega
    ·refine Nat.le_of_not_lt fun hlt=>hyL ?_
     have hpair:=(F.pair k q y x (by omega) hy U.hx).2.2
     simp only [pairOk,Bool.and_eq_true]at hpair
     have h4:=hpair.1.1.2
     have hr1:=rankD_succ (map_get hy)
     rw [if_neg hyk]at hr1
     have hr2:rankD (dis.map (·.2)) (k+1)≤rankD (dis.map (·.2)) m:=rankD_mono (by omega)
     have hlt2:rankAt dis k<x.2.snap:=by rw [rankAt_eq];omega
     have hne:(y.2.kind != .read)=true:=by simpa using hyk
     simp only [hrd,hne,beq_self_eq_true,Bool.and_self,Bool.not_true,Bool.false_or,if_pos hlt2]at h4
     exact ready_sure F I U (fit_lt F hy) h4
   have hgr:=T.grows hc hl a3 k hmk hk' (fun p d g1 g2 hd hdk=>by
    obtain ⟨y,hy,e⟩:=get_map hd
    subst e
    have hyL:=M.front p y g2 hy hdk
    have hne:(y.2.kind != .read)=true:=by simpa using hdk
    rcases Nat.lt_trichotomy p q with hh|hh|hh
    ·have hpair:=(F.pair p q y x hh hy U.hx).2.2
     simp only [pairOk,Bool.and_eq_true]at hpair
     have h4:=hpair.1.1.2
     have hr2:rankD (dis.map (·.2)) m≤rankD (dis.map (·.2)) p:=rankD_mono g1
     have hlt2:¬rankAt dis p<x.2.snap:=by rw [rankAt_eq];omega
     simp only [hrd,hne,beq_self_eq_true,Bool.and_self,Bool.not_true,Bool.false_or,if_neg hlt2,Bool.or_eq_true,Bool.and_eq_true,beq_iff_eq,decide_eq_true_eq]at h4
     rcases h4 with h4|h4
     ·exact .inl h4
     ·exact .inr ⟨h4.1.2,h4.2⟩
    ·subst hh
     have:y=x:=Option.some.inj (hy.symm.trans U.hx)
     subst this
     exact absurd hk hdk
    ·by_cases hal:y.2.op.cls=.alloc
     ·exact .inl hal
     ·have hhp:y.2.op.cls=.heap:=(fit_cls F hy hdk).resolve_left hal
      have hpair:=(F.pair q p x y hh U.hx hy).2.2
      simp only [pairOk,Bool.and_eq_true]at hpair
      have h4:=hpair.1.2
      cases hbb:bitAt bs y.1 x.1 with
      | true=>exact absurd (sure_listed F I y.1 hyL x.1 (fit_lt F U.hx) hbb) U.not
      | false =>
       simp only [hrd,hhp,hbb,beq_self_eq_true,Bool.and_self,Bool.not_true,Bool.false_or,Bool.or_false,Bool.and_eq_true,beq_iff_eq,decide_eq_true_eq]at h4
       exact .inr ⟨h4.1,by omega⟩)
    (fun p d hd ha=>by
     obtain ⟨y,hy,e⟩:=get_map hd
     subst e
     exact alloc_kind F hy ha)
   intro r hmk0 hobj
   obtain ⟨ob,hget⟩:=hobj
   have hmk':mark (E q) x.2.op=some r:=by rw [mark_congr (tmps_reads maskE_agree)];exact hmk0
   have htgt':=mark_target hmk'
   have hid:=get_lt hget
   rw [a2]at hget hid ⊢
   have hid2:r.1<(headH (HS k)).n:=Nat.lt_of_lt_of_le hid (T.keeps hc hl hmk hk').n
   refine Unhurt.trans (hgr r hid (fun p d g1 g2 hd hdk hna=>?_)) (.of_get (p3 r.1 hid2))
   rcases Nat.lt_trichotomy p q with hh|hh|hh
   ·refine .inr fun hL=>?_
    have h6:=(T.logs (m:=p+1) q (by omega) (by simp;omega)).2 ((HS p).length-1,r.1) hL
    rw [htgt']at hfree
    have h7:=List.all_eq_true.1 hfree _ h6
    have h8:=(T.shape p (by simp;omega)).2
    have hr2:rankD (dis.map (·.2)) m≤rankD (dis.map (·.2)) p:=rankD_mono g1
    have hid0:Nat.beq r.1 r.1=true:=Nat.beq_refl r.1
    simp only [hid0,Bool.not_true,Bool.or_false]at h7
    have h9:(HS p).length-1+1≤x.2.snap:=Nat.le_of_ble_eq_true h7
    omega
   ·subst hh
    obtain ⟨y,hy,e⟩:=get_map hd
    subst e
    have:y=x:=Option.some.inj (hy.symm.trans U.hx)
    subst this
    rw [hk]at hdk;cases hdk
   ·cases hcm:x.2.calm with
    | false =>
     rw [hcm,hmk']at hlog
     exact .inl ((T.logs (m:=q+1) p (by omega) (by have:=(List.getElem?_eq_some_iff.1 hd).1;omega)).1 r (by rw [hlog];exact List.mem_cons_self ..))
    | true =>
     obtain ⟨y,hy,e⟩:=get_map hd
     subst e
     have hdk':y.2.kind≠.read:=by rw [hdk];exact fun e=>by cases e
     have hyL:=M.front p y g2 hy hdk'
     have hhp:y.2.op.cls=.heap:=(fit_cls F hy hdk').resolve_left hna
     have hpair:=(F.pair q p x y hh U.hx hy).2.2
     simp only [pairOk,Bool.and_eq_true]at hpair
     have h4:=hpair.2
     simp only [hcm,hhp,beq_self_eq_true,Bool.and_self,Bool.not_true,Bool.false_or]at h4
     exact absurd (sure_listed F I y.1 hyL x.1 (fit_lt F U.hx) h4) U.not
 obtain ⟨_,nx,v,r1,r2,r3⟩:=read_sound hop htc p1 hEm hst2
 exact ⟨nx,v,r1,r2,r3⟩
theorem draw_step (F:Fit P ops dis bs) (T:Trace call (dis.map (·.2)) env [h] .start E HS LS V B) (hc:CallKeeps call) (hcall:CallSound P call) (hl:h.lim≤h.n) (I:InvE ops dis HS V env listed a ĉ (headH (HS k)).n) (M:InvM dis E HS B c listed k ĉ)
  (hmax:Max dis listed k) {q:Nat} {x:Nat×DOper} {o:Oper} (U:Up ops dis listed q x o) {K:Act→World→Prop} {Q:Exit→Act→World→Prop}
  (hK:∀a' ĉ1 k1,InvE ops dis HS V env (listed.setIfInBounds x.1 true) a' ĉ1 (headH (HS k1)).n→InvM dis E HS B c (listed.setIfInBounds x.1 true) k1 ĉ1→Max dis (listed.setIfInBounds x.1 true) k1→K a' ĉ1.w) :
  wpOp P ops.toArray Q x.1 K a ĉ.w:=by
 have fin:∀a' ĉ1 k1 m1,m1≤(headH (HS k1)).n→InvE ops dis HS V env (listed.setIfInBounds x.1 true) a' ĉ1 m1→InvM dis E HS B c (listed.setIfInBounds x.1 true) k1 ĉ1→K a' ĉ1.w:=by
  intro a' ĉ1 k1 m1 hm I1 M1
  obtain ⟨k2,ĉ2,_,g1,g2,g3,g4,g5⟩:=M1.advance F T hc hl _ k1 ĉ1 rfl
  rw [←g2]
  exact hK a' ĉ2 k2 (I1.mono g3 (by omega)) g4 g5
 have hq:q<dis.length:=(List.getElem?_eq_some_iff.1 U.hx).1
 have hnq:=(T.keeps hc hl (by omega:q≤q+1) (by simp;omega)).n
 obtain ⟨o',kk,ss,d',ho',hcomp,hd1,hd2,hd3⟩:=F.comp q x U.hx
 have hoo:o'=o:=Option.some.inj (ho'.symm.trans U.ho)
 subst hoo
 obtain ⟨hop,hguard,hdst,_,_⟩:=compOper_inv hcomp
 rw [hd1]at hop
 rw [hd2]at hguard
 rw [hd3]at hdst
 obtain ⟨⟨hw,g,gs,hg,hf,ht⟩,_⟩:=T.step q x.2 (map_get U.hx)
 have hgq:headH (HS q)=g:=by rw [hg];rfl
 have hEm:=mask_env F T hc hl I U
 have hwant:=wanted_sound hguard hEm (b:=B q) (by rw [wanted_mask guard_reads];exact hw)
 have hkf:=F.kind q x U.hx
 unfold wpOp
 have hoa:ops.toArray[x.1]?=some o':=by simpa using U.ho
 simp only [hoa,hwant]
 rw [←hdst]
 have ge:x.2.kind≠.read→k≤q:=fun hk=>Nat.le_of_not_lt fun hlt=>U.not (M.front q x hlt U.hx hk)
 have hcls:x.2.kind≠.read→x.2.op.cls=.alloc∨x.2.op.cls=.heap:=by
  intro hk
  unfold kindFits at hkf
  cases hc:x.2.op.cls<;>rw [hc]at hkf<;>first|exact .inl rfl|exact .inr rfl|skip
  all_goals (cases hkk:x.2.kind<;>rw [hkk]at hkf<;>first|exact absurd hkk hk|cases hkf)
 cases hb:B q with
 | false =>
  rw [if_neg (by simp)]
  have hV:=(hf hb).1
  by_cases hk:x.2.kind=.read
  ·exact fin _ ĉ k _ (Nat.le_refl _) (I.mark F (fun _=>.refl _) (Nat.le_refl _) U (by rw [hV];exact .undef)) (M.same F I U hk)
  ·rcases hcls hk with ha|hh
   ·exact fin _ ĉ k _ (Nat.le_refl _) (I.mark F (fun _=>.refl _) (Nat.le_refl _) U (by rw [hV];exact .undef)) (M.idle F I U ha hb)
   ·have hqk:=heap_next F I M hmax U hh hk
    subst hqk
    have hsame:=T.same U.hx (.inr hb)
    obtain ⟨ĉ1,e1,e2,e3,e4⟩:=M.turn F T hc hl I U (w':=ĉ.w) (v:=Go.undef) (d:=undefD) (by rw [hsame];exact Post.pure M.rel .undef)
    rw [←e1]
    exact fin _ ĉ1 (q+1) (headH (HS (q+1))).n (Nat.le_refl _) (I.mark F e2 hnq U (by rw [hV];exact .undef)) e3
 | true =>
  rw [if_pos rfl]
  refine .inl ?_
  by_cases hk:x.2.kind=.read
  ·obtain ⟨hsame,nx,v,r1,r2,r3⟩:=read_up F T hc hl I M hmax U hop hk hb
   unfold Oper.wp
   rw [r1]
   have key:K (a.put x.2.dst v) ĉ.w:=fin _ ĉ k _ (Nat.le_refl _) (I.mark F (fun _=>.refl _) (Nat.le_refl _) U (by rw [hsame];exact r3)) (M.same F I U hk)
   rw [hdst]at key
   rcases r2 with rfl|⟨rfl,rfl⟩
   ·exact key
   ·exact key
  ·rcases hcls hk with ha|hh
   ·obtain ⟨ety,sz,xs,hm1,e1,e2⟩:=T.alloc (map_get U.hx) ha (alloc_kind F U.hx ha) hb
    have hnk2:max (headH (HS q)).n (headH (HS k)).n=(headH (HS q)).n:=by
     have:=(T.keeps hc hl (ge hk) (by simp;omega)).n
     omega
    rw [hnk2]at hEm
    have hm2:made (maskE (E q) x.2.reads) x.2.op=some (ety,sz,xs):=by rw [←made_congr (tmps_reads maskE_agree)];exact hm1
    obtain ⟨w',cur,val,r1,r2,r3,r4,r5,r6,r7,r8,r9,r10⟩:=made_run hop ha hEm hm2
    obtain ⟨ĉ1,f1,f2,f3,f4⟩:=M.early F T hc hl I U (ge hk) ha hm1 hb r2 r3 r4 r5 r6 r7 r8 r9
    unfold Oper.wp
    have r1':(execOp a.eval o').run P ĉ.w=.ok (.value val) w':=r1
    rw [r1']
    have key:K (a.put x.2.dst val) ĉ1.w:=by
     refine fin _ ĉ1 k _ (Nat.le_refl _) (I.mark F f2 (Nat.le_refl _) U ?_) f3
     rw [e1,e2]
     refine r10 _ _ (by rw [cut_lt (by rw [n_push];omega)];exact f4) ?_
     show World.shape? ĉ1.w ĉ.w.heap.size=_
     have r5':w'.heap[ĉ.w.heap.size]?=some (.cells cur ety (0,0)):=r5
     rw [f1]
     simp only [World.shape?,r5',r7]
    rw [f1,hdst]at key
    exact key
   ·have hqk:=heap_next F I M hmax U hh hk
    subst hqk
    have hEk:EnvR (ĉ.cut (headH (HS q)).n) (maskE (E q) x.2.reads) a:=by rw [Nat.max_self]at hEm;exact hEm
    have go:∀v w',Post (headH (HS q)) (ĉ.cut (headH (HS q)).n) (headH (HS (q+1))) w' (V q) v→K (a.put o'.dst v) w':=by
     intro v w' hp
     obtain ⟨ĉ1,e1,e2,e3,e4⟩:=M.turn F T hc hl I U hp
     rw [←e1,←hdst]
     exact fin _ ĉ1 (q+1) (headH (HS (q+1))).n (Nat.le_refl _) (I.mark F e2 hnq U (by rw [Nat.max_self];exact e4)) e3
    rcases ht hb with ⟨hk2,_⟩|⟨_,_,h1,s1,s2⟩|⟨_,_,h0,h1,s0,s1,s2⟩|⟨_,ids,h1,s1,_,_,s2,_⟩
    rotate_right
    ·rw [oneOp_congr (tmps_reads maskE_agree),←hgq]at s1
     have hh1:headH (HS (q+1))=h1:=by rw [s2];rfl
     exact one_sound hcall hop M.rel hEk s1 K Q (fun v w' hp=>go v w' (by rw [hh1];exact hp))
    ·exact absurd hk2 hk
    ·rw [oneOp_congr (tmps_reads maskE_agree),←hgq]at s1
     have hh1:headH (HS (q+1))=h1:=by rw [s2];rfl
     exact one_sound hcall hop M.rel hEk s1 K Q (fun v w' hp=>go v w' (by rw [hh1];exact hp))
    ·have hh1:headH (HS (q+1))=h1:=by rw [s2];rfl
     unfold heapOp at s1
     split at s1
     ·rename_i v2 h2 s3
      cases s1
      rw [oneOp_congr (tmps_reads maskE_agree),←hgq]at s3
      obtain ⟨m,a1,a2,_⟩:=T.snap q (by simp;omega) _ _ s0
      have hkk:=T.keeps1 hc hl q (by simp;omega)
      have hlim:max h0.n (headH (HS q)).lim≤(headH (HS q)).n:=Nat.max_le.2 ⟨by rw [a2];exact (hkk.2 m a1).n,hkk.1⟩
      have hk2:=(oneOp_keeps hc (h:={headH (HS q) with lim:=max h0.n (headH (HS q)).lim}) hlim s3).n
      refine one_sound hcall hop (M.rel.setLim hlim) hEk s3 K Q (fun v w' hp=>go v w' ?_)
      obtain ⟨ρ',p1,p2,p3⟩:=hp
      rw [hh1,←hgq]
      exact ⟨ρ',p1.setLim (Nat.le_trans hkk.1 hk2),p2,p3⟩
     ·cases s1
end
end Go.Dm
/-
Part 26 of "Dm": runs do what the machine says.
-/
namespace Go.Dm
theorem gd_both {listed:Array Bool} {i:Nat} (h:listed.getD i true=false):listed.getD i false=false:=by
 rcases Nat.lt_or_ge i listed.size with h'|h'
 ·simp [h']at h ⊢;exact h
 ·simp [h']at h
theorem gd_in {listed:Array Bool} {i:Nat} (hi:i<listed.size) (h:listed.getD i false=false):listed.getD i true=false:=by
 simp [hi]at h ⊢;exact h
theorem gd_rep (m j:Nat):(Array.replicate m false).getD j false=false:=by
 rcases Nat.lt_or_ge j m with h|h
 ·simp [h]
 ·simp [h]
section
variable {P:Program} {call:CallF} {ops:List Oper} {dis:List (Nat×DOper)} {bs:List Nat} {E:Nat→Env} {HS:Nat→List Heap} {LS:Nat→DLog} {V:Nat→DV} {B:Nat→Bool} {c ĉ ĉ1:Ctx} {env:Env} {h:Heap}
 {listed:Array Bool} {a:Act} {k m0:Nat}
theorem ready_up {j:Nat} (hj:j∈Region.ready .any ops.toArray listed) (F:Fit P ops dis bs):∃ q x o,Up ops dis listed q x o∧x.1=j:=by
 obtain ⟨h1,o,ho,hall⟩:=mem_ready.1 hj
 have ho':ops[j]?=some o:=by simpa using ho
 have hlt:j<ops.length:=(List.getElem?_eq_some_iff.1 ho').1
 obtain ⟨q,x,hx,he⟩:=F.all j hlt
 subst he
 refine ⟨q,x,o,⟨hx,ho',?_,fun e he hb=>hall e (Array.mem_toList_iff.1 he) hb⟩,rfl⟩
 unfold Li
 rw [gd_both h1]
 simp
theorem none_ready (F:Fit P ops dis bs) (hsize:listed.size=ops.length) (hr:Region.ready .any ops.toArray listed=[]):∀(q:Nat) (x:Nat×DOper),dis[q]?=some x→Li listed x.1:=by
 intro q
 induction q using Nat.strongRecOn with
 | _ q ih =>
  intro x hx
  refine Classical.byContradiction fun hn=>?_
  obtain ⟨o,_,_,_,ho,_⟩:=F.comp q x hx
  have hmem:x.1∈Region.ready .any ops.toArray listed:=by
   rw [mem_ready]
   refine ⟨gd_in (by rw [hsize];exact fit_lt F hx) (by unfold Li at hn;simpa using hn),o,by simpa using ho,fun e he hb=>?_⟩
   have he':=Array.mem_toList_iff.2 he
   obtain ⟨h1,h2⟩:=F.edge x.1 o e ho he' hb
   obtain ⟨p,y,hy,hye⟩:=F.all e.on (Nat.lt_trans h2 (fit_lt F hx))
   rcases Nat.lt_trichotomy p q with hh|hh|hh
   ·have:=ih p hh y hy
    rw [hye]at this
    exact this
   ·subst hh
    have:y=x:=Option.some.inj (hy.symm.trans hx)
    subst this
    omega
   ·have:=(F.pair q p x y hh hx hy).2.1
    rw [hye]at this
    rw [h1]at this
    cases this
  rw [hr]at hmem
  cases hmem
theorem draw_done (F:Fit P ops dis bs) (T:Trace call (dis.map (·.2)) env [h] .start E HS LS V B) (hc:CallKeeps call) (hl:h.lim≤h.n) (I:InvE ops dis HS V env listed a ĉ (headH (HS k)).n) (M:InvM dis E HS B c listed k ĉ) (hmax:Max dis listed k)
  (hall:∀(q:Nat) (x:Nat×DOper),dis[q]?=some x→Li listed x.1):St c (headH (HS dis.length)) (E dis.length) a ĉ.w:=by
 have hk:k=dis.length:=hmax.resolve_right fun ⟨x,hx,_,hn⟩=>hn (hall k x hx)
 subst hk
 have hE:ĉ.E=c.E:=by
  funext b
  refine propext ⟨fun hb=>(M.E b hb).resolve_right fun ⟨id,h1,h2⟩=>?_,M.cE b⟩
  obtain ⟨_,_,p,y,h3,h4,_⟩:=M.dom id b 0 h1 h2
  have:=(List.getElem?_eq_some_iff.1 h4).1
  omega
 have hcut:ĉ.cut (headH (HS dis.length)).n=c.next ĉ.w (ĉ.cut (headH (HS dis.length)).n).ρ (headH (HS dis.length)):=by
  have hO:ĉ.O=fun b=>ownB (headH (HS dis.length)) (ĉ.cut (headH (HS dis.length)).n).ρ b∨c.E b:=by
   funext b
   have:=M.rel.own b
   rw [←hE]
   exact propext this
  have hτ:ĉ.τ=c.τ:=M.le.tok
  simp only [Ctx.next,Ctx.cut]at hO ⊢
  rw [hO,hE,M.X,hτ]
 refine ⟨(ĉ.cut (headH (HS dis.length)).n).ρ,by rw [←hcut];exact M.rel,by rw [←hcut];exact M.le,?_⟩
 rw [←hcut]
 have hlen:dis.length≤(dis.map (·.2)).length:=by simp
 refine ⟨by rw [T.len _ hlen];exact I.asize,I.defers,fun t ht=>?_⟩
 have ht':t<env.length:=by rw [T.len _ hlen]at ht;exact ht
 by_cases hw:∃ (p:Nat) (y:Nat×DOper),dis[p]?=some y∧y.2.dst=some t
 ·obtain ⟨p,y,hy,hd⟩:=hw
  have hp:=(List.getElem?_eq_some_iff.1 hy).1
  have e:=T.new (map_get hy) hd ht' dis.length hp hlen (fun p' d' a1 a2 hd'=>by
   obtain ⟨y',e1,e2⟩:=get_map hd'
   subst e2
   exact fit_dst F a1 hy e1 hd)
  have e2:(E dis.length)[t]=V p:=by rw [List.getElem?_eq_getElem ht]at e;exact Option.some.inj e
  rw [e2]
  have hn:=(T.keeps hc hl (by omega:p+1≤dis.length) hlen).n
  exact (I.vals p y t hy (hall p y hy) hd ht').mono (cut_le (by omega))
 ·have e:=T.old (t:=t) dis.length hlen (fun p d hp hd e=>by
   obtain ⟨y,e1,e2⟩:=get_map hd
   subst e2
   exact hw ⟨p,y,e1,e⟩)
  have hn:=(T.keeps hc hl (Nat.zero_le dis.length) hlen).n
  have:=(I.olds t fun p y hy _ hd=>hw ⟨p,y,hy,hd⟩).mono (cut_le (M:=(headH (HS dis.length)).n) (by omega))
  rw [←e,List.getElem?_eq_getElem ht]at this
  exact this
def unl (ops:List Oper) (listed:Array Bool):Nat:=(List.range ops.length).countP fun i=>!(listed.getD i false)
theorem draw_any (F:Fit P ops dis bs) (T:Trace call (dis.map (·.2)) env [h] .start E HS LS V B) (hc:CallKeeps call) (hcall:CallSound P call) (hl:h.lim≤h.n) {Q:Exit→Act→World→Prop}
  (hQ:∀a' w',St c (headH (HS dis.length)) (E dis.length) a' w'→Q .normal a' w'):∀(fuel:Nat) (listed:Array Bool) (a:Act) (ĉ:Ctx) (k:Nat),unl ops listed≤fuel →
  InvE ops dis HS V env listed a ĉ (headH (HS k)).n→InvM dis E HS B c listed k ĉ→Max dis listed k→wpAny P .any ops.toArray Q fuel listed a ĉ.w:=by
 intro fuel
 induction fuel with
 | zero =>
  intro listed a ĉ k hu I M hmax
  have hz:unl ops listed=0:=by omega
  unfold unl at hz
  rw [List.countP_eq_zero]at hz
  have hr:Region.ready .any ops.toArray listed=[]:=by
   rw [List.eq_nil_iff_forall_not_mem]
   intro j hj
   obtain ⟨q,x,o,U,e⟩:=ready_up hj F
   refine U.not ?_
   have:=hz x.1 (List.mem_range.2 (fit_lt F U.hx))
   unfold Li
   simpa using this
  exact ⟨hr,hQ _ _ (draw_done F T hc hl I M hmax (none_ready F I.size hr))⟩
 | succ fuel ih =>
  intro listed a ĉ k hu I M hmax
  refine ⟨fun hr=>hQ _ _ (draw_done F T hc hl I M hmax (none_ready F I.size hr)),fun j hj=>?_⟩
  obtain ⟨q,x,o,U,e⟩:=ready_up hj F
  subst e
  refine draw_step F T hc hcall hl I M hmax U fun a' ĉ1 k1 I1 M1 hmax1=>ih _ a' ĉ1 k1 ?_ I1 M1 hmax1
  have hlt:x.1<listed.size:=by rw [I.size];exact fit_lt F U.hx
  have:unl ops (listed.setIfInBounds x.1 true)<unl ops listed:=by
   refine countP_lt (i:=x.1) ?_ ?_ _ (fun y _ hy=>?_) (List.mem_range.2 (fit_lt F U.hx))
   ·have:=U.not;unfold Li at this;simpa using this
   ·have:=(Li_set (listed:=listed) (i:=x.1) hlt).2 (.inr rfl)
    unfold Li at this
    rw [this];rfl
   ·have h2:¬Li (listed.setIfInBounds x.1 true) y:=by unfold Li;simpa using hy
    have h3:¬Li listed y:=fun h3=>h2 ((Li_set hlt).2 (.inl h3))
    unfold Li at h3
    simpa using h3
  omega
theorem draw_sound (hm:P.follows .mixedOrders=true) {id:Nat} {ops:Array Oper} {ds:List DOper} (hcomp:compRegion P ops.toList true=some (.draw ds)) (hc:CallKeeps call) (hcall:CallSound P call) {env':Env} {h':Heap}
  (hrun:runDraw call ds env [h] .start=some (env',h')) (hR:Rel h c) (hE:EnvR c env a) {Q:Exit→Act→World→Prop} (hQ:∀a' w',St c h' env' a' w'→Q .normal a' w'):(Code.region id ops true).wp P Q a c.w:=by
 obtain ⟨dis,bs,e,F⟩:=compRegion_fit hcomp
 have e:ds=dis.map (·.2):=by cases e;rfl
 subst e
 obtain ⟨E,HS,LS,V,B,T,t1,gs,t2⟩:=trace_of_run _ _ _ _ _ _ hrun
 refine wp_region_any hm ?_
 have hlen:(dis.map (·.2)).length=dis.length:=by simp
 rw [hlen]at t1 t2
 have hQ':∀a' w',St c (headH (HS dis.length)) (E dis.length) a' w'→Q .normal a' w':=fun a' w' hst=>hQ a' w' (by rw [t2]at hst;rw [←t1];exact hst)
 let ĉ:Ctx:={c with w:={c.w with drawn:=c.w.drawn+1}}
 have hH0:headH (HS 0)=h:=by rw [T.H0];rfl
 have hself:c.next c.w c.ρ h=c:=hR.same
 have hĉ:ĉ=c.next {c.w with drawn:=c.w.drawn+1} c.ρ h:=by
  have:c.O=fun b=>ownB h c.ρ b∨c.E b:=by funext b;exact propext (hR.own b)
  simp only [ĉ,Ctx.next]
  rw [this]
 obtain ⟨r1,r2⟩:=hR.heapEq {c.w with drawn:=c.w.drawn+1} rfl
 rw [←hĉ]at r1 r2
 have hcs:=cut_self r1
 have hsz:(Array.replicate ops.size false).size=ops.toList.length:=by simp
 have hno:∀i,¬Li (Array.replicate ops.size false) i:=fun i=>by unfold Li;rw [gd_rep];simp
 have I0:InvE ops.toList dis HS V env (Array.replicate ops.size false) a ĉ (headH (HS 0)).n :=
  ⟨hsz,fun j o _ hj=>absurd hj (hno j),hE.size,hE.defers,fun p x t _ hL=>absurd hL (hno _),fun t _=>by
   rw [Nat.max_self,hH0,hcs]
   exact (hE.get t).mono r2⟩
 have hdom:∀id,(headH (HS 0)).n≤id→ĉ.ρ id=none:=fun id hid=>by
  cases hr:ĉ.ρ id with
  | none=>rfl
  | some p =>
   have:=r1.dom id (by rw [hr];simp)
   rw [hH0]at hid
   omega
 have M0:InvM dis E HS B c (Array.replicate ops.size false) 0 ĉ :=
  ⟨Nat.zero_le _,fun p x hp=>absurd hp (Nat.not_lt_zero _),by rw [hH0,hcs];exact r1,by rw [hH0,hcs];exact r2,rfl,fun b hb=>.inl hb,fun b hb=>hb,fun id b x hid hr=>(by rw [hdom id hid]at hr;cases hr),
   fun p x _ _ _ hL=>absurd hL (hno _),fun id id' b h1 _ h3=>(by rw [hdom id h1]at h3;cases h3)⟩
 obtain ⟨k1,ĉ1,_,g1,g2,g3,g4,g5⟩:=M0.advance F T hc (by exact hR.lim) _ 0 ĉ rfl
 have:=draw_any F T hc hcall hR.lim hQ' ops.size (Array.replicate ops.size false) a ĉ1 k1 (by
  unfold unl
  refine Nat.le_trans List.countP_le_length ?_
  simp) (I0.mono g3 g1) g4 g5
 rw [g2]at this
 have e:ops.toList.toArray=ops:=by simp
 rw [e]at this
 exact this
end
end Go.Dm
/-
Part 29 of "Dm" (ahead of part 27): a call on a row of unknown capacity, run under each capacity that makes a difference.
-/
namespace Go.Dm
theorem VR.belowN {c:Ctx} {d:DV} {v:Value} (h:VR c d v) {N:Nat}:∀n,Dm.below n N d=true→VR (c.cut N) d v:=by
 induction h with
 | unk v=>intro n _;exact .unk v
 | bool b=>intro n _;exact .bool b
 | int k m=>intro n _;exact .int k m
 | atl h=>intro n _;exact .atl h
 | tok h=>intro n _;exact .tok h
 | str s=>intro n _;exact .str s
 | nilp=>intro n _;exact .nilp
 | ptr h =>
  intro n hb
  cases n with
  | zero=>simp [Dm.below]at hb
  | succ n =>
   simp only [Dm.below,decide_eq_true_eq]at hb
   exact .ptr (by rw [cut_lt hb];exact h)
 | iptr vals hb hO hX hc hv _=>intro n _;exact .iptr vals hb hO hX hc hv
 | nsl a=>intro n _;exact .nsl a
 | sl h hs hn hl ho =>
  intro n hb
  cases n with
  | zero=>simp [Dm.below]at hb
  | succ n =>
   simp only [Dm.below,decide_eq_true_eq]at hb
   exact .sl (by rw [cut_lt hb];exact h) hs hn hl ho
 | isl0 a cap=>intro n _;exact .isl0 a cap
 | isl vals hlen hcap hb hO hX hsz hc hv _=>intro n _;exact .isl vals hlen hcap hb hO hX hsz hc hv
 | nmap=>intro n _;exact .nmap
 | map h =>
  intro n hb
  cases n with
  | zero=>simp [Dm.below]at hb
  | succ n =>
   simp only [Dm.below,decide_eq_true_eq]at hb
   exact .map (by rw [cut_lt hb];exact h)
 | func hl _ ih =>
  intro n hb
  cases n with
  | zero=>simp [Dm.below]at hb
  | succ n =>
   simp only [Dm.below,List.all_eq_true]at hb
   exact .func hl fun i h1 h2=>ih i h1 h2 n (hb _ (List.getElem_mem h1))
 | nilf=>intro n _;exact .nilf
 | iface _ ih =>
  intro n hb
  cases n with
  | zero=>simp [Dm.below]at hb
  | succ n =>
   simp only [Dm.below]at hb
   exact .iface (ih n hb)
 | nili=>intro n _;exact .nili
 | agg hl h1 _ ih =>
  intro n hb
  cases n with
  | zero=>simp [Dm.below]at hb
  | succ n =>
   simp only [Dm.below,List.all_eq_true]at hb
   exact .agg hl h1 fun i h1 h2=>ih i h1 h2 n (hb _ (List.getElem_mem h1))
 | tup hl _ ih =>
  intro n hb
  cases n with
  | zero=>simp [Dm.below]at hb
  | succ n =>
   simp only [Dm.below,List.all_eq_true]at hb
   exact .tup hl fun i h1 h2=>ih i h1 h2 n (hb _ (List.getElem_mem h1))
theorem VR.cut_old {c0:Ctx} {d:DV} {v0:Value} (h:VR c0 d v0) {N:Nat} (hd:∀id,c0.ρ id≠none→id<N):∀{c:Ctx} {v:Value},VR c d v→VR (c.cut N) d v:=by
 induction h with
 | unk v=>intro c v _;exact .unk v
 | bool b=>intro c v h;cases h;exact .bool b
 | int k m=>intro c v h;cases h;exact .int k m
 | atl h0=>intro c v h;cases h;exact .atl (by assumption)
 | tok h0=>intro c v h;cases h;exact .tok (by assumption)
 | str s=>intro c v h;cases h;exact .str s
 | nilp=>intro c v h;cases h;exact .nilp
 | ptr h0 =>
  intro c v h
  cases h with
  | ptr h1=>exact .ptr (by rw [cut_lt (hd _ (by rw [h0];simp))];exact h1)
 | iptr vals hb hO hX hc hv _ =>
  intro c v h
  cases h with
  | iptr vals hb hO hX hc hv=>exact .iptr vals hb hO hX hc hv
 | nsl a=>intro c v h;cases h;exact .nsl _
 | sl h0 _ _ _ _ =>
  intro c v h
  cases h with
  | sl h1 hs hn hl ho=>exact .sl (by rw [cut_lt (hd _ (by rw [h0];simp))];exact h1) hs hn hl ho
 | isl0 a cap =>
  intro c v h
  cases h with
  | isl0 a cap=>exact .isl0 a cap
  | isl vals hlen hcap hb hO hX hsz hc hv=>exact .isl vals hlen hcap hb hO hX hsz hc hv
 | isl _ _ _ _ _ _ _ _ _ _ =>
  intro c v h
  cases h with
  | isl0 a cap=>exact .isl0 a cap
  | isl vals hlen hcap hb hO hX hsz hc hv=>exact .isl vals hlen hcap hb hO hX hsz hc hv
 | nmap=>intro c v h;cases h;exact .nmap
 | map h0 =>
  intro c v h
  cases h with
  | map h1=>exact .map (by rw [cut_lt (hd _ (by rw [h0];simp))];exact h1)
 | func hl0 _ ih =>
  intro c v h
  cases h with
  | func hl hv=>exact .func hl fun i h1 h2=>ih i h1 (by omega) hd (hv i h1 h2)
 | nilf=>intro c v h;cases h;exact .nilf
 | iface _ ih =>
  intro c v h
  cases h with
  | iface h1=>exact .iface (ih hd h1)
 | nili=>intro c v h;cases h;exact .nili
 | agg hl0 _ _ ih =>
  intro c v h
  cases h with
  | agg hl h1 hv=>exact .agg hl h1 fun i h1 h2=>ih i h1 (by omega) hd (hv i h1 h2)
 | tup hl0 _ ih =>
  intro c v h
  cases h with
  | tup hl hv=>exact .tup hl fun i h1 h2=>ih i h1 (by omega) hd (hv i h1 h2)
section
variable {h:Heap} {c:Ctx}
theorem split_in (hR:Rel h c) {id ety sz off len:Nat} {xs:List DV} (hg:h.get id=some (.arr ety sz xs none)) {v:Value} (hv:VR c (.sl id sz off len) v) (k:Nat) :
  ∃ e cap ρ1,((e=k∧cap=none)∨(e<k∧cap=some (xs.length+e))) ∧
   Rel ((h.set id .dead).push (.arr ety sz (xs++List.replicate e .unk) cap)) (c.next c.w ρ1 ((h.set id .dead).push (.arr ety sz (xs++List.replicate e .unk) cap))) ∧
   CtxLe c (c.next c.w ρ1 ((h.set id .dead).push (.arr ety sz (xs++List.replicate e .unk) cap))) ∧
   VR (c.next c.w ρ1 ((h.set id .dead).push (.arr ety sz (xs++List.replicate e .unk) cap))) (.sl h.n sz off len) v:=by
 obtain ⟨b,base,cap',coff,nn,ety',hvx,hρ,hshape,hmm,hlc,hco⟩:=hv.sl_inv
 obtain ⟨cur,m,g1,g2,g3,g4,g5,g6⟩:=hR.arr hg hρ
 have hone:=hR.oneRow hg hρ g1
 have main:∀e cap,xs.length+e≤m→(∀q,cap=some q→q=m∧(xs++List.replicate e DV.unk).length=m) →
   ∃ ρ1,Rel ((h.set id .dead).push (.arr ety sz (xs++List.replicate e .unk) cap)) (c.next c.w ρ1 ((h.set id .dead).push (.arr ety sz (xs++List.replicate e .unk) cap))) ∧
   CtxLe c (c.next c.w ρ1 ((h.set id .dead).push (.arr ety sz (xs++List.replicate e .unk) cap))) ∧
   VR (c.next c.w ρ1 ((h.set id .dead).push (.arr ety sz (xs++List.replicate e .unk) cap))) (.sl h.n sz off len) v:=by
  intro e cap hem hcap
  obtain ⟨k1,k2⟩:=hR.moved (.arr ety sz (xs++List.replicate e .unk) cap) hg rfl rfl (base':=base) hρ c.w rfl (fun _ _=>rfl) (fun _ _ hs=>hs) (.refl _) (fun hle=>by
   refine ⟨b,base,cur,m,by simp [Ctx.next],g1,g2,g3,by simpa using hem,hcap,hone,fun i hi=>?_⟩
   by_cases hx:i<xs.length
   ·rw [List.getElem_append_left hx]
    obtain ⟨a1,a2⟩:=g6 i hx
    refine ⟨a1,fun j hj=>?_⟩
    obtain ⟨u,b1,b2,b3⟩:=a2 j hj
    exact ⟨u,b1,b2,b3.mono hle⟩
   ·rw [List.getElem_append_right (Nat.le_of_not_lt hx)]
    simp only [List.getElem_replicate,ecells,List.length_replicate,true_and]
    intro j hj
    simp only [List.length_append,List.length_replicate]at hi
    have hb:base+i*sz+j<cur.size:=by
     have:(i+1)*sz≤m*sz:=Nat.mul_le_mul_right _ (by omega)
     rw [Nat.add_mul]at this
     omega
    exact ⟨cur[base+i*sz+j],Array.getElem?_eq_getElem hb,hone _ _ (Array.getElem?_eq_getElem hb),.unk _⟩)
  refine ⟨_,k1,k2,?_⟩
  rw [hvx]
  exact .sl (by simp [Ctx.next]) hshape hmm hlc hco
 by_cases hk:xs.length+k≤m
 ·obtain ⟨ρ1,k1,k2,k3⟩:=main k none hk (fun q hq=>by cases hq)
  exact ⟨k,none,ρ1,.inl ⟨rfl,rfl⟩,k1,k2,k3⟩
 ·obtain ⟨ρ1,k1,k2,k3⟩:=main (m-xs.length) (some (xs.length+(m-xs.length))) (by omega) (fun q hq=>by cases hq;simp;omega)
  exact ⟨m-xs.length,_,ρ1,.inr ⟨by omega,rfl⟩,k1,k2,k3⟩
theorem split_out (hR:Rel h c) {id ety sz:Nat} {ob:DO} (hg:h.get id=some ob) {hj:Heap} {w':World} {ρj:Nat→Option (Nat×Nat)} (hRj:Rel hj (c.next w' ρj hj)) (hle:CtxLe c (c.next w' ρj hj))
  (hkeep:∀i,i<h.n→hj.get i=(h.set id .dead).get i) {l:List DV} {r:DV} (hset:settle h ety sz (some (r,hj))=some l) {v:Value} (hv:VR (c.next w' ρj hj) r v) :
  Post h c ((h.set id .dead).push (.arr ety sz l none)) w' (.sl h.n sz 0 l.length) v:=by
 unfold settle at hset
 split at hset
 ·rename_i idj sz' off len h0 heq
  cases heq
  split at hset
  ·rename_i ety' sz'' xs cap hgj
   split at hset
   ·rename_i hcond
    obtain ⟨e1,e2,e3,hidj,hlen,hbel⟩:=hcond
    subst e1;subst e2;subst e3
    cases hset
    have hid:=get_lt hg
    obtain ⟨b,base,cap',coff,nn,ety'',hvx,hρ,hshape,hmm,hlc,hco⟩:=hv.sl_inv
    obtain ⟨cur,m,g1,g2,g3,g4,g5,g6⟩:=hRj.arr hgj hρ
    have hone:=hRj.oneRow hgj hρ g1
    have hll:((xs.drop off).take len).length=len:=by simp;omega
    have hnf:((h.set id .dead).push (.arr ety sz ((xs.drop off).take len) none)).n=h.n+1:=rfl
    let hf:Heap:=(h.set id .dead).push (.arr ety sz ((xs.drop off).take len) none)
    let ρf:Nat→Option (Nat×Nat):=fun i=>if i<h.n then ρj i else if i=h.n then some (b,base+off*sz) else none
    have rlt:∀i,i<h.n→ρf i=ρj i:=fun i hi=>by simp only [ρf,if_pos hi]
    have rn:ρf h.n=some (b,base+off*sz):=by simp [ρf]
    have getf:∀i o,hf.get i=some o→(i=h.n∧o=.arr ety sz ((xs.drop off).take len) none)∨(i<h.n∧hj.get i=some o∧(h.set id .dead).get i=some o):=by
     intro i o hi
     simp only [hf,get_push]at hi
     have e0:(h.set id .dead).n=h.n:=rfl
     rw [e0]at hi
     split at hi
     ·rename_i e;cases hi;exact .inl ⟨e,rfl⟩
     ·have hl:=get_lt hi
      have hl':i<h.n:=hl
      exact .inr ⟨hl',by rw [hkeep i hl'];exact hi,hi⟩
    have hown:∀y,ownB hf ρf y→ownB hj ρj y:=by
     rintro y ⟨i,o,x,hi,ha,hr⟩
     rcases getf i o hi with ⟨e,_⟩|⟨hl,hj',_⟩
     ·subst e
      rw [rn]at hr;cases hr
      exact ⟨idj,_,base,hgj,rfl,hρ⟩
     ·rw [rlt i hl]at hr
      exact ⟨i,o,x,hj',ha,hr⟩
    have hle2:CtxLe ((c.next w' ρj hj).cut h.n) (c.next w' ρf hf) :=
     ⟨fun i p hp=>by
      obtain ⟨h1,h2⟩:=cut_some hp
      show ρf i=some p
      rw [rlt i h1];exact h2,Nat.le_refl _,fun _ _ _=>rfl,fun y hy=>.inl (hy.imp (hown y) (fun x=>x)),fun _ _ _ hs=>hs,fun _ hx=>hx,fun _ _ hE=>⟨hE,rfl⟩,.refl _,rfl⟩
    have hlef:CtxLe c (c.next w' ρf hf) :=
     ⟨fun i p hp=>by
      have hi:i<h.n:=hR.dom i (by rw [hp];simp)
      show ρf i=some p
      rw [rlt i hi];exact hle.rho i p hp,hle.size,hle.frame,fun y hy=>hle.own y (hy.imp (hown y) (fun x=>x)),hle.shape,hle.X,hle.pend,hle.quiet,hle.tok⟩
    have hoff:off+cap'=m:=by
     rw [shape_of_heap g1]at hshape
     cases hshape
     exact sl_room g2 g3 hmm
    refine ⟨ρf,⟨len_push (len_set hR.len),Nat.le_succ_of_le hR.lim,fun i hi=>?_,fun i o hi=>?_,fun i j oi oj y x1 x2 hi hj' hai haj hri hrj=>?_,fun _=>Iff.rfl,fun y hy=>hRj.notX y (hy.imp (hown y) (fun x=>x)),hRj.old,fun y hy=>⟨(hRj.pend y hy).1,fun ho=>(hRj.pend y hy).2 (hown y ho)⟩,hR.glob.mono hlef⟩,hlef,?_⟩
    ·rw [hnf]
     refine Nat.lt_succ_of_le (Nat.le_of_not_lt fun hlt=>hi ?_)
     have h1:¬i<h.n:=by omega
     have h2:i≠h.n:=by omega
     show ρf i=none
     simp only [ρf,if_neg h1,if_neg h2]
    ·rcases getf i o hi with ⟨e,e2⟩|⟨hl,hj',hs⟩
     ·subst e;subst e2
      have hsz:cur.size=base+off*sz+(m-off)*sz:=by
       have:off*sz+(m-off)*sz=m*sz:=by rw [←Nat.add_mul];congr 1;omega
       omega
      refine ⟨b,base+off*sz,cur,m-off,rn,g1,g2,hsz,by rw [hll];omega,(fun k hk=>by cases hk),hone,fun q hq=>?_⟩
      rw [hll]at hq
      have hq':off+q<xs.length:=by omega
      have hx:((xs.drop off).take len)[q]'(by rw [hll];exact hq)=xs[off+q]:=by simp
      obtain ⟨a1,a2⟩:=g6 (off+q) hq'
      rw [hx]
      refine ⟨a1,fun j hjl=>?_⟩
      obtain ⟨u,b1,b2,b3⟩:=a2 j hjl
      have hmem:xs[off+q]∈(xs.drop off).take len:=by rw [←hx];exact List.getElem_mem _
      have hbl:=List.all_eq_true.1 hbel _ hmem
      refine ⟨u,by rw [Nat.add_mul]at b1;rw [←b1];congr 1;omega,b2,?_⟩
      have hcell:Dm.below 200 h.n (ecells sz xs[off+q])[j]=true∨Dm.below 199 h.n (ecells sz xs[off+q])[j]=true:=by
       have key:∀(d:DV) (hjd:j<(ecells sz d).length),Dm.below 200 h.n d=true→Dm.below 200 h.n (ecells sz d)[j]=true∨Dm.below 199 h.n (ecells sz d)[j]=true:=by
        intro d hjd hd
        cases d
        case agg cs =>
         have hd':cs.all (Dm.below 199 h.n)=true:=hd
         exact .inr (List.all_eq_true.1 hd' _ (List.getElem_mem hjd))
        case unk=>simp only [ecells,List.getElem_replicate];exact .inl rfl
        case tup=>simp [ecells]at hjd
        all_goals
         simp only [ecells,List.length_singleton,Nat.lt_one_iff]at hjd
         subst hjd
         exact .inl hd
       exact key _ hjl hbl
      rcases hcell with hc|hc
      ·exact (b3.belowN 200 hc).mono hle2
      ·exact (b3.belowN 199 hc).mono hle2
     ·have hob:=hRj.obj i o hj'
      cases o with
      | dead=>trivial
      | arr ety2 sz2 ys cap2 =>
       have hne:i≠id:=fun e=>by
        subst e
        rw [get_set_same hR.len hg]at hs
        cases hs
       rw [get_set_other hid hne]at hs
       obtain ⟨b2,base2,cur2,m2,q1,q2,q3,q4,q5,q6,q7,q8⟩:=hob
       obtain ⟨b3,base3,cur3,m3,r1,r2,r3,r4,r5,r6,r7,r8⟩:=hR.obj i _ hs
       refine ⟨b2,base2,cur2,m2,by show ρf i=_;rw [rlt i hl];exact q1,q2,q3,q4,q5,q6,q7,fun q hq=>⟨(q8 q hq).1,fun j hjl=>?_⟩⟩
       obtain ⟨u,a1,a2,a3⟩:=(q8 q hq).2 j hjl
       obtain ⟨u0,_,_,a4⟩:=(r8 q hq).2 j hjl
       exact ⟨u,a1,a2,(a4.cut_old hR.dom a3).mono hle2⟩
      | mp es =>
       have hne:i≠id:=fun e=>by
        subst e
        rw [get_set_same hR.len hg]at hs
        cases hs
       rw [get_set_other hid hne]at hs
       obtain ⟨es2,hp2,b2,en2,cl2,q1,q2,q3,q4⟩:=hob
       obtain ⟨es3,hp3,b3,en3,cl3,r1,r2,r3,r4⟩:=hR.obj i _ hs
       refine ⟨es2,hp2,b2,en2,cl2,by show ρf i=_;rw [rlt i hl];exact q1,q2,q3,fun q a1 a2=>?_⟩
       obtain ⟨s1,s2⟩:=q4 q a1 a2
       obtain ⟨q',u1,hq'⟩:=List.getElem_of_mem ((hp2.symm.trans hp3).mem_iff.1 (List.getElem_mem a1))
       obtain ⟨t1,t2⟩:=r4 q' u1 (by omega)
       rw [hq']at t1 t2
       exact ⟨(t1.cut_old hR.dom s1).mono hle2,(t2.cut_old hR.dom s2).mono hle2⟩
    ·rcases getf i oi hi with ⟨e1,_⟩|⟨l1,j1,_⟩<;>rcases getf j oj hj' with ⟨e2,_⟩|⟨l2,j2,_⟩
     ·omega
     ·subst e1
      have hri':ρf h.n=some (y,x1):=hri
      rw [rn]at hri';cases hri'
      have hrj':ρj j=some (b,x2):=by rw [←rlt j l2];exact hrj
      have:=hRj.inj idj j _ oj b base x2 hgj j2 rfl haj hρ hrj'
      omega
     ·subst e2
      have hrj':ρf h.n=some (y,x2):=hrj
      rw [rn]at hrj';cases hrj'
      have hri':ρj i=some (b,x1):=by rw [←rlt i l1];exact hri
      have:=hRj.inj idj i _ oi b base x1 hgj j1 rfl hai hρ hri'
      omega
     ·have hri':ρj i=some (y,x1):=by rw [←rlt i l1];exact hri
      have hrj':ρj j=some (y,x2):=by rw [←rlt j l2];exact hrj
      exact hRj.inj i j oi oj y x1 x2 j1 j2 hai haj hri' hrj'
    ·rw [hll,hvx]
     exact .sl rn hshape (by rw [Nat.zero_mul,Nat.add_zero];exact hmm) hlc (by rw [Nat.zero_mul,Nat.add_zero];exact hco)
   ·cases hset
  ·cases hset
 ·cases hset
end
end Go.Dm
/-
Part 31 of "Dm" (ahead of part 27): pure calls: what is handed in is read off; the callee starts with a heap of its own; what it answers is read off.
-/
namespace Go.Dm
def Ctx.lend (c:Ctx):Ctx:=⟨c.w,fun _=>none,fun _=>False,fun b=>c.O b∨c.X b,fun _=>False,c.τ⟩
theorem Rel.lend {h:Heap} {c:Ctx} (hR:Rel h c):Rel {objs:=[],n:=0,lim:=0} c.lend:=by
 have hg:∀id,({objs:=[],n:=0,lim:=0}:Heap).get id=none:=fun id=>by simp [Heap.get]
 exact ⟨rfl,Nat.le_refl _,fun id h=>absurd rfl h,fun id o h=>(by rw [hg]at h;cases h),fun i j oi oj b x y hi=>(by rw [hg]at hi;cases hi),fun b=>⟨fun h=>h.elim,fun h=>by
  rcases h with ⟨id,o,x,hgi,_⟩|h
  ·rw [hg]at hgi;cases hgi
  ·exact h.elim⟩,fun b h=>h.elim,fun b h=>h.elim (fun h1=>hR.O_lt h1) (fun h1=>hR.old b h1),fun b h=>h.elim,fun b v hv=>⟨(hR.glob b v hv).1,fun h=>h,(hR.glob b v hv).2.2⟩⟩
theorem VR.lendStill {c0:Ctx} {d:DV} {v:Value} (h:VR c0 d v):∀{c:Ctx},c0=c.still→VR c.lend d v:=by
 induction h with
 | unk v=>intro c _;exact .unk v
 | bool b=>intro c _;exact .bool b
 | int k n=>intro c _;exact .int k n
 | atl h=>intro c _;exact .atl h
 | tok h=>intro c e;exact .tok (by rw [e]at h;exact h)
 | str s=>intro c _;exact .str s
 | nilp=>intro c _;exact .nilp
 | ptr h=>intro c e;rw [e]at h;cases h
 | iptr vals hb hO hX hc hv ih =>
  intro c e
  subst e
  exact .iptr vals hb (fun h=>h) (fun hl hx=>hx.elim hO (hX hl)) hc (fun j hj=>ih j hj rfl)
 | nsl a=>intro c _;exact .nsl a
 | sl h=>intro c e;rw [e]at h;cases h
 | isl0 a cap=>intro c _;exact .isl0 a cap
 | isl vals hlen hcap hb hO hX hsz hc hv ih =>
  intro c e
  subst e
  exact .isl vals hlen hcap hb (fun h=>h) (fun hl hx=>hx.elim hO (hX hl)) hsz hc (fun i hi j hj=>ih i hi j hj rfl)
 | nmap=>intro c _;exact .nmap
 | map h=>intro c e;rw [e]at h;cases h
 | func hl _ ih=>intro c e;exact .func hl fun i h1 h2=>ih i h1 h2 e
 | nilf=>intro c _;exact .nilf
 | iface _ ih=>intro c e;exact .iface (ih e)
 | nili=>intro c _;exact .nili
 | agg hl h1 _ ih=>intro c e;exact .agg hl h1 fun i a1 a2=>ih i a1 a2 e
 | tup hl _ ih=>intro c e;exact .tup hl fun i a1 a2=>ih i a1 a2 e
theorem VR.mkIsl {c : Ctx} {tag : Bool} {sz : Nat} {xs : List DV} {v : Value} (h : VR c (.isl tag sz xs) v) : VR c (Dm.mkIsl tag sz xs) v := by
  cases xs with
  | nil => rcases h.isl_inv with ⟨_, a, cap, rfl⟩ | ⟨b, o, cap, vals, rfl, _⟩
           · exact .isl0 a cap
           · exact .isl0 _ _
  | cons x xs => exact h
theorem resolve_ecells {tag:Bool} {h:Heap} {sz:Nat}:∀{n:Nat} {e e':DV},resolve tag h n e=some e' →
  (ecells sz e').length=(ecells sz e).length∧∀j (h1:j<(ecells sz e').length) (h2:j<(ecells sz e).length),(∃ m,m≤n∧resolve tag h m (ecells sz e)[j]=some (ecells sz e')[j]):=by
 intro n e e' hr
 cases n with
 | zero=>simp [resolve]at hr
 | succ n =>
  cases e with
  | agg cs =>
   simp only [resolve]at hr
   split at hr
   ·rename_i c hc
    cases hr
    exact ⟨mapM_length _ _ _ hc,fun j h1 h2=>⟨n,Nat.le_succ _,mapM_get _ _ _ hc j h2 h1⟩⟩
   ·cases hr
  | tup cs =>
   simp only [resolve]at hr
   split at hr
   ·cases hr
    exact ⟨rfl,fun j h1 _=>absurd h1 (by simp [ecells])⟩
   ·cases hr
  | unk =>
   simp only [resolve]at hr
   cases hr
   refine ⟨rfl,fun j h1 h2=>⟨n+1,Nat.le_refl _,?_⟩⟩
   simp [ecells,resolve]
  | ptr id s idx off =>
   have hr0:=hr
   simp only [resolve]at hr
   (repeat' split at hr)<;>first|(cases hr;done)|skip
   cases hr
   refine ⟨rfl,fun j h1 h2=>⟨n+1,Nat.le_refl _,?_⟩⟩
   have hj:j=0:=by simpa [ecells] using h1
   subst hj
   simpa [ecells] using hr0
  | sl id s off len =>
   have hr0:=hr
   simp only [resolve]at hr
   (repeat' split at hr)<;>first|(cases hr;done)|skip
   have e1:=Option.some.inj hr
   have key:∀q,ecells sz (Dm.mkIsl tag s q)=[Dm.mkIsl tag s q]:=by intro q;cases q<;>rfl
   rw [←e1,key]
   refine ⟨rfl,fun j h1 h2=>⟨n+1,Nat.le_refl _,?_⟩⟩
   have hj:j=0:=by simpa using h1
   subst hj
   simp only [List.getElem_cons_zero]
   rw [e1]
   simpa [ecells] using hr0
  | map id=>simp [resolve]at hr
  | func f cap =>
   have hr0:=hr
   simp only [resolve]at hr
   (repeat' split at hr)<;>first|(cases hr;done)|skip
   cases hr
   refine ⟨rfl,fun j h1 h2=>⟨n+1,Nat.le_refl _,?_⟩⟩
   have hj:j=0:=by simpa [ecells] using h1
   subst hj
   simpa [ecells] using hr0
  | iface t v =>
   have hr0:=hr
   simp only [resolve]at hr
   (repeat' split at hr)<;>first|(cases hr;done)|skip
   cases hr
   refine ⟨rfl,fun j h1 h2=>⟨n+1,Nat.le_refl _,?_⟩⟩
   have hj:j=0:=by simpa [ecells] using h1
   subst hj
   simpa [ecells] using hr0
  | isl l s xs =>
   have hr0:=hr
   simp only [resolve]at hr
   cases hr
   have key:∀q,ecells sz (Dm.mkIsl l s q)=[Dm.mkIsl l s q]:=by intro q;cases q<;>rfl
   rw [key]
   refine ⟨rfl,fun j h1 h2=>⟨n+1,Nat.le_refl _,?_⟩⟩
   have hj:j=0:=by simpa using h1
   subst hj
   simpa [ecells] using hr0
  | _ =>
   simp only [resolve]at hr
   cases hr
   refine ⟨rfl,fun j h1 h2=>⟨n+1,Nat.le_refl _,?_⟩⟩
   have hj:j=0:=by simpa [ecells] using h1
   subst hj
   simp [ecells,resolve]
theorem resolve_in {h:Heap} {c:Ctx} (hR:Rel h c):∀n {d d':DV} {v:Value},VR c d v→resolve true h n d=some d'→VR c.lend d' v:=by
 intro n
 induction n using Nat.strongRecOn with
 | _ n ih =>
 cases n with
 | zero=>intro d d' v _ hr;simp [resolve]at hr
 | succ n =>
  have many:∀{ds es:List DV} {vs:List Value},ds.mapM (resolve true h n)=some es→(∀i (h1:i<ds.length) (h2:i<vs.length),VR c ds[i] vs[i])→ds.length=vs.length →
    es.length=vs.length∧∀i (h1:i<es.length) (h2:i<vs.length),VR c.lend es[i] vs[i]:=by
   intro ds es vs hm hv hl
   have hl2:=mapM_length _ _ _ hm
   exact ⟨by omega,fun i h1 h2=>ih n (Nat.lt_succ_self n) (hv i (by omega) h2) (mapM_get _ _ _ hm i (by omega) h1)⟩
  intro d d' v hv hr
  cases d with
  | unk=>simp only [resolve]at hr;cases hr;exact .unk v
  | bool b=>simp only [resolve]at hr;cases hr;cases hv;exact .bool b
  | int k m=>simp only [resolve]at hr;cases hr;cases hv;exact .int k m
  | atl m=>simp only [resolve]at hr;cases hr;cases hv;exact .atl (by assumption)
  | tok m=>simp only [resolve]at hr;cases hr;cases hv;exact .tok (by assumption)
  | str s=>simp only [resolve]at hr;cases hr;cases hv;exact .str s
  | nilp=>simp only [resolve]at hr;cases hr;cases hv;exact .nilp
  | nmap=>simp only [resolve]at hr;cases hr;cases hv;exact .nmap
  | nilf=>simp only [resolve]at hr;cases hr;cases hv;exact .nilf
  | nili=>simp only [resolve]at hr;cases hr;cases hv;exact .nili
  | map id=>simp [resolve]at hr
  | nsl=>simp only [resolve]at hr;cases hr;obtain ⟨a,rfl⟩:=hv.nsl_inv;exact .isl0 a 0
  | ptr id sz idx off =>
   simp only [resolve]at hr
   split at hr
   ·rename_i ety sz' xs cap hg
    split at hr
    ·rename_i hsz
     subst hsz
     split at hr
     ·rename_i e he
      split at hr
      ·rename_i cs hcs
       cases hr
       obtain ⟨b,base,rfl,hρ⟩:=hv.ptr_inv
       obtain ⟨cur,m,g1,g2,g3,g4,g5,g6⟩:=hR.arr hg hρ
       obtain ⟨hi,hxe⟩:=List.getElem?_eq_some_iff.1 he
       obtain ⟨a1,a2⟩:=g6 idx hi
       rw [hxe]at a1 a2
       have hl:=mapM_length _ _ _ hcs
       refine .iptr (fun j=>(cur[base+idx*sz+j]?).getD undef) (Array.getElem?_eq_some_iff.1 g1).1 (fun h=>h) (fun h=>by cases h) (fun j hj=>?_) (fun j hj=>?_)
       ·obtain ⟨u,b1,b2,b3⟩:=a2 j (by omega)
        exact ⟨by rw [cell_of_heap (show c.lend.w.heap[b]?=_ from g1),b1];simp,by rw [b1];exact b2⟩
       ·obtain ⟨u,b1,b2,b3⟩:=a2 j (by omega)
        rw [b1]
        exact ih n (Nat.lt_succ_self n) b3 (mapM_get _ _ _ hcs j (by omega) hj)
      ·cases hr
     ·cases hr
    ·cases hr
   ·cases hr
  | sl id sz off len =>
   simp only [resolve]at hr
   split at hr
   ·rename_i ety sz' xs cap hg
    split at hr
    ·rename_i hcond
     obtain ⟨hsz,hlen⟩:=hcond
     subst hsz
     split at hr
     ·rename_i ys hys
      cases hr
      apply VR.mkIsl
      obtain ⟨b,base,cap',coff,nn,ety',rfl,hρ,hshape,hmm,hlc,hco⟩:=hv.sl_inv
      obtain ⟨cur,m,g1,g2,g3,g4,g5,g6⟩:=hR.arr hg hρ
      have hl:=mapM_length _ _ _ hys
      have hll:((xs.drop off).take len).length=len:=by simp;omega
      cases len with
      | zero =>
       have:ys=[]:=List.length_eq_zero_iff.1 (by omega)
       subst this
       exact .isl0 _ _
      | succ len =>
       have hco':coff=base+off*sz:=hco.resolve_right (by omega)
       subst hco'
       have elem:∀i (hi:i<ys.length),∃ hx:off+i<xs.length,resolve true h n xs[off+i]=some ys[i]:=by
        intro i hi
        have h1:i<((xs.drop off).take (len+1)).length:=by omega
        have:=mapM_get _ _ _ hys i h1 hi
        have hx:off+i<xs.length:=by omega
        exact ⟨hx,by simpa using this⟩
       refine .isl (fun i j=>(cur[base+off*sz+i*sz+j]?).getD undef) (by omega) hlc (Array.getElem?_eq_some_iff.1 g1).1 (fun h=>h) (fun h=>by cases h) (fun i hi=>?_) (fun i j hi hj=>?_) (fun i hi j hj=>?_)
       ·obtain ⟨hx,he⟩:=elem i hi
        rw [(resolve_ecells (sz:=sz) he).1];exact (g6 _ hx).1
       ·obtain ⟨hx,he⟩:=elem i hi
        obtain ⟨a1,a2⟩:=g6 _ hx
        obtain ⟨u,b1,b2,b3⟩:=a2 j (by omega)
        have e0:base+off*sz+i*sz+j=base+(off+i)*sz+j:=by rw [Nat.add_mul];omega
        exact ⟨by rw [cell_of_heap (show c.lend.w.heap[b]?=_ from g1),e0,b1];simp,by rw [e0,b1];exact b2⟩
       ·obtain ⟨hx,he⟩:=elem i hi
        obtain ⟨a1,a2⟩:=g6 _ hx
        obtain ⟨k1,k2⟩:=resolve_ecells (sz:=sz) he
        have hj':j<(ecells sz xs[off+i]).length:=by omega
        obtain ⟨u,b1,b2,b3⟩:=a2 j hj'
        have e0:base+off*sz+i*sz+j=base+(off+i)*sz+j:=by rw [Nat.add_mul];omega
        rw [e0,b1]
        obtain ⟨q,hq,hq2⟩:=k2 j hj hj'
        exact ih q (by omega) b3 hq2
     ·cases hr
    ·cases hr
   ·cases hr
  | iptr lent cs off =>
   simp only [resolve]at hr
   cases hr
   obtain ⟨b,o,vals,rfl,hb,hO,hX,hc,hvv⟩:=hv.iptr_inv
   exact .iptr vals hb (fun h=>h) (fun hl hx=>hx.elim hO (hX hl)) hc (fun j hj=>(hvv j hj).lendStill rfl)
  | isl lent sz xs =>
   simp only [resolve]at hr
   cases hr
   apply VR.mkIsl
   rcases hv.isl_inv with ⟨rfl,a,cap,rfl⟩|⟨b,o,cap,vals,rfl,hcap,hb,hO,hX,hsz,hc,hvv⟩
   ·exact .isl0 a cap
   ·exact .isl vals rfl hcap hb (fun h=>h) (fun hl hx=>hx.elim hO (hX hl)) hsz hc (fun i hi j hj=>(hvv i hi j hj).lendStill rfl)
  | func f cap =>
   simp only [resolve]at hr
   split at hr
   ·rename_i es hes
    cases hr
    obtain ⟨vs,rfl,hl,hvv⟩:=hv.func_inv
    obtain ⟨k1,k2⟩:=many hes hvv hl
    exact .func k1 k2
   ·cases hr
  | iface t x =>
   simp only [resolve]at hr
   split at hr
   ·rename_i y hy
    cases hr
    cases hv with
    | iface hv=>exact .iface (ih n (Nat.lt_succ_self n) hv hy)
   ·cases hr
  | agg cs =>
   simp only [resolve]at hr
   split at hr
   ·rename_i es hes
    cases hr
    obtain ⟨vs,rfl,hl,h1,hvv⟩:=hv.agg_inv
    obtain ⟨k1,k2⟩:=many hes hvv hl
    exact .agg k1 h1 k2
   ·cases hr
  | tup cs =>
   simp only [resolve]at hr
   split at hr
   ·rename_i es hes
    cases hr
    obtain ⟨vs,rfl,hl,hvv⟩:=hv.tup_inv
    obtain ⟨k1,k2⟩:=many hes hvv hl
    exact .tup k1 k2
   ·cases hr
theorem unlent_ecells {sz m:Nat} {e:DV} (h:unlent m e=true):∀j (hj:j<(ecells sz e).length),∃ q,unlent q (ecells sz e)[j]=true:=by
 intro j hj
 cases m with
 | zero=>simp [unlent]at h
 | succ m =>
  cases e
  case agg cs =>
   simp only [unlent,List.all_eq_true]at h
   exact ⟨m,h _ (List.getElem_mem hj)⟩
  case unk=>exact ⟨1,by simp [ecells,unlent]⟩
  case tup=>simp [ecells]at hj
  all_goals
   simp only [ecells,List.length_singleton,Nat.lt_one_iff]at hj
   subst hj
   exact ⟨m+1,h⟩
theorem VR.back {c0:Ctx} {d:DV} {v:Value} (h:VR c0 d v):∀{c2 c3:Ctx} {n:Nat},c0=c2.still→unlent n d=true→c3.w=c2.w→c3.τ=c2.τ→(∀b,¬c2.X b→¬c3.O b∧¬c3.X b)→VR c3.still d v:=by
 induction h with
 | unk v=>intros;exact .unk v
 | bool b=>intros;exact .bool b
 | int k n=>intros;exact .int k n
 | atl h=>intros;exact .atl h
 | tok h=>intro c2 c3 n e _ _ ht _;exact .tok (by rw [e]at h;show c3.τ _=_;rw [ht];exact h)
 | str s=>intros;exact .str s
 | nilp=>intros;exact .nilp
 | ptr h=>intro c2 c3 n e;rw [e]at h;cases h
 | iptr vals hb hO hX hc hv ih =>
  intro c2 c3 n e hu hw ht hx
  subst e
  cases n with
  | zero=>simp [unlent]at hu
  | succ n =>
   simp only [unlent,Bool.and_eq_true,Bool.not_eq_true',List.all_eq_true]at hu
   have hxx:=hx _ (hX hu.1)
   exact .iptr vals (by show _<c3.w.heap.size;rw [hw];exact hb) hxx.1 (fun _=>hxx.2) (fun j hj=>by show c3.w.cell? _=_∧_;rw [hw];exact hc j hj) (fun j hj=>ih j hj rfl (hu.2 _ (List.getElem_mem hj)) hw ht hx)
 | nsl a=>intros;exact .nsl a
 | sl h=>intro c2 c3 n e;rw [e]at h;cases h
 | isl0 a cap=>intros;exact .isl0 a cap
 | isl vals hlen hcap hb hO hX hsz hc hv ih =>
  intro c2 c3 n e hu hw ht hx
  subst e
  cases n with
  | zero=>simp [unlent]at hu
  | succ n =>
   simp only [unlent,Bool.and_eq_true,Bool.not_eq_true',List.all_eq_true]at hu
   have hxx:=hx _ (hX hu.1)
   refine .isl vals hlen hcap (by show _<c3.w.heap.size;rw [hw];exact hb) hxx.1 (fun _=>hxx.2) hsz (fun i j hi hj=>by show c3.w.cell? _=_∧_;rw [hw];exact hc i j hi hj) (fun i hi j hj=>?_)
   have hm:=hu.2 _ (List.getElem_mem hi)
   obtain ⟨q,hq⟩:=unlent_ecells hm j hj
   exact ih i hi j hj rfl hq hw ht hx
 | nmap=>intros;exact .nmap
 | map h=>intro c2 c3 n e;rw [e]at h;cases h
 | func hl _ ih =>
  intro c2 c3 n e hu hw ht hx
  cases n with
  | zero=>simp [unlent]at hu
  | succ n =>
   simp only [unlent,List.all_eq_true]at hu
   exact .func hl fun i h1 h2=>ih i h1 h2 e (hu _ (List.getElem_mem h1)) hw ht hx
 | nilf=>intros;exact .nilf
 | iface _ ih =>
  intro c2 c3 n e hu hw ht hx
  cases n with
  | zero=>simp [unlent]at hu
  | succ n=>simp only [unlent]at hu;exact .iface (ih e hu hw ht hx)
 | nili=>intros;exact .nili
 | agg hl h1 _ ih =>
  intro c2 c3 n e hu hw ht hx
  cases n with
  | zero=>simp [unlent]at hu
  | succ n =>
   simp only [unlent,List.all_eq_true]at hu
   exact .agg hl h1 fun i h1 h2=>ih i h1 h2 e (hu _ (List.getElem_mem h1)) hw ht hx
 | tup hl _ ih =>
  intro c2 c3 n e hu hw ht hx
  cases n with
  | zero=>simp [unlent]at hu
  | succ n =>
   simp only [unlent,List.all_eq_true]at hu
   exact .tup hl fun i h1 h2=>ih i h1 h2 e (hu _ (List.getElem_mem h1)) hw ht hx
theorem resolve_out {h2:Heap} {c2:Ctx} (hR:Rel h2 c2) {c3:Ctx} (hw:c3.w=c2.w) (ht:c3.τ=c2.τ) (hx:∀b,¬c2.X b→¬c3.O b∧¬c3.X b):∀n {d d':DV} {v:Value},VR c2 d v→resolve false h2 n d=some d'→∀m,unlent m d'=true→VR c3.still d' v:=by
 intro n
 induction n using Nat.strongRecOn with
 | _ n ih =>
 cases n with
 | zero=>intro d d' v _ hr;simp [resolve]at hr
 | succ n =>
  have many:∀{ds es:List DV} {vs:List Value} {m:Nat},ds.mapM (resolve false h2 n)=some es→(∀x∈es,unlent m x=true)→(∀i (h1:i<ds.length) (h2:i<vs.length),VR c2 ds[i] vs[i])→ds.length=vs.length →
    es.length=vs.length∧∀i (h1:i<es.length) (h2:i<vs.length),VR c3.still es[i] vs[i]:=by
   intro ds es vs m hm hu hv hl
   have hl2:=mapM_length _ _ _ hm
   exact ⟨by omega,fun i h1 h2=>ih n (Nat.lt_succ_self n) (hv i (by omega) h2) (mapM_get _ _ _ hm i (by omega) h1) m (hu _ (List.getElem_mem h1))⟩
  intro d d' v hv hr m hu
  have own:∀{id b base:Nat} {ety sz:Nat} {xs:List DV} {cap:Option Nat},h2.get id=some (.arr ety sz xs cap)→c2.ρ id=some (b,base)→¬c3.O b∧¬c3.X b:=fun hg hρ =>
   hx _ (hR.notX _ ((hR.own _).2 (.inl ⟨_,_,_,hg,rfl,hρ⟩)))
  cases d with
  | unk=>simp only [resolve]at hr;cases hr;exact .unk v
  | bool b=>simp only [resolve]at hr;cases hr;cases hv;exact .bool b
  | int k m=>simp only [resolve]at hr;cases hr;cases hv;exact .int k m
  | atl m=>simp only [resolve]at hr;cases hr;cases hv;exact .atl (by assumption)
  | tok m =>
   simp only [resolve]at hr;cases hr;cases hv;rename_i h
   exact .tok (by show c3.τ _=_;rw [ht];exact h)
  | str s=>simp only [resolve]at hr;cases hr;cases hv;exact .str s
  | nilp=>simp only [resolve]at hr;cases hr;cases hv;exact .nilp
  | nmap=>simp only [resolve]at hr;cases hr;cases hv;exact .nmap
  | nilf=>simp only [resolve]at hr;cases hr;cases hv;exact .nilf
  | nili=>simp only [resolve]at hr;cases hr;cases hv;exact .nili
  | map id=>simp [resolve]at hr
  | nsl=>simp only [resolve]at hr;cases hr;obtain ⟨a,rfl⟩:=hv.nsl_inv;exact .isl0 a 0
  | ptr id sz idx off =>
   simp only [resolve]at hr
   split at hr
   ·rename_i ety sz' xs cap hg
    split at hr
    ·rename_i hsz
     subst hsz
     split at hr
     ·rename_i e he
      split at hr
      ·rename_i cs hcs
       cases hr
       obtain ⟨b,base,rfl,hρ⟩:=hv.ptr_inv
       obtain ⟨cur,mm,g1,g2,g3,g4,g5,g6⟩:=hR.arr hg hρ
       obtain ⟨hi,hxe⟩:=List.getElem?_eq_some_iff.1 he
       obtain ⟨a1,a2⟩:=g6 idx hi
       rw [hxe]at a1 a2
       have hl:=mapM_length _ _ _ hcs
       have hxx:=own hg hρ
       cases m with
       | zero=>simp [unlent]at hu
       | succ m =>
       simp only [unlent,Bool.not_false,Bool.true_and,List.all_eq_true]at hu
       refine .iptr (fun j=>(cur[base+idx*sz+j]?).getD undef) (by show b<c3.w.heap.size;rw [hw];exact (Array.getElem?_eq_some_iff.1 g1).1) hxx.1 (fun _=>hxx.2) (fun j hj=>?_) (fun j hj=>?_)
       ·obtain ⟨u,b1,b2,b3⟩:=a2 j (by omega)
        exact ⟨by show c3.w.cell? _=_;rw [hw,cell_of_heap g1,b1];simp,by rw [b1];exact b2⟩
       ·obtain ⟨u,b1,b2,b3⟩:=a2 j (by omega)
        rw [b1]
        exact ih n (Nat.lt_succ_self n) b3 (mapM_get _ _ _ hcs j (by omega) hj) m (hu _ (List.getElem_mem hj))
      ·cases hr
     ·cases hr
    ·cases hr
   ·cases hr
  | sl id sz off len =>
   simp only [resolve]at hr
   split at hr
   ·rename_i ety sz' xs cap hg
    split at hr
    ·rename_i hcond
     obtain ⟨hsz,hlen⟩:=hcond
     subst hsz
     split at hr
     ·rename_i ys hys
      cases hr
      obtain ⟨b,base,cap',coff,nn,ety',rfl,hρ,hshape,hmm,hlc,hco⟩:=hv.sl_inv
      obtain ⟨cur,mm,g1,g2,g3,g4,g5,g6⟩:=hR.arr hg hρ
      have hl:=mapM_length _ _ _ hys
      have hll:((xs.drop off).take len).length=len:=by simp;omega
      have hxx:=own hg hρ
      cases ys with
      | nil =>
       have hz:len=0:=by simp at hl;omega
       subst hz
       exact .isl0 _ _
      | cons y0 ys0 =>
       generalize hysd:y0::ys0=ys at *
       have hmk:Dm.mkIsl false sz ys=.isl false sz ys:=by rw [←hysd];rfl
       rw [hmk]at hu ⊢
       have hco':coff=base+off*sz:=hco.resolve_right (by rw [←hysd]at hl;simp at hl;omega)
       subst hco'
       have elem:∀i (hi:i<ys.length),∃ hx:off+i<xs.length,resolve false h2 n xs[off+i]=some ys[i]:=by
        intro i hi
        have h1:i<((xs.drop off).take len).length:=by omega
        have:=mapM_get _ _ _ hys i h1 hi
        have hx:off+i<xs.length:=by omega
        exact ⟨hx,by simpa using this⟩
       cases m with
       | zero=>simp [unlent]at hu
       | succ m =>
       simp only [unlent,Bool.not_false,Bool.true_and,List.all_eq_true]at hu
       have hlc':len≤cap':=hlc
       refine .isl (fun i j=>(cur[base+off*sz+i*sz+j]?).getD undef) (by omega) hlc (by show b<c3.w.heap.size;rw [hw];exact (Array.getElem?_eq_some_iff.1 g1).1) hxx.1 (fun _=>hxx.2) (fun i hi=>?_) (fun i j hi hj=>?_) (fun i hi j hj=>?_)
       ·obtain ⟨hx,he⟩:=elem i hi
        rw [(resolve_ecells (sz:=sz) he).1];exact (g6 _ hx).1
       ·obtain ⟨hx,he⟩:=elem i hi
        obtain ⟨a1,a2⟩:=g6 _ hx
        obtain ⟨u,b1,b2,b3⟩:=a2 j (by omega)
        have e0:base+off*sz+i*sz+j=base+(off+i)*sz+j:=by rw [Nat.add_mul];omega
        exact ⟨by show c3.w.cell? _=_;rw [hw,cell_of_heap g1,e0,b1];simp,by rw [e0,b1];exact b2⟩
       ·obtain ⟨hx,he⟩:=elem i hi
        obtain ⟨a1,a2⟩:=g6 _ hx
        obtain ⟨k1,k2⟩:=resolve_ecells (sz:=sz) he
        have hj':j<(ecells sz xs[off+i]).length:=by omega
        obtain ⟨u,b1,b2,b3⟩:=a2 j hj'
        have e0:base+off*sz+i*sz+j=base+(off+i)*sz+j:=by rw [Nat.add_mul];omega
        rw [e0,b1]
        obtain ⟨q,hq,hq2⟩:=k2 j hj hj'
        obtain ⟨p,hp⟩:=unlent_ecells (hu _ (List.getElem_mem hi)) j hj
        exact ih q (by omega) b3 hq2 p hp
     ·cases hr
    ·cases hr
   ·cases hr
  | iptr lent cs off =>
   simp only [resolve]at hr
   cases hr
   obtain ⟨b,o,vals,rfl,hb,hO,hX,hc,hvv⟩:=hv.iptr_inv
   exact (VR.iptr (c:=c2.still) vals hb hO hX hc hvv).back (c2:=c2) rfl hu hw ht hx
  | isl lent sz xs =>
   simp only [resolve]at hr
   cases hr
   rcases hv.isl_inv with ⟨rfl,a,cap,rfl⟩|⟨b,o,cap,vals,rfl,hcap,hb,hO,hX,hsz,hc,hvv⟩
   ·exact .isl0 a cap
   ·exact (VR.mkIsl (VR.isl (c:=c2.still) vals rfl hcap hb hO hX hsz hc hvv)).back (c2:=c2) rfl hu hw ht hx
  | func f cap =>
   simp only [resolve]at hr
   split at hr
   ·rename_i es hes
    cases hr
    cases m with
    | zero=>simp [unlent]at hu
    | succ m =>
    simp only [unlent,List.all_eq_true]at hu
    obtain ⟨vs,rfl,hl,hvv⟩:=hv.func_inv
    obtain ⟨k1,k2⟩:=many hes hu hvv hl
    exact .func k1 k2
   ·cases hr
  | iface t x =>
   simp only [resolve]at hr
   split at hr
   ·rename_i y hy
    cases hr
    cases m with
    | zero=>simp [unlent]at hu
    | succ m =>
    simp only [unlent]at hu
    cases hv with
    | iface hv=>exact .iface (ih n (Nat.lt_succ_self n) hv hy m hu)
   ·cases hr
  | agg cs =>
   simp only [resolve]at hr
   split at hr
   ·rename_i es hes
    cases hr
    cases m with
    | zero=>simp [unlent]at hu
    | succ m =>
    simp only [unlent,List.all_eq_true]at hu
    obtain ⟨vs,rfl,hl,h1,hvv⟩:=hv.agg_inv
    obtain ⟨k1,k2⟩:=many hes hu hvv hl
    exact .agg k1 h1 k2
   ·cases hr
  | tup cs =>
   simp only [resolve]at hr
   split at hr
   ·rename_i es hes
    cases hr
    cases m with
    | zero=>simp [unlent]at hu
    | succ m =>
    simp only [unlent,List.all_eq_true]at hu
    obtain ⟨vs,rfl,hl,hvv⟩:=hv.tup_inv
    obtain ⟨k1,k2⟩:=many hes hu hvv hl
    exact .tup k1 k2
   ·cases hr
theorem resolveL_in {h:Heap} {c:Ctx} (hR:Rel h c) {n:Nat} {args ds:List DV} {vals:List Value} (hm:args.mapM (resolve true h n)=some ds) (hv:VRs c args vals):VRs c.lend ds vals:=by
 have hl:=mapM_length _ _ _ hm
 exact ⟨by rw [hl];exact hv.1,fun i h1 h2=>resolve_in hR n (hv.2 i (by omega) h2) (mapM_get _ _ _ hm i (by omega) h1)⟩
theorem pure_out {h:Heap} {c:Ctx} (hR:Rel h c) {h2:Heap} {w2:World} {ρ2:Nat→Option (Nat×Nat)} (hR2:Rel h2 (c.lend.next w2 ρ2 h2)) (hle:CtxLe c.lend (c.lend.next w2 ρ2 h2)) {d d':DV} {v:Value} {n m:Nat}
  (hv:VR (c.lend.next w2 ρ2 h2) d v) (hr:resolve false h2 n d=some d') (hu:unlent m d'=true):Post h c h w2 d' v:=by
 have hO:∀b,(ownB h c.ρ b∨c.E b)↔c.O b:=fun b=>(hR.own b).symm
 have hsame:∀b,b<c.w.heap.size→w2.heap[b]?=c.w.heap[b]?:=fun b hb=>hle.frame b hb (fun h=>h)
 have hle3:CtxLe c (c.next w2 c.ρ h) :=
  ⟨fun _ _ hp=>hp,hle.size,fun b hb _=>hsame b hb,fun b hb=>.inl ((hO b).1 hb),hle.shape,fun _ hx=>hx,fun b hb hE=>⟨hE,hsame b hb⟩,hle.quiet,rfl⟩
 refine ⟨c.ρ,⟨hR.len,hR.lim,hR.dom,fun id o hg=>(hR.obj id o hg).mono hle3 (fun ha b x hr=>hsame b (hR.block_lt hg ha hr)),hR.inj,fun _=>Iff.rfl,fun b hb=>hR.notX b ((hO b).1 hb),fun b hb=>Nat.lt_of_lt_of_le (hR.old b hb) hle.size,
  fun b hb=>⟨Nat.lt_of_lt_of_le (hR.pend b hb).1 hle.size,(hR.pend b hb).2⟩,hR.glob.mono hle3⟩,hle3,?_⟩
 refine VR.of_still (resolve_out hR2 (c3:=c.next w2 c.ρ h) rfl rfl (fun b hb=>?_) n hv hr m hu)
 exact ⟨fun ho=>hb (.inl ((hO b).1 ho)),fun hx=>hb (.inr hx)⟩
end Go.Dm
/-
Part 35 of "Dm": rows that are written no more, read off for good.
-/
namespace Go.Dm
theorem cut_zero (c:Ctx):c.cut 0=c.still:=by
 simp only [Ctx.cut,Ctx.still]
 congr 1
theorem below_cell {sz N:Nat} {d:DV} {j:Nat} (hjd:j<(ecells sz d).length) (hd:Dm.below 200 N d=true):∃ n,Dm.below n N (ecells sz d)[j]=true:=by
 cases d
 case agg cs =>
  have hd':cs.all (Dm.below 199 N)=true:=hd
  exact ⟨199,List.all_eq_true.1 hd' _ (List.getElem_mem hjd)⟩
 case unk=>exact ⟨200,by simp only [ecells,List.getElem_replicate];rfl⟩
 case tup=>simp [ecells]at hjd
 all_goals
  refine ⟨200,?_⟩
  have hj0:j=0:=by simp [ecells]at hjd;omega
  subst hj0
  exact hd
def Frozen (h:Heap) (c:Ctx) (h':Heap):Prop:=Rel h' (c.next c.w c.ρ h')∧CtxLe c (c.next c.w c.ρ h')
theorem Frozen.refl {h:Heap} {c:Ctx} (hR:Rel h c):Frozen h c h:=by
 unfold Frozen
 rw [hR.same]
 exact ⟨hR,.refl _⟩
theorem freeze_sound {h:Heap} {c:Ctx} (hR:Rel h c) {d d':DV} {v:Value} {h':Heap} (hv:VR c d v) (hf:freeze h d=some (d',h')):Frozen h c h'∧VR (c.next c.w c.ρ h') d' v:=by
 have triv:∀{d:DV},VR c d v→some (d,h)=some (d',h')→Frozen h c h'∧VR (c.next c.w c.ρ h') d' v:=by
  intro d hv he
  cases he
  exact ⟨.refl hR,by rw [hR.same];exact hv⟩
 cases d with
 | sl id sz off len =>
  simp only [freeze]at hf
  split at hf
  ·rename_i ety sz' xs cap hg
   split at hf
   ·rename_i hcond
    obtain ⟨hsz,hlim,hlen,hbel⟩:=hcond
    subst hsz
    cases hf
    obtain ⟨k1,k2⟩:=hR.kill hg
    refine ⟨⟨k1,k2⟩,?_⟩
    obtain ⟨b,base,cap',coff,nn,ety',rfl,hρ,hshape,hmm,hlc,hco⟩:=hv.sl_inv
    obtain ⟨cur,mm,g1,g2,g3,g4,g5,g6⟩:=hR.arr hg hρ
    have hO:c.O b:=(hR.own b).2 (.inl ⟨id,_,base,hg,rfl,hρ⟩)
    have hll:((xs.drop off).take len).length=len:=by simp;omega
    cases hys:(xs.drop off).take len with
    | nil =>
     have hz:len=0:=by rw [hys]at hll;simp at hll;omega
     subst hz
     exact .isl0 _ _
    | cons y0 ys0 =>
     have hl0:0<len:=by rw [hys]at hll;simp at hll;omega
     have hco':coff=base+off*sz:=hco.resolve_right (by omega)
     subst hco'
     show VR _ (.isl false sz (y0::ys0)) _
     rw [←hys]
     have hnO:¬(ownB (h.set id .dead) c.ρ b∨c.E b):=by
      rintro (⟨i,oi,x,hgi,hai,hri⟩|hE)
      ·by_cases e:i=id
       ·subst e
        rw [get_set_same hR.len hg]at hgi
        cases hgi;simp [alive]at hai
       ·rw [get_set_other (get_lt hg) e]at hgi
        exact e (hR.inj i id oi _ b x base hgi hg hai rfl hri hρ)
      ·exact (hR.pend b hE).2 ⟨id,_,base,hg,rfl,hρ⟩
     have helem:∀i (hi:i<((xs.drop off).take len).length),∃ hx:off+i<xs.length,((xs.drop off).take len)[i]=xs[off+i]:=by
      intro i hi
      have hx:off+i<xs.length:=by omega
      exact ⟨hx,by simp⟩
     refine .isl (fun i j=>(cur[base+(off+i)*sz+j]?).getD undef) hll.symm hlc (Array.getElem?_eq_some_iff.1 g1).1 hnO (fun _=>hR.notX b hO) (fun i hi=>?_) (fun i j hi hj=>?_) (fun i hi j hj=>?_)
     ·obtain ⟨hx,e⟩:=helem i hi
      rw [e];exact (g6 (off+i) hx).1
     ·obtain ⟨hx,e⟩:=helem i hi
      obtain ⟨a1,a2⟩:=g6 (off+i) hx
      obtain ⟨u,b1,b2,b3⟩:=a2 j (by omega)
      have:base+off*sz+i*sz+j=base+(off+i)*sz+j:=by rw [Nat.add_mul];omega
      refine ⟨?_,by rw [b1];exact b2⟩
      show c.w.cell? ⟨b,base+off*sz+i*sz+j,none⟩=_
      rw [cell_of_heap g1,this,b1];rfl
     ·obtain ⟨hx,e⟩:=helem i hi
      obtain ⟨a1,a2⟩:=g6 (off+i) hx
      have hj':j<(ecells sz xs[off+i]).length:=by rw [←e];exact hj
      obtain ⟨u,b1,b2,b3⟩:=a2 j hj'
      obtain ⟨n,hn⟩:=below_cell hj' (by rw [←e];exact List.all_eq_true.1 hbel _ (List.getElem_mem hi))
      have hs:=VR.belowN b3 n hn
      rw [cut_zero]at hs
      have h2:=hs.mono k2.toStill
      rw [b1]
      simp only [e]
      exact h2
   ·cases hf
  ·cases hf
 | _=>exact triv hv hf
theorem Frozen.trans {h h1 h2:Heap} {c:Ctx} (a:Frozen h c h1) (b:Frozen h1 (c.next c.w c.ρ h1) h2):Frozen h c h2:=⟨b.1,a.2.trans b.2⟩
theorem mapH_sound {f:Heap→DV→Option (DV×Heap)} (hf:∀{h:Heap} {c:Ctx} {d d':DV} {v:Value} {h':Heap},Rel h c→VR c d v→f h d=some (d',h')→Frozen h c h'∧VR (c.next c.w c.ρ h') d' v) :
  ∀{ds ds':List DV} {vs:List Value} {h h':Heap} {c:Ctx},Rel h c→VRs c ds vs→mapH f h ds=some (ds',h')→Frozen h c h'∧VRs (c.next c.w c.ρ h') ds' vs:=by
 intro ds
 induction ds with
 | nil =>
  intro ds' vs h h' c hR hv he
  simp only [mapH]at he
  cases he
  exact ⟨.refl hR,by rw [hR.same];exact hv⟩
 | cons d r ih =>
  intro ds' vs h h' c hR hv he
  simp only [mapH]at he
  split at he
  ·rename_i d1 h1 e1
   split at he
   ·rename_i r' h2 e2
    cases he
    cases vs with
    | nil=>have:=hv.1;simp at this
    | cons v vs =>
     obtain ⟨k1,k2⟩:=hf hR (hv.2 0 (by simp) (by simp)) e1
     have hvr:VRs (c.next c.w c.ρ h1) r vs:=⟨by have:=hv.1;simp at this;exact this,fun i a b=>(hv.2 (i+1) (by simp;omega) (by simp;omega)).mono k1.2⟩
     obtain ⟨k3,k4⟩:=ih k1.1 hvr e2
     refine ⟨k1.trans k3,by simp [k4.1],fun i a b=>?_⟩
     cases i with
     | zero=>exact k2.mono k3.2
     | succ i=>exact k4.2 i (by simp at a;omega) (by simp at b;omega)
   ·cases he
  ·cases he
theorem freezeA_sound {h:Heap} {c:Ctx} {d d':DV} {v:Value} {h':Heap} (hR:Rel h c) (hv:VR c d v) (hf:freezeA h d=some (d',h')):Frozen h c h'∧VR (c.next c.w c.ρ h') d' v:=by
 cases d with
 | agg cs =>
  simp only [freezeA]at hf
  split at hf
  ·rename_i cs' h1 e1
   cases hf
   obtain ⟨vs,rfl,hl,h1c,hvs⟩:=hv.agg_inv
   obtain ⟨k1,k2⟩:=mapH_sound (fun a b c=>freeze_sound a b c) hR ⟨hl,hvs⟩ e1
   exact ⟨k1,.agg k2.1 h1c k2.2⟩
  ·cases hf
 | _=>rw [freezeA_eq (by intro cs e;cases e)]at hf;exact freeze_sound hR hv hf
end Go.Dm
/-
Part 27 of "Dm": the machine's runs are the program's.
-/
namespace Go.Dm
def exitOf:Ex→Exit
 | .normal=>.normal
 | .exit id=>.exit id
 | .ret=>.ret
structure Good (P:Program) (D:DProg):Prop where
 mixed:P.follows .mixedOrders=true
 comp:∀f df,D.fn f=some df→∃ fn,P.funcs[f]?=some fn∧compFunc P fn df.mode=some df
 hooks:∀f hk,D.hook f=some hk→∀args h d h' c vals,hk h args=some (d,h')→Rel h c→VRs c args vals→CallOk P f vals.toArray h c h' d
 keep:HooksKeep D
section
variable {P:Program} {D:DProg}
def CodeSound (P:Program) (D:DProg) (n:Nat):Prop :=
 ∀code dc h c env a e env' h' Q,compCode P code=some dc→exec D n dc env h=.ok e env' h'→Rel h c→EnvR c env a→(∀a' w',St c h' env' a' w'→Q (exitOf e) a' w')→code.wp P Q a c.w
def LoopSound (P:Program) (D:DProg) (n:Nat):Prop :=
 ∀code dc h c env a e env' h' Q,compCode P code=some dc→exec D n (.loop dc) env h=.ok e env' h'→Rel h c→EnvR c env a→(∀a' w',St c h' env' a' w'→Q (exitOf e) a' w')→Code.rounds P code Q n a c.w
theorem frame_env {c:Ctx} {args:List DV} {vals:List Value} (hv:VRs c args vals) (n:Nat) :
  EnvR c (args++List.replicate (n-args.length) undefD) {tmps:=vals.toArray++Array.replicate (n-vals.toArray.size) Go.undef,defers:=[]}:=by
 have hl:=hv.1
 refine ⟨by simp [hl],rfl,fun i hi=>?_⟩
 simp only [List.length_append,List.length_replicate]at hi
 by_cases h1:i<args.length
 ·have h2:i<vals.length:=by omega
  rw [List.getElem_append_left h1]
  have:=hv.2 i h1 h2
  simpa [Array.getElem?_append,h2] using this
 ·rw [List.getElem_append_right (by omega)]
  simp only [List.getElem_replicate]
  have h2:¬i<vals.length:=by omega
  have h3:i-vals.length<n-vals.length:=by omega
  have:(vals.toArray++Array.replicate (n-vals.toArray.size) Go.undef).getD i Go.undef=Go.undef:=by
   simp [Array.getElem?_append,h2,h3]
  rw [this]
  exact .undef
theorem go_sound {n : Nat} (hC : CodeSound P D n) {fn : Func} {body : Code} {df : DFunc} (hb : fn.body = some body) (hcb : compCode P body = some df.body) (hrs : fn.results.toList.mapM (compRes P) = some df.results) (hnt : df.ntmps = fn.ntmps)
    {f : Nat} (hf : P.funcs[f]? = some fn) {args : List DV} {vals : List Value} {h : Heap} {c : Ctx} (hR : Rel h c) (hv : VRs c args vals) {d : DV} {h' : Heap}
    (he : (match exec D n df.body (args ++ List.replicate (df.ntmps - args.length) undefD) h with
          | .ok (.exit _) _ _ => none
          | .ok _ env h' => match resultsOf h' env df.results with
            | some v => some (v, h')
            | none => none
          | .fail => none) = some (d, h')) : Calls P f vals.toArray c.w (CallPost h c h' d) := by
  have fin : ∀ e env' h1, e = Ex.normal ∨ e = Ex.ret → exec D n df.body (args ++ List.replicate (df.ntmps - args.length) undefD) h = .ok e env' h1 → resultsOf h1 env' df.results = some d → h1 = h' → Calls P f vals.toArray c.w (CallPost h c h' d) := by
    intro e env' h1 hex hrun hres e1
    subst e1
    refine calls_of_wp hf hb (hC body df.body h c _ _ e env' h1 _ hcb hrun hR (by have := frame_env hv df.ntmps; rw [hnt] at this ⊢; exact this) fun a' w' hst => ?_)
    obtain ⟨ρ', k1, k2, k3⟩ := hst
    obtain ⟨v, r1, r2⟩ := results_sound (P := P) (fn := fn) hrs k1 k3 hres
    have : a'.defers = [] ∧ ∃ v, (results fn a'.tmps).run P w' = .ok v w' ∧ CallPost h c h1 d (.returned v) w' := ⟨k3.defers, v, r1, v, rfl, ρ', k1, k2, r2⟩
    rcases hex with rfl | rfl
    · exact this
    · exact this
  split at he
  · cases he
  · rename_i e env' h1 hne hrun
    split at he
    · rename_i v hres
      cases he
      refine fin e env' _ ?_ hrun hres rfl
      cases e with
      | normal => exact .inl rfl
      | exit id => exact absurd rfl (hne id)
      | ret => exact .inr rfl
    · cases he
  · cases he
theorem go_keeps (hk : HooksKeep D) {n : Nat} {df : DFunc} {args : List DV} {h h' : Heap} {d : DV} (hl : h.lim ≤ h.n)
    (he : (match exec D n df.body (args ++ List.replicate (df.ntmps - args.length) undefD) h with
          | .ok (.exit _) _ _ => none
          | .ok _ env h' => match resultsOf h' env df.results with
            | some v => some (v, h')
            | none => none
          | .fail => none) = some (d, h')) : Keeps h h' := by
  split at he
  · cases he
  · rename_i h2
    split at he
    · cases he; exact exec_keeps hk n _ _ _ _ _ _ hl h2
    · cases he
  · cases he
theorem callFunc_enter {f : FuncId} {fn : Func} {body : Code} (hf : P.funcs[f]? = some fn) (hb : fn.body = some body) (hn : fn.name ≠ "runtime.NumGoroutine") (vals : Array Value) (w : World) : (callFunc f vals).run P w = .ok (.enter f vals) w := by
 simp [callFunc,hf,hb,hn]
theorem enter_sound (G:Good P D) {n:Nat} (hC:CodeSound P D n):CallSound P (enter (exec D n) D):=by
 intro f args h d h' c vals he hR hv
 unfold enter at he
 split at he
 ·rename_i hk hk';exact G.hooks f hk hk' args h d h' c vals he hR hv
 ·split at he
  ·cases he
  ·rename_i df hdf
   obtain ⟨fn,hf,hcf⟩:=G.comp f df hdf
   unfold compFunc at hcf
   split at hcf
   ·rename_i body hb
    split at hcf
    ·rename_i b rs hcb hrs
     split at hcf
     ·rename_i hname
      refine .inr ⟨f,vals.toArray,callFunc_enter hf hb hname _ _,?_⟩
      have hdfe:df={ntmps:=fn.ntmps,results:=rs,body:=b,mode:=df.mode}:=(Option.some.inj hcf).symm
      have e1:df.body=b:=by rw [hdfe]
      have e2:df.results=rs:=by rw [hdfe]
      have e3:df.ntmps=fn.ntmps:=by rw [hdfe]
      simp only at he
      split at he
      ·exact go_sound hC hb (by rw [e1];exact hcb) (by rw [e2];exact hrs) e3 hf hR hv he
      ·split at he
       ·rename_i v1 h1 hgo
        cases he
        have:=go_sound hC hb (by rw [e1];exact hcb) (by rw [e2];exact hrs) e3 hf (hR.setLim (Nat.le_refl _)) hv hgo
        refine this.mono fun e w' hp=>?_
        obtain ⟨v,e0,ρ',k1,k2,k3⟩:=hp
        have hkeep:=go_keeps G.keep (Nat.le_refl _) hgo
        exact ⟨v,e0,ρ',k1.setLim (Nat.le_trans hR.lim hkeep.n),k2,k3⟩
       ·cases he
      ·split at he
       ·rename_i ds hds
        split at he
        ·rename_i v1 h1 hgo
         split at he
         ·rename_i d1 hd1
          split at he
          ·rename_i hun
           cases he
           have:=go_sound hC hb (by rw [e1];exact hcb) (by rw [e2];exact hrs) e3 hf hR.lend (resolveL_in hR hds hv) hgo
           refine this.mono fun e w' hp=>?_
           obtain ⟨v,e0,ρ',k1,k2,k3⟩:=hp
           exact ⟨v,e0,pure_out hR k1 k2 k3 hd1 hun⟩
          ·cases he
         ·cases he
        ·cases he
       ·cases he
      ·split at he
       ·rename_i id sz off len rest
        split at he
        ·rename_i ety sz' xs hgid
         split at he
         ·rename_i hcond
          obtain ⟨hcond1,hcond2⟩:=hcond
          subst hcond1
          split at he
          ·rename_i l hl
           split at he
           ·rename_i hall
            cases he
            have hv0:∃ v0 vr,vals=v0::vr:=by
             cases vals with
             | nil=>have:=hv.1;simp at this
             | cons v0 vr=>exact ⟨v0,vr,rfl⟩
            obtain ⟨v0,vr,rfl⟩:=hv0
            have hvh:VR c (.sl id sz off len) v0:=hv.2 0 (by simp) (by simp)
            obtain ⟨e,cap,ρ1,hcase,k1,k2,k3⟩:=split_in hR hgid hvh ((rest.map visLen).foldl (·+·) 0)
            have hscn:settle h ety sz (match exec D n df.body ((.sl h.n sz off len::rest)++List.replicate (df.ntmps-(DV.sl h.n sz off len::rest).length) undefD) {(h.set id .dead).push (.arr ety sz (xs++List.replicate e .unk) cap) with lim:=h.n} with
              | .ok (.exit _) _ _=>none
              | .ok _ env h'=>match resultsOf h' env df.results with
               | some v=>some (v,h')
               | none=>none
              | .fail=>none)=some l:=by
             rcases hcase with ⟨rfl,rfl⟩|⟨hlt,rfl⟩
             ·exact hl
             ·have:=List.all_eq_true.1 hall e (List.mem_range.2 hlt)
              split at this
              ·rename_i l' hl'
               rw [sameL_eq this];exact hl'
              ·cases this
            have hgo:∃ r hj,(match exec D n df.body ((.sl h.n sz off len::rest)++List.replicate (df.ntmps-(DV.sl h.n sz off len::rest).length) undefD) {(h.set id .dead).push (.arr ety sz (xs++List.replicate e .unk) cap) with lim:=h.n} with
              | .ok (.exit _) _ _=>none
              | .ok _ env h'=>match resultsOf h' env df.results with
               | some v=>some (v,h')
               | none=>none
              | .fail=>none)=some (r,hj):=by
             cases hx:(match exec D n df.body ((.sl h.n sz off len::rest)++List.replicate (df.ntmps-(DV.sl h.n sz off len::rest).length) undefD) {(h.set id .dead).push (.arr ety sz (xs++List.replicate e .unk) cap) with lim:=h.n} with
              | .ok (.exit _) _ _=>none
              | .ok _ env h'=>match resultsOf h' env df.results with
               | some v=>some (v,h')
               | none=>none
              | .fail=>none) with
             | none=>rw [hx]at hscn;cases hscn
             | some p=>exact ⟨p.1,p.2,rfl⟩
            obtain ⟨r,hj,hgo⟩:=hgo
            rw [hgo]at hscn
            have hlim:h.n≤((h.set id .dead).push (.arr ety sz (xs++List.replicate e .unk) cap)).n:=Nat.le_succ _
            have hvs:VRs (c.next c.w ρ1 ((h.set id .dead).push (.arr ety sz (xs++List.replicate e .unk) cap))) (.sl h.n sz off len::rest) (v0::vr):=by
             refine ⟨hv.1,fun i h1 h2=>?_⟩
             cases i with
             | zero=>exact k3
             | succ i=>exact (hv.2 (i+1) h1 h2).mono k2
            have hcall:=go_sound hC hb (by rw [e1];exact hcb) (by rw [e2];exact hrs) e3 hf (k1.setLim hlim) hvs hgo
            have hkp:=go_keeps G.keep hlim hgo
            refine hcall.mono fun e w' hp=>?_
            obtain ⟨v,e0,ρj,q1,q2,q3⟩:=hp
            refine ⟨v,e0,split_out hR hgid q1 (k2.trans q2) (fun i hi=>?_) hscn q3⟩
            have:=hkp.get i hi
            rw [this]
            exact get_push_old hi
           ·cases he
          ·cases he
         ·cases he
        ·exact go_sound hC hb (by rw [e1];exact hcb) (by rw [e2];exact hrs) e3 hf hR hv he
       ·exact go_sound hC hb (by rw [e1];exact hcb) (by rw [e2];exact hrs) e3 hf hR hv he
      ·split at he
       ·rename_i as h1 ea
        obtain ⟨kF,kV⟩:=mapH_sound (fun a b c=>freezeA_sound a b c) hR hv ea
        split at he
        ·rename_i ds hds
         split at he
         ·rename_i v1 h2 hgo
          split at he
          ·rename_i d1 hd1
           split at he
           ·rename_i hun
            cases he
            have:=go_sound hC hb (by rw [e1];exact hcb) (by rw [e2];exact hrs) e3 hf kF.1.lend (resolveL_in kF.1 hds kV) hgo
            refine this.mono fun e w' hp=>?_
            obtain ⟨v,e0,ρ',k1,k2,k3⟩:=hp
            obtain ⟨ρ2,p1,p2,p3⟩:=pure_out kF.1 k1 k2 k3 hd1 hun
            exact ⟨v,e0,ρ2,p1,kF.2.trans p2,p3⟩
           ·cases he
          ·cases he
         ·cases he
        ·cases he
       ·cases he
     ·cases hcf
    ·cases hcf
   ·cases hcf
theorem code_sound (G:Good P D):∀n,CodeSound P D n∧LoopSound P D n:=by
 intro n
 induction n with
 | zero =>
  refine ⟨fun code dc h c env a e env' h' Q _ he=>?_,fun code dc h c env a e env' h' Q _ he=>?_⟩
  ·cases he
  ·cases he
 | succ n ih =>
  obtain ⟨iC,iL⟩:=ih
  have hcall:=enter_sound G iC
  have hkeep:=enter_keeps (run:=exec D n) G.keep (exec_keeps G.keep n)
  refine ⟨?_,?_⟩
  ·intro code dc h c env a e env' h' Q hcc he hR hE hQ
   unfold compCode at hcc
   split at hcc
   ·cases hcc
    simp only [exec]at he
    cases he
    exact wp_skip (hQ _ _ ⟨c.ρ,by rw [hR.same];exact ⟨hR,.refl c,hE⟩⟩)
   ·rename_i x y
    split at hcc
    ·rename_i _ _ dx dy hx hy
     cases hcc
     simp only [exec]at he
     refine wp_seq ?_
     split at he
     ·rename_i env1 h1 h2
      refine iC x dx h c env a .normal env1 h1 _ hx h2 hR hE fun a' w' hst=>?_
      obtain ⟨ρ',k1,k2,k3⟩:=hst
      show y.wp P Q a' w'
      exact iC y dy h1 (c.next w' ρ' h1) env1 a' e env' h' Q hy he k1 k3 fun a2 w2 hst2=>hQ _ _ (hst2.trans k2)
     ·rename_i hne
      refine iC x dx h c env a e env' h' _ hx he hR hE fun a' w' hst=>?_
      have:=hQ a' w' hst
      cases e with
      | normal=>exact absurd he (hne env' h')
      | exit id=>exact this
      | ret=>exact this
    ·cases hcc
   ·rename_i cd x y
    split at hcc
    ·rename_i _ _ _ cd' dx dy h1 h2 h3
     cases hcc
     simp only [exec]at he
     have hv:=opd_VR h1 hE
     split at he
     ·rename_i hcv
      rw [hcv]at hv
      exact wp_cond_true hv.bool_inv (iC x dx h c env a e env' h' Q h2 he hR hE hQ)
     ·rename_i hcv
      rw [hcv]at hv
      exact wp_cond_false hv.bool_inv (iC y dy h c env a e env' h' Q h3 he hR hE hQ)
     ·cases he
    ·cases hcc
   ·rename_i id b
    split at hcc
    ·rename_i _ db hb
     cases hcc
     simp only [exec]at he
     refine wp_block ?_
     split at he
     ·rename_i id' env1 h1 h2
      split at he
      ·rename_i hid
       cases he
       exact iC b db h c env a (.exit id') _ _ _ hb h2 hR hE fun a' w' hst=>by
        show Exit.inBlock id Q (.exit id') a' w'
        simp only [Exit.inBlock,hid,if_true]
        exact hQ a' w' hst
      ·rename_i hid
       cases he
       exact iC b db h c env a (.exit id') _ _ _ hb h2 hR hE fun a' w' hst=>by
        show Exit.inBlock id Q (.exit id') a' w'
        simp only [Exit.inBlock,hid,if_false]
        exact hQ a' w' hst
     ·rename_i hne
      refine iC b db h c env a e env' h' _ hb he hR hE fun a' w' hst=>?_
      have:=hQ a' w' hst
      cases e with
      | normal=>exact this
      | exit id'=>exact absurd he (hne id' env' h')
      | ret=>exact this
    ·cases hcc
   ·rename_i b
    split at hcc
    ·rename_i _ db hb
     cases hcc
     refine wp_loop_rounds (n+1) ?_
     rw [rounds_succ]
     simp only [exec]at he
     split at he
     ·rename_i env1 h1 h2
      refine iC b db h c env a .normal env1 h1 _ hb h2 hR hE fun a' w' hst=>?_
      obtain ⟨ρ',k1,k2,k3⟩:=hst
      show Code.rounds P b Q n a' w'
      exact iL b db h1 (c.next w' ρ' h1) env1 a' e env' h' Q hb he k1 k3 fun a2 w2 hst2=>hQ _ _ (hst2.trans k2)
     ·rename_i hne
      refine iC b db h c env a e env' h' _ hb he hR hE fun a' w' hst=>?_
      have:=hQ a' w' hst
      cases e with
      | normal=>exact absurd he (hne env' h')
      | exit id=>exact this
      | ret=>exact this
    ·cases hcc
   ·cases hcc
    simp only [exec]at he
    cases he
    exact wp_exit (hQ _ _ ⟨c.ρ,by rw [hR.same];exact ⟨hR,.refl c,hE⟩⟩)
   ·cases hcc
    simp only [exec]at he
    cases he
    exact wp_ret (hQ _ _ ⟨c.ρ,by rw [hR.same];exact ⟨hR,.refl c,hE⟩⟩)
   ·rename_i id ops draw
    cases draw with
    | false =>
     simp only [compRegion,Bool.false_eq_true,if_false]at hcc
     split at hcc
     ·rename_i ds hds
      cases hcc
      simp only [exec]at he
      split at he
      ·rename_i env1 h1 hrun
       cases he
       exact wp_region_list (by
        have:=ops_sound hcall (ops:=ops.toList) (Q:=Q) ops.toList ds h c env a _ _ hds hrun hR hE hQ
        simpa using this)
      ·cases he
     ·cases hcc
    | true =>
     have hdc:∃ ds,dc=.draw ds:=by
      obtain ⟨dis,bs,e,_⟩:=compRegion_fit hcc
      exact ⟨_,e⟩
     obtain ⟨ds,rfl⟩:=hdc
     simp only [exec]at he
     split at he
     ·rename_i env1 h1 hrun
      cases he
      exact draw_sound G.mixed hcc hkeep hcall hrun hR hE hQ
     ·cases he
   ·cases hcc
  ·intro code dc h c env a e env' h' Q hcc he hR hE hQ
   rw [rounds_succ]
   simp only [exec]at he
   split at he
   ·rename_i env1 h1 h2
    refine iC code dc h c env a .normal env1 h1 _ hcc h2 hR hE fun a' w' hst=>?_
    obtain ⟨ρ',k1,k2,k3⟩:=hst
    show Code.rounds P code Q n a' w'
    exact iL code dc h1 (c.next w' ρ' h1) env1 a' e env' h' Q hcc he k1 k3 fun a2 w2 hst2=>hQ _ _ (hst2.trans k2)
   ·rename_i hne
    refine iC code dc h c env a e env' h' _ hcc he hR hE fun a' w' hst=>?_
    have:=hQ a' w' hst
    cases e with
    | normal=>exact absurd he (hne env' h')
    | exit id=>exact this
    | ret=>exact this
theorem call_sound (G:Good P D) (n:Nat):CallSound P (callD D n):=enter_sound G (code_sound G n).1
end
end Go.Dm
/-
Part 28 of "Dm": a call of a function without arguments from outside; the table of the functions.
-/
namespace Go.Dm
open Go.RowKit
def emptyH:Heap:={objs:=[],n:=0,lim:=0}
def ctx0 (w:World) (τ:Nat→Value:=fun _=>undef):Ctx:=⟨w,fun _=>none,fun _=>False,fun _=>False,fun _=>False,τ⟩
theorem get_empty (id:Nat):emptyH.get id=none:=by simp [Heap.get,emptyH]
def Laid (w:World):Prop:=∀b v,globVal=some (b,v)→b<w.heap.size∧w.cell? ⟨b,0,none⟩=some v
theorem rel0 (w:World) (hg:Laid w) (τ:Nat→Value:=fun _=>undef):Rel emptyH (ctx0 w τ) :=
 ⟨rfl,Nat.le_refl _,fun id h=>absurd rfl h,fun id o h=>(by rw [get_empty]at h;cases h),fun i j oi oj b x y hi=>(by rw [get_empty]at hi;cases hi),fun b=>⟨fun h=>h.elim,fun h=>by
  rcases h with ⟨id,o,x,hg,_⟩|h
  ·rw [get_empty]at hg;cases hg
  ·exact h.elim⟩,fun b h=>h.elim,fun b h=>h.elim,fun b h=>h.elim,fun b v hv=>⟨(hg b v hv).1,fun h=>h,(hg b v hv).2⟩⟩
theorem grown_of_le {w:World} {τ:Nat→Value} {c:Ctx} (h:CtxLe (ctx0 w τ) c):Grown w c.w:=by
 refine ⟨⟨h.quiet.os,h.quiet.out,fun i hi=>?_⟩,h.quiet.froz,h.size⟩
 have:=(World.keptBut_refl w (fun _=>False)).2.2 i hi
 rw [h.frame i hi (fun h=>h)]
 exact this
def TabOk (P:Program) (tab:List (Nat×DFunc)):Prop:=∀x,x∈tab→∃ fn,P.funcs[x.1]?=some fn∧compFunc P fn x.2.mode=some x.2
theorem TabOk.nil {P:Program}:TabOk P []:=fun x hx=>by cases hx
theorem TabOk.cons {P:Program} {f:Nat} {df:DFunc} {fn:Func} {tab:List (Nat×DFunc)} (h1:P.funcs[f]?=some fn) (h2:compFunc P fn df.mode=some df) (h:TabOk P tab):TabOk P ((f,df)::tab):=fun x hx=>by
 rcases List.mem_cons.1 hx with rfl|hx
 ·exact ⟨fn,h1,h2⟩
 ·exact h x hx
def lookT:List (Nat×DFunc)→Nat→Option DFunc
 | [],_=>none
 | (k,d)::r,f=>if Nat.beq k f then some d else lookT r f
theorem lookT_mem {tab:List (Nat×DFunc)} {f:Nat} {d:DFunc} (h:lookT tab f=some d):(f,d)∈tab:=by
 induction tab with
 | nil=>cases h
 | cons x r ih =>
  obtain ⟨k,d'⟩:=x
  simp only [lookT]at h
  split at h
  ·rename_i he
   cases h
   rw [Nat.eq_of_beq_eq_true he]
   exact List.mem_cons_self ..
  ·exact List.mem_cons_of_mem _ (ih h)
end Go.Dm
/-
Part 30 of "Dm": what stands in the place of functions without a body; tables with hooks.
-/
namespace Go.Dm
def HookOk (P:Program) (f:Nat) (hk:Hook):Prop :=
 (∀args h d h' c vals,hk h args=some (d,h')→Rel h c→VRs c args vals→CallOk P f vals.toArray h c h' d)∧∀h args v h',h.lim≤h.n→hk h args=some (v,h')→Keeps h h'
def HooksOk (P:Program) (hooks:List (Nat×Hook)):Prop:=∀x,x∈hooks→HookOk P x.1 x.2
theorem HooksOk.nil {P:Program}:HooksOk P []:=fun x hx=>by cases hx
theorem HooksOk.cons {P:Program} {f:Nat} {hk:Hook} {hooks:List (Nat×Hook)} (h1:HookOk P f hk) (h:HooksOk P hooks):HooksOk P ((f,hk)::hooks):=fun x hx=>by
 rcases List.mem_cons.1 hx with rfl|hx
 ·exact h1
 ·exact h x hx
def lookH:List (Nat×Hook)→Nat→Option Hook
 | [],_=>none
 | (k,d)::r,f=>if Nat.beq k f then some d else lookH r f
theorem lookH_mem {hooks:List (Nat×Hook)} {f:Nat} {d:Hook} (h:lookH hooks f=some d):(f,d)∈hooks:=by
 induction hooks with
 | nil=>cases h
 | cons x r ih =>
  obtain ⟨k,d'⟩:=x
  simp only [lookH]at h
  split at h
  ·rename_i he
   cases h
   rw [Nat.eq_of_beq_eq_true he]
   exact List.mem_cons_self ..
  ·exact List.mem_cons_of_mem _ (ih h)
def hookedD (tab:List (Nat×DFunc)) (hooks:List (Nat×Hook)):DProg:={fn:=lookT tab,hook:=lookH hooks}
theorem hookedD_good {P:Program} {tab:List (Nat×DFunc)} {hooks:List (Nat×Hook)} (hm:P.follows .mixedOrders=true) (ht:TabOk P tab) (hh:HooksOk P hooks):Good P (hookedD tab hooks) where
 mixed:=hm
 comp:=fun f df h=>ht (f,df) (lookT_mem h)
 hooks:=fun f hk h=>(hh (f,hk) (lookH_mem h)).1
 keep:=fun f hk h=>(hh (f,hk) (lookH_mem h)).2
end Go.Dm
/-
Part 36 of "Dm": what stands in the place of the comparing of two texts (a function without a body).
-/
namespace Go.Dm
end Go.Dm
/-
Part 32 of "Dm": what stands in the place of slices.Clone: whether a slice without elements is nil is not asked.
-/
namespace Go.Dm
structure CloneText (P:Program) (fn:Func) (ety sz bytes:Nat) (z:DV) where
 (r0 r1 r2 r3:Nat) (os0 os2 os3:Array Oper) (o2 o3:Oper) (t u:TypeId) (e:TypeId)
 body:fn.body=some (.seq (.region r0 os0 false) (.seq (.seq (.region r1 #[o2,o3] false) (.cond (.tmp 4) (.seq (.region r2 os2 false) .ret) .skip)) (.seq (.region r3 os3 false) .ret)))
 hA:compCode P (.region r0 os0 false)=some (.region [⟨some 2,.move (.c .nsl),none,.write,0,false⟩])
 h2:compOper P [o2,o3] .write 0 o2=some ⟨some 3,.move (.t 0),none,.write,0,false⟩
 h3:o3.op=.binOp .eql t (.tmp 3) (.const (.slice none 0 0)) u
 h3d:o3.dst=some 4
 h3g:o3.guard.isNone=true
 hu:P.underlying t=some (.slice e)
 hC:compCode P (.seq (.region r2 os2 false) .ret)=some (.seq (.region [⟨some 2,.move (.c .nsl),none,.write,0,false⟩]) .ret)
 hD:compCode P (.seq (.region r3 os3 false) .ret)=some (.seq (.region [⟨some 5,.buildSlice ety sz z 0 [],none,.write,0,false⟩,⟨some 6,.move (.t 0),none,.write,0,false⟩,⟨some 7,.append ety sz bytes (.t 5) (.t 6),none,.write,0,false⟩,⟨some 2,.move (.t 7),none,.write,0,false⟩]) .ret)
 nt:fn.ntmps=8
 rs:fn.results=#[.tmp 2]
end Go.Dm
/-
Part 1 of "Dw", the machine's runs without a bound: what a code does if it is given steps enough; the equations of that.
-/
namespace Go.Dm
abbrev RunF:=DCode→Env→Heap→Res
abbrev CallFn:=Nat→List DV→Heap→Option (DV×Heap)
def RunLe (r1 r2:RunF):Prop:=∀c env h e env' h',r1 c env h=.ok e env' h'→r2 c env h=.ok e env' h'
def CallLe (c1 c2:CallFn):Prop:=∀f args h r,c1 f args h=some r→c2 f args h=some r
theorem RunLe.refl (r:RunF):RunLe r r:=fun _ _ _ _ _ _ h=>h
theorem RunLe.trans {a b c:RunF} (h:RunLe a b) (g:RunLe b c):RunLe a c:=fun x y z e u v k=>g _ _ _ _ _ _ (h x y z e u v k)
theorem oneOp_le {c1 c2:CallFn} (hc:CallLe c1 c2) {o:DOp} {env:Env} {h:Heap} {r:DV×Heap} (hs:oneOp c1 o env h=some r):oneOp c2 o env h=some r:=by
 cases o
 case call f args =>
  simp only [oneOp]at hs ⊢
  split at hs
  ·exact hc _ _ _ _ hs
  ·cases hs
 all_goals exact hs
theorem heapOp_le {c1 c2:CallFn} (hc:CallLe c1 c2) {l:Nat} {o:DOp} {env:Env} {h:Heap} {r:DV×Heap} (hs:heapOp c1 l o env h=some r):heapOp c2 l o env h=some r:=by
 unfold heapOp at hs ⊢
 split at hs
 ·rename_i v h' h1
  rw [oneOp_le hc h1];exact hs
 ·cases hs
theorem pokeCall_off (c:CallFn) (r:Nat) (L:DLog) (o:DOp) (env:Env) (h:Heap) (x:DV×Heap×DLog):pokeCall c r L o env h≠some x:=by
 intro hs
 unfold pokeCall at hs
 split at hs
 ·split at hs
  ·split at hs
   ·rename_i hall;exact absurd hall.1 (by decide)
   ·cases hs
  ·cases hs
 ·cases hs
theorem createOp_le {c1 c2:CallFn} (hc:CallLe c1 c2) {l q:Nat} {L:DLog} {o:DOp} {env:Env} {h:Heap} {r:DV×Heap×DLog} (hs:createOp c1 l q L o env h=some r):createOp c2 l q L o env h=some r:=by
 unfold createOp at hs ⊢
 split at hs
 ·exact hs
 ·split at hs
  ·rename_i v h' h1
   rw [heapOp_le hc h1];exact hs
  ·exact absurd hs (pokeCall_off _ _ _ _ _ _ _)
theorem runOps_le {c1 c2:CallFn} (hc:CallLe c1 c2):∀(ops:List DOper) {env:Env} {h:Heap} {r:Env×Heap},runOps c1 ops env h=some r→runOps c2 ops env h=some r:=by
 intro ops
 induction ops with
 | nil=>intro env h r hs;exact hs
 | cons o ops ih =>
  intro env h r hs
  simp only [runOps]at hs ⊢
  split at hs
  ·split at hs
   ·rename_i v h' h1
    rw [oneOp_le hc h1];exact ih hs
   ·cases hs
  ·exact ih hs
  ·cases hs
theorem runDraw_le {c1 c2:CallFn} (hc:CallLe c1 c2):∀(ops:List DOper) {env:Env} {hs:List Heap} {L:DLog} {r:Env×Heap},runDraw c1 ops env hs L=some r→runDraw c2 ops env hs L=some r:=by
 intro ops
 induction ops with
 | nil=>intro env h L r hs;exact hs
 | cons o ops ih =>
  intro env hs L r he
  cases hs with
  | nil=>simp [runDraw]at he
  | cons h hs =>
   simp only [runDraw]at he ⊢
   split at he
   ·cases he
   ·split at he
    ·split at he
     ·rename_i hfr
      rw [if_pos hfr]
      split at he
      ·split at he
       ·exact ih he
       ·cases he
      ·cases he
     ·cases he
    ·split at he
     ·rename_i v h' h1
      rw [oneOp_le hc h1];exact ih he
     ·cases he
    ·split at he
     ·split at he
      ·rename_i v h' L' h1
       rw [createOp_le hc h1];exact ih he
      ·cases he
     ·cases he
   ·exact ih he
def goRun (run:RunF) (df:DFunc) (args:List DV) (h:Heap):Option (DV×Heap) :=
 match run df.body (args++List.replicate (df.ntmps-args.length) undefD) h with
 | .ok (.exit _) _ _=>none
 | .ok _ env h'=>match resultsOf h' env df.results with
  | some v=>some (v,h')
  | none=>none
 | .fail=>none
theorem goRun_le {r1 r2:RunF} (hr:RunLe r1 r2) {df:DFunc} {args:List DV} {h:Heap} {r:DV×Heap} (hs:goRun r1 df args h=some r):goRun r2 df args h=some r:=by
 unfold goRun at hs ⊢
 split at hs
 ·cases hs
 ·rename_i e env h' hne h1
  rw [hr _ _ _ _ _ _ h1]
  cases e with
  | exit id=>exact absurd rfl (hne id)
  | normal=>exact hs
  | ret=>exact hs
 ·cases hs
def scnRun (run:RunF) (df:DFunc) (rest:List DV) (id sz off len ety:Nat) (xs:List DV) (h:Heap) (e:Nat) (cap:Option Nat):Option (List DV) :=
 settle h ety sz (goRun run df (.sl h.n sz off len::rest) {(h.set id .dead).push (.arr ety sz (xs++List.replicate e .unk) cap) with lim:=h.n})
theorem scnRun_le {r1 r2:RunF} (hr:RunLe r1 r2) {df:DFunc} {rest:List DV} {id sz off len ety:Nat} {xs:List DV} {h:Heap} {e:Nat} {cap:Option Nat} {l:List DV} (hs:scnRun r1 df rest id sz off len ety xs h e cap=some l) :
  scnRun r2 df rest id sz off len ety xs h e cap=some l:=by
 unfold scnRun at hs ⊢
 cases hg:goRun r1 df (.sl h.n sz off len::rest) {(h.set id .dead).push (.arr ety sz (xs++List.replicate e .unk) cap) with lim:=h.n} with
 | none=>rw [hg]at hs;simp [settle]at hs
 | some r=>rw [goRun_le hr hg,←hg];exact hs
def splitRun (run:RunF) (df:DFunc) (rest:List DV) (id sz off len ety:Nat) (xs:List DV) (h:Heap):Option (DV×Heap) :=
 match scnRun run df rest id sz off len ety xs h ((rest.map visLen).foldl (·+·) 0) none with
 | some l=>if (List.range ((rest.map visLen).foldl (·+·) 0)).all (fun e=>match scnRun run df rest id sz off len ety xs h e (some (xs.length+e)) with|some l'=>sameL l l'|none=>false)=true then
   some (.sl h.n sz 0 l.length,(h.set id .dead).push (.arr ety sz l none)) else none
 | none=>none
theorem splitRun_le {r1 r2:RunF} (hr:RunLe r1 r2) {df:DFunc} {rest:List DV} {id sz off len ety:Nat} {xs:List DV} {h:Heap} {r:DV×Heap} (hs:splitRun r1 df rest id sz off len ety xs h=some r) :
  splitRun r2 df rest id sz off len ety xs h=some r:=by
 unfold splitRun at hs ⊢
 split at hs
 ·rename_i l hl
  split at hs
  ·rename_i hall
   rw [scnRun_le hr hl]
   simp only
   rw [if_pos]
   ·exact hs
   ·refine List.all_eq_true.2 fun e he=>?_
    have:=List.all_eq_true.1 hall e he
    split at this
    ·rename_i l' hl'
     rw [scnRun_le hr hl'];exact this
    ·cases this
  ·cases hs
 ·cases hs
def modeRun (run:RunF) (df:DFunc) (args:List DV) (h:Heap):Option (DV×Heap) :=
 match df.mode with
 | .full=>goRun run df args h
 | .fresh=>match goRun run df args {h with lim:=h.n} with
  | some (v,h')=>some (v,{h' with lim:=h.lim})
  | none=>none
 | .pure=>match args.mapM (resolve true h deepFuel) with
  | some ds=>match goRun run df ds {objs:=[],n:=0,lim:=0} with
   | some (v,h')=>match resolve false h' deepFuel v with
    | some d=>if unlent deepFuel d then some (d,h) else none
    | none=>none
   | none=>none
  | none=>none
 | .split=>match args with
  | .sl id sz off len::rest=>match h.get id with
   | some (.arr ety sz' xs none)=>if sz=sz'∧h.lim≤id then splitRun run df rest id sz off len ety xs h else none
   | _=>goRun run df args h
  | _=>goRun run df args h
 | .frz=>match mapH freezeA h args with
  | some (as,h1)=>match as.mapM (resolve true h1 deepFuel) with
   | some ds=>match goRun run df ds {objs:=[],n:=0,lim:=0} with
    | some (v,h')=>match resolve false h' deepFuel v with
     | some d=>if unlent deepFuel d then some (d,h1) else none
     | none=>none
    | none=>none
   | none=>none
  | none=>none
theorem enter_eq (run:RunF) (D:DProg) (f:Nat) (args:List DV) (h:Heap) :
  enter run D f args h=match D.hook f with
   | some hk=>hk h args
   | none=>match D.fn f with
    | none=>none
    | some df=>modeRun run df args h:=by
 unfold enter
 cases D.hook f with
 | some hk=>rfl
 | none =>
  cases D.fn f with
  | none=>rfl
  | some df =>
   simp only
   unfold modeRun
   cases df.mode<;>rfl
theorem modeRun_le {r1 r2:RunF} (hr:RunLe r1 r2) {df:DFunc} {args:List DV} {h:Heap} {r:DV×Heap} (hs:modeRun r1 df args h=some r):modeRun r2 df args h=some r:=by
 unfold modeRun at hs ⊢
 split at hs
 ·exact goRun_le hr hs
 ·split at hs
  ·rename_i v h' h1
   rw [goRun_le hr h1];exact hs
  ·cases hs
 ·split at hs
  ·split at hs
   ·rename_i h1
    rw [goRun_le hr h1];exact hs
   ·cases hs
  ·cases hs
 ·split at hs
  ·split at hs
   ·split at hs
    ·rename_i hc
     rw [if_pos hc]
     exact splitRun_le hr hs
    ·cases hs
   ·rename_i hne
    exact goRun_le hr hs
  ·exact goRun_le hr hs
 ·split at hs
  ·split at hs
   ·split at hs
    ·rename_i h1
     rw [goRun_le hr h1];exact hs
    ·cases hs
   ·cases hs
  ·cases hs
theorem enter_le {r1 r2:RunF} (hr:RunLe r1 r2) (D:DProg):CallLe (enter r1 D) (enter r2 D):=by
 intro f args h r hs
 rw [enter_eq]at hs ⊢
 split at hs
 ·exact hs
 ·split at hs
  ·cases hs
  ·exact modeRun_le hr hs
theorem exec_succ_le (D:DProg):∀n,RunLe (exec D n) (exec D (n+1)):=by
 intro n
 induction n with
 | zero=>intro c env h e env' h' he;cases he
 | succ n ih =>
  intro c env h e env' h' he
  cases c<;>unfold exec at he<;>unfold exec<;>simp only at he ⊢
  case skip=>exact he
  case exit=>exact he
  case ret=>exact he
  case seq a b =>
   split at he
   ·rename_i h1
    rw [ih _ _ _ _ _ _ h1];exact ih _ _ _ _ _ _ he
   ·rename_i hne
    rw [ih _ _ _ _ _ _ he]
    cases e with
    | normal=>exact absurd he (hne _ _)
    | _=>rfl
  case cond c a b =>
   split at he
   ·exact ih _ _ _ _ _ _ he
   ·exact ih _ _ _ _ _ _ he
   ·cases he
  case block id b =>
   split at he
   ·rename_i h1
    rw [ih _ _ _ _ _ _ h1];exact he
   ·rename_i hne
    rw [ih _ _ _ _ _ _ he]
    cases e with
    | exit i=>exact absurd he (hne _ _ _)
    | _=>rfl
  case loop b =>
   split at he
   ·rename_i h1
    rw [ih _ _ _ _ _ _ h1];exact ih _ _ _ _ _ _ he
   ·rename_i hne
    rw [ih _ _ _ _ _ _ he]
    cases e with
    | normal=>exact absurd he (hne _ _)
    | _=>rfl
  case region ops =>
   split at he
   ·rename_i h1
    rw [runOps_le (enter_le ih D) _ h1];exact he
   ·cases he
  case draw ops =>
   split at he
   ·rename_i h1
    rw [runDraw_le (enter_le ih D) _ h1];exact he
   ·cases he
theorem exec_le (D:DProg) {n m:Nat} (h:n≤m):RunLe (exec D n) (exec D m):=by
 induction h with
 | refl=>exact .refl _
 | step _ ih=>exact ih.trans (exec_succ_le D _)
open Classical in
noncomputable def ev (D:DProg):RunF:=fun c env h =>
 if hx:∃ x:Nat×Ex×Env×Heap,exec D x.1 c env h=.ok x.2.1 x.2.2.1 x.2.2.2 then .ok hx.choose.2.1 hx.choose.2.2.1 hx.choose.2.2.2 else .fail
theorem ev_ok {D:DProg} {c:DCode} {env:Env} {h:Heap} {e:Ex} {env':Env} {h':Heap}:ev D c env h=.ok e env' h'↔∃ n,exec D n c env h=.ok e env' h':=by
 unfold ev
 constructor
 ·intro hs
  split at hs
  ·rename_i hx
   have:=hx.choose_spec
   exact ⟨_,this.trans hs⟩
  ·cases hs
 ·rintro ⟨n,hn⟩
  have hx:∃ x:Nat×Ex×Env×Heap,exec D x.1 c env h=.ok x.2.1 x.2.2.1 x.2.2.2:=⟨⟨n,e,env',h'⟩,hn⟩
  rw [dif_pos hx]
  have h1:=exec_le D (Nat.le_max_left n hx.choose.1) _ _ _ _ _ _ hn
  have h2:=exec_le D (Nat.le_max_right n hx.choose.1) _ _ _ _ _ _ hx.choose_spec
  rw [h1]at h2
  exact h2.symm
theorem exec_le_ev (D:DProg) (n:Nat):RunLe (exec D n) (ev D):=fun _ _ _ _ _ _ h=>ev_ok.2 ⟨n,h⟩
theorem res_ext {a b:Res} (h:∀e env h,a=.ok e env h↔b=.ok e env h):a=b:=by
 cases a with
 | fail=>cases b with
  | fail=>rfl
  | ok e env h0=>exact ((h e env h0).2 rfl)
 | ok e env h0=>exact ((h e env h0).1 rfl).symm
noncomputable def fc (D:DProg):CallFn:=enter (ev D) D
theorem goRun_reach {D:DProg} {df:DFunc} {args:List DV} {h:Heap} {r:DV×Heap} (hs:goRun (ev D) df args h=some r):∃ n,goRun (exec D n) df args h=some r:=by
 cases hv:ev D df.body (args++List.replicate (df.ntmps-args.length) undefD) h with
 | fail=>unfold goRun at hs;rw [hv]at hs;cases hs
 | ok e env h' =>
  obtain ⟨n,hn⟩:=ev_ok.1 hv
  refine ⟨n,?_⟩
  unfold goRun at hs ⊢
  rw [hv]at hs
  rw [hn]
  exact hs
theorem scnRun_reach {D:DProg} {df:DFunc} {rest:List DV} {id sz off len ety:Nat} {xs:List DV} {h:Heap} {e:Nat} {cap:Option Nat} {l:List DV} (hs:scnRun (ev D) df rest id sz off len ety xs h e cap=some l) :
  ∃ n,scnRun (exec D n) df rest id sz off len ety xs h e cap=some l:=by
 unfold scnRun at hs
 cases hg:goRun (ev D) df (.sl h.n sz off len::rest) {(h.set id .dead).push (.arr ety sz (xs++List.replicate e .unk) cap) with lim:=h.n} with
 | none=>rw [hg]at hs;simp [settle]at hs
 | some r =>
  obtain ⟨n,hn⟩:=goRun_reach hg
  refine ⟨n,?_⟩
  unfold scnRun
  rw [hn,←hg];exact hs
theorem splitRun_reach {D:DProg} {df:DFunc} {rest:List DV} {id sz off len ety:Nat} {xs:List DV} {h:Heap} {r:DV×Heap} (hs:splitRun (ev D) df rest id sz off len ety xs h=some r) :
  ∃ n,splitRun (exec D n) df rest id sz off len ety xs h=some r:=by
 unfold splitRun at hs
 split at hs
 ·rename_i l hl
  split at hs
  ·rename_i hall
   obtain ⟨n0,hn0⟩:=scnRun_reach hl
   have many:∀es:List Nat,(es.all fun e=>match scnRun (ev D) df rest id sz off len ety xs h e (some (xs.length+e)) with|some l'=>sameL l l'|none=>false)=true →
     ∃ n,(es.all fun e=>match scnRun (exec D n) df rest id sz off len ety xs h e (some (xs.length+e)) with|some l'=>sameL l l'|none=>false)=true:=by
    intro es
    induction es with
    | nil=>intro _;exact ⟨0,rfl⟩
    | cons e es ih =>
     intro ha
     simp only [List.all_cons,Bool.and_eq_true]at ha
     obtain ⟨n1,h1⟩:=ih ha.2
     have h2:=ha.1
     split at h2
     ·rename_i l' hl'
      obtain ⟨n2,h3⟩:=scnRun_reach hl'
      refine ⟨max n1 n2,?_⟩
      simp only [List.all_cons,Bool.and_eq_true]
      refine ⟨by rw [scnRun_le (exec_le D (Nat.le_max_right n1 n2)) h3];exact h2,List.all_eq_true.2 fun e he=>?_⟩
      have:=List.all_eq_true.1 h1 e he
      split at this
      ·rename_i l2 hl2
       rw [scnRun_le (exec_le D (Nat.le_max_left n1 n2)) hl2];exact this
      ·cases this
     ·cases h2
   obtain ⟨n1,hn1⟩:=many _ hall
   refine ⟨max n0 n1,?_⟩
   unfold splitRun
   rw [scnRun_le (exec_le D (Nat.le_max_left n0 n1)) hn0]
   simp only
   rw [if_pos]
   ·exact hs
   ·refine List.all_eq_true.2 fun e he=>?_
    have:=List.all_eq_true.1 hn1 e he
    split at this
    ·rename_i l2 hl2
     rw [scnRun_le (exec_le D (Nat.le_max_right n0 n1)) hl2];exact this
    ·cases this
  ·cases hs
 ·cases hs
theorem modeRun_reach {D:DProg} {df:DFunc} {args:List DV} {h:Heap} {r:DV×Heap} (hs:modeRun (ev D) df args h=some r):∃ n,modeRun (exec D n) df args h=some r:=by
 unfold modeRun at hs
 split at hs
 ·rename_i hm
  obtain ⟨n,hn⟩:=goRun_reach hs
  exact ⟨n,by unfold modeRun;rw [hm];exact hn⟩
 ·rename_i hm
  split at hs
  ·rename_i v h' h1
   obtain ⟨n,hn⟩:=goRun_reach h1
   exact ⟨n,by unfold modeRun;rw [hm];simp only;rw [hn];exact hs⟩
  ·cases hs
 ·rename_i hm
  split at hs
  ·rename_i ds hds
   split at hs
   ·rename_i v h' h1
    obtain ⟨n,hn⟩:=goRun_reach h1
    exact ⟨n,by unfold modeRun;rw [hm];simp only;rw [hds];simp only;rw [hn];exact hs⟩
   ·cases hs
  ·cases hs
 ·rename_i hm
  split at hs
  ·rename_i id sz off len rest
   split at hs
   ·rename_i ety sz' xs hg
    split at hs
    ·rename_i hc
     obtain ⟨n,hn⟩:=splitRun_reach hs
     exact ⟨n,by unfold modeRun;rw [hm];simp only;rw [hg];simp only;rw [if_pos hc];exact hn⟩
    ·cases hs
   ·rename_i hne
    obtain ⟨n,hn⟩:=goRun_reach hs
    refine ⟨n,?_⟩
    unfold modeRun
    rw [hm]
    simp only
    exact hn
  ·rename_i hne
   obtain ⟨n,hn⟩:=goRun_reach hs
   refine ⟨n,?_⟩
   unfold modeRun
   rw [hm]
   simp only
   exact hn
 ·rename_i hm
  split at hs
  ·rename_i as h1 ea
   split at hs
   ·rename_i ds hds
    split at hs
    ·rename_i v h' h2
     obtain ⟨n,hn⟩:=goRun_reach h2
     exact ⟨n,by unfold modeRun;rw [hm];simp only;rw [ea];simp only;rw [hds];simp only;rw [hn];exact hs⟩
    ·cases hs
   ·cases hs
  ·cases hs
theorem fc_some {D:DProg} {f:Nat} {args:List DV} {h:Heap} {r:DV×Heap}:fc D f args h=some r↔∃ n,callD D n f args h=some r:=by
 constructor
 ·intro hs
  unfold fc at hs
  rw [enter_eq]at hs
  split at hs
  ·rename_i hk hh
   exact ⟨0,by unfold callD;rw [enter_eq,hh];exact hs⟩
  ·rename_i hh
   split at hs
   ·cases hs
   ·rename_i df hdf
    obtain ⟨n,hn⟩:=modeRun_reach hs
    exact ⟨n,by unfold callD;rw [enter_eq,hh,hdf];exact hn⟩
 ·rintro ⟨n,hn⟩
  exact enter_le (exec_le_ev D n) D f args h r hn
theorem call_le_fc (D:DProg) (n:Nat):CallLe (enter (exec D n) D) (fc D):=enter_le (exec_le_ev D n) D
theorem oneOp_reach {D:DProg} {o:DOp} {env:Env} {h:Heap} {r:DV×Heap} (hs:oneOp (fc D) o env h=some r):∃ n,oneOp (enter (exec D n) D) o env h=some r:=by
 cases o
 case call f args =>
  simp only [oneOp]at hs ⊢
  split at hs
  ·exact fc_some.1 hs
  ·cases hs
 all_goals exact ⟨0,hs⟩
theorem heapOp_reach {D:DProg} {l:Nat} {o:DOp} {env:Env} {h:Heap} {r:DV×Heap} (hs:heapOp (fc D) l o env h=some r):∃ n,heapOp (enter (exec D n) D) l o env h=some r:=by
 unfold heapOp at hs
 split at hs
 ·rename_i v h' h1
  obtain ⟨n,hn⟩:=oneOp_reach h1
  exact ⟨n,by unfold heapOp;rw [hn];exact hs⟩
 ·cases hs
theorem createOp_reach {D:DProg} {l q:Nat} {L:DLog} {o:DOp} {env:Env} {h:Heap} {r:DV×Heap×DLog} (hs:createOp (fc D) l q L o env h=some r):∃ n,createOp (enter (exec D n) D) l q L o env h=some r:=by
 unfold createOp at hs
 split at hs
 ·rename_i id hp
  exact ⟨0,by unfold createOp;rw [hp];exact hs⟩
 ·rename_i hp
  split at hs
  ·rename_i v h' h1
   obtain ⟨n,hn⟩:=heapOp_reach h1
   exact ⟨n,by unfold createOp;rw [hp];simp only;rw [hn];exact hs⟩
  ·exact absurd hs (pokeCall_off _ _ _ _ _ _ _)
theorem runOps_reach {D:DProg}:∀(ops:List DOper) {env:Env} {h:Heap} {r:Env×Heap},runOps (fc D) ops env h=some r→∃ n,runOps (enter (exec D n) D) ops env h=some r:=by
 intro ops
 induction ops with
 | nil=>intro env h r hs;exact ⟨0,hs⟩
 | cons o ops ih =>
  intro env h r hs
  simp only [runOps]at hs
  split at hs
  ·rename_i hw
   split at hs
   ·rename_i v h' h1
    obtain ⟨n1,k1⟩:=oneOp_reach h1
    obtain ⟨n2,k2⟩:=ih hs
    refine ⟨max n1 n2,?_⟩
    simp only [runOps,hw]
    rw [oneOp_le (enter_le (exec_le D (Nat.le_max_left n1 n2)) D) k1]
    exact runOps_le (enter_le (exec_le D (Nat.le_max_right n1 n2)) D) _ k2
   ·cases hs
  ·rename_i hw
   obtain ⟨n2,k2⟩:=ih hs
   exact ⟨n2,by simp only [runOps,hw];exact k2⟩
  ·cases hs
theorem runDraw_reach {D:DProg}:∀(ops:List DOper) {env:Env} {hs:List Heap} {L:DLog} {r:Env×Heap},runDraw (fc D) ops env hs L=some r→∃ n,runDraw (enter (exec D n) D) ops env hs L=some r:=by
 intro ops
 induction ops with
 | nil=>intro env h L r hs;exact ⟨0,hs⟩
 | cons o ops ih =>
  intro env hs L r he
  cases hs with
  | nil=>simp [runDraw]at he
  | cons h hs =>
   simp only [runDraw]at he
   split at he
   ·cases he
   ·rename_i hw
    split at he
    ·rename_i hk
     split at he
     ·rename_i hfr
      split at he
      ·rename_i h0 hsn
       split at he
       ·rename_i v h1 hst
        obtain ⟨n,hn⟩:=ih he
        exact ⟨n,by simp only [runDraw,hw,hk,hsn,hst,if_pos hfr];exact hn⟩
       ·cases he
      ·cases he
     ·cases he
    ·rename_i hk
     split at he
     ·rename_i v h' h1
      obtain ⟨n1,k1⟩:=oneOp_reach h1
      obtain ⟨n2,k2⟩:=ih he
      refine ⟨max n1 n2,?_⟩
      simp only [runDraw,hw,hk]
      rw [oneOp_le (enter_le (exec_le D (Nat.le_max_left n1 n2)) D) k1]
      exact runDraw_le (enter_le (exec_le D (Nat.le_max_right n1 n2)) D) _ k2
     ·cases he
    ·rename_i hk
     split at he
     ·rename_i h0 hsn
      split at he
      ·rename_i v h' L' h1
       obtain ⟨n1,k1⟩:=createOp_reach h1
       obtain ⟨n2,k2⟩:=ih he
       refine ⟨max n1 n2,?_⟩
       simp only [runDraw,hw,hk,hsn]
       rw [createOp_le (enter_le (exec_le D (Nat.le_max_left n1 n2)) D) k1]
       exact runDraw_le (enter_le (exec_le D (Nat.le_max_right n1 n2)) D) _ k2
      ·cases he
     ·cases he
   ·rename_i hw
    obtain ⟨n2,k2⟩:=ih he
    exact ⟨n2,by simp only [runDraw,hw];exact k2⟩
section
variable (D:DProg) (env:Env) (h:Heap)
theorem ev_skip:ev D .skip env h=.ok .normal env h:=ev_ok.2 ⟨1,rfl⟩
theorem ev_exit (id:Nat):ev D (.exit id) env h=.ok (.exit id) env h:=ev_ok.2 ⟨1,rfl⟩
theorem ev_ret:ev D .ret env h=.ok .ret env h:=ev_ok.2 ⟨1,rfl⟩
theorem ev_seq (a b:DCode):ev D (.seq a b) env h=match ev D a env h with
  | .ok .normal env h=>ev D b env h
  | r=>r:=by
 apply res_ext
 intro e env' h'
 constructor
 ·intro hs
  obtain ⟨n,hn⟩:=ev_ok.1 hs
  cases n with
  | zero=>cases hn
  | succ n =>
   simp only [exec]at hn
   split at hn
   ·rename_i h1
    rw [ev_ok.2 ⟨n,h1⟩]
    exact ev_ok.2 ⟨n,hn⟩
   ·rename_i hne
    rw [ev_ok.2 ⟨n,hn⟩]
    cases e with
    | normal=>exact absurd hn (hne _ _)
    | _=>rfl
 ·intro hs
  split at hs
  ·rename_i env1 h1 hv
   obtain ⟨n1,k1⟩:=ev_ok.1 hv
   obtain ⟨n2,k2⟩:=ev_ok.1 hs
   refine ev_ok.2 ⟨max n1 n2+1,?_⟩
   simp only [exec]
   rw [exec_le D (Nat.le_max_left n1 n2) _ _ _ _ _ _ k1]
   exact exec_le D (Nat.le_max_right n1 n2) _ _ _ _ _ _ k2
  ·rename_i hne
   obtain ⟨n1,k1⟩:=ev_ok.1 hs
   refine ev_ok.2 ⟨n1+1,?_⟩
   simp only [exec]
   rw [k1]
   cases e with
   | normal=>exact absurd hs (hne _ _)
   | _=>rfl
theorem ev_cond (c:Opd) (a b:DCode):ev D (.cond c a b) env h=match c.eval env with
  | .bool true=>ev D a env h
  | .bool false=>ev D b env h
  | _=>.fail:=by
 apply res_ext
 intro e env' h'
 constructor
 ·intro hs
  obtain ⟨n,hn⟩:=ev_ok.1 hs
  cases n with
  | zero=>cases hn
  | succ n =>
   simp only [exec]at hn
   split at hn
   ·rename_i hc;rw [hc];exact ev_ok.2 ⟨n,hn⟩
   ·rename_i hc;rw [hc];exact ev_ok.2 ⟨n,hn⟩
   ·cases hn
 ·intro hs
  split at hs
  ·rename_i hc
   obtain ⟨n1,k1⟩:=ev_ok.1 hs
   exact ev_ok.2 ⟨n1+1,by simp only [exec,hc];exact k1⟩
  ·rename_i hc
   obtain ⟨n1,k1⟩:=ev_ok.1 hs
   exact ev_ok.2 ⟨n1+1,by simp only [exec,hc];exact k1⟩
  ·cases hs
theorem ev_block (id:Nat) (b:DCode):ev D (.block id b) env h=match ev D b env h with
  | .ok (.exit id') env h=>if id'=id then .ok .normal env h else .ok (.exit id') env h
  | r=>r:=by
 apply res_ext
 intro e env' h'
 constructor
 ·intro hs
  obtain ⟨n,hn⟩:=ev_ok.1 hs
  cases n with
  | zero=>cases hn
  | succ n =>
   simp only [exec]at hn
   split at hn
   ·rename_i h1
    rw [ev_ok.2 ⟨n,h1⟩]
    exact hn
   ·rename_i hne
    rw [ev_ok.2 ⟨n,hn⟩]
    cases e with
    | exit i=>exact absurd hn (hne _ _ _)
    | _=>rfl
 ·intro hs
  split at hs
  ·rename_i h1
   obtain ⟨n1,k1⟩:=ev_ok.1 h1
   exact ev_ok.2 ⟨n1+1,by simp only [exec];rw [k1];exact hs⟩
  ·rename_i hne
   obtain ⟨n1,k1⟩:=ev_ok.1 hs
   refine ev_ok.2 ⟨n1+1,?_⟩
   simp only [exec]
   rw [k1]
   cases e with
   | exit i=>exact absurd hs (hne _ _ _)
   | _=>rfl
theorem ev_loop (b:DCode):ev D (.loop b) env h=match ev D b env h with
  | .ok .normal env h=>ev D (.loop b) env h
  | r=>r:=by
 apply res_ext
 intro e env' h'
 constructor
 ·intro hs
  obtain ⟨n,hn⟩:=ev_ok.1 hs
  cases n with
  | zero=>cases hn
  | succ n =>
   simp only [exec]at hn
   split at hn
   ·rename_i h1
    rw [ev_ok.2 ⟨n,h1⟩]
    exact ev_ok.2 ⟨n,hn⟩
   ·rename_i hne
    rw [ev_ok.2 ⟨n,hn⟩]
    cases e with
    | normal=>exact absurd hn (hne _ _)
    | _=>rfl
 ·intro hs
  split at hs
  ·rename_i env1 h1 hv
   obtain ⟨n1,k1⟩:=ev_ok.1 hv
   obtain ⟨n2,k2⟩:=ev_ok.1 hs
   refine ev_ok.2 ⟨max n1 n2+1,?_⟩
   simp only [exec]
   rw [exec_le D (Nat.le_max_left n1 n2) _ _ _ _ _ _ k1]
   exact exec_le D (Nat.le_max_right n1 n2) _ _ _ _ _ _ k2
  ·rename_i hne
   obtain ⟨n1,k1⟩:=ev_ok.1 hs
   refine ev_ok.2 ⟨n1+1,?_⟩
   simp only [exec]
   rw [k1]
   cases e with
   | normal=>exact absurd hs (hne _ _)
   | _=>rfl
theorem ev_region (ops:List DOper):ev D (.region ops) env h=match runOps (fc D) ops env h with
  | some (env,h)=>.ok .normal env h
  | none=>.fail:=by
 apply res_ext
 intro e env' h'
 constructor
 ·intro hs
  obtain ⟨n,hn⟩:=ev_ok.1 hs
  cases n with
  | zero=>cases hn
  | succ n =>
   simp only [exec]at hn
   split at hn
   ·rename_i h1
    rw [runOps_le (call_le_fc D n) _ h1];exact hn
   ·cases hn
 ·intro hs
  split at hs
  ·rename_i h1
   obtain ⟨n1,k1⟩:=runOps_reach _ h1
   exact ev_ok.2 ⟨n1+1,by simp only [exec];rw [k1];exact hs⟩
  ·cases hs
theorem ev_draw (ops:List DOper):ev D (.draw ops) env h=match runDraw (fc D) ops env [h] .start with
  | some (env,h)=>.ok .normal env h
  | none=>.fail:=by
 apply res_ext
 intro e env' h'
 constructor
 ·intro hs
  obtain ⟨n,hn⟩:=ev_ok.1 hs
  cases n with
  | zero=>cases hn
  | succ n =>
   simp only [exec]at hn
   split at hn
   ·rename_i h1
    rw [runDraw_le (call_le_fc D n) _ h1];exact hn
   ·cases hn
 ·intro hs
  split at hs
  ·rename_i h1
   obtain ⟨n1,k1⟩:=runDraw_reach _ h1
   exact ev_ok.2 ⟨n1+1,by simp only [exec];rw [k1];exact hs⟩
  ·cases hs
theorem fc_eq (f:Nat) (args:List DV):fc D f args h=match D.hook f with
  | some hk=>hk h args
  | none=>match D.fn f with
   | none=>none
   | some df=>modeRun (ev D) df args h:=enter_eq _ _ _ _ _
end
end Go.Dm
