/-
The broker that numbers make: the walk.
-/
import Derived.Test.YtfnhanajiibciaaGreatMs3
import Derived.Test.YtfnhanajiibciaaGreatMs0
import Derived.Test.YtfnhanajiibciaaGreatMs2
set_option linter.all false
namespace Go.Dm.Tc
set_option maxRecDepth 8000 in
set_option maxHeartbeats 4000000 in
theorem l29 (t:Bool) (near:Int) (l:List StepK) (hh:∀ q∈l,q.has.length≤9223372036854775807) (tx tb tn:Nat) :
  ∀ (n i:Nat) (nb:Broker) (f:FEnv) (h:Heap),12 - i=n→InvK nb→SzK nb i→i≤12 →
  f 1=.ptr 0 2 0 0→f 2=.ptr 1 6 0 0→f 3=.ptr 2 6 0 0→f 5=.int .i64 i →
  h.get 0=some (.arr tx 2 [.agg [.int .i64 near,eL t 7 eStepK l]] (some 1))→h.get 1=some (.arr tb 6 [zB] (some 1))→h.get 2=some (.arr tn 6 [eBroker .none nb] (some 1))→h.lim=0→3≤h.n→WF h →
  pcOut (fin [.cell 2 (some 6)] (run D 124 [.block 2,.seq t29k0] (.loop t29l1) f h))=some (eBroker .none (((l.take 12).drop i).foldl tellB nb)):=by
 intro n
 induction n with
 | zero =>
  intro i nb f h hn hi hz hi12 h1 h2 h3 h5 g0 g1 g2 hlim hn3 wf
  have:i=12:=by omega
  subst this
  have he:(l.take 12).drop 12=[]:=List.drop_eq_nil_of_le (by simp;omega)
  have l1:1 < h.n:=by omega
  rw [run_loop_of t29l1.eq_1,he]
  simp only [zB] at g1
  by_cases hlt:12 < l.length
  ·have hlt':(12:Int) < l.length:=by omega
   simp [hlt',t29k0,h1,h2,h3,h5,g0,g1,g2,hlt,hlim,l1,wf,turn]
  ·have hlt':¬ (12:Int) < l.length:=by omega
   simp [hlt',t29k0,h1,h2,h3,h5,g0,g1,g2,hlt,hlim,l1,wf,turn]
 | succ n ih =>
  intro i nb f h hn hi hz hi12 h1 h2 h3 h5 g0 g1 g2 hlim hn3 wf
  have hi12':i < 12:=by omega
  have hi12i:(i:Int) < 12:=by omega
  by_cases hlt:i < l.length
  ·have hlti:(i:Int) < l.length:=by omega
   have hz':Sized nb:=hz.sized (by omega)
   have hside:=s30 .none nb l[i].frm hz'
   have hpred:=s18 false false l[i].has l[i].vals (hh _ (List.getElem_mem hlt))
   have w1:=s16 l[i].tree 0 2 (by decide) (by decide) (by decide)
   have w2:=s16 l[i].client 0 4 (by decide) (by decide) (by decide)
   have w3:=s16 l[i].seq 0 2 (by decide) (by decide) (by decide)
   have w4:=s16 l[i].kind 1 7 (by decide) (by decide) (by decide)
   obtain ⟨m,hmn⟩:∃ m,h.n=m+3:=⟨h.n - 3,by omega⟩
   rw [run_loop_of t29l1.eq_1]
   by_cases k6:within l[i].kind 1 7=6
   ·simp [h1,h3,h5,g0,g2,hlt,hlti,hi12i,hlim,wf,hmn,turn,eStepK,e16,w1,w2,w3,w4,e30,hside,e18,hpred,k6]
    have hS:=s46 nb (within l[i].client 0 4) (within l[i].seq 0 2) (mkPred l[i].has l[i].vals) hi ⟨by have:=hz.near;omega,by have:=hz.adv;omega,by have:=hz.seen;omega,by have:=hz.own;omega,by have:=hz.ent;have:=hz.adv;have:=Nat.mul_le_mul hi12 hi12;omega⟩ (mkPred_ok ..) (by have:=hz.own;omega)
    have hte:tellB nb l[i]=(subscribeB nb ⟨within l[i].client 0 4,within l[i].seq 0 2⟩ (mkPred l[i].has l[i].vals)).1:=by simp [tellB,k6]
    have hdr:(l.take 12).drop i=l[i]::(l.take 12).drop (i+1):=by
     have:i < (l.take 12).length:=by simp;omega
     rw [List.drop_eq_getElem_cons this];simp
    rw [hdr,List.foldl_cons]
    simp [e46,hS,hmn,g2,hlim,wf,h3,h5,turn,t29s1]
    rw [wrap64 (by omega) (by omega)]
    generalize hF:upd _ 5 _=F
    have hk:=tell_keep hi hz l[i]
    rw [← hte]
    refine ih (i+1) (tellB nb l[i]) F _ (by omega) hk.1 hk.2 (by omega) ?_ ?_ ?_ ?_ ?_ ?_ ?_ ?_ ?_ ?_
    all_goals first
     | (rw [← hF];simp [h1,h2,h3];done)
     | (simp [hmn,g0,g1,g2,hlim,wf];done)
     | (simp [hmn] <;> omega)
   ·by_cases k7:within l[i].kind 1 7=7
    ·simp [h1,h3,h5,g0,g2,hlt,hlti,hi12i,hlim,wf,hmn,turn,eStepK,e16,w1,w2,w3,w4,e30,hside,e18,hpred,k7]
     have hS:=s61 nb (within l[i].client 0 4) (within l[i].seq 0 2) hi ⟨by have:=hz.near;omega,by have:=hz.adv;omega,by have:=hz.seen;omega,by have:=hz.own;omega,by have:=hz.ent;have:=Nat.mul_le_mul hi12 hi12;omega⟩ (by have:=hz.adv;omega)
     have hte:tellB nb l[i]=(unsubscribeB nb ⟨within l[i].client 0 4,within l[i].seq 0 2⟩).1:=by simp [tellB,k7]
     have hdr:(l.take 12).drop i=l[i]::(l.take 12).drop (i+1):=by
      have:i < (l.take 12).length:=by simp;omega
      rw [List.drop_eq_getElem_cons this];simp
     rw [hdr,List.foldl_cons]
     simp [e61,hS,hmn,g2,hlim,wf,h3,h5,turn,t29s1]
     rw [wrap64 (by omega) (by omega)]
     generalize hF:upd _ 5 _=F
     have hk:=tell_keep hi hz l[i]
     rw [← hte]
     refine ih (i+1) (tellB nb l[i]) F _ (by omega) hk.1 hk.2 (by omega) ?_ ?_ ?_ ?_ ?_ ?_ ?_ ?_ ?_ ?_
     all_goals first
      | (rw [← hF];simp [h1,h2,h3];done)
      | (simp [hmn,g0,g1,g2,hlim,wf];done)
      | (simp [hmn] <;> omega)
    ·by_cases k5:within l[i].kind 1 7=5
     ·simp [h1,h3,h5,g0,g2,hlt,hlti,hi12i,hlim,wf,hmn,turn,eStepK,e16,w1,w2,w3,w4,e30,hside,e18,hpred,k5]
      have hS:=s59 nb (within l[i].tree 0 2) 0 (sideB nb l[i].frm) (mkPred l[i].has l[i].vals) hi ⟨by have:=hz.near;omega,by have:=hz.adv;omega,by have:=hz.seen;omega,by have:=hz.own;omega,by have:=hz.ent;have:=hz.own;have:=Nat.mul_le_mul hi12 hi12;omega⟩ (mkPred_ok ..) (side_link ..) ⟨by have:=hz.adv;omega,by have:=hz.seen;omega⟩
      have hte:tellB nb l[i]=(advertiseB nb (sideB nb l[i].frm) ⟨within l[i].tree 0 2,0⟩ (mkPred l[i].has l[i].vals)).1:=by simp [tellB,k5]
      have hdr:(l.take 12).drop i=l[i]::(l.take 12).drop (i+1):=by
       have:i < (l.take 12).length:=by simp;omega
       rw [List.drop_eq_getElem_cons this];simp
      rw [hdr,List.foldl_cons]
      simp [e59,hS,hmn,g2,hlim,wf,h3,h5,turn,t29s1]
      rw [wrap64 (by omega) (by omega)]
      generalize hF:upd _ 5 _=F
      have hk:=tell_keep hi hz l[i]
      rw [← hte]
      refine ih (i+1) (tellB nb l[i]) F _ (by omega) hk.1 hk.2 (by omega) ?_ ?_ ?_ ?_ ?_ ?_ ?_ ?_ ?_ ?_
      all_goals first
       | (rw [← hF];simp [h1,h2,h3];done)
       | (simp [hmn,g0,g1,g2,hlim,wf];done)
       | (simp [hmn] <;> omega)
     ·by_cases k3:within l[i].kind 1 7=3∧sideB nb l[i].frm=-1
      ·simp [h1,h3,h5,g0,g2,hlt,hlti,hi12i,hlim,wf,hmn,turn,eStepK,e16,w1,w2,w3,w4,e30,hside,e18,hpred,k3.1,k3.2]
       have hS:=s59 nb (within l[i].tree 0 2) 0 (sideB nb l[i].frm) (mkPred l[i].has l[i].vals) hi ⟨by have:=hz.near;omega,by have:=hz.adv;omega,by have:=hz.seen;omega,by have:=hz.own;omega,by have:=hz.ent;have:=hz.own;have:=Nat.mul_le_mul hi12 hi12;omega⟩ (mkPred_ok ..) (side_link ..) ⟨by have:=hz.adv;omega,by have:=hz.seen;omega⟩
       have hS2:=hS
       rw [k3.2] at hS2
       have hte:tellB nb l[i]=(advertiseB nb (sideB nb l[i].frm) ⟨within l[i].tree 0 2,0⟩ (mkPred l[i].has l[i].vals)).1:=by simp [tellB,k3.1,k3.2]
       have hdr:(l.take 12).drop i=l[i]::(l.take 12).drop (i+1):=by
        have:i < (l.take 12).length:=by simp;omega
        rw [List.drop_eq_getElem_cons this];simp
       rw [hdr,List.foldl_cons]
       simp [e59,hS2,hmn,g2,hlim,wf,h3,h5,turn,t29s1]
       rw [wrap64 (by omega) (by omega)]
       generalize hF:upd _ 5 _=F
       have hk:=tell_keep hi hz l[i]
       rw [k3.2] at hte
       rw [← hte]
       refine ih (i+1) (tellB nb l[i]) F _ (by omega) hk.1 hk.2 (by omega) ?_ ?_ ?_ ?_ ?_ ?_ ?_ ?_ ?_ ?_
       all_goals first
        | (rw [← hF];simp [h1,h2,h3];done)
        | (simp [hmn,g0,g1,g2,hlim,wf];done)
        | (simp [hmn] <;> omega)
      ·by_cases k4:within l[i].kind 1 7=4∧sideB nb l[i].frm=-1
       ·simp [h1,h3,h5,g0,g2,hlt,hlti,hi12i,hlim,wf,hmn,turn,eStepK,e16,w1,w2,w3,w4,e30,hside,e18,hpred,k4.1,k4.2]
        have hS:=s59 nb (within l[i].tree 0 2) 0 (sideB nb l[i].frm) (mkPred l[i].has l[i].vals) hi ⟨by have:=hz.near;omega,by have:=hz.adv;omega,by have:=hz.seen;omega,by have:=hz.own;omega,by have:=hz.ent;have:=hz.own;have:=Nat.mul_le_mul hi12 hi12;omega⟩ (mkPred_ok ..) (side_link ..) ⟨by have:=hz.adv;omega,by have:=hz.seen;omega⟩
        have hS2:=hS
        rw [k4.2] at hS2
        have hte:tellB nb l[i]=(advertiseB nb (sideB nb l[i].frm) ⟨within l[i].tree 0 2,0⟩ (mkPred l[i].has l[i].vals)).1:=by simp [tellB,k4.1,k4.2]
        have hdr:(l.take 12).drop i=l[i]::(l.take 12).drop (i+1):=by
         have:i < (l.take 12).length:=by simp;omega
         rw [List.drop_eq_getElem_cons this];simp
        rw [hdr,List.foldl_cons]
        simp [e59,hS2,hmn,g2,hlim,wf,h3,h5,turn,t29s1]
        rw [wrap64 (by omega) (by omega)]
        generalize hF:upd _ 5 _=F
        have hk:=tell_keep hi hz l[i]
        rw [k4.2] at hte
        rw [← hte]
        refine ih (i+1) (tellB nb l[i]) F _ (by omega) hk.1 hk.2 (by omega) ?_ ?_ ?_ ?_ ?_ ?_ ?_ ?_ ?_ ?_
        all_goals first
         | (rw [← hF];simp [h1,h2,h3];done)
         | (simp [hmn,g0,g1,g2,hlim,wf];done)
         | (simp [hmn] <;> omega)
       ·have hk4:within l[i].kind 1 7=1∨within l[i].kind 1 7=2∨within l[i].kind 1 7=3∨within l[i].kind 1 7=4:=by have:=within_bounds l[i].kind (lo:=1) (hi:=7) (by decide);omega
        have hk5:=hk4
        rcases hk5 with kk | kk | kk | kk
        ·simp [h1,h3,h5,g0,g2,hlt,hlti,hi12i,hlim,wf,hmn,turn,eStepK,e16,w1,w2,w3,w4,e30,hside,e18,hpred,kk]
         have hS:=s111 nb (sideB nb l[i].frm) (within l[i].kind 1 7) (within l[i].tree 0 2) 0 (within l[i].client 0 4) (within l[i].seq 0 2) (mkPred l[i].has l[i].vals) hi ⟨by have:=hz.near;omega,by have:=hz.adv;omega,by have:=hz.seen;omega,by have:=hz.own;omega,by have:=hz.ent;have:=hz.own;have:=Nat.mul_le_mul hi12 hi12;omega⟩ (mkPred_ok ..) (side_link ..) ⟨by have:=hz.adv;omega,by have:=hz.seen;omega⟩ hk4
         rw [kk] at hS
         have hte:tellB nb l[i]=(stepB nb (sideB nb l[i].frm) 1 ⟨within l[i].tree 0 2,0⟩ ⟨within l[i].client 0 4,within l[i].seq 0 2⟩ (mkPred l[i].has l[i].vals)).1:=by simp [tellB,kk]
         have hdr:(l.take 12).drop i=l[i]::(l.take 12).drop (i+1):=by
          have:i < (l.take 12).length:=by simp;omega
          rw [List.drop_eq_getElem_cons this];simp
         rw [hdr,List.foldl_cons]
         simp [e111,hS,hmn,g2,hlim,wf,h3,h5,turn,t29s1]
         rw [wrap64 (by omega) (by omega)]
         generalize hF:upd _ 5 _=F
         have hk:=tell_keep hi hz l[i]
         rw [← hte]
         refine ih (i+1) (tellB nb l[i]) F _ (by omega) hk.1 hk.2 (by omega) ?_ ?_ ?_ ?_ ?_ ?_ ?_ ?_ ?_ ?_
         all_goals first
          | (rw [← hF];simp [h1,h2,h3];done)
          | (simp [hmn,g0,g1,g2,hlim,wf];done)
          | (simp [hmn] <;> omega)
        ·simp [h1,h3,h5,g0,g2,hlt,hlti,hi12i,hlim,wf,hmn,turn,eStepK,e16,w1,w2,w3,w4,e30,hside,e18,hpred,kk]
         have hS:=s111 nb (sideB nb l[i].frm) (within l[i].kind 1 7) (within l[i].tree 0 2) 0 (within l[i].client 0 4) (within l[i].seq 0 2) (mkPred l[i].has l[i].vals) hi ⟨by have:=hz.near;omega,by have:=hz.adv;omega,by have:=hz.seen;omega,by have:=hz.own;omega,by have:=hz.ent;have:=hz.own;have:=Nat.mul_le_mul hi12 hi12;omega⟩ (mkPred_ok ..) (side_link ..) ⟨by have:=hz.adv;omega,by have:=hz.seen;omega⟩ hk4
         rw [kk] at hS
         have hte:tellB nb l[i]=(stepB nb (sideB nb l[i].frm) 2 ⟨within l[i].tree 0 2,0⟩ ⟨within l[i].client 0 4,within l[i].seq 0 2⟩ (mkPred l[i].has l[i].vals)).1:=by simp [tellB,kk]
         have hdr:(l.take 12).drop i=l[i]::(l.take 12).drop (i+1):=by
          have:i < (l.take 12).length:=by simp;omega
          rw [List.drop_eq_getElem_cons this];simp
         rw [hdr,List.foldl_cons]
         simp [e111,hS,hmn,g2,hlim,wf,h3,h5,turn,t29s1]
         rw [wrap64 (by omega) (by omega)]
         generalize hF:upd _ 5 _=F
         have hk:=tell_keep hi hz l[i]
         rw [← hte]
         refine ih (i+1) (tellB nb l[i]) F _ (by omega) hk.1 hk.2 (by omega) ?_ ?_ ?_ ?_ ?_ ?_ ?_ ?_ ?_ ?_
         all_goals first
          | (rw [← hF];simp [h1,h2,h3];done)
          | (simp [hmn,g0,g1,g2,hlim,wf];done)
          | (simp [hmn] <;> omega)
        ·have kf:¬ sideB nb l[i].frm=-1:=fun e=>k3 ⟨kk,e⟩
         simp [h1,h3,h5,g0,g2,hlt,hlti,hi12i,hlim,wf,hmn,turn,eStepK,e16,w1,w2,w3,w4,e30,hside,e18,hpred,kk,kf]
         have hS:=s111 nb (sideB nb l[i].frm) (within l[i].kind 1 7) (within l[i].tree 0 2) 0 (within l[i].client 0 4) (within l[i].seq 0 2) (mkPred l[i].has l[i].vals) hi ⟨by have:=hz.near;omega,by have:=hz.adv;omega,by have:=hz.seen;omega,by have:=hz.own;omega,by have:=hz.ent;have:=hz.own;have:=Nat.mul_le_mul hi12 hi12;omega⟩ (mkPred_ok ..) (side_link ..) ⟨by have:=hz.adv;omega,by have:=hz.seen;omega⟩ hk4
         rw [kk] at hS
         have hte:tellB nb l[i]=(stepB nb (sideB nb l[i].frm) 3 ⟨within l[i].tree 0 2,0⟩ ⟨within l[i].client 0 4,within l[i].seq 0 2⟩ (mkPred l[i].has l[i].vals)).1:=by simp [tellB,kk,kf]
         have hdr:(l.take 12).drop i=l[i]::(l.take 12).drop (i+1):=by
          have:i < (l.take 12).length:=by simp;omega
          rw [List.drop_eq_getElem_cons this];simp
         rw [hdr,List.foldl_cons]
         simp [e111,hS,hmn,g2,hlim,wf,h3,h5,turn,t29s1]
         rw [wrap64 (by omega) (by omega)]
         generalize hF:upd _ 5 _=F
         have hk:=tell_keep hi hz l[i]
         rw [← hte]
         refine ih (i+1) (tellB nb l[i]) F _ (by omega) hk.1 hk.2 (by omega) ?_ ?_ ?_ ?_ ?_ ?_ ?_ ?_ ?_ ?_
         all_goals first
          | (rw [← hF];simp [h1,h2,h3];done)
          | (simp [hmn,g0,g1,g2,hlim,wf];done)
          | (simp [hmn] <;> omega)
        ·have kf:¬ sideB nb l[i].frm=-1:=fun e=>k4 ⟨kk,e⟩
         simp [h1,h3,h5,g0,g2,hlt,hlti,hi12i,hlim,wf,hmn,turn,eStepK,e16,w1,w2,w3,w4,e30,hside,e18,hpred,kk,kf]
         have hS:=s111 nb (sideB nb l[i].frm) (within l[i].kind 1 7) (within l[i].tree 0 2) 0 (within l[i].client 0 4) (within l[i].seq 0 2) (mkPred l[i].has l[i].vals) hi ⟨by have:=hz.near;omega,by have:=hz.adv;omega,by have:=hz.seen;omega,by have:=hz.own;omega,by have:=hz.ent;have:=hz.own;have:=Nat.mul_le_mul hi12 hi12;omega⟩ (mkPred_ok ..) (side_link ..) ⟨by have:=hz.adv;omega,by have:=hz.seen;omega⟩ hk4
         rw [kk] at hS
         have hte:tellB nb l[i]=(stepB nb (sideB nb l[i].frm) 4 ⟨within l[i].tree 0 2,0⟩ ⟨within l[i].client 0 4,within l[i].seq 0 2⟩ (mkPred l[i].has l[i].vals)).1:=by simp [tellB,kk,kf]
         have hdr:(l.take 12).drop i=l[i]::(l.take 12).drop (i+1):=by
          have:i < (l.take 12).length:=by simp;omega
          rw [List.drop_eq_getElem_cons this];simp
         rw [hdr,List.foldl_cons]
         simp [e111,hS,hmn,g2,hlim,wf,h3,h5,turn,t29s1]
         rw [wrap64 (by omega) (by omega)]
         generalize hF:upd _ 5 _=F
         have hk:=tell_keep hi hz l[i]
         rw [← hte]
         refine ih (i+1) (tellB nb l[i]) F _ (by omega) hk.1 hk.2 (by omega) ?_ ?_ ?_ ?_ ?_ ?_ ?_ ?_ ?_ ?_
         all_goals first
          | (rw [← hF];simp [h1,h2,h3];done)
          | (simp [hmn,g0,g1,g2,hlim,wf];done)
          | (simp [hmn] <;> omega)
  ·have hlti:¬ (i:Int) < l.length:=by omega
   have he:(l.take 12).drop i=[]:=List.drop_eq_nil_of_le (by simp;omega)
   have l1:1 < h.n:=by omega
   rw [run_loop_of t29l1.eq_1,he]
   simp only [zB] at g1
   simp [t29k0,h1,h2,h3,h5,g0,g1,g2,hlt,hlti,hlim,l1,wf,turn]
end Go.Dm.Tc
/-
The broker that numbers make: its neighbours,and the first that it is told.
-/
namespace Go.Dm.Tc
theorem fr_near {lo:Nat} {h:Heap} {i ety:Nat} {os:List Int} {n:Nat} (o:OwnI lo h i ety 1 (os.map cInt)) (hn:n=os.length):freeze h (.sl i 1 0 n)=some (eL false 1 cInt os,h.set i .dead):=by
 subst hn
 obtain ⟨⟨sp,cap,hg⟩,hl,_⟩:=o
 have hb:(List.take os.length (List.map cInt os++sp)).all (below 200 0)=true:=by
  rw [List.take_left' (by simp),List.all_eq_true]
  intro x hx
  obtain ⟨y,_,rfl⟩:=List.mem_map.1 hx
  rfl
 simp only [freeze,hg,hl,List.drop_zero,hb,List.length_append,List.length_map,Nat.zero_add,Nat.le_add_right,and_self,if_true]
 rw [List.take_left' (by simp)]
 cases os <;> rfl
theorem res_near {t:Bool} {ety K:Nat} (H:Heap) (sp:List DV) (cap:Option Nat):resSlO t H 198 1 0 K (some (.arr ety 1 ((nearK K).map cInt++sp) cap))=some (eL t 1 cInt (nearK K)):=by
 have hl:(nearK K).length=K:=by simp [nearK]
 rw [resSlO_some,if_pos ⟨rfl,by simp [hl]⟩,List.drop_zero,List.take_left' (by simp [hl])]
 have:resL t H 198 ((nearK K).map cInt)=some ((nearK K).map cInt):=mapM_self fun x hx=>by
  obtain ⟨y,_,rfl⟩:=List.mem_map.1 hx
  exact plain_int.1 y t H 198 (by decide)
 rw [this]
 rfl
theorem nearK_len (n:Nat):(nearK n).length=n:=by simp [nearK]
set_option maxRecDepth 8000 in
set_option maxHeartbeats 4000000 in
theorem n29 (t:Bool) (near:Int) (l:List StepK) (hh:∀ q∈l,q.has.length≤9223372036854775807) (tx tb tn:Nat)
  (K:Nat) (hK:K≤4) (iw:Nat) (f:FEnv) (h:Heap)
  (h1:f 1=.ptr 0 2 0 0) (h2:f 2=.ptr 1 6 0 0) (h3:f 3=.ptr 2 6 0 0) (h5:f 5=.int .i64 0)
  (g0:h.get 0=some (.arr tx 2 [.agg [.int .i64 near,eL t 7 eStepK l]] (some 1))) (g1:h.get 1=some (.arr tb 6 [zB] (some 1))) (g2:h.get 2=some (.arr tn 6 [.agg [.int .i64 0,.sl iw 1 0 K,.nsl,.nsl,.nsl,.nsl]] (some 1)))
  (ho:OwnI 3 h iw 3 1 ((nearK K).map cInt)) (hlim:h.lim=0) (hn3:3≤h.n) (wf:WF h) :
  pcOut (fin [.cell 2 (some 6)] (run D 124 [.block 2,.seq t29k0] (.loop t29l1) f h))=some (eBroker .none ((l.take 12).foldl tellB (startK K))):=by
 obtain ⟨hi,hz⟩:=start_keep K hK
 have hil:=ho.lt
 have hi3:=ho.lo
 have l1:1 < h.n:=by omega
 by_cases hlt:0 < l.length
 ·have hlti:(0:Int) < l.length:=by omega
  have hz':Sized (startK K):=hz.sized (by omega)
  have hside:=s30 ⟨true,false,false,false,false⟩ (startK K) l[0].frm hz'
  have hpred:=s18 false false l[0].has l[0].vals (hh _ (List.getElem_mem hlt))
  have w1:=s16 l[0].tree 0 2 (by decide) (by decide) (by decide)
  have w2:=s16 l[0].client 0 4 (by decide) (by decide) (by decide)
  have w3:=s16 l[0].seq 0 2 (by decide) (by decide) (by decide)
  have w4:=s16 l[0].kind 1 7 (by decide) (by decide) (by decide)
  obtain ⟨m,hmn⟩:∃ m,h.n=m+3:=⟨h.n - 3,by omega⟩
  have m0:¬ iw=0:=by omega
  have m1:¬ iw=1:=by omega
  have m2:¬ iw=2:=by omega
  have m0':¬ 0=iw:=by omega
  have m1':¬ 1=iw:=by omega
  have m2':¬ 2=iw:=by omega
  have m3:¬ iw=m+3:=by omega
  have m4:¬ iw=m+3+1:=by omega
  have m5:¬ iw=m+3+1+1:=by omega
  have m6:¬ iw=m+3+1+1+1:=by omega
  have j3:iw < m+3:=by omega
  have j4:iw < m+3+1:=by omega
  have j5:iw < m+3+1+1:=by omega
  have j6:iw < m+3+1+1+1:=by omega
  have hfr:∀ o1 o2 o3 o4,freeze ((((h.push o1).push o2).push o3).push o4) (.sl iw 1 0 K)=some (eL false 1 cInt (nearK K),((((h.push o1).push o2).push o3).push o4).set iw .dead):=fun o1 o2 o3 o4=>fr_near ho.push.push.push.push (nearK_len K).symm
  obtain ⟨sp,cap,hg⟩:=ho.get
  have hr1:∀ H,resSlO true H 198 1 0 K (some (.arr 3 1 ((nearK K).map cInt++sp) cap))=some (eL true 1 cInt (nearK K)):=fun H=>res_near H sp cap
  have hbb:DV.agg [.int .i64 0,eL false 1 cInt (nearK K),.isl false 0 [],.isl false 0 [],.isl false 0 [],.isl false 0 []]=eBroker .none (startK K):=rfl
  have hbt:DV.agg [.int .i64 0,eL true 1 cInt (nearK K),.isl false 0 [],.isl false 0 [],.isl false 0 [],.isl false 0 []]=eBroker ⟨true,false,false,false,false⟩ (startK K):=rfl
  have hfold:(l.take 12).foldl tellB (startK K)=((l.take 12).drop 1).foldl tellB (tellB (startK K) l[0]):=by cases l with
   | nil=>simp at hlt
   | cons a l=>simp
  have hi12:0≤12:=by decide
  obtain ⟨R,hR⟩:∃ R,R=eBroker .none (((l.take 12).drop 1).foldl tellB (tellB (startK K) l[0])):=⟨_,rfl⟩
  rw [hfold,← hR,run_loop_of t29l1.eq_1]
  by_cases k6:within l[0].kind 1 7=6
  ·simp [h1,h3,h5,g0,g2,hlt,hlti,hlim,wf,hmn,turn,eStepK,e16,w1,w2,w3,w4,e30,hr1,-resSlO_some,hg,j3,j4,j5,j6,m0,m1,m2,m0',m1',m2',m3,m4,m5,m6,hbt,hside,e18,hpred,k6]
   have hS:=s46 (startK K) (within l[0].client 0 4) (within l[0].seq 0 2) (mkPred l[0].has l[0].vals) hi ⟨by have:=hz.near;omega,by have:=hz.adv;omega,by have:=hz.seen;omega,by have:=hz.own;omega,by have:=hz.ent;have:=hz.adv;have:=Nat.mul_le_mul hi12 hi12;omega⟩ (mkPred_ok ..) (by have:=hz.own;omega)
   have hte:tellB (startK K) l[0]=(subscribeB (startK K) ⟨within l[0].client 0 4,within l[0].seq 0 2⟩ (mkPred l[0].has l[0].vals)).1:=by simp [tellB,k6]
   simp [e46,hS,hmn,g2,hlim,wf,h3,h5,turn,hfr,hbb,j3,j4,j5,j6,m0,m1,m2,m0',m1',m2',m3,m4,m5,m6,t29s1]
   rw [hR]
   generalize hF:upd _ 5 _=F
   have hk:=tell_keep hi hz l[0]
   rw [← hte]
   refine l29 t near l hh tx tb tn 11 1 (tellB (startK K) l[0]) F _ (by decide) hk.1 hk.2 (by decide) ?_ ?_ ?_ ?_ ?_ ?_ ?_ ?_ ?_ ?_
   all_goals first
    | (rw [← hF];simp [h1,h2,h3];done)
    | (simp [hmn,g0,g1,g2,hlim,wf,j3,j4,j5,j6,m0,m1,m2,m0',m1',m2',m3,m4,m5,m6];done)
    | (simp [hmn,m0,m1,m2,m0',m1',m2',m3,m4,m5,m6] <;> omega)
  ·by_cases k7:within l[0].kind 1 7=7
   ·simp [h1,h3,h5,g0,g2,hlt,hlti,hlim,wf,hmn,turn,eStepK,e16,w1,w2,w3,w4,e30,hr1,-resSlO_some,hg,j3,j4,j5,j6,m0,m1,m2,m0',m1',m2',m3,m4,m5,m6,hbt,hside,e18,hpred,k7]
    have hS:=s61 (startK K) (within l[0].client 0 4) (within l[0].seq 0 2) hi ⟨by have:=hz.near;omega,by have:=hz.adv;omega,by have:=hz.seen;omega,by have:=hz.own;omega,by have:=hz.ent;have:=Nat.mul_le_mul hi12 hi12;omega⟩ (by have:=hz.adv;omega)
    have hte:tellB (startK K) l[0]=(unsubscribeB (startK K) ⟨within l[0].client 0 4,within l[0].seq 0 2⟩).1:=by simp [tellB,k7]
    simp [e61,hS,hmn,g2,hlim,wf,h3,h5,turn,hfr,hbb,j3,j4,j5,j6,m0,m1,m2,m0',m1',m2',m3,m4,m5,m6,t29s1]
    rw [hR]
    generalize hF:upd _ 5 _=F
    have hk:=tell_keep hi hz l[0]
    rw [← hte]
    refine l29 t near l hh tx tb tn 11 1 (tellB (startK K) l[0]) F _ (by decide) hk.1 hk.2 (by decide) ?_ ?_ ?_ ?_ ?_ ?_ ?_ ?_ ?_ ?_
    all_goals first
     | (rw [← hF];simp [h1,h2,h3];done)
     | (simp [hmn,g0,g1,g2,hlim,wf,j3,j4,j5,j6,m0,m1,m2,m0',m1',m2',m3,m4,m5,m6];done)
     | (simp [hmn,m0,m1,m2,m0',m1',m2',m3,m4,m5,m6] <;> omega)
   ·by_cases k5:within l[0].kind 1 7=5
    ·simp [h1,h3,h5,g0,g2,hlt,hlti,hlim,wf,hmn,turn,eStepK,e16,w1,w2,w3,w4,e30,hr1,-resSlO_some,hg,j3,j4,j5,j6,m0,m1,m2,m0',m1',m2',m3,m4,m5,m6,hbt,hside,e18,hpred,k5]
     have hS:=s59 (startK K) (within l[0].tree 0 2) 0 (sideB (startK K) l[0].frm) (mkPred l[0].has l[0].vals) hi ⟨by have:=hz.near;omega,by have:=hz.adv;omega,by have:=hz.seen;omega,by have:=hz.own;omega,by have:=hz.ent;have:=hz.own;have:=Nat.mul_le_mul hi12 hi12;omega⟩ (mkPred_ok ..) (side_link ..) ⟨by have:=hz.adv;omega,by have:=hz.seen;omega⟩
     have hte:tellB (startK K) l[0]=(advertiseB (startK K) (sideB (startK K) l[0].frm) ⟨within l[0].tree 0 2,0⟩ (mkPred l[0].has l[0].vals)).1:=by simp [tellB,k5]
     simp [e59,hS,hmn,g2,hlim,wf,h3,h5,turn,hfr,hbb,j3,j4,j5,j6,m0,m1,m2,m0',m1',m2',m3,m4,m5,m6,t29s1]
     rw [hR]
     generalize hF:upd _ 5 _=F
     have hk:=tell_keep hi hz l[0]
     rw [← hte]
     refine l29 t near l hh tx tb tn 11 1 (tellB (startK K) l[0]) F _ (by decide) hk.1 hk.2 (by decide) ?_ ?_ ?_ ?_ ?_ ?_ ?_ ?_ ?_ ?_
     all_goals first
      | (rw [← hF];simp [h1,h2,h3];done)
      | (simp [hmn,g0,g1,g2,hlim,wf,j3,j4,j5,j6,m0,m1,m2,m0',m1',m2',m3,m4,m5,m6];done)
      | (simp [hmn,m0,m1,m2,m0',m1',m2',m3,m4,m5,m6] <;> omega)
    ·by_cases k3:within l[0].kind 1 7=3∧sideB (startK K) l[0].frm=-1
     ·simp [h1,h3,h5,g0,g2,hlt,hlti,hlim,wf,hmn,turn,eStepK,e16,w1,w2,w3,w4,e30,hr1,-resSlO_some,hg,j3,j4,j5,j6,m0,m1,m2,m0',m1',m2',m3,m4,m5,m6,hbt,hside,e18,hpred,k3.1,k3.2]
      have hS:=s59 (startK K) (within l[0].tree 0 2) 0 (sideB (startK K) l[0].frm) (mkPred l[0].has l[0].vals) hi ⟨by have:=hz.near;omega,by have:=hz.adv;omega,by have:=hz.seen;omega,by have:=hz.own;omega,by have:=hz.ent;have:=hz.own;have:=Nat.mul_le_mul hi12 hi12;omega⟩ (mkPred_ok ..) (side_link ..) ⟨by have:=hz.adv;omega,by have:=hz.seen;omega⟩
      have hS2:=hS
      rw [k3.2] at hS2
      have hte:tellB (startK K) l[0]=(advertiseB (startK K) (sideB (startK K) l[0].frm) ⟨within l[0].tree 0 2,0⟩ (mkPred l[0].has l[0].vals)).1:=by simp [tellB,k3.1,k3.2]
      simp [e59,hS2,hmn,g2,hlim,wf,h3,h5,turn,hfr,hbb,j3,j4,j5,j6,m0,m1,m2,m0',m1',m2',m3,m4,m5,m6,t29s1]
      rw [hR]
      generalize hF:upd _ 5 _=F
      have hk:=tell_keep hi hz l[0]
      rw [k3.2] at hte
      rw [← hte]
      refine l29 t near l hh tx tb tn 11 1 (tellB (startK K) l[0]) F _ (by decide) hk.1 hk.2 (by decide) ?_ ?_ ?_ ?_ ?_ ?_ ?_ ?_ ?_ ?_
      all_goals first
       | (rw [← hF];simp [h1,h2,h3];done)
       | (simp [hmn,g0,g1,g2,hlim,wf,j3,j4,j5,j6,m0,m1,m2,m0',m1',m2',m3,m4,m5,m6];done)
       | (simp [hmn,m0,m1,m2,m0',m1',m2',m3,m4,m5,m6] <;> omega)
     ·by_cases k4:within l[0].kind 1 7=4∧sideB (startK K) l[0].frm=-1
      ·simp [h1,h3,h5,g0,g2,hlt,hlti,hlim,wf,hmn,turn,eStepK,e16,w1,w2,w3,w4,e30,hr1,-resSlO_some,hg,j3,j4,j5,j6,m0,m1,m2,m0',m1',m2',m3,m4,m5,m6,hbt,hside,e18,hpred,k4.1,k4.2]
       have hS:=s59 (startK K) (within l[0].tree 0 2) 0 (sideB (startK K) l[0].frm) (mkPred l[0].has l[0].vals) hi ⟨by have:=hz.near;omega,by have:=hz.adv;omega,by have:=hz.seen;omega,by have:=hz.own;omega,by have:=hz.ent;have:=hz.own;have:=Nat.mul_le_mul hi12 hi12;omega⟩ (mkPred_ok ..) (side_link ..) ⟨by have:=hz.adv;omega,by have:=hz.seen;omega⟩
       have hS2:=hS
       rw [k4.2] at hS2
       have hte:tellB (startK K) l[0]=(advertiseB (startK K) (sideB (startK K) l[0].frm) ⟨within l[0].tree 0 2,0⟩ (mkPred l[0].has l[0].vals)).1:=by simp [tellB,k4.1,k4.2]
       simp [e59,hS2,hmn,g2,hlim,wf,h3,h5,turn,hfr,hbb,j3,j4,j5,j6,m0,m1,m2,m0',m1',m2',m3,m4,m5,m6,t29s1]
       rw [hR]
       generalize hF:upd _ 5 _=F
       have hk:=tell_keep hi hz l[0]
       rw [k4.2] at hte
       rw [← hte]
       refine l29 t near l hh tx tb tn 11 1 (tellB (startK K) l[0]) F _ (by decide) hk.1 hk.2 (by decide) ?_ ?_ ?_ ?_ ?_ ?_ ?_ ?_ ?_ ?_
       all_goals first
        | (rw [← hF];simp [h1,h2,h3];done)
        | (simp [hmn,g0,g1,g2,hlim,wf,j3,j4,j5,j6,m0,m1,m2,m0',m1',m2',m3,m4,m5,m6];done)
        | (simp [hmn,m0,m1,m2,m0',m1',m2',m3,m4,m5,m6] <;> omega)
      ·have hk4:within l[0].kind 1 7=1∨within l[0].kind 1 7=2∨within l[0].kind 1 7=3∨within l[0].kind 1 7=4:=by have:=within_bounds l[0].kind (lo:=1) (hi:=7) (by decide);omega
       have hk5:=hk4
       rcases hk5 with kk | kk | kk | kk
       ·simp [h1,h3,h5,g0,g2,hlt,hlti,hlim,wf,hmn,turn,eStepK,e16,w1,w2,w3,w4,e30,hr1,-resSlO_some,hg,j3,j4,j5,j6,m0,m1,m2,m0',m1',m2',m3,m4,m5,m6,hbt,hside,e18,hpred,kk]
        have hS:=s111 (startK K) (sideB (startK K) l[0].frm) (within l[0].kind 1 7) (within l[0].tree 0 2) 0 (within l[0].client 0 4) (within l[0].seq 0 2) (mkPred l[0].has l[0].vals) hi ⟨by have:=hz.near;omega,by have:=hz.adv;omega,by have:=hz.seen;omega,by have:=hz.own;omega,by have:=hz.ent;have:=hz.own;have:=Nat.mul_le_mul hi12 hi12;omega⟩ (mkPred_ok ..) (side_link ..) ⟨by have:=hz.adv;omega,by have:=hz.seen;omega⟩ hk4
        rw [kk] at hS
        have hte:tellB (startK K) l[0]=(stepB (startK K) (sideB (startK K) l[0].frm) 1 ⟨within l[0].tree 0 2,0⟩ ⟨within l[0].client 0 4,within l[0].seq 0 2⟩ (mkPred l[0].has l[0].vals)).1:=by simp [tellB,kk]
        simp [e111,hS,hmn,g2,hlim,wf,h3,h5,turn,hfr,hbb,j3,j4,j5,j6,m0,m1,m2,m0',m1',m2',m3,m4,m5,m6,t29s1]
        rw [hR]
        generalize hF:upd _ 5 _=F
        have hk:=tell_keep hi hz l[0]
        rw [← hte]
        refine l29 t near l hh tx tb tn 11 1 (tellB (startK K) l[0]) F _ (by decide) hk.1 hk.2 (by decide) ?_ ?_ ?_ ?_ ?_ ?_ ?_ ?_ ?_ ?_
        all_goals first
         | (rw [← hF];simp [h1,h2,h3];done)
         | (simp [hmn,g0,g1,g2,hlim,wf,j3,j4,j5,j6,m0,m1,m2,m0',m1',m2',m3,m4,m5,m6];done)
         | (simp [hmn,m0,m1,m2,m0',m1',m2',m3,m4,m5,m6] <;> omega)
       ·simp [h1,h3,h5,g0,g2,hlt,hlti,hlim,wf,hmn,turn,eStepK,e16,w1,w2,w3,w4,e30,hr1,-resSlO_some,hg,j3,j4,j5,j6,m0,m1,m2,m0',m1',m2',m3,m4,m5,m6,hbt,hside,e18,hpred,kk]
        have hS:=s111 (startK K) (sideB (startK K) l[0].frm) (within l[0].kind 1 7) (within l[0].tree 0 2) 0 (within l[0].client 0 4) (within l[0].seq 0 2) (mkPred l[0].has l[0].vals) hi ⟨by have:=hz.near;omega,by have:=hz.adv;omega,by have:=hz.seen;omega,by have:=hz.own;omega,by have:=hz.ent;have:=hz.own;have:=Nat.mul_le_mul hi12 hi12;omega⟩ (mkPred_ok ..) (side_link ..) ⟨by have:=hz.adv;omega,by have:=hz.seen;omega⟩ hk4
        rw [kk] at hS
        have hte:tellB (startK K) l[0]=(stepB (startK K) (sideB (startK K) l[0].frm) 2 ⟨within l[0].tree 0 2,0⟩ ⟨within l[0].client 0 4,within l[0].seq 0 2⟩ (mkPred l[0].has l[0].vals)).1:=by simp [tellB,kk]
        simp [e111,hS,hmn,g2,hlim,wf,h3,h5,turn,hfr,hbb,j3,j4,j5,j6,m0,m1,m2,m0',m1',m2',m3,m4,m5,m6,t29s1]
        rw [hR]
        generalize hF:upd _ 5 _=F
        have hk:=tell_keep hi hz l[0]
        rw [← hte]
        refine l29 t near l hh tx tb tn 11 1 (tellB (startK K) l[0]) F _ (by decide) hk.1 hk.2 (by decide) ?_ ?_ ?_ ?_ ?_ ?_ ?_ ?_ ?_ ?_
        all_goals first
         | (rw [← hF];simp [h1,h2,h3];done)
         | (simp [hmn,g0,g1,g2,hlim,wf,j3,j4,j5,j6,m0,m1,m2,m0',m1',m2',m3,m4,m5,m6];done)
         | (simp [hmn,m0,m1,m2,m0',m1',m2',m3,m4,m5,m6] <;> omega)
       ·have kf:¬ sideB (startK K) l[0].frm=-1:=fun e=>k3 ⟨kk,e⟩
        simp [h1,h3,h5,g0,g2,hlt,hlti,hlim,wf,hmn,turn,eStepK,e16,w1,w2,w3,w4,e30,hr1,-resSlO_some,hg,j3,j4,j5,j6,m0,m1,m2,m0',m1',m2',m3,m4,m5,m6,hbt,hside,e18,hpred,kk,kf]
        have hS:=s111 (startK K) (sideB (startK K) l[0].frm) (within l[0].kind 1 7) (within l[0].tree 0 2) 0 (within l[0].client 0 4) (within l[0].seq 0 2) (mkPred l[0].has l[0].vals) hi ⟨by have:=hz.near;omega,by have:=hz.adv;omega,by have:=hz.seen;omega,by have:=hz.own;omega,by have:=hz.ent;have:=hz.own;have:=Nat.mul_le_mul hi12 hi12;omega⟩ (mkPred_ok ..) (side_link ..) ⟨by have:=hz.adv;omega,by have:=hz.seen;omega⟩ hk4
        rw [kk] at hS
        have hte:tellB (startK K) l[0]=(stepB (startK K) (sideB (startK K) l[0].frm) 3 ⟨within l[0].tree 0 2,0⟩ ⟨within l[0].client 0 4,within l[0].seq 0 2⟩ (mkPred l[0].has l[0].vals)).1:=by simp [tellB,kk,kf]
        simp [e111,hS,hmn,g2,hlim,wf,h3,h5,turn,hfr,hbb,j3,j4,j5,j6,m0,m1,m2,m0',m1',m2',m3,m4,m5,m6,t29s1]
        rw [hR]
        generalize hF:upd _ 5 _=F
        have hk:=tell_keep hi hz l[0]
        rw [← hte]
        refine l29 t near l hh tx tb tn 11 1 (tellB (startK K) l[0]) F _ (by decide) hk.1 hk.2 (by decide) ?_ ?_ ?_ ?_ ?_ ?_ ?_ ?_ ?_ ?_
        all_goals first
         | (rw [← hF];simp [h1,h2,h3];done)
         | (simp [hmn,g0,g1,g2,hlim,wf,j3,j4,j5,j6,m0,m1,m2,m0',m1',m2',m3,m4,m5,m6];done)
         | (simp [hmn,m0,m1,m2,m0',m1',m2',m3,m4,m5,m6] <;> omega)
       ·have kf:¬ sideB (startK K) l[0].frm=-1:=fun e=>k4 ⟨kk,e⟩
        simp [h1,h3,h5,g0,g2,hlt,hlti,hlim,wf,hmn,turn,eStepK,e16,w1,w2,w3,w4,e30,hr1,-resSlO_some,hg,j3,j4,j5,j6,m0,m1,m2,m0',m1',m2',m3,m4,m5,m6,hbt,hside,e18,hpred,kk,kf]
        have hS:=s111 (startK K) (sideB (startK K) l[0].frm) (within l[0].kind 1 7) (within l[0].tree 0 2) 0 (within l[0].client 0 4) (within l[0].seq 0 2) (mkPred l[0].has l[0].vals) hi ⟨by have:=hz.near;omega,by have:=hz.adv;omega,by have:=hz.seen;omega,by have:=hz.own;omega,by have:=hz.ent;have:=hz.own;have:=Nat.mul_le_mul hi12 hi12;omega⟩ (mkPred_ok ..) (side_link ..) ⟨by have:=hz.adv;omega,by have:=hz.seen;omega⟩ hk4
        rw [kk] at hS
        have hte:tellB (startK K) l[0]=(stepB (startK K) (sideB (startK K) l[0].frm) 4 ⟨within l[0].tree 0 2,0⟩ ⟨within l[0].client 0 4,within l[0].seq 0 2⟩ (mkPred l[0].has l[0].vals)).1:=by simp [tellB,kk,kf]
        simp [e111,hS,hmn,g2,hlim,wf,h3,h5,turn,hfr,hbb,j3,j4,j5,j6,m0,m1,m2,m0',m1',m2',m3,m4,m5,m6,t29s1]
        rw [hR]
        generalize hF:upd _ 5 _=F
        have hk:=tell_keep hi hz l[0]
        rw [← hte]
        refine l29 t near l hh tx tb tn 11 1 (tellB (startK K) l[0]) F _ (by decide) hk.1 hk.2 (by decide) ?_ ?_ ?_ ?_ ?_ ?_ ?_ ?_ ?_ ?_
        all_goals first
         | (rw [← hF];simp [h1,h2,h3];done)
         | (simp [hmn,g0,g1,g2,hlim,wf,j3,j4,j5,j6,m0,m1,m2,m0',m1',m2',m3,m4,m5,m6];done)
         | (simp [hmn,m0,m1,m2,m0',m1',m2',m3,m4,m5,m6] <;> omega)
 ·have hl0:l=[]:=by cases l <;> simp_all
  subst hl0
  obtain ⟨sp,cap,hg⟩:=ho.get
  have hr1:∀ H,resSlO false H 198 1 0 K (some (.arr 3 1 ((nearK K).map cInt++sp) cap))=some (eL false 1 cInt (nearK K)):=fun H=>res_near H sp cap
  have hbb:DV.agg [.int .i64 0,eL false 1 cInt (nearK K),.isl false 0 [],.isl false 0 [],.isl false 0 [],.isl false 0 []]=eBroker .none (startK K):=rfl
  have k1:¬ iw=1:=by omega
  have k2:¬ iw=2:=by omega
  have l2:2 < h.n:=by omega
  rw [run_loop_of t29l1.eq_1]
  simp only [zB] at g1
  simp [t29k0,h1,h2,h3,h5,g0,g1,g2,hlim,l1,l2,wf,turn,hr1,-resSlO_some,hg,k1,k2,hbb]
theorem nearK_succ (i:Nat):(nearK (i+1)).map cInt=(nearK i).map cInt++[.int .i64 ((i:Int)+1)]:=by
 simp [nearK,List.range_succ,cInt]
set_option maxRecDepth 8000 in
theorem r29 (t:Bool) (near:Int) (l:List StepK) (hh:∀ q∈l,q.has.length≤9223372036854775807) (tx tb tn:Nat) (K:Nat) (hK1:1≤K) (hK:K≤4) :
  ∀ (n i:Nat) (v:DV) (f:FEnv) (h:Heap),K - i=n→i≤K→f 1=.ptr 0 2 0 0→f 2=.ptr 1 6 0 0→f 3=.ptr 2 6 0 0→f 14=.int .i64 K→f 15=.int .i64 i →
  h.get 0=some (.arr tx 2 [.agg [.int .i64 near,eL t 7 eStepK l]] (some 1))→h.get 1=some (.arr tb 6 [zB] (some 1))→h.get 2=some (.arr tn 6 [.agg [.int .i64 0,v,.nsl,.nsl,.nsl,.nsl]] (some 1)) →
  OwnR 3 h v 3 1 ((nearK i).map cInt)→h.lim=0→3≤h.n→WF h →
  pcOut (fin [.cell 2 (some 6)] (run D 124 [.block 0,.seq t29k1] (.loop t29l0) f h))=some (eBroker .none ((l.take 12).foldl tellB (startK K))):=by
 intro n
 induction n with
 | zero =>
  intro i v f h hn hi h1 h2 h3 h14 h15 g0 g1 g2 ho hlim hn3 wf
  have:i=K:=by omega
  subst this
  rw [run_loop_of t29l0.eq_1]
  simp [h14,h15,t29k1]
  cases ho with
  | nil hv hx=>exact absurd hx (by rw [List.map_eq_nil_iff];intro e;have:=nearK_len i;rw [e] at this;simp at this;omega)
  | arr iw sp cap hv hg hl1 hl2 =>
   rw [hv] at g2
   rw [List.length_map,nearK_len] at g2
   refine n29 t near l hh tx tb tn i hK iw _ _ ?_ ?_ ?_ ?_ g0 g1 g2 ⟨⟨sp,cap,hg⟩,hl1,hl2⟩ hlim hn3 wf
   all_goals simp [h1,h2,h3]
 | succ n ih =>
  intro i v f h hn hi h1 h2 h3 h14 h15 g0 g1 g2 ho hlim hn3 wf
  have hlt:i < K:=by omega
  have hlti:(i:Int) < K:=by omega
  obtain ⟨m,hmn⟩:∃ m,h.n=m+3:=⟨h.n - 3,by omega⟩
  rw [run_loop_of t29l0.eq_1]
  simp [h3,h14,h15,hlt,hlti,g2,hmn,hlim,wf,turn,t29s0]
  rw [wrap64 (by omega) (by omega)]
  generalize hA:appendD _ _ _ _ _ _=A
  obtain ⟨v',H,rfl,p',x',_⟩:=OwnR.append (lo:=3) ho.push (by simp [wf]) (by simp [hmn]) (by simp [hlim]) hA (by simp [nearK_len];omega) (by decide)
  rw [← nearK_succ] at p'
  clear hA
  have a0:=x'.get 0 (by decide)
  have a1:=x'.get 1 (by decide)
  have a2:=x'.get 2 (by decide)
  have al:=x'.lim
  have aw:=x'.wf
  have an:=x'.le
  have l2:2 < H.n:=by omega
  simp [hmn,g0,g1,g2,hlim] at a0 a1 a2 al
  obtain ⟨m',hm'⟩:∃ m',H.n=m'+3:=⟨H.n - 3,by omega⟩
  have hst:storable 1 v'=true∧ecells 1 v'=[v']:=⟨p'.storable,by cases p' with
   | nil hv _=>rw [hv];rfl
   | arr _ _ _ hv _ _ _=>rw [hv];rfl⟩
  simp [h3,h15,a2,al,aw,hm',turn,hst.1,hst.2]
  rw [wrap64 (by omega) (by omega)]
  generalize hF:upd _ 15 _=F
  refine ih (i+1) v' F _ (by omega) (by omega) ?_ ?_ ?_ ?_ ?_ ?_ ?_ ?_ (p'.setLow aw (by decide) l2) ?_ ?_ ?_
  all_goals first
   | (rw [← hF];simp [h1,h2,h3,h14];done)
   | (simp [hm',a0,a1,a2,al,aw];done)
   | (simp [hm'] <;> omega)
set_option maxRecDepth 8000 in
theorem s29 (t:Bool) (near:Int) (l:List StepK) (hh:∀ q∈l,q.has.length≤9223372036854775807) :
  pcF D t29 [.agg [.int .i64 near,eL t 7 eStepK l]]=some (eBroker .none (brokerK near l)):=by
 have hw:=s16 near 1 4 (by decide) (by decide) (by decide)
 have hb:=within_bounds near (lo:=1) (hi:=4) (by decide)
 unfold brokerK
 generalize within near 1 4=w at *
 obtain ⟨K,rfl⟩:∃ K:Nat,w=K:=⟨w.toNat,by omega⟩
 rw [Int.toNat_natCast]
 unfold pcF
 rw [goRun_eq _ _ _ _ (by simp [t29])]
 simp [t29,e16,hw]
 refine r29 t near l hh 55 29 29 K (by omega) (by omega) K 0 .nsl _ _ (by omega) (by omega) ?_ ?_ ?_ ?_ ?_ ?_ ?_ ?_ (.nil rfl rfl) ?_ ?_ ?_
 all_goals simp [zB]
end Go.Dm.Tc
/-
The broker that numbers make: how far its numbers go.
-/
namespace Go.Dm.Tc
structure LowK (b:Broker):Prop where
 near:∀ x∈b.near,1≤x∧x≤4
 ne:0 < b.near.length
 seen:∀ x∈b.seen,x.client≤4
 own:∀ o∈b.owns,o.id.client≤4
 ent:∀ e∈b.entries,e.sub.client≤4
theorem LowK.learn {b:Broker} (h:LowK b) {a:Advert} (ha:a.id.client≤4):LowK (learnB b a).1:=by
 unfold learnB
 split
 ·exact h
 ·refine ⟨h.near,h.ne,fun x hx=>?_,h.own,h.ent⟩
  have hx:=(ins_mem (fun x:ID=>x) a.id b.seen x).1 hx
  rcases hx with rfl | hx
  ·exact ha
  ·exact h.seen x hx
theorem LowK.forget {b:Broker} (h:LowK b) (x:ID) (q:Int):LowK (forgetB b x q).1:=by
 unfold forgetB
 split
 ·exact h
 ·split
  ·exact ⟨h.near,h.ne,h.seen,h.own,fun e he=>h.ent e (mem_without.1 he).1⟩
  ·exact h
theorem LowK.add {b:Broker} (h:LowK b) {e:Entry} (he:e.sub.client≤4):LowK (addB b e).1:=by
 unfold addB
 split
 ·refine ⟨h.near,h.ne,h.seen,h.own,fun x hx=>?_⟩
  rcases insE_mem.1 hx with rfl | hx
  ·exact he
  ·exact h.ent x hx
 ·exact h
theorem LowK.take {b:Broker} (h:LowK b) (hi:InvK b) (t s:ID) (q:Int):LowK (takeB b t s q).1:=by
 rcases take_cases hi t s q with ⟨e,_⟩ | ⟨e,_,_,_,_,ht⟩ | ⟨e,_,_,_,_,r',u',ht,hr,_⟩
 ·rw [e];exact h
 ·rw [ht]
  exact ⟨h.near,h.ne,h.seen,h.own,fun x hx=>h.ent x (List.mem_filter.1 hx).1⟩
 ·rw [ht]
  refine ⟨h.near,h.ne,h.seen,h.own,fun x hx=>?_⟩
  rcases hr.mem hx with hx | ⟨y,hy,_,_,rfl⟩
  ·exact h.ent x (List.mem_filter.1 hx).1
  ·exact h.ent y (List.mem_filter.1 hy).1
end Go.Dm.Tc
/-
What functions of the statements' books compute: two rows of messages,where they are the same.
-/
namespace Go.Dm.Tc
theorem s132 (k tc td ic id:Int) (p:Pred) (hp:p.length≤1000000) :
  pcF D t132 [.agg [.int .i64 k,.int .i64 tc,.int .i64 td,.int .i64 ic,.int .i64 id,ePred p,.isl false 0 []],.agg [.int .i64 k,.int .i64 tc,.int .i64 td,.int .i64 ic,.int .i64 id,ePred p,.isl false 0 []]]=some (.bool true):=by
 have h1:=s48 false false p p hp
 have h2:pcF D t169 [.isl false 0 [],.isl false 0 []]=some (.bool true):=s169 false false [] [] (by decide)
 rw [decide_eq_true rfl] at h1
 have h1':pcF D t48 [ePred p,ePred p]=some (.bool true):=h1
 unfold pcF
 rw [goRun_eq _ _ _ _ (by simp [t132])]
 simp [t132,e48,h1',e169,h2,res_islS,turn]
theorem l60 (t u:Bool) (os:List OutS) (hp:∀ o∈os,o.pred.length≤1000000) (hl:os.length≤1000000) :
  ∀ (rest:List OutS) (i:Nat) (f:FEnv) (h:Heap),os.drop i=rest→f 0=eL t 8 eOut os→f 1=eL u 8 eOut os→f 12=.int .i64 os.length→f 13=.int .i64 i →
  pcOut (fin [.t 4] (run D 42 [.block 0,.seq t60k0] (.loop t60l0) f h))=some (.bool true):=by
 intro rest
 induction rest with
 | nil =>
  intro i f h hd h0 h1 h12 h13
  have hi:=drop_nil hd
  have:¬ (i < os.length):=by omega
  rw [run_loop_of t60l0.eq_1]
  simp [t60k0,h12,h13,this]
 | cons o rest ih =>
  intro i f h hd h0 h1 h12 h13
  obtain ⟨hi,he,hd'⟩:=drop_at hd
  have ho:=hp o (by rw [← he];exact List.getElem_mem hi)
  obtain ⟨to,k,⟨tc,td⟩,⟨ic,id⟩,p⟩:=o
  have hm:=s132 k tc td ic id p ho
  rw [run_loop_of t60l0.eq_1]
  simp [h0,h1,h12,h13,hi,he,eOut,e132,res_islS,hm,turn]
  rw [wrap64 (by omega) (by omega)]
  generalize hF:upd _ 13 _=F
  refine ih (i+1) F _ hd' ?_ ?_ ?_ ?_
  all_goals (rw [← hF];simp [h0,h1,h12])
theorem s60 (t u:Bool) (os:List OutS) (hp:∀ o∈os,o.pred.length≤1000000) (hl:os.length≤1000000) :
  pcF D t60 [eL t 8 eOut os,eL u 8 eOut os]=some (.bool true):=by
 unfold pcF
 rw [goRun_eq _ _ _ _ (by simp [t60])]
 simp [t60]
 refine l60 t u os hp hl os 0 _ _ rfl ?_ ?_ ?_ ?_ <;> simp
end Go.Dm.Tc
/-
What functions of the statements' books compute: all but one.
-/
namespace Go.Dm.Tc
end Go.Dm.Tc
/-
What the program's routes compute,part 1: where a subscription of its own stands;an entry added,passed on.
-/
namespace Go.Dm.Tc
end Go.Dm.Tc
/-
What the program's routes compute,part 2: an entry taken out;subscriptions by a link.
-/
namespace Go.Dm.Tc
end Go.Dm.Tc
/-
What the program's routes compute,part 3: a client of the broker's subscribes.
-/
namespace Go.Dm.Tc
theorem on_len (b:Broker) (q:Int) (t s:ID) (p:Pred):(onSubB b q t s p).2.length≤1:=by
 unfold onSubB
 simp only
 split <;> simp
end Go.Dm.Tc
/-
What the program's routes compute,part 4: a client of the broker's subscribes,with the row still written.
-/
namespace Go.Dm.Tc
end Go.Dm.Tc
/-
What the program's routes compute,part 5: a client of the broker's ends a subscription.
-/
namespace Go.Dm.Tc
end Go.Dm.Tc
/-
What the program's routes compute,part 6: a client of the broker's ends a subscription,all of it.
-/
namespace Go.Dm.Tc
end Go.Dm.Tc
/-
Two predicates meet either way about: plain laws.
-/
namespace Go.Dm.Tc
theorem PredOk.up {p:Pred} (h:PredOk p):NameUp p:=by
 have h1:=h.right
 unfold rightP at h1
 rw [Bool.and_eq_true] at h1
 unfold NameUp
 rw [List.pairwise_map]
 exact (rightA_names h1.1).2
end Go.Dm.Tc
/-
SubsFrom: plain laws.
-/
namespace Go.Dm.Tc
theorem fresh {b:Broker} (h:LowK b) (t s:ID) (hs:4 < s.client):entOf b t s=none:=by
 rw [entOf_none]
 rintro e he ⟨_,hq⟩
 have:=h.ent e he
 rw [hq] at this;omega
end Go.Dm.Tc
/-
FloodEnd,FloodBack: plain laws: taken back,and spread,what is behind.
-/
namespace Go.Dm.Tc
theorem advOf_mem {b:Broker} {x:ID} {a:Advert} (h:advOf b x=some a):a∈b.adverts∧a.id=x:=by
 refine ⟨List.mem_of_find?_eq_some h,?_⟩
 have:=List.find?_some h
 simpa using this
theorem forget_is {b:Broker} {x:ID} {q:Int} {a:Advert} (ha:advOf b x=some a) (hq:a.parent=q):forgetB b x q=({ b with adverts:=without (fun a=>a.id) x b.adverts,entries:=without (fun e=>e.tree) x b.entries },true):=by
 unfold forgetB
 rw [show b.adverts.find? (fun a=>decide (a.id=x))=some a from ha]
 simp only [if_pos hq]
theorem unadv_is {b:Broker} {x:ID} {q:Int} {a:Advert} (ha:advOf b x=some a) (hq:a.parent=q):unadvertiseB b q x=({ b with adverts:=without (fun a=>a.id) x b.adverts,entries:=without (fun e=>e.tree) x b.entries },toAll b.near q 2 x.client x.seq 0 0 []):=by
 unfold unadvertiseB
 rw [forget_is ha hq];rfl
theorem without_append {α:Type} (key:α→ID) (x:ID) (l k:List α):without key x (l++k)=without key x l++without key x k:=by
 unfold without;exact List.filter_append ..
theorem without_insE {x:ID} {e:Entry} (he:e.tree=x) (l:List Entry):without (fun e=>e.tree) x (insE e l)=without (fun e=>e.tree) x l:=by
 unfold insE
 rw [without_append]
 have:without (fun e:Entry=>e.tree) x (e::l.drop (lowIdx (sgnE e.tree e.sub) l))=without (fun e:Entry=>e.tree) x (l.drop (lowIdx (sgnE e.tree e.sub) l)):=by
  unfold without
  rw [List.filter_cons];simp [he]
 rw [this,← without_append,List.take_append_drop]
theorem without_insAt {x:ID} {a:Advert} (he:a.id=x) (l:List Advert):without (fun a:Advert=>a.id) x (insAt (fun a=>a.id) a l)=without (fun a:Advert=>a.id) x l:=by
 unfold insAt
 generalize lowIdx _ l=k
 rw [without_append]
 have:without (fun a:Advert=>a.id) x (a::l.drop k)=without (fun a:Advert=>a.id) x (l.drop k):=by
  unfold without
  rw [List.filter_cons];simp [he]
 rw [this,← without_append,List.take_append_drop]
theorem without_none {α:Type} {key:α→ID} {x:ID} {l:List α} (h:∀ a∈l,key a≠x):without key x l=l:=by
 unfold without
 rw [List.filter_eq_self]
 intro a ha
 simp [h a ha]
theorem without_addB (b:Broker) {e:Entry} {x:ID} (he:e.tree=x):without (fun e:Entry=>e.tree) x (addB b e).1.entries=without (fun e:Entry=>e.tree) x b.entries:=by
 unfold addB
 split
 ·exact without_insE (e:={ e with up:=upOf b e }) he b.entries
 ·rfl
theorem adv_outs (frm:Int) (x:ID) (p:Pred):∀ (l:List OwnS) (st:Broker × List OutS),∃ l',(l.foldl (advStep frm x p) st).2=st.2++l'∧l'.length≤l.length∧(∀ o∈l',o.to=frm∧o.kind=3∧o.tree=x) ∧
  (l.foldl (advStep frm x p) st).1.adverts=st.1.adverts∧(l.foldl (advStep frm x p) st).1.near=st.1.near∧(l.foldl (advStep frm x p) st).1.owns=st.1.owns∧(l.foldl (advStep frm x p) st).1.me=st.1.me ∧
  without (fun e:Entry=>e.tree) x (l.foldl (advStep frm x p) st).1.entries=without (fun e:Entry=>e.tree) x st.1.entries
 | [],st=>⟨[],by simp,by simp,fun _ h=>(by cases h),rfl,rfl,rfl,rfl,rfl⟩
 | o::r,st=>by
  obtain ⟨l',h1,h2,h3,h4,h5,h6,h7,h8⟩:=adv_outs frm x p r (advStep frm x p st o)
  have hs:∃ m,(advStep frm x p st o).2=st.2++m∧m.length≤1∧(∀ o∈m,o.to=frm∧o.kind=3∧o.tree=x)∧(advStep frm x p st o).1.adverts=st.1.adverts∧(advStep frm x p st o).1.near=st.1.near∧(advStep frm x p st o).1.owns=st.1.owns∧(advStep frm x p st o).1.me=st.1.me ∧
    without (fun e:Entry=>e.tree) x (advStep frm x p st o).1.entries=without (fun e:Entry=>e.tree) x st.1.entries:=by
   unfold advStep
   split
   ·obtain ⟨k1,k2,k3,k4,k5,_⟩:=addB_rows st.1 ⟨x,o.id,o.pred,-1,false⟩
    by_cases hu:(addB st.1 ⟨x,o.id,o.pred,-1,false⟩).2=true
    ·exact ⟨[⟨frm,3,x,o.id,o.pred⟩],by simp [hu],by simp,by simp,k2,k1,k4,k5,without_addB _ rfl⟩
    ·exact ⟨[],by simp [hu],by simp,fun _ h=>(by cases h),k2,k1,k4,k5,without_addB _ rfl⟩
   ·exact ⟨[],by simp,by simp,fun _ h=>(by cases h),rfl,rfl,rfl,rfl,rfl⟩
  obtain ⟨m,g1,g2,g3,g4,g5,g6,g7,g8⟩:=hs
  refine ⟨m++l',by rw [List.foldl_cons,h1,g1,List.append_assoc],by simp;omega,fun o ho=>?_,by rw [List.foldl_cons,h4,g4],by rw [List.foldl_cons,h5,g5],by rw [List.foldl_cons,h6,g6],by rw [List.foldl_cons,h7,g7],by rw [List.foldl_cons,h8,g8]⟩
  rcases List.mem_append.1 ho with ho | ho
  ·exact g3 o ho
  ·exact h3 o ho
theorem back {b:Broker} (h:InvK b) {f:Int} {x:ID} {p:Pred} (hf:linkB b f=true) (hx:x ∉ b.seen) (hp:PredOk p) :
  ∃ l',(advertiseB b f x p).2=toAll b.near f 1 x.client x.seq 0 0 p++l'∧l'.length≤b.owns.length∧(∀ o∈l',o.to=f∧o.kind=3∧o.tree=x) ∧
   (unadvertiseB (advertiseB b f x p).1 f x).2=toAll b.near f 2 x.client x.seq 0 0 []∧{ (unadvertiseB (advertiseB b f x p).1 f x).1 with seen:=b.seen }=b:=by
 have hA:=advOf_learn h ⟨x,p,f⟩ hx x
 have hL:learnB b ⟨x,p,f⟩=({ b with adverts:=insAt (fun a=>a.id) ⟨x,p,f⟩ b.adverts,seen:=insAt (fun x=>x) x b.seen },true):=by
  unfold learnB;rw [if_neg hx]
 have hadv:∀ a∈b.adverts,a.id≠x:=fun a ha e=>hx (by rw [← e];exact h.sub a ha)
 have hent:∀ e∈b.entries,e.tree≠x:=by
  intro e he q
  obtain ⟨a,ha,_⟩:=rightEnt_iff.1 (h.ent e he)
  have:=advOf_mem ha
  exact hadv a this.1 (by rw [this.2,q])
 obtain ⟨l',h1,h2,h3,h4,h5,h6,h7,h8⟩:=adv_outs f x p b.owns ((learnB b ⟨x,p,f⟩).1,toAll b.near f 1 x.client x.seq 0 0 p)
 have hE:advertiseB b f x p=b.owns.foldl (advStep f x p) ((learnB b ⟨x,p,f⟩).1,toAll b.near f 1 x.client x.seq 0 0 p):=by
  unfold advertiseB;rw [if_pos (by rw [hL])]
 have hc:advOf (advertiseB b f x p).1 x=some ⟨x,p,f⟩:=by
  rw [if_pos rfl] at hA
  rw [hE]
  unfold advOf at hA ⊢
  rw [h4];exact hA
 refine ⟨l',by rw [hE,h1],h2,h3,?_,?_⟩
 ·rw [unadv_is hc rfl,hE,h5,hL]
 ·rw [unadv_is hc rfl,hE]
  simp only
  rw [h4,h5,h6,h7,h8,hL]
  simp only
  rw [without_insAt (a:=⟨x,p,f⟩) rfl,without_none hadv,without_none hent]
end Go.Dm.Tc
/-
FloodEnd: an advertisement that is taken back: the law's walk.
-/
namespace Go.Dm.Tc
theorem s45:pcF D t45 []=some (.bool true):=pc_run (n:=2000) (args:=[]) e45 rfl (by kernel_rfl)
theorem SzK.zl {b:Broker} {n k:Nat} (hz:SzK b n) (hn:n≤20) (hk:k≤n):ZL b k :=
 ⟨by have:=hz.near;omega,by have:=hz.adv;omega,by have:=hz.seen;omega,by have:=hz.own;omega,by have:=hz.ent;have:=Nat.mul_le_mul hn hn;omega⟩
end Go.Dm.Tc
/-
FloodTells: an advertisement from anywhere,spread or taken back by the program and by the document: the law's walk.
-/
namespace Go.Dm.Tc
def OutsOk (os:List OutS):Prop:=(∀ o∈os,o.pred.length≤1000000)∧os.length≤1000000
theorem toAll_ok (near:List Int) (but k tc td ic id:Int) {p:Pred} (hp:PredOk p) (hn:near.length≤1000):(∀ o∈toAll near but k tc td ic id p,o.pred.length≤1000000)∧(toAll near but k tc td ic id p).length≤1000:=by
 unfold toAll
 refine ⟨fun o ho=>?_,?_⟩
 ·obtain ⟨n,_,rfl⟩:=List.mem_map.1 ho
  exact Nat.le_trans hp.len (by decide)
 ·rw [List.length_map]
  exact Nat.le_trans (List.length_filter_le ..) hn
theorem adv_preds (frm:Int) (x:ID) (p:Pred):∀ (l:List OwnS) (st:Broker × List OutS),(∀ o∈st.2,o.pred.length≤1000000)→(∀ o∈l,PredOk o.pred)→∀ o∈(l.foldl (advStep frm x p) st).2,o.pred.length≤1000000
 | [],_,h,_=>h
 | o::r,st,h,hp=>by
  refine adv_preds frm x p r (advStep frm x p st o) ?_ fun o ho=>hp o (List.mem_cons_of_mem _ ho)
  have ho:=Nat.le_trans (hp o (List.mem_cons_self ..)).len (show 5≤1000000 by decide)
  unfold advStep
  split
  ·simp only
   split
   ·intro y hy
    rcases List.mem_append.1 hy with hy | hy
    ·exact h y hy
    ·rw [List.mem_singleton.1 hy];exact ho
   ·exact h
  ·exact h
theorem advertise_ok {b:Broker} {n:Nat} (h:InvK b) (z:SzK b n) (hn:n≤300) (f:Int) (x:ID) {p:Pred} (hp:PredOk p):OutsOk (advertiseB b f x p).2:=by
 unfold advertiseB
 split
 ·obtain ⟨k1,k2⟩:=toAll_ok b.near f 1 x.client x.seq 0 0 hp z.near
  refine ⟨adv_preds _ _ _ _ _ k1 h.po,?_⟩
  obtain ⟨l',h1,h2,_⟩:=adv_outs f x p b.owns ((learnB b ⟨x,p,f⟩).1,toAll b.near f 1 x.client x.seq 0 0 p)
  rw [h1,List.length_append]
  have:=z.own
  simp only
  omega
 ·exact ⟨fun o ho=>(by cases ho),by simp⟩
theorem unadvertise_ok {b:Broker} {n:Nat} (z:SzK b n) (f:Int) (x:ID):OutsOk (unadvertiseB b f x).2:=by
 unfold unadvertiseB
 split
 ·obtain ⟨k1,k2⟩:=toAll_ok b.near f 2 x.client x.seq 0 0 (p:=[]) .nil z.near
  exact ⟨k1,by simp only;omega⟩
 ·exact ⟨fun o ho=>(by cases ho),by simp⟩
set_option maxRecDepth 16000 in
set_option maxHeartbeats 4000000 in
theorem s12 (k:BrokK) (frm client seq:Int) (p:PK) (off:Bool) (hk:∀ z∈k.steps,z.has.length≤9223372036854775807) (hp:p.has.length≤9223372036854775807) :
  pcF D t12 [eBrokK k,.int .i64 frm,.int .i64 client,.int .i64 seq,ePK p,.bool off]=some (.bool true):=by
 have hB:=s29 false k.near k.steps hk
 have hP:=s18 false false p.has p.vals hp
 obtain ⟨hi,hz⟩:=brokerK_keep k.near k.steps
 generalize brokerK k.near k.steps=b at *
 have hq:=mkPred_ok p.has p.vals
 generalize mkPred p.has p.vals=q at *
 have z:=hz.sized (by decide)
 have w1:=s16 client 0 3 (by decide) (by decide) (by decide)
 have w2:=s16 seq 0 3 (by decide) (by decide) (by decide)
 generalize within client 0 3=C at *
 generalize within seq 0 3=Q at *
 have hS:=s30 .none b frm z
 have hfk:=side_link b frm
 generalize sideB b frm=f at *
 have hR:=s45
 have hC:=kCopy .none z
 have hSame:=kBrokers .none hi z .none b
 unfold pcF
 rw [goRun_eq _ _ _ _ (by simp [t12])]
 cases off with
 | false =>
  have hlow:b.adverts.length < 100000∧b.seen.length < 100000:=⟨by have:=hz.adv;omega,by have:=hz.seen;omega⟩
  have hV:=s42 b C Q f q hi (hz.zl (by decide) hz.own) hq hfk hlow
  have hW:=s59 b C Q f q hi (hz.zl (by decide) hz.own) hq hfk hlow
  obtain ⟨hic,hzc⟩:=advertise_keep (x:=⟨C,Q⟩) hi hz hfk hq
  obtain ⟨o1,o2⟩:=advertise_ok hi hz (by decide) f ⟨C,Q⟩ hq
  generalize (advertiseB b f ⟨C,Q⟩ q).1=c at *
  generalize (advertiseB b f ⟨C,Q⟩ q).2=os at *
  have hO:=s60 false false os o1 o2
  have hcc:=kBrokers .none hic (hzc.sized (by decide)) .none c
  have hrt:=kRight .none hic (hzc.sized (by decide))
  have htt:=kTight .none hic (hzc.sized (by decide))
  simp [t12,eBrokK,ePK,e29,hB,e16,w1,w2,e30,hS,e18,hP,e17,hC,e42,hV,e59,hW,e25,hcc,hSame,e60,hO,e27,hrt,e41,htt,e45,hR,turn]
 | true =>
  have hV:=s43 b C Q f hi z
  have hW:=s58 b C Q f hi z
  obtain ⟨hic,hzc⟩:=unadvertise_keep hi hz f ⟨C,Q⟩
  obtain ⟨o1,o2⟩:=unadvertise_ok hz f ⟨C,Q⟩
  generalize (unadvertiseB b f ⟨C,Q⟩).1=c at *
  generalize (unadvertiseB b f ⟨C,Q⟩).2=os at *
  have hO:=s60 false false os o1 o2
  have hcc:=kBrokers .none hic (hzc.sized (by decide)) .none c
  have hrt:=kRight .none hic (hzc.sized (by decide))
  have htt:=kTight .none hic (hzc.sized (by decide))
  simp [t12,eBrokK,ePK,e29,hB,e16,w1,w2,e30,hS,e18,hP,e17,hC,e43,hV,e58,hW,e25,hcc,hSame,e60,hO,e27,hrt,e41,htt,e45,hR,turn]
end Go.Dm.Tc
/-
FloodBack: an advertisement spread and taken back: the law's walk.
-/
namespace Go.Dm.Tc
end Go.Dm.Tc
/-
RouteTells: a subscription,its own or a link's,put in or taken out by the program and by the document: the law's walk.
-/
namespace Go.Dm.Tc
structure Behind (c:Broker) (os:List OutS):Prop where
 brokers:pcF D t25 [eBroker .none c,eBroker .none c]=some (.bool true)
 outs:pcF D t60 [eL false 8 eOut os,eL false 8 eOut os]=some (.bool true)
 right:pcF D t27 [eBroker .none c]=some (.bool true)
 tight:pcF D t41 [eBroker .none c]=some (.bool true)
end Go.Dm.Tc
/-
RouteBack: plain laws: subscribed,and ended at once.
-/
namespace Go.Dm.Tc
def upIn (b:Broker) (t x:ID):Bool:=match entOf b t x with | some e=>e.up | none=>false
structure Subd (b nb:Broker) (x:ID) (q:Pred) (done:List Advert) (outs:List OutS):Prop where
 inv:InvK nb
 adv:nb.adverts=b.adverts
 near:nb.near=b.near
 seen:nb.seen=b.seen
 me:nb.me=b.me
 own:nb.owns=(subOwn b x q).owns
 keep:nb.entries.filter (fun e=>!decide (e.sub=x))=b.entries
 has:∀ a∈done,meetsP q a.pred=true→∃ u,entOf nb a.id x=some ⟨a.id,x,q,-1,u⟩
 from':∀ e∈nb.entries,e.sub=x→∃ a∈done,a.id=e.tree∧meetsP q a.pred=true
 len:nb.entries.length=b.entries.length+done.countP fun a=>meetsP q a.pred
 cnt:outs.length=done.countP fun a=>upIn nb a.id x
structure Ended (c nb:Broker) (x:ID) (done:List Advert) (outs:List OutS):Prop where
 inv:InvK nb
 adv:nb.adverts=c.adverts
 near:nb.near=c.near
 seen:nb.seen=c.seen
 me:nb.me=c.me
 own:nb.owns=(endOwn c x).owns
 ent:nb.entries=c.entries.filter fun e=>!(decide (e.sub=x) && done.any fun a=>decide (a.id=e.tree))
 cnt:outs.length=done.countP fun a=>upIn c a.id x
 kind:∀ o∈outs,o.kind=4∧o.id=x
end Go.Dm.Tc
/-
RouteBack: subscribed,and ended at once: the law's walk.
-/
namespace Go.Dm.Tc
structure Last (b c d e:Broker) (out back none again:List OutS) (n met:Nat):Prop where
 h1:out.length=n
 h2:back.length=n
 h3:c.entries.length=b.entries.length+met
 h4:d=b
 h5:none=[]
 h6:again=[]
 h7:e=c
end Go.Dm.Tc
