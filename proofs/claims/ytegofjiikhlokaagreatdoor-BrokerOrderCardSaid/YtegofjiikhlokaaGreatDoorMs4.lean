/- A part of the proof. -/
import Derived.Test.YtegofjiikhlokaaGreatDoorMs3
import Derived.Test.YtegofjiikhlokaaGreatDoorMs2
import Derived.Test.YtegofjiikhlokaaGreatDoorMs0
import Derived.Test.YtegofjiikhlokaaGreatDoorMs1
set_option linter.all false
namespace Go.Dm.Tc
set_option maxRecDepth 20000
def cP(b:aF)(q:mY):aF :=
 let t:ID:=⟨aT q.tree 0 2,0⟩
 let x:ID:=⟨aT q.aS 0 4,aT q.seq 0 2⟩
 let f:=fN b q.bL
 let k:=aT q.kind 1 7
 let p:=eH q.has q.vals
 if k=6 then(fC b x p).1 else if k=7 then(dH b x).1
 else if k=3∧f=-1∨k=4∧f=-1∨k=5 then(bK b f t p).1
 else(dS b f k t x p).1
def kD(n:Nat):List Int:=(List.range n).map fun i:Nat=>((i:Int)+1)
def bY(n:Nat):aF:=⟨0,kD n,[],[],[],[]⟩
def wE(aL:Int)(l:List mY):aF:=(l.take 12).foldl cP (bY (aT aL 1 4).toNat)
theorem gO(b:aF)(n:Int):fE b (fN b n)=true:=by
 unfold fN fE
 cases h:b.aL[(aT n 0 b.aL.length).toNat]? with
 | none=>simp
 | some x=>simp[List.mem_of_getElem? h]
theorem eA{b:aF}{n:Nat}(h:bT b)(z:SzK b n)(q:mY):bT (cP b q)∧SzK (cP b q) (n+1):=by
 have hp:=fH q.has q.vals
 have hf:=gO b q.bL
 unfold cP
 simp only
 split
 ·exact Ja h z hp
 ·split
  ·exact Eg h z _
  ·split
   ·exact sG h z hf hp
   ·unfold dS
    split
    ·exact sG h z hf hp
    ·split
     ·exact tU h z _ _
     ·split
      ·exact Kd h z hf hp
      ·exact Pl h z _ _ _
theorem Gd(n:Nat)(hn:n≤4):mH (fun x y=>decide (x<y)) (kD n)=true∧∀x∈kD n,0≤x:=by
 rcases n with _|_|_|_|_|n
 ·decide
 ·decide
 ·decide
 ·decide
 ·decide
 ·omega
theorem vJ(n:Nat)(hn:n≤4):bT (bY n)∧SzK (bY n) 0 :=
 ⟨bT.start (Gd n hn).1 (Gd n hn).2,SzK.start (by simp[kD];omega)⟩
theorem Ik : ∀ (l : List mY) {b : aF} {n : Nat}, bT b → SzK b n → bT (l.foldl cP b) ∧ SzK (l.foldl cP b) (n + l.length)
  | [], _, _, h, z => ⟨h, z⟩
  | q :: r, b, n, h, z => by
    obtain⟨h1, z1⟩ := eA h z q
    obtain⟨h2, z2⟩ := Ik r h1 z1
    exact⟨h2, by have : n + (q :: r).length = n + 1 + r.length := by simp only[List.length_cons]; omega
                 rw[this]; exact z2⟩
theorem Ur(aL:Int)(l:List mY):bT (wE aL l)∧SzK (wE aL l) 12:=by
 have hw:=cZ aL (lo:=1) (hi:=4) (by decide)
 obtain⟨h,z⟩:=vJ (aT aL 1 4).toNat (by omega)
 obtain⟨h2,z2⟩:=Ik (l.take 12) h z
 exact⟨h2,z2.mono (by simp only[List.length_take];omega)⟩
end Go.Dm.Tc
namespace Go.Dm.Tc
set_option maxHeartbeats 4000000 in
theorem l7(t:Bool)(aL:Int)(l:List mY)(hh:∀q∈l,q.has.length≤9223372036854775807)(tx tb tn:Nat) :
  ∀(n i:Nat) (nb:aF) (f:cY) (h:aA),12-i=n→bT nb→SzK nb i→i≤12 →
  f 1=.ptr 0 2 0 0→f 2=.ptr 1 6 0 0→f 3=.ptr 2 6 0 0→f 5=.int .i64 i →
  h.get 0=some (.arr tx 2 [.agg [.int .i64 aL,eL t 7 hU l]] (some 1))→h.get 1=some (.arr tb 6 [zB] (some 1))→h.get 2=some (.arr tn 6 [aH .none nb] (some 1))→h.lim=0→3≤h.n→WF h →
  dC (fin [.cell 2 (some 6)] (run D 124 [.block 2,.seq G3] (.loop Vv) f h))=some (aH .none (((l.take 12).drop i).foldl cP nb)):=by
 intro n
 induction n with
 | zero =>
  intro i nb f h hn hi hz kX h1 h2 h3 h5 g0 g1 g2 aM BF wf
  have:i=12:=by omega
  subst this
  have he:(l.take 12).drop 12=[]:=List.drop_eq_nil_of_le (by simp;omega)
  have l1:1<h.n:=by omega
  rw[aC Vv.eq_1,he]
  simp only[zB]at g1
  by_cases bD:12<l.length
  ·have rB:(12:Int)<l.length:=by omega
   simp[rB,G3,h1,h2,h3,h5,g0,g1,g2,bD,aM,l1,wf,turn]
  ·have rB:¬(12:Int)<l.length:=by omega
   simp[rB,G3,h1,h2,h3,h5,g0,g1,g2,bD,aM,l1,wf,turn]
 | succ n ih =>
  intro i nb f h hn hi hz kX h1 h2 h3 h5 g0 g1 g2 aM BF wf
  have hi12':i<12:=by omega
  have De:(i:Int)<12:=by omega
  by_cases bD:i<l.length
  ·have rX:(i:Int)<l.length:=by omega
   have hz':fT nb:=hz.sized (by omega)
   have oH:=s27 .none nb l[i].bL hz'
   have oJ:=s28 false false l[i].has l[i].vals (hh _ (List.getElem_mem bD))
   have w1:=s8 l[i].tree 0 2 (by decide) (by decide) (by decide)
   have w2:=s8 l[i].aS 0 4 (by decide) (by decide) (by decide)
   have w3:=s8 l[i].seq 0 2 (by decide) (by decide) (by decide)
   have w4:=s8 l[i].kind 1 7 (by decide) (by decide) (by decide)
   obtain⟨m,eE⟩:∃ m,h.n=m+3:=⟨h.n-3,by omega⟩
   rw[aC Vv.eq_1]
   by_cases k6:aT l[i].kind 1 7=6
   ·simp[h1,h3,h5,g0,g2,bD,rX,De,aM,wf,eE,turn,hU,e8,w1,w2,w3,w4,e27,oH,e28,oJ,k6]
    have hS:=s29 nb (aT l[i].aS 0 4) (aT l[i].seq 0 2) (eH l[i].has l[i].vals) hi ⟨by have:=hz.aL;omega,by have:=hz.adv;omega,by have:=hz.seen;omega,by have:=hz.own;omega,by have:=hz.ent;have:=hz.adv;have:=Nat.mul_le_mul kX kX;omega⟩ (fH ..) (by have:=hz.own;omega)
    have vU:cP nb l[i]=(fC nb ⟨aT l[i].aS 0 4,aT l[i].seq 0 2⟩ (eH l[i].has l[i].vals)).1:=by simp[cP,k6]
    have Ef:(l.take 12).drop i=l[i]::(l.take 12).drop (i+1):=by
     have:i<(l.take 12).length:=by simp;omega
     rw[List.drop_eq_getElem_cons this];simp
    rw[Ef,List.foldl_cons]
    simp[e29,hS,eE,g2,aM,wf,h3,h5,turn,vH]
    rw[aX (by omega) (by omega)]
    generalize hF:upd _ 5 _=F
    have hk:=eA hi hz l[i]
    rw[←vU]
    refine ih (i+1) (cP nb l[i]) F _ (by omega) hk.1 hk.2 (by omega) ?_ ?_ ?_ ?_ ?_ ?_ ?_ ?_ ?_ ?_
    all_goals first
     | (rw[←hF];simp[h1,h2,h3];done)
     | (simp[eE,g0,g1,g2,aM,wf];done)
     | (simp[eE]<;>omega)
   ·by_cases k7:aT l[i].kind 1 7=7
    ·simp[h1,h3,h5,g0,g2,bD,rX,De,aM,wf,eE,turn,hU,e8,w1,w2,w3,w4,e27,oH,e28,oJ,k7]
     have hS:=s30 nb (aT l[i].aS 0 4) (aT l[i].seq 0 2) hi ⟨by have:=hz.aL;omega,by have:=hz.adv;omega,by have:=hz.seen;omega,by have:=hz.own;omega,by have:=hz.ent;have:=Nat.mul_le_mul kX kX;omega⟩ (by have:=hz.adv;omega)
     have vU:cP nb l[i]=(dH nb ⟨aT l[i].aS 0 4,aT l[i].seq 0 2⟩).1:=by simp[cP,k7]
     have Ef:(l.take 12).drop i=l[i]::(l.take 12).drop (i+1):=by
      have:i<(l.take 12).length:=by simp;omega
      rw[List.drop_eq_getElem_cons this];simp
     rw[Ef,List.foldl_cons]
     simp[e30,hS,eE,g2,aM,wf,h3,h5,turn,vH]
     rw[aX (by omega) (by omega)]
     generalize hF:upd _ 5 _=F
     have hk:=eA hi hz l[i]
     rw[←vU]
     refine ih (i+1) (cP nb l[i]) F _ (by omega) hk.1 hk.2 (by omega) ?_ ?_ ?_ ?_ ?_ ?_ ?_ ?_ ?_ ?_
     all_goals first
      | (rw[←hF];simp[h1,h2,h3];done)
      | (simp[eE,g0,g1,g2,aM,wf];done)
      | (simp[eE]<;>omega)
    ·by_cases k5:aT l[i].kind 1 7=5
     ·simp[h1,h3,h5,g0,g2,bD,rX,De,aM,wf,eE,turn,hU,e8,w1,w2,w3,w4,e27,oH,e28,oJ,k5]
      have hS:=s31 nb (aT l[i].tree 0 2) 0 (fN nb l[i].bL) (eH l[i].has l[i].vals) hi ⟨by have:=hz.aL;omega,by have:=hz.adv;omega,by have:=hz.seen;omega,by have:=hz.own;omega,by have:=hz.ent;have:=hz.own;have:=Nat.mul_le_mul kX kX;omega⟩ (fH ..) (gO ..) ⟨by have:=hz.adv;omega,by have:=hz.seen;omega⟩
      have vU:cP nb l[i]=(bK nb (fN nb l[i].bL) ⟨aT l[i].tree 0 2,0⟩ (eH l[i].has l[i].vals)).1:=by simp[cP,k5]
      have Ef:(l.take 12).drop i=l[i]::(l.take 12).drop (i+1):=by
       have:i<(l.take 12).length:=by simp;omega
       rw[List.drop_eq_getElem_cons this];simp
      rw[Ef,List.foldl_cons]
      simp[e31,hS,eE,g2,aM,wf,h3,h5,turn,vH]
      rw[aX (by omega) (by omega)]
      generalize hF:upd _ 5 _=F
      have hk:=eA hi hz l[i]
      rw[←vU]
      refine ih (i+1) (cP nb l[i]) F _ (by omega) hk.1 hk.2 (by omega) ?_ ?_ ?_ ?_ ?_ ?_ ?_ ?_ ?_ ?_
      all_goals first
       | (rw[←hF];simp[h1,h2,h3];done)
       | (simp[eE,g0,g1,g2,aM,wf];done)
       | (simp[eE]<;>omega)
     ·by_cases k3:aT l[i].kind 1 7=3∧fN nb l[i].bL=-1
      ·simp[h1,h3,h5,g0,g2,bD,rX,De,aM,wf,eE,turn,hU,e8,w1,w2,w3,w4,e27,oH,e28,oJ,k3.1,k3.2]
       have hS:=s31 nb (aT l[i].tree 0 2) 0 (fN nb l[i].bL) (eH l[i].has l[i].vals) hi ⟨by have:=hz.aL;omega,by have:=hz.adv;omega,by have:=hz.seen;omega,by have:=hz.own;omega,by have:=hz.ent;have:=hz.own;have:=Nat.mul_le_mul kX kX;omega⟩ (fH ..) (gO ..) ⟨by have:=hz.adv;omega,by have:=hz.seen;omega⟩
       have hS2:=hS
       rw[k3.2]at hS2
       have vU:cP nb l[i]=(bK nb (fN nb l[i].bL) ⟨aT l[i].tree 0 2,0⟩ (eH l[i].has l[i].vals)).1:=by simp[cP,k3.1,k3.2]
       have Ef:(l.take 12).drop i=l[i]::(l.take 12).drop (i+1):=by
        have:i<(l.take 12).length:=by simp;omega
        rw[List.drop_eq_getElem_cons this];simp
       rw[Ef,List.foldl_cons]
       simp[e31,hS2,eE,g2,aM,wf,h3,h5,turn,vH]
       rw[aX (by omega) (by omega)]
       generalize hF:upd _ 5 _=F
       have hk:=eA hi hz l[i]
       rw[k3.2]at vU
       rw[←vU]
       refine ih (i+1) (cP nb l[i]) F _ (by omega) hk.1 hk.2 (by omega) ?_ ?_ ?_ ?_ ?_ ?_ ?_ ?_ ?_ ?_
       all_goals first
        | (rw[←hF];simp[h1,h2,h3];done)
        | (simp[eE,g0,g1,g2,aM,wf];done)
        | (simp[eE]<;>omega)
      ·by_cases k4:aT l[i].kind 1 7=4∧fN nb l[i].bL=-1
       ·simp[h1,h3,h5,g0,g2,bD,rX,De,aM,wf,eE,turn,hU,e8,w1,w2,w3,w4,e27,oH,e28,oJ,k4.1,k4.2]
        have hS:=s31 nb (aT l[i].tree 0 2) 0 (fN nb l[i].bL) (eH l[i].has l[i].vals) hi ⟨by have:=hz.aL;omega,by have:=hz.adv;omega,by have:=hz.seen;omega,by have:=hz.own;omega,by have:=hz.ent;have:=hz.own;have:=Nat.mul_le_mul kX kX;omega⟩ (fH ..) (gO ..) ⟨by have:=hz.adv;omega,by have:=hz.seen;omega⟩
        have hS2:=hS
        rw[k4.2]at hS2
        have vU:cP nb l[i]=(bK nb (fN nb l[i].bL) ⟨aT l[i].tree 0 2,0⟩ (eH l[i].has l[i].vals)).1:=by simp[cP,k4.1,k4.2]
        have Ef:(l.take 12).drop i=l[i]::(l.take 12).drop (i+1):=by
         have:i<(l.take 12).length:=by simp;omega
         rw[List.drop_eq_getElem_cons this];simp
        rw[Ef,List.foldl_cons]
        simp[e31,hS2,eE,g2,aM,wf,h3,h5,turn,vH]
        rw[aX (by omega) (by omega)]
        generalize hF:upd _ 5 _=F
        have hk:=eA hi hz l[i]
        rw[k4.2]at vU
        rw[←vU]
        refine ih (i+1) (cP nb l[i]) F _ (by omega) hk.1 hk.2 (by omega) ?_ ?_ ?_ ?_ ?_ ?_ ?_ ?_ ?_ ?_
        all_goals first
         | (rw[←hF];simp[h1,h2,h3];done)
         | (simp[eE,g0,g1,g2,aM,wf];done)
         | (simp[eE]<;>omega)
       ·have BJ:aT l[i].kind 1 7=1∨aT l[i].kind 1 7=2∨aT l[i].kind 1 7=3∨aT l[i].kind 1 7=4:=by have:=cZ l[i].kind (lo:=1) (hi:=7) (by decide);omega
        have hk5:=BJ
        rcases hk5 with kk|kk|kk|kk
        ·simp[h1,h3,h5,g0,g2,bD,rX,De,aM,wf,eE,turn,hU,e8,w1,w2,w3,w4,e27,oH,e28,oJ,kk]
         have hS:=s23 nb (fN nb l[i].bL) (aT l[i].kind 1 7) (aT l[i].tree 0 2) 0 (aT l[i].aS 0 4) (aT l[i].seq 0 2) (eH l[i].has l[i].vals) hi ⟨by have:=hz.aL;omega,by have:=hz.adv;omega,by have:=hz.seen;omega,by have:=hz.own;omega,by have:=hz.ent;have:=hz.own;have:=Nat.mul_le_mul kX kX;omega⟩ (fH ..) (gO ..) ⟨by have:=hz.adv;omega,by have:=hz.seen;omega⟩ BJ
         rw[kk]at hS
         have vU:cP nb l[i]=(dS nb (fN nb l[i].bL) 1 ⟨aT l[i].tree 0 2,0⟩ ⟨aT l[i].aS 0 4,aT l[i].seq 0 2⟩ (eH l[i].has l[i].vals)).1:=by simp[cP,kk]
         have Ef:(l.take 12).drop i=l[i]::(l.take 12).drop (i+1):=by
          have:i<(l.take 12).length:=by simp;omega
          rw[List.drop_eq_getElem_cons this];simp
         rw[Ef,List.foldl_cons]
         simp[e23,hS,eE,g2,aM,wf,h3,h5,turn,vH]
         rw[aX (by omega) (by omega)]
         generalize hF:upd _ 5 _=F
         have hk:=eA hi hz l[i]
         rw[←vU]
         refine ih (i+1) (cP nb l[i]) F _ (by omega) hk.1 hk.2 (by omega) ?_ ?_ ?_ ?_ ?_ ?_ ?_ ?_ ?_ ?_
         all_goals first
          | (rw[←hF];simp[h1,h2,h3];done)
          | (simp[eE,g0,g1,g2,aM,wf];done)
          | (simp[eE]<;>omega)
        ·simp[h1,h3,h5,g0,g2,bD,rX,De,aM,wf,eE,turn,hU,e8,w1,w2,w3,w4,e27,oH,e28,oJ,kk]
         have hS:=s23 nb (fN nb l[i].bL) (aT l[i].kind 1 7) (aT l[i].tree 0 2) 0 (aT l[i].aS 0 4) (aT l[i].seq 0 2) (eH l[i].has l[i].vals) hi ⟨by have:=hz.aL;omega,by have:=hz.adv;omega,by have:=hz.seen;omega,by have:=hz.own;omega,by have:=hz.ent;have:=hz.own;have:=Nat.mul_le_mul kX kX;omega⟩ (fH ..) (gO ..) ⟨by have:=hz.adv;omega,by have:=hz.seen;omega⟩ BJ
         rw[kk]at hS
         have vU:cP nb l[i]=(dS nb (fN nb l[i].bL) 2 ⟨aT l[i].tree 0 2,0⟩ ⟨aT l[i].aS 0 4,aT l[i].seq 0 2⟩ (eH l[i].has l[i].vals)).1:=by simp[cP,kk]
         have Ef:(l.take 12).drop i=l[i]::(l.take 12).drop (i+1):=by
          have:i<(l.take 12).length:=by simp;omega
          rw[List.drop_eq_getElem_cons this];simp
         rw[Ef,List.foldl_cons]
         simp[e23,hS,eE,g2,aM,wf,h3,h5,turn,vH]
         rw[aX (by omega) (by omega)]
         generalize hF:upd _ 5 _=F
         have hk:=eA hi hz l[i]
         rw[←vU]
         refine ih (i+1) (cP nb l[i]) F _ (by omega) hk.1 hk.2 (by omega) ?_ ?_ ?_ ?_ ?_ ?_ ?_ ?_ ?_ ?_
         all_goals first
          | (rw[←hF];simp[h1,h2,h3];done)
          | (simp[eE,g0,g1,g2,aM,wf];done)
          | (simp[eE]<;>omega)
        ·have kf:¬fN nb l[i].bL=-1:=fun e=>k3 ⟨kk,e⟩
         simp[h1,h3,h5,g0,g2,bD,rX,De,aM,wf,eE,turn,hU,e8,w1,w2,w3,w4,e27,oH,e28,oJ,kk,kf]
         have hS:=s23 nb (fN nb l[i].bL) (aT l[i].kind 1 7) (aT l[i].tree 0 2) 0 (aT l[i].aS 0 4) (aT l[i].seq 0 2) (eH l[i].has l[i].vals) hi ⟨by have:=hz.aL;omega,by have:=hz.adv;omega,by have:=hz.seen;omega,by have:=hz.own;omega,by have:=hz.ent;have:=hz.own;have:=Nat.mul_le_mul kX kX;omega⟩ (fH ..) (gO ..) ⟨by have:=hz.adv;omega,by have:=hz.seen;omega⟩ BJ
         rw[kk]at hS
         have vU:cP nb l[i]=(dS nb (fN nb l[i].bL) 3 ⟨aT l[i].tree 0 2,0⟩ ⟨aT l[i].aS 0 4,aT l[i].seq 0 2⟩ (eH l[i].has l[i].vals)).1:=by simp[cP,kk,kf]
         have Ef:(l.take 12).drop i=l[i]::(l.take 12).drop (i+1):=by
          have:i<(l.take 12).length:=by simp;omega
          rw[List.drop_eq_getElem_cons this];simp
         rw[Ef,List.foldl_cons]
         simp[e23,hS,eE,g2,aM,wf,h3,h5,turn,vH]
         rw[aX (by omega) (by omega)]
         generalize hF:upd _ 5 _=F
         have hk:=eA hi hz l[i]
         rw[←vU]
         refine ih (i+1) (cP nb l[i]) F _ (by omega) hk.1 hk.2 (by omega) ?_ ?_ ?_ ?_ ?_ ?_ ?_ ?_ ?_ ?_
         all_goals first
          | (rw[←hF];simp[h1,h2,h3];done)
          | (simp[eE,g0,g1,g2,aM,wf];done)
          | (simp[eE]<;>omega)
        ·have kf:¬fN nb l[i].bL=-1:=fun e=>k4 ⟨kk,e⟩
         simp[h1,h3,h5,g0,g2,bD,rX,De,aM,wf,eE,turn,hU,e8,w1,w2,w3,w4,e27,oH,e28,oJ,kk,kf]
         have hS:=s23 nb (fN nb l[i].bL) (aT l[i].kind 1 7) (aT l[i].tree 0 2) 0 (aT l[i].aS 0 4) (aT l[i].seq 0 2) (eH l[i].has l[i].vals) hi ⟨by have:=hz.aL;omega,by have:=hz.adv;omega,by have:=hz.seen;omega,by have:=hz.own;omega,by have:=hz.ent;have:=hz.own;have:=Nat.mul_le_mul kX kX;omega⟩ (fH ..) (gO ..) ⟨by have:=hz.adv;omega,by have:=hz.seen;omega⟩ BJ
         rw[kk]at hS
         have vU:cP nb l[i]=(dS nb (fN nb l[i].bL) 4 ⟨aT l[i].tree 0 2,0⟩ ⟨aT l[i].aS 0 4,aT l[i].seq 0 2⟩ (eH l[i].has l[i].vals)).1:=by simp[cP,kk,kf]
         have Ef:(l.take 12).drop i=l[i]::(l.take 12).drop (i+1):=by
          have:i<(l.take 12).length:=by simp;omega
          rw[List.drop_eq_getElem_cons this];simp
         rw[Ef,List.foldl_cons]
         simp[e23,hS,eE,g2,aM,wf,h3,h5,turn,vH]
         rw[aX (by omega) (by omega)]
         generalize hF:upd _ 5 _=F
         have hk:=eA hi hz l[i]
         rw[←vU]
         refine ih (i+1) (cP nb l[i]) F _ (by omega) hk.1 hk.2 (by omega) ?_ ?_ ?_ ?_ ?_ ?_ ?_ ?_ ?_ ?_
         all_goals first
          | (rw[←hF];simp[h1,h2,h3];done)
          | (simp[eE,g0,g1,g2,aM,wf];done)
          | (simp[eE]<;>omega)
  ·have rX:¬(i:Int)<l.length:=by omega
   have he:(l.take 12).drop i=[]:=List.drop_eq_nil_of_le (by simp;omega)
   have l1:1<h.n:=by omega
   rw[aC Vv.eq_1,he]
   simp only[zB]at g1
   simp[G3,h1,h2,h3,h5,g0,g1,g2,bD,rX,aM,l1,wf,turn]
end Go.Dm.Tc
namespace Go.Dm.Tc
theorem UL{lo:Nat}{h:aA}{i ety:Nat}{os:List Int}{n:Nat}(o:fW lo h i ety 1 (os.map bQ))(hn:n=os.length):iW h (.sl i 1 0 n)=some (eL false 1 bQ os,h.set i .dead):=by
 subst hn
 obtain⟨⟨sp,cap,hg⟩,hl,_⟩:=o
 have hb:(List.take os.length (List.map bQ os++sp)).all (gG 200 0)=true:=by
  rw[List.take_left' (by simp),List.all_eq_true]
  intro x hx
  obtain⟨y,_,rfl⟩:=List.mem_map.1 hx
  rfl
 simp only[iW,hg,hl,List.drop_zero,hb,List.length_append,List.length_map,Nat.zero_add,Nat.le_add_right,and_self,if_true]
 rw[List.take_left' (by simp)]
 cases os<;>rfl
theorem Xp{t:Bool}{ety K:Nat}(H:aA)(sp:List DV)(cap:Option Nat):Et t H 198 1 0 K (some (.arr ety 1 ((kD K).map bQ++sp) cap))=some (eL t 1 bQ (kD K)):=by
 have hl:(kD K).length=K:=by simp[kD]
 rw[gF,if_pos ⟨rfl,by simp[hl]⟩,List.drop_zero,List.take_left' (by simp[hl])]
 have:wL t H 198 ((kD K).map bQ)=some ((kD K).map bQ):=pK fun x hx=>by
  obtain⟨y,_,rfl⟩:=List.mem_map.1 hx
  exact FF.1 y t H 198 (by decide)
 rw[this]
 rfl
theorem yR(n:Nat):(kD n).length=n:=by simp[kD]
set_option maxHeartbeats 4000000 in
theorem n7(t:Bool)(aL:Int)(l:List mY)(hh:∀q∈l,q.has.length≤9223372036854775807)(tx tb tn:Nat)
  (K:Nat) (hK:K≤4) (iw:Nat) (f:cY) (h:aA)
  (h1:f 1=.ptr 0 2 0 0) (h2:f 2=.ptr 1 6 0 0) (h3:f 3=.ptr 2 6 0 0) (h5:f 5=.int .i64 0)
  (g0:h.get 0=some (.arr tx 2 [.agg [.int .i64 aL,eL t 7 hU l]] (some 1))) (g1:h.get 1=some (.arr tb 6 [zB] (some 1))) (g2:h.get 2=some (.arr tn 6 [.agg [.int .i64 0,.sl iw 1 0 K,.nsl,.nsl,.nsl,.nsl]] (some 1)))
  (ho:fW 3 h iw 3 1 ((kD K).map bQ)) (aM:h.lim=0) (BF:3≤h.n) (wf:WF h) :
  dC (fin [.cell 2 (some 6)] (run D 124 [.block 2,.seq G3] (.loop Vv) f h))=some (aH .none ((l.take 12).foldl cP (bY K))):=by
 obtain⟨hi,hz⟩:=vJ K hK
 have S6:=ho.lt
 have UC:=ho.lo
 have l1:1<h.n:=by omega
 by_cases bD:0<l.length
 ·have rX:(0:Int)<l.length:=by omega
  have hz':fT (bY K):=hz.sized (by omega)
  have oH:=s27 ⟨true,false,false,false,false⟩ (bY K) l[0].bL hz'
  have oJ:=s28 false false l[0].has l[0].vals (hh _ (List.getElem_mem bD))
  have w1:=s8 l[0].tree 0 2 (by decide) (by decide) (by decide)
  have w2:=s8 l[0].aS 0 4 (by decide) (by decide) (by decide)
  have w3:=s8 l[0].seq 0 2 (by decide) (by decide) (by decide)
  have w4:=s8 l[0].kind 1 7 (by decide) (by decide) (by decide)
  obtain⟨m,eE⟩:∃ m,h.n=m+3:=⟨h.n-3,by omega⟩
  have m0:¬iw=0:=by omega
  have m1:¬iw=1:=by omega
  have m2:¬iw=2:=by omega
  have m0':¬0=iw:=by omega
  have m1':¬1=iw:=by omega
  have m2':¬2=iw:=by omega
  have m3:¬iw=m+3:=by omega
  have m4:¬iw=m+3+1:=by omega
  have m5:¬iw=m+3+1+1:=by omega
  have m6:¬iw=m+3+1+1+1:=by omega
  have j3:iw<m+3:=by omega
  have j4:iw<m+3+1:=by omega
  have j5:iw<m+3+1+1:=by omega
  have j6:iw<m+3+1+1+1:=by omega
  have tC:∀o1 o2 o3 o4,iW ((((h.push o1).push o2).push o3).push o4) (.sl iw 1 0 K)=some (eL false 1 bQ (kD K),((((h.push o1).push o2).push o3).push o4).set iw .dead):=fun o1 o2 o3 o4=>UL ho.push.push.push.push (yR K).symm
  obtain⟨sp,cap,hg⟩:=ho.get
  have S1:∀H,Et true H 198 1 0 K (some (.arr 3 1 ((kD K).map bQ++sp) cap))=some (eL true 1 bQ (kD K)):=fun H=>Xp H sp cap
  have Hh:DV.agg [.int .i64 0,eL false 1 bQ (kD K),.isl false 0 [],.isl false 0 [],.isl false 0 [],.isl false 0 []]=aH .none (bY K):=rfl
  have UF:DV.agg [.int .i64 0,eL true 1 bQ (kD K),.isl false 0 [],.isl false 0 [],.isl false 0 [],.isl false 0 []]=aH ⟨true,false,false,false,false⟩ (bY K):=rfl
  have hfold:(l.take 12).foldl cP (bY K)=((l.take 12).drop 1).foldl cP (cP (bY K) l[0]):=by cases l with
   | nil=>simp at bD
   | cons a l=>simp
  have kX:0≤12:=by decide
  obtain⟨R,hR⟩:∃ R,R=aH .none (((l.take 12).drop 1).foldl cP (cP (bY K) l[0])):=⟨_,rfl⟩
  rw[hfold,←hR,aC Vv.eq_1]
  by_cases k6:aT l[0].kind 1 7=6
  ·simp[h1,h3,h5,g0,g2,bD,rX,aM,wf,eE,turn,hU,e8,w1,w2,w3,w4,e27,S1,-gF,hg,j3,j4,j5,j6,m0,m1,m2,m0',m1',m2',m3,m4,m5,m6,UF,oH,e28,oJ,k6]
   have hS:=s29 (bY K) (aT l[0].aS 0 4) (aT l[0].seq 0 2) (eH l[0].has l[0].vals) hi ⟨by have:=hz.aL;omega,by have:=hz.adv;omega,by have:=hz.seen;omega,by have:=hz.own;omega,by have:=hz.ent;have:=hz.adv;have:=Nat.mul_le_mul kX kX;omega⟩ (fH ..) (by have:=hz.own;omega)
   have vU:cP (bY K) l[0]=(fC (bY K) ⟨aT l[0].aS 0 4,aT l[0].seq 0 2⟩ (eH l[0].has l[0].vals)).1:=by simp[cP,k6]
   simp[e29,hS,eE,g2,aM,wf,h3,h5,turn,tC,Hh,j3,j4,j5,j6,m0,m1,m2,m0',m1',m2',m3,m4,m5,m6,vH]
   rw[hR]
   generalize hF:upd _ 5 _=F
   have hk:=eA hi hz l[0]
   rw[←vU]
   refine l7 t aL l hh tx tb tn 11 1 (cP (bY K) l[0]) F _ (by decide) hk.1 hk.2 (by decide) ?_ ?_ ?_ ?_ ?_ ?_ ?_ ?_ ?_ ?_
   all_goals first
    | (rw[←hF];simp[h1,h2,h3];done)
    | (simp[eE,g0,g1,g2,aM,wf,j3,j4,j5,j6,m0,m1,m2,m0',m1',m2',m3,m4,m5,m6];done)
    | (simp[eE,m0,m1,m2,m0',m1',m2',m3,m4,m5,m6]<;>omega)
  ·by_cases k7:aT l[0].kind 1 7=7
   ·simp[h1,h3,h5,g0,g2,bD,rX,aM,wf,eE,turn,hU,e8,w1,w2,w3,w4,e27,S1,-gF,hg,j3,j4,j5,j6,m0,m1,m2,m0',m1',m2',m3,m4,m5,m6,UF,oH,e28,oJ,k7]
    have hS:=s30 (bY K) (aT l[0].aS 0 4) (aT l[0].seq 0 2) hi ⟨by have:=hz.aL;omega,by have:=hz.adv;omega,by have:=hz.seen;omega,by have:=hz.own;omega,by have:=hz.ent;have:=Nat.mul_le_mul kX kX;omega⟩ (by have:=hz.adv;omega)
    have vU:cP (bY K) l[0]=(dH (bY K) ⟨aT l[0].aS 0 4,aT l[0].seq 0 2⟩).1:=by simp[cP,k7]
    simp[e30,hS,eE,g2,aM,wf,h3,h5,turn,tC,Hh,j3,j4,j5,j6,m0,m1,m2,m0',m1',m2',m3,m4,m5,m6,vH]
    rw[hR]
    generalize hF:upd _ 5 _=F
    have hk:=eA hi hz l[0]
    rw[←vU]
    refine l7 t aL l hh tx tb tn 11 1 (cP (bY K) l[0]) F _ (by decide) hk.1 hk.2 (by decide) ?_ ?_ ?_ ?_ ?_ ?_ ?_ ?_ ?_ ?_
    all_goals first
     | (rw[←hF];simp[h1,h2,h3];done)
     | (simp[eE,g0,g1,g2,aM,wf,j3,j4,j5,j6,m0,m1,m2,m0',m1',m2',m3,m4,m5,m6];done)
     | (simp[eE,m0,m1,m2,m0',m1',m2',m3,m4,m5,m6]<;>omega)
   ·by_cases k5:aT l[0].kind 1 7=5
    ·simp[h1,h3,h5,g0,g2,bD,rX,aM,wf,eE,turn,hU,e8,w1,w2,w3,w4,e27,S1,-gF,hg,j3,j4,j5,j6,m0,m1,m2,m0',m1',m2',m3,m4,m5,m6,UF,oH,e28,oJ,k5]
     have hS:=s31 (bY K) (aT l[0].tree 0 2) 0 (fN (bY K) l[0].bL) (eH l[0].has l[0].vals) hi ⟨by have:=hz.aL;omega,by have:=hz.adv;omega,by have:=hz.seen;omega,by have:=hz.own;omega,by have:=hz.ent;have:=hz.own;have:=Nat.mul_le_mul kX kX;omega⟩ (fH ..) (gO ..) ⟨by have:=hz.adv;omega,by have:=hz.seen;omega⟩
     have vU:cP (bY K) l[0]=(bK (bY K) (fN (bY K) l[0].bL) ⟨aT l[0].tree 0 2,0⟩ (eH l[0].has l[0].vals)).1:=by simp[cP,k5]
     simp[e31,hS,eE,g2,aM,wf,h3,h5,turn,tC,Hh,j3,j4,j5,j6,m0,m1,m2,m0',m1',m2',m3,m4,m5,m6,vH]
     rw[hR]
     generalize hF:upd _ 5 _=F
     have hk:=eA hi hz l[0]
     rw[←vU]
     refine l7 t aL l hh tx tb tn 11 1 (cP (bY K) l[0]) F _ (by decide) hk.1 hk.2 (by decide) ?_ ?_ ?_ ?_ ?_ ?_ ?_ ?_ ?_ ?_
     all_goals first
      | (rw[←hF];simp[h1,h2,h3];done)
      | (simp[eE,g0,g1,g2,aM,wf,j3,j4,j5,j6,m0,m1,m2,m0',m1',m2',m3,m4,m5,m6];done)
      | (simp[eE,m0,m1,m2,m0',m1',m2',m3,m4,m5,m6]<;>omega)
    ·by_cases k3:aT l[0].kind 1 7=3∧fN (bY K) l[0].bL=-1
     ·simp[h1,h3,h5,g0,g2,bD,rX,aM,wf,eE,turn,hU,e8,w1,w2,w3,w4,e27,S1,-gF,hg,j3,j4,j5,j6,m0,m1,m2,m0',m1',m2',m3,m4,m5,m6,UF,oH,e28,oJ,k3.1,k3.2]
      have hS:=s31 (bY K) (aT l[0].tree 0 2) 0 (fN (bY K) l[0].bL) (eH l[0].has l[0].vals) hi ⟨by have:=hz.aL;omega,by have:=hz.adv;omega,by have:=hz.seen;omega,by have:=hz.own;omega,by have:=hz.ent;have:=hz.own;have:=Nat.mul_le_mul kX kX;omega⟩ (fH ..) (gO ..) ⟨by have:=hz.adv;omega,by have:=hz.seen;omega⟩
      have hS2:=hS
      rw[k3.2]at hS2
      have vU:cP (bY K) l[0]=(bK (bY K) (fN (bY K) l[0].bL) ⟨aT l[0].tree 0 2,0⟩ (eH l[0].has l[0].vals)).1:=by simp[cP,k3.1,k3.2]
      simp[e31,hS2,eE,g2,aM,wf,h3,h5,turn,tC,Hh,j3,j4,j5,j6,m0,m1,m2,m0',m1',m2',m3,m4,m5,m6,vH]
      rw[hR]
      generalize hF:upd _ 5 _=F
      have hk:=eA hi hz l[0]
      rw[k3.2]at vU
      rw[←vU]
      refine l7 t aL l hh tx tb tn 11 1 (cP (bY K) l[0]) F _ (by decide) hk.1 hk.2 (by decide) ?_ ?_ ?_ ?_ ?_ ?_ ?_ ?_ ?_ ?_
      all_goals first
       | (rw[←hF];simp[h1,h2,h3];done)
       | (simp[eE,g0,g1,g2,aM,wf,j3,j4,j5,j6,m0,m1,m2,m0',m1',m2',m3,m4,m5,m6];done)
       | (simp[eE,m0,m1,m2,m0',m1',m2',m3,m4,m5,m6]<;>omega)
     ·by_cases k4:aT l[0].kind 1 7=4∧fN (bY K) l[0].bL=-1
      ·simp[h1,h3,h5,g0,g2,bD,rX,aM,wf,eE,turn,hU,e8,w1,w2,w3,w4,e27,S1,-gF,hg,j3,j4,j5,j6,m0,m1,m2,m0',m1',m2',m3,m4,m5,m6,UF,oH,e28,oJ,k4.1,k4.2]
       have hS:=s31 (bY K) (aT l[0].tree 0 2) 0 (fN (bY K) l[0].bL) (eH l[0].has l[0].vals) hi ⟨by have:=hz.aL;omega,by have:=hz.adv;omega,by have:=hz.seen;omega,by have:=hz.own;omega,by have:=hz.ent;have:=hz.own;have:=Nat.mul_le_mul kX kX;omega⟩ (fH ..) (gO ..) ⟨by have:=hz.adv;omega,by have:=hz.seen;omega⟩
       have hS2:=hS
       rw[k4.2]at hS2
       have vU:cP (bY K) l[0]=(bK (bY K) (fN (bY K) l[0].bL) ⟨aT l[0].tree 0 2,0⟩ (eH l[0].has l[0].vals)).1:=by simp[cP,k4.1,k4.2]
       simp[e31,hS2,eE,g2,aM,wf,h3,h5,turn,tC,Hh,j3,j4,j5,j6,m0,m1,m2,m0',m1',m2',m3,m4,m5,m6,vH]
       rw[hR]
       generalize hF:upd _ 5 _=F
       have hk:=eA hi hz l[0]
       rw[k4.2]at vU
       rw[←vU]
       refine l7 t aL l hh tx tb tn 11 1 (cP (bY K) l[0]) F _ (by decide) hk.1 hk.2 (by decide) ?_ ?_ ?_ ?_ ?_ ?_ ?_ ?_ ?_ ?_
       all_goals first
        | (rw[←hF];simp[h1,h2,h3];done)
        | (simp[eE,g0,g1,g2,aM,wf,j3,j4,j5,j6,m0,m1,m2,m0',m1',m2',m3,m4,m5,m6];done)
        | (simp[eE,m0,m1,m2,m0',m1',m2',m3,m4,m5,m6]<;>omega)
      ·have BJ:aT l[0].kind 1 7=1∨aT l[0].kind 1 7=2∨aT l[0].kind 1 7=3∨aT l[0].kind 1 7=4:=by have:=cZ l[0].kind (lo:=1) (hi:=7) (by decide);omega
       have hk5:=BJ
       rcases hk5 with kk|kk|kk|kk
       ·simp[h1,h3,h5,g0,g2,bD,rX,aM,wf,eE,turn,hU,e8,w1,w2,w3,w4,e27,S1,-gF,hg,j3,j4,j5,j6,m0,m1,m2,m0',m1',m2',m3,m4,m5,m6,UF,oH,e28,oJ,kk]
        have hS:=s23 (bY K) (fN (bY K) l[0].bL) (aT l[0].kind 1 7) (aT l[0].tree 0 2) 0 (aT l[0].aS 0 4) (aT l[0].seq 0 2) (eH l[0].has l[0].vals) hi ⟨by have:=hz.aL;omega,by have:=hz.adv;omega,by have:=hz.seen;omega,by have:=hz.own;omega,by have:=hz.ent;have:=hz.own;have:=Nat.mul_le_mul kX kX;omega⟩ (fH ..) (gO ..) ⟨by have:=hz.adv;omega,by have:=hz.seen;omega⟩ BJ
        rw[kk]at hS
        have vU:cP (bY K) l[0]=(dS (bY K) (fN (bY K) l[0].bL) 1 ⟨aT l[0].tree 0 2,0⟩ ⟨aT l[0].aS 0 4,aT l[0].seq 0 2⟩ (eH l[0].has l[0].vals)).1:=by simp[cP,kk]
        simp[e23,hS,eE,g2,aM,wf,h3,h5,turn,tC,Hh,j3,j4,j5,j6,m0,m1,m2,m0',m1',m2',m3,m4,m5,m6,vH]
        rw[hR]
        generalize hF:upd _ 5 _=F
        have hk:=eA hi hz l[0]
        rw[←vU]
        refine l7 t aL l hh tx tb tn 11 1 (cP (bY K) l[0]) F _ (by decide) hk.1 hk.2 (by decide) ?_ ?_ ?_ ?_ ?_ ?_ ?_ ?_ ?_ ?_
        all_goals first
         | (rw[←hF];simp[h1,h2,h3];done)
         | (simp[eE,g0,g1,g2,aM,wf,j3,j4,j5,j6,m0,m1,m2,m0',m1',m2',m3,m4,m5,m6];done)
         | (simp[eE,m0,m1,m2,m0',m1',m2',m3,m4,m5,m6]<;>omega)
       ·simp[h1,h3,h5,g0,g2,bD,rX,aM,wf,eE,turn,hU,e8,w1,w2,w3,w4,e27,S1,-gF,hg,j3,j4,j5,j6,m0,m1,m2,m0',m1',m2',m3,m4,m5,m6,UF,oH,e28,oJ,kk]
        have hS:=s23 (bY K) (fN (bY K) l[0].bL) (aT l[0].kind 1 7) (aT l[0].tree 0 2) 0 (aT l[0].aS 0 4) (aT l[0].seq 0 2) (eH l[0].has l[0].vals) hi ⟨by have:=hz.aL;omega,by have:=hz.adv;omega,by have:=hz.seen;omega,by have:=hz.own;omega,by have:=hz.ent;have:=hz.own;have:=Nat.mul_le_mul kX kX;omega⟩ (fH ..) (gO ..) ⟨by have:=hz.adv;omega,by have:=hz.seen;omega⟩ BJ
        rw[kk]at hS
        have vU:cP (bY K) l[0]=(dS (bY K) (fN (bY K) l[0].bL) 2 ⟨aT l[0].tree 0 2,0⟩ ⟨aT l[0].aS 0 4,aT l[0].seq 0 2⟩ (eH l[0].has l[0].vals)).1:=by simp[cP,kk]
        simp[e23,hS,eE,g2,aM,wf,h3,h5,turn,tC,Hh,j3,j4,j5,j6,m0,m1,m2,m0',m1',m2',m3,m4,m5,m6,vH]
        rw[hR]
        generalize hF:upd _ 5 _=F
        have hk:=eA hi hz l[0]
        rw[←vU]
        refine l7 t aL l hh tx tb tn 11 1 (cP (bY K) l[0]) F _ (by decide) hk.1 hk.2 (by decide) ?_ ?_ ?_ ?_ ?_ ?_ ?_ ?_ ?_ ?_
        all_goals first
         | (rw[←hF];simp[h1,h2,h3];done)
         | (simp[eE,g0,g1,g2,aM,wf,j3,j4,j5,j6,m0,m1,m2,m0',m1',m2',m3,m4,m5,m6];done)
         | (simp[eE,m0,m1,m2,m0',m1',m2',m3,m4,m5,m6]<;>omega)
       ·have kf:¬fN (bY K) l[0].bL=-1:=fun e=>k3 ⟨kk,e⟩
        simp[h1,h3,h5,g0,g2,bD,rX,aM,wf,eE,turn,hU,e8,w1,w2,w3,w4,e27,S1,-gF,hg,j3,j4,j5,j6,m0,m1,m2,m0',m1',m2',m3,m4,m5,m6,UF,oH,e28,oJ,kk,kf]
        have hS:=s23 (bY K) (fN (bY K) l[0].bL) (aT l[0].kind 1 7) (aT l[0].tree 0 2) 0 (aT l[0].aS 0 4) (aT l[0].seq 0 2) (eH l[0].has l[0].vals) hi ⟨by have:=hz.aL;omega,by have:=hz.adv;omega,by have:=hz.seen;omega,by have:=hz.own;omega,by have:=hz.ent;have:=hz.own;have:=Nat.mul_le_mul kX kX;omega⟩ (fH ..) (gO ..) ⟨by have:=hz.adv;omega,by have:=hz.seen;omega⟩ BJ
        rw[kk]at hS
        have vU:cP (bY K) l[0]=(dS (bY K) (fN (bY K) l[0].bL) 3 ⟨aT l[0].tree 0 2,0⟩ ⟨aT l[0].aS 0 4,aT l[0].seq 0 2⟩ (eH l[0].has l[0].vals)).1:=by simp[cP,kk,kf]
        simp[e23,hS,eE,g2,aM,wf,h3,h5,turn,tC,Hh,j3,j4,j5,j6,m0,m1,m2,m0',m1',m2',m3,m4,m5,m6,vH]
        rw[hR]
        generalize hF:upd _ 5 _=F
        have hk:=eA hi hz l[0]
        rw[←vU]
        refine l7 t aL l hh tx tb tn 11 1 (cP (bY K) l[0]) F _ (by decide) hk.1 hk.2 (by decide) ?_ ?_ ?_ ?_ ?_ ?_ ?_ ?_ ?_ ?_
        all_goals first
         | (rw[←hF];simp[h1,h2,h3];done)
         | (simp[eE,g0,g1,g2,aM,wf,j3,j4,j5,j6,m0,m1,m2,m0',m1',m2',m3,m4,m5,m6];done)
         | (simp[eE,m0,m1,m2,m0',m1',m2',m3,m4,m5,m6]<;>omega)
       ·have kf:¬fN (bY K) l[0].bL=-1:=fun e=>k4 ⟨kk,e⟩
        simp[h1,h3,h5,g0,g2,bD,rX,aM,wf,eE,turn,hU,e8,w1,w2,w3,w4,e27,S1,-gF,hg,j3,j4,j5,j6,m0,m1,m2,m0',m1',m2',m3,m4,m5,m6,UF,oH,e28,oJ,kk,kf]
        have hS:=s23 (bY K) (fN (bY K) l[0].bL) (aT l[0].kind 1 7) (aT l[0].tree 0 2) 0 (aT l[0].aS 0 4) (aT l[0].seq 0 2) (eH l[0].has l[0].vals) hi ⟨by have:=hz.aL;omega,by have:=hz.adv;omega,by have:=hz.seen;omega,by have:=hz.own;omega,by have:=hz.ent;have:=hz.own;have:=Nat.mul_le_mul kX kX;omega⟩ (fH ..) (gO ..) ⟨by have:=hz.adv;omega,by have:=hz.seen;omega⟩ BJ
        rw[kk]at hS
        have vU:cP (bY K) l[0]=(dS (bY K) (fN (bY K) l[0].bL) 4 ⟨aT l[0].tree 0 2,0⟩ ⟨aT l[0].aS 0 4,aT l[0].seq 0 2⟩ (eH l[0].has l[0].vals)).1:=by simp[cP,kk,kf]
        simp[e23,hS,eE,g2,aM,wf,h3,h5,turn,tC,Hh,j3,j4,j5,j6,m0,m1,m2,m0',m1',m2',m3,m4,m5,m6,vH]
        rw[hR]
        generalize hF:upd _ 5 _=F
        have hk:=eA hi hz l[0]
        rw[←vU]
        refine l7 t aL l hh tx tb tn 11 1 (cP (bY K) l[0]) F _ (by decide) hk.1 hk.2 (by decide) ?_ ?_ ?_ ?_ ?_ ?_ ?_ ?_ ?_ ?_
        all_goals first
         | (rw[←hF];simp[h1,h2,h3];done)
         | (simp[eE,g0,g1,g2,aM,wf,j3,j4,j5,j6,m0,m1,m2,m0',m1',m2',m3,m4,m5,m6];done)
         | (simp[eE,m0,m1,m2,m0',m1',m2',m3,m4,m5,m6]<;>omega)
 ·have tB:l=[]:=by cases l<;>simp_all
  subst tB
  obtain⟨sp,cap,hg⟩:=ho.get
  have S1:∀H,Et false H 198 1 0 K (some (.arr 3 1 ((kD K).map bQ++sp) cap))=some (eL false 1 bQ (kD K)):=fun H=>Xp H sp cap
  have Hh:DV.agg [.int .i64 0,eL false 1 bQ (kD K),.isl false 0 [],.isl false 0 [],.isl false 0 [],.isl false 0 []]=aH .none (bY K):=rfl
  have k1:¬iw=1:=by omega
  have k2:¬iw=2:=by omega
  have l2:2<h.n:=by omega
  rw[aC Vv.eq_1]
  simp only[zB]at g1
  simp[G3,h1,h2,h3,h5,g0,g1,g2,aM,l1,l2,wf,turn,S1,-gF,hg,k1,k2,Hh]
theorem Q1(i:Nat):(kD (i+1)).map bQ=(kD i).map bQ++[.int .i64 ((i:Int)+1)]:=by
 simp[kD,List.range_succ,bQ]
theorem r7(t:Bool)(aL:Int)(l:List mY)(hh:∀q∈l,q.has.length≤9223372036854775807)(tx tb tn:Nat)(K:Nat)(hK1:1≤K)(hK:K≤4) :
  ∀(n i:Nat) (v:DV) (f:cY) (h:aA),K-i=n→i≤K→f 1=.ptr 0 2 0 0→f 2=.ptr 1 6 0 0→f 3=.ptr 2 6 0 0→f 14=.int .i64 K→f 15=.int .i64 i →
  h.get 0=some (.arr tx 2 [.agg [.int .i64 aL,eL t 7 hU l]] (some 1))→h.get 1=some (.arr tb 6 [zB] (some 1))→h.get 2=some (.arr tn 6 [.agg [.int .i64 0,v,.nsl,.nsl,.nsl,.nsl]] (some 1)) →
  OwnR 3 h v 3 1 ((kD i).map bQ)→h.lim=0→3≤h.n→WF h →
  dC (fin [.cell 2 (some 6)] (run D 124 [.block 0,.seq XC] (.loop RN) f h))=some (aH .none ((l.take 12).foldl cP (bY K))):=by
 intro n
 induction n with
 | zero =>
  intro i v f h hn hi h1 h2 h3 Gh zI g0 g1 g2 ho aM BF wf
  have:i=K:=by omega
  subst this
  rw[aC RN.eq_1]
  simp[Gh,zI,XC]
  cases ho with
  | nil hv hx=>exact absurd hx (by rw[List.map_eq_nil_iff];intro e;have:=yR i;rw[e]at this;simp at this;omega)
  | arr iw sp cap hv hg Ee S5 =>
   rw[hv]at g2
   rw[List.length_map,yR]at g2
   refine n7 t aL l hh tx tb tn i hK iw _ _ ?_ ?_ ?_ ?_ g0 g1 g2 ⟨⟨sp,cap,hg⟩,Ee,S5⟩ aM BF wf
   all_goals simp[h1,h2,h3]
 | succ n ih =>
  intro i v f h hn hi h1 h2 h3 Gh zI g0 g1 g2 ho aM BF wf
  have bD:i<K:=by omega
  have rX:(i:Int)<K:=by omega
  obtain⟨m,eE⟩:∃ m,h.n=m+3:=⟨h.n-3,by omega⟩
  rw[aC RN.eq_1]
  simp[h3,Gh,zI,bD,rX,g2,eE,aM,wf,turn,t7s0]
  rw[aX (by omega) (by omega)]
  generalize hA:aY _ _ _ _ _ _=A
  obtain⟨v',H,rfl,p',x',_⟩:=OwnR.append (lo:=3) ho.push (by simp[wf]) (by simp[eE]) (by simp[aM]) hA (by simp[yR];omega) (by decide)
  rw[←Q1]at p'
  clear hA
  have a0:=x'.get 0 (by decide)
  have a1:=x'.get 1 (by decide)
  have a2:=x'.get 2 (by decide)
  have al:=x'.lim
  have aw:=x'.wf
  have an:=x'.le
  have l2:2<H.n:=by omega
  simp[eE,g0,g1,g2,aM]at a0 a1 a2 al
  obtain⟨m',hm'⟩:∃ m',H.n=m'+3:=⟨H.n-3,by omega⟩
  have dK:bE 1 v'=true∧aP 1 v'=[v']:=⟨p'.bE,by cases p' with
   | nil hv _=>rw[hv];rfl
   | arr _ _ _ hv _ _ _=>rw[hv];rfl⟩
  simp[h3,zI,a2,al,aw,hm',turn,dK.1,dK.2]
  rw[aX (by omega) (by omega)]
  generalize hF:upd _ 15 _=F
  refine ih (i+1) v' F _ (by omega) (by omega) ?_ ?_ ?_ ?_ ?_ ?_ ?_ ?_ (p'.aW aw (by decide) l2) ?_ ?_ ?_
  all_goals first
   | (rw[←hF];simp[h1,h2,h3,Gh];done)
   | (simp[hm',a0,a1,a2,al,aw];done)
   | (simp[hm']<;>omega)
theorem s7(t:Bool)(aL:Int)(l:List mY)(hh:∀q∈l,q.has.length≤9223372036854775807) :
  pcF D t7 [.agg [.int .i64 aL,eL t 7 hU l]]=some (aH .none (wE aL l)):=by
 have hw:=s8 aL 1 4 (by decide) (by decide) (by decide)
 have hb:=cZ aL (lo:=1) (hi:=4) (by decide)
 unfold wE
 generalize aT aL 1 4=w at *
 obtain⟨K,rfl⟩:∃ K:Nat,w=K:=⟨w.toNat,by omega⟩
 rw[Int.toNat_natCast]
 unfold pcF
 rw[aJ _ _ _ _ (by simp[t7])]
 simp[t7,e8,hw]
 refine r7 t aL l hh 24 36 36 K (by omega) (by omega) K 0 .nsl _ _ (by omega) (by omega) ?_ ?_ ?_ ?_ ?_ ?_ ?_ ?_ (.nil rfl rfl) ?_ ?_ ?_
 all_goals simp[zB]
end Go.Dm.Tc
namespace Go.Dm.Tc
structure lJ(b:aF):Prop where
 aL:∀x∈b.aL,1≤x∧x≤4
 ne:0<b.aL.length
 seen:∀x∈b.seen,x.aS≤4
 own:∀o∈b.bU,o.id.aS≤4
 ent:∀e∈b.entries,e.sub.aS≤4
theorem lJ.learn{b:aF}(h:lJ b){a:bC}(ha:a.id.aS≤4):lJ (bH b a).1:=by
 unfold bH
 split
 ·exact h
 ·refine⟨h.aL,h.ne,fun x hx=>?_,h.own,h.ent⟩
  have hx:=(nB (fun x:ID=>x) a.id b.seen x).1 hx
  rcases hx with rfl|hx
  ·exact ha
  ·exact h.seen x hx
theorem lJ.forget{b:aF}(h:lJ b)(x:ID)(q:Int):lJ (bX b x q).1:=by
 unfold bX
 split
 ·exact h
 ·split
  ·exact⟨h.aL,h.ne,h.seen,h.own,fun e he=>h.ent e (fP.1 he).1⟩
  ·exact h
theorem lJ.add{b:aF}(h:lJ b){e:aV}(he:e.sub.aS≤4):lJ (dY b e).1:=by
 unfold dY
 split
 ·refine⟨h.aL,h.ne,h.seen,h.own,fun x hx=>?_⟩
  rcases qE.1 hx with rfl|hx
  ·exact he
  ·exact h.ent x hx
 ·exact h
theorem lJ.take{b:aF}(h:lJ b)(hi:bT b)(t s:ID)(q:Int):lJ (cF b t s q).1:=by
 rcases lM hi t s q with⟨e,_⟩|⟨e,_,_,_,_,ht⟩|⟨e,_,_,_,_,r',u',ht,hr,_⟩
 ·rw[e];exact h
 ·rw[ht]
  exact⟨h.aL,h.ne,h.seen,h.own,fun x hx=>h.ent x (List.mem_filter.1 hx).1⟩
 ·rw[ht]
  refine⟨h.aL,h.ne,h.seen,h.own,fun x hx=>?_⟩
  rcases hr.mem hx with hx|⟨y,hy,_,_,rfl⟩
  ·exact h.ent x (List.mem_filter.1 hx).1
  ·exact h.ent y (List.mem_filter.1 hy).1
theorem AT(bL:Int)(x:ID)(p:bI):∀(l:List fV) (st:aF×List iR),lJ st.1→(∀o∈l,o.id.aS≤4)→lJ (l.foldl (bV bL x p) st).1
 | [],_,h,_=>h
 | o::r,st,h,hp=>by
  have h1:lJ (bV bL x p st o).1:=by
   unfold bV
   split
   ·exact h.add (hp o (List.mem_cons_self ..))
   ·exact h
  exact AT bL x p r _ h1 fun o ho=>hp o (List.mem_cons_of_mem _ ho)
theorem AS(x:ID)(p:bI)(hx:x.aS≤4):∀(l:List bC) (st:aF×List iR),lJ st.1→lJ (l.foldl (eC x p) st).1
 | [],_,h=>h
 | o::r,st,h=>by
  have h1:lJ (eC x p st o).1:=by
   unfold eC
   split
   ·exact h.add hx
   ·exact h
  exact AS x p hx r _ h1
theorem Yo(x:ID):∀(l:List bC) (st:aF×List iR),bT st.1→lJ st.1→lJ (l.foldl (fG x) st).1
 | [],_,_,h=>h
 | o::r,st,hi,h=>by
  have h1:lJ (fG x st o).1:=by
   unfold fG
   rw[jI]
   exact h.take hi ..
  have h2:bT (fG x st o).1:=by
   unfold fG
   rw[jI]
   exact hi.take ..
  exact Yo x r _ h2 h1
theorem zT{b:aF}(h:lJ b)(bL:Int){x:ID}(hx:x.aS≤4)(p:bI):lJ (bK b bL x p).1:=by
 unfold bK
 split
 ·exact AT _ _ _ _ _ (h.learn (a:=⟨x,p,bL⟩) hx) h.own
 ·exact h
theorem Hc{b:aF}(h:lJ b)(bL:Int)(x:ID):lJ (bN b bL x).1:=by
 unfold bN
 split
 ·exact h.forget ..
 ·exact h
theorem Np{b:aF}(h:lJ b){x:ID}(hx:x.aS≤4)(p:bI):lJ (fC b x p).1:=by
 unfold fC
 split
 ·exact h
 ·refine AS _ _ hx _ _ ⟨h.aL,h.ne,h.seen,fun o ho=>?_,h.ent⟩
  have ho:=(nB (fun o:fV=>o.id) ⟨x,p⟩ b.bU o).1 ho
  rcases ho with rfl|ho
  ·exact hx
  ·exact h.own o ho
theorem Hb{b:aF}(h:lJ b)(hi:bT b)(x:ID):lJ (dH b x).1:=by
 unfold dH
 split
 ·exact h
 ·exact Yo _ _ _ (hi.endOwn x) ⟨h.aL,h.ne,h.seen,fun o ho=>h.own o (fP.1 ho).1,h.ent⟩
theorem JX{b:aF}(h:lJ b)(hi:bT b)(q:mY):lJ (cP b q):=by
 have w1:=cZ q.tree (lo:=0) (hi:=2) (by decide)
 have w2:=cZ q.aS (lo:=0) (hi:=4) (by decide)
 have hT:(⟨aT q.tree 0 2,0⟩:ID).aS≤4:=by simp only;omega
 have hX:(⟨aT q.aS 0 4,aT q.seq 0 2⟩:ID).aS≤4:=by simp only;omega
 unfold cP
 simp only
 split
 ·exact Np h hX _
 ·split
  ·exact Hb h hi _
  ·split
   ·exact zT h _ hT _
   ·unfold dS
    split
    ·exact zT h _ hT _
    ·split
     ·exact Hc h _ _
     ·split
      ·exact h.add hX
      ·rw[jI];exact h.take hi ..
theorem Od:∀(l:List mY) {b:aF} {n:Nat},bT b→SzK b n→lJ b→lJ (l.foldl cP b)
 | [],_,_,_,_,h=>h
 | q::r,_,_,hi,z,h=>Od r (eA hi z q).1 (eA hi z q).2 (JX h hi q)
theorem EA(n : Nat)(h1 : 1 ≤ n)(hn : n ≤ 4) : lJ (bY n) :=
  ⟨by rcases n with _ | _ | _ | _ | _ | n
      · decide
      · decide
      · decide
      · decide
      · decide
      · omega, by simp[bY, kD]; omega, fun x h => (by cases h), fun x h => (by cases h), fun x h => (by cases h)⟩
theorem C3(aL:Int)(l:List mY):lJ (wE aL l):=by
 have hw:=cZ aL (lo:=1) (hi:=4) (by decide)
 obtain⟨h,z⟩:=vJ (aT aL 1 4).toNat (by omega)
 exact Od (l.take 12) h z (EA _ (by omega) (by omega))
end Go.Dm.Tc
namespace Go.Dm.Tc
theorem s42(k tc td ic id:Int)(p:bI)(hp:p.length≤1000000) :
  pcF D t42 [.agg [.int .i64 k,.int .i64 tc,.int .i64 td,.int .i64 ic,.int .i64 id,bF p,.isl false 0 []],.agg [.int .i64 k,.int .i64 tc,.int .i64 td,.int .i64 ic,.int .i64 id,bF p,.isl false 0 []]]=some (.bool true):=by
 have h1:=s41 false false p p hp
 have h2:pcF D t43 [.isl false 0 [],.isl false 0 []]=some (.bool true):=s43 false false [] [] (by decide)
 rw[decide_eq_true rfl]at h1
 have Dh:pcF D t41 [bF p,bF p]=some (.bool true):=h1
 unfold pcF
 rw[aJ _ _ _ _ (by simp[t42])]
 simp[t42,e41,Dh,e43,h2,tX,turn]
theorem l12(t u:Bool)(os:List iR)(hp:∀o∈os,o.pred.length≤1000000)(hl:os.length≤1000000) :
  ∀(rest:List iR) (i:Nat) (f:cY) (h:aA),os.drop i=rest→f 0=eL t 8 fM os→f 1=eL u 8 fM os→f 12=.int .i64 os.length→f 13=.int .i64 i →
  dC (fin [.t 4] (run D 42 [.block 0,.seq Wb] (.loop Iy) f h))=some (.bool true):=by
 intro rest
 induction rest with
 | nil =>
  intro i f h hd h0 h1 gQ nC
  have hi:=bR hd
  have:¬(i<os.length):=by omega
  rw[aC Iy.eq_1]
  simp[Wb,gQ,nC,this]
 | cons o rest ih =>
  intro i f h hd h0 h1 gQ nC
  obtain⟨hi,he,fI⟩:=cB hd
  have ho:=hp o (by rw[←he];exact List.getElem_mem hi)
  obtain⟨to,k,⟨tc,td⟩,⟨ic,id⟩,p⟩:=o
  have hm:=s42 k tc td ic id p ho
  rw[aC Iy.eq_1]
  simp[h0,h1,gQ,nC,hi,he,fM,e42,tX,hm,turn]
  rw[aX (by omega) (by omega)]
  generalize hF:upd _ 13 _=F
  refine ih (i+1) F _ fI ?_ ?_ ?_ ?_
  all_goals (rw[←hF];simp[h0,h1,gQ])
theorem s12(t u:Bool)(os:List iR)(hp:∀o∈os,o.pred.length≤1000000)(hl:os.length≤1000000) :
  pcF D t12 [eL t 8 fM os,eL u 8 fM os]=some (.bool true):=by
 unfold pcF
 rw[aJ _ _ _ _ (by simp[t12])]
 simp[t12]
 refine l12 t u os hp hl os 0 _ _ rfl ?_ ?_ ?_ ?_<;>simp
end Go.Dm.Tc
namespace Go.Dm.Tc
theorem fresh{b:aF}(h:lJ b)(t s:ID)(hs:4<s.aS):Gm b t s=none:=by
 rw[Lw]
 rintro e he ⟨_,hq⟩
 have:=h.ent e he
 rw[hq]at this;omega
end Go.Dm.Tc
namespace Go.Dm.Tc
theorem IL{b:aF}{x:ID}{a:bC}(h:fR b x=some a):a∈b.aR∧a.id=x:=by
 refine⟨List.mem_of_find?_eq_some h,?_⟩
 have:=List.find?_some h
 simpa using this
theorem GQ{b:aF}{x:ID}{q:Int}{a:bC}(ha:fR b x=some a)(hq:a.bO=q):bX b x q=({b with aR:=bM (fun a=>a.id) x b.aR,entries:=bM (fun e=>e.tree) x b.entries},true):=by
 unfold bX
 rw[show b.aR.find? (fun a=>decide (a.id=x))=some a from ha]
 simp only[if_pos hq]
theorem Vg{b:aF}{x:ID}{q:Int}{a:bC}(ha:fR b x=some a)(hq:a.bO=q):bN b q x=({b with aR:=bM (fun a=>a.id) x b.aR,entries:=bM (fun e=>e.tree) x b.entries},lL b.aL q 2 x.aS x.seq 0 0 []):=by
 unfold bN
 rw[GQ ha hq];rfl
theorem nW{α:Type}(key:α→ID)(x:ID)(l k:List α):bM key x (l++k)=bM key x l++bM key x k:=by
 unfold bM;exact List.filter_append ..
theorem Pu{x:ID}{e:aV}(he:e.tree=x)(l:List aV):bM (fun e=>e.tree) x (sP e l)=bM (fun e=>e.tree) x l:=by
 unfold sP
 rw[nW]
 have:bM (fun e:aV=>e.tree) x (e::l.drop (aU (eW e.tree e.sub) l))=bM (fun e:aV=>e.tree) x (l.drop (aU (eW e.tree e.sub) l)):=by
  unfold bM
  rw[List.filter_cons];simp[he]
 rw[this,←nW,List.take_append_drop]
theorem Mu{x:ID}{a:bC}(he:a.id=x)(l:List bC):bM (fun a:bC=>a.id) x (gX (fun a=>a.id) a l)=bM (fun a:bC=>a.id) x l:=by
 unfold gX
 generalize aU _ l=k
 rw[nW]
 have:bM (fun a:bC=>a.id) x (a::l.drop k)=bM (fun a:bC=>a.id) x (l.drop k):=by
  unfold bM
  rw[List.filter_cons];simp[he]
 rw[this,←nW,List.take_append_drop]
theorem Bz{α:Type}{key:α→ID}{x:ID}{l:List α}(h:∀a∈l,key a≠x):bM key x l=l:=by
 unfold bM
 rw[List.filter_eq_self]
 intro a ha
 simp[h a ha]
theorem Ca(b:aF){e:aV}{x:ID}(he:e.tree=x):bM (fun e:aV=>e.tree) x (dY b e).1.entries=bM (fun e:aV=>e.tree) x b.entries:=by
 unfold dY
 split
 ·exact Pu (e:={e with up:=qN b e}) he b.entries
 ·rfl
theorem Mn(bL:Int)(x:ID)(p:bI):∀(l:List fV) (st:aF×List iR),∃ l',(l.foldl (bV bL x p) st).2=st.2++l'∧l'.length≤l.length∧(∀o∈l',o.to=bL∧o.kind=3∧o.tree=x) ∧
  (l.foldl (bV bL x p) st).1.aR=st.1.aR∧(l.foldl (bV bL x p) st).1.aL=st.1.aL∧(l.foldl (bV bL x p) st).1.bU=st.1.bU∧(l.foldl (bV bL x p) st).1.me=st.1.me ∧
  bM (fun e:aV=>e.tree) x (l.foldl (bV bL x p) st).1.entries=bM (fun e:aV=>e.tree) x st.1.entries
 | [],st=>⟨[],by simp,by simp,fun _ h=>(by cases h),rfl,rfl,rfl,rfl,rfl⟩
 | o::r,st=>by
  obtain⟨l',h1,h2,h3,h4,h5,h6,h7,h8⟩:=Mn bL x p r (bV bL x p st o)
  have hs:∃ m,(bV bL x p st o).2=st.2++m∧m.length≤1∧(∀o∈m,o.to=bL∧o.kind=3∧o.tree=x)∧(bV bL x p st o).1.aR=st.1.aR∧(bV bL x p st o).1.aL=st.1.aL∧(bV bL x p st o).1.bU=st.1.bU∧(bV bL x p st o).1.me=st.1.me ∧
    bM (fun e:aV=>e.tree) x (bV bL x p st o).1.entries=bM (fun e:aV=>e.tree) x st.1.entries:=by
   unfold bV
   split
   ·obtain⟨k1,k2,k3,k4,k5,_⟩:=uY st.1 ⟨x,o.id,o.pred,-1,false⟩
    by_cases hu:(dY st.1 ⟨x,o.id,o.pred,-1,false⟩).2=true
    ·exact⟨[⟨bL,3,x,o.id,o.pred⟩],by simp[hu],by simp,by simp,k2,k1,k4,k5,Ca _ rfl⟩
    ·exact⟨[],by simp[hu],by simp,fun _ h=>(by cases h),k2,k1,k4,k5,Ca _ rfl⟩
   ·exact⟨[],by simp,by simp,fun _ h=>(by cases h),rfl,rfl,rfl,rfl,rfl⟩
  obtain⟨m,g1,g2,g3,g4,g5,g6,g7,g8⟩:=hs
  refine⟨m++l',by rw[List.foldl_cons,h1,g1,List.append_assoc],by simp;omega,fun o ho=>?_,by rw[List.foldl_cons,h4,g4],by rw[List.foldl_cons,h5,g5],by rw[List.foldl_cons,h6,g6],by rw[List.foldl_cons,h7,g7],by rw[List.foldl_cons,h8,g8]⟩
  rcases List.mem_append.1 ho with ho|ho
  ·exact g3 o ho
  ·exact h3 o ho
theorem back{b:aF}(h:bT b){f:Int}{x:ID}{p:bI}(hf:fE b f=true)(hx:x ∉ b.seen)(hp:bZ p) :
  ∃ l',(bK b f x p).2=lL b.aL f 1 x.aS x.seq 0 0 p++l'∧l'.length≤b.bU.length∧(∀o∈l',o.to=f∧o.kind=3∧o.tree=x) ∧
   (bN (bK b f x p).1 f x).2=lL b.aL f 2 x.aS x.seq 0 0 []∧{(bN (bK b f x p).1 f x).1 with seen:=b.seen}=b:=by
 have hA:=qJ h ⟨x,p,f⟩ hx x
 have hL:bH b ⟨x,p,f⟩=({b with aR:=gX (fun a=>a.id) ⟨x,p,f⟩ b.aR,seen:=gX (fun x=>x) x b.seen},true):=by
  unfold bH;rw[if_neg hx]
 have Df:∀a∈b.aR,a.id≠x:=fun a ha e=>hx (by rw[←e];exact h.sub a ha)
 have uO:∀e∈b.entries,e.tree≠x:=by
  intro e he q
  obtain⟨a,ha,_⟩:=iJ.1 (h.ent e he)
  have:=IL ha
  exact Df a this.1 (by rw[this.2,q])
 obtain⟨l',h1,h2,h3,h4,h5,h6,h7,h8⟩:=Mn f x p b.bU ((bH b ⟨x,p,f⟩).1,lL b.aL f 1 x.aS x.seq 0 0 p)
 have hE:bK b f x p=b.bU.foldl (bV f x p) ((bH b ⟨x,p,f⟩).1,lL b.aL f 1 x.aS x.seq 0 0 p):=by
  unfold bK;rw[if_pos (by rw[hL])]
 have hc:fR (bK b f x p).1 x=some ⟨x,p,f⟩:=by
  rw[if_pos rfl]at hA
  rw[hE]
  unfold fR at hA ⊢
  rw[h4];exact hA
 refine⟨l',by rw[hE,h1],h2,h3,?_,?_⟩
 ·rw[Vg hc rfl,hE,h5,hL]
 ·rw[Vg hc rfl,hE]
  simp only
  rw[h4,h5,h6,h7,h8,hL]
  simp only
  rw[Mu (a:=⟨x,p,f⟩) rfl,Bz Df,Bz uO]
end Go.Dm.Tc
namespace Go.Dm.Tc
end Go.Dm.Tc
namespace Go.Dm.Tc
def Mr(os:List iR):Prop:=(∀o∈os,o.pred.length≤1000000)∧os.length≤1000000
theorem Vj(aL:List Int)(but k tc td ic id:Int){p:bI}(hp:bZ p)(hn:aL.length≤1000):(∀o∈lL aL but k tc td ic id p,o.pred.length≤1000000)∧(lL aL but k tc td ic id p).length≤1000:=by
 unfold lL
 refine⟨fun o ho=>?_,?_⟩
 ·obtain⟨n,_,rfl⟩:=List.mem_map.1 ho
  exact Nat.le_trans hp.len (by decide)
 ·rw[List.length_map]
  exact Nat.le_trans (List.length_filter_le ..) hn
theorem Pp(bL:Int)(x:ID)(p:bI):∀(l:List fV) (st:aF×List iR),(∀o∈st.2,o.pred.length≤1000000)→(∀o∈l,bZ o.pred)→∀o∈(l.foldl (bV bL x p) st).2,o.pred.length≤1000000
 | [],_,h,_=>h
 | o::r,st,h,hp=>by
  refine Pp bL x p r (bV bL x p st o) ?_ fun o ho=>hp o (List.mem_cons_of_mem _ ho)
  have ho:=Nat.le_trans (hp o (List.mem_cons_self ..)).len (show 5≤1000000 by decide)
  unfold bV
  split
  ·simp only
   split
   ·intro y hy
    rcases List.mem_append.1 hy with hy|hy
    ·exact h y hy
    ·rw[List.mem_singleton.1 hy];exact ho
   ·exact h
  ·exact h
theorem Uw{b:aF}{n:Nat}(h:bT b)(z:SzK b n)(hn:n≤300)(f:Int)(x:ID){p:bI}(hp:bZ p):Mr (bK b f x p).2:=by
 unfold bK
 split
 ·obtain⟨k1,k2⟩:=Vj b.aL f 1 x.aS x.seq 0 0 hp z.aL
  refine⟨Pp _ _ _ _ _ k1 h.po,?_⟩
  obtain⟨l',h1,h2,_⟩:=Mn f x p b.bU ((bH b ⟨x,p,f⟩).1,lL b.aL f 1 x.aS x.seq 0 0 p)
  rw[h1,List.length_append]
  have:=z.own
  simp only
  omega
 ·exact⟨fun o ho=>(by cases ho),by simp⟩
theorem Ij{b:aF}{n:Nat}(z:SzK b n)(f:Int)(x:ID):Mr (bN b f x).2:=by
 unfold bN
 split
 ·obtain⟨k1,k2⟩:=Vj b.aL f 2 x.aS x.seq 0 0 (p:=[]) .nil z.aL
  exact⟨k1,by simp only;omega⟩
 ·exact⟨fun o ho=>(by cases ho),by simp⟩
end Go.Dm.Tc
namespace Go.Dm.Tc
theorem s108(b:aF)(tc td sc sd q:Int)(p:bI)(hi:bT b)(hz:fT b)(hp:bZ p) :
  pcF D K7 [aH .none b,.agg [.int .i64 tc,.int .i64 td,.int .i64 sc,.int .i64 sd,bF p,.int .i64 q,.bool false]]=some (.tup [aH .none (gJ b q ⟨tc,td⟩ ⟨sc,sd⟩ p).1,eL false 8 fM (gJ b q ⟨tc,td⟩ ⟨sc,sd⟩ p).2]):=by
 have oN:=kAdd hi hz tc td sc sd hp q false
 have hF:=kAF .none hi hz tc td
 unfold pcF
 rw[aJ _ _ _ _ (by simp[K7])]
 cases hu:(dY b ⟨⟨tc,td⟩,⟨sc,sd⟩,p,q,false⟩).2 with
 | false =>
  rw[hu]at oN
  have hd:gJ b q ⟨tc,td⟩ ⟨sc,sd⟩ p=((dY b ⟨⟨tc,td⟩,⟨sc,sd⟩,p,q,false⟩).1,[]):=by simp[gJ,hu]
  rw[hd]
  obtain⟨⟨vc,vd⟩,vp,vq⟩:bC:=(fR b ⟨tc,td⟩).getD qB
  generalize (fR b ⟨tc,td⟩).getD qB=a at *
  obtain⟨⟨vc,vd⟩,vp,vq⟩:=a
  simp[K7,e89,hF,aG,UY,oN,turn,aI,hY]
 | true =>
  rw[hu]at oN
  obtain⟨⟨⟨ac,ad⟩,ap,aq⟩,ha⟩:=BY hu
  rw[ha]at hF
  have xL:dO b ⟨tc,td⟩=aq:=by rw[eN,ha];rfl
  have hd:gJ b q ⟨tc,td⟩ ⟨sc,sd⟩ p=((dY b ⟨⟨tc,td⟩,⟨sc,sd⟩,p,q,false⟩).1,[⟨aq,3,⟨tc,td⟩,⟨sc,sd⟩,p⟩]):=by simp[gJ,hu,xL]
  rw[hd]
  have ri:∀h,resolve false h 197 (.isl false 0 [])=some (.isl false 0 []):=fun _=>rfl
  simp[K7,ri,e89,hF,aG,UY,oN,turn,y7,ZJ,aI]
  have Ea:bJ 199 (eL false 8 fM [⟨aq,3,⟨tc,td⟩,⟨sc,sd⟩,p⟩])=true:=eV (fun y _=>(fO y).2) 199 (by decide)
  exact⟨Ea,rfl⟩
end Go.Dm.Tc
namespace Go.Dm.Tc
theorem l109(S:List Fr)(t:Bool)(gN:List aV)(hl:gN.length≤100000)(ac ad to:Int)(ap:bI)(h0:aA)(aM:h0.lim≤5)(g4:h0.get 4=some (.arr 93 4 [.agg [.int .i64 ac,.int .i64 ad,bF ap,.int .i64 to]] (some 1)))(P:Res→Prop) :
  ∀(rest:List aV) (i:Nat) (outs:List iR) (es:List DV) (v:DV) (f:cY) (h:aA),gN.drop i=rest→jZ es outs→(es.length≤i∧i≤gN.length)→f 10=.ptr 4 4 0 0→f 14=v→f 35=eL t 7 aD gN→f 36=.int .i64 gN.length→f 37=.int .i64 i→OwnR 5 h v 100 8 es→Ext 5 h0 h →
  (∀f' h' v' qR,f' 14=v'→(∀r,r<12→f' r=f r)→qR.length≤gN.length→jZ qR (outs++jX to rest)→OwnR 5 h' v' 100 8 qR→Ext 5 h0 h'→P (run D 60 S Iz f' h')) →
  P (run D 60 (.block 0::.seq Iz::S) (.loop Ro) f h):=by
 intro rest
 induction rest with
 | nil =>
  intro i outs es v f h hd hr he iA Gh h35 IX E4 ho x hP
  have hi:=bR hd
  have:¬(i<gN.length):=by omega
  have k:∀r q:Nat,r<12→12≤q→¬r=q:=fun r q h1 h2=>by omega
  rw[aC Ro.eq_1]
  simp[IX,E4,this]
  refine hP _ h v es (by simp[Gh]) (fun r IQ=>by simp[k r _ IQ]) (by omega) (by simpa[jX]using hr) ho x
 | cons e rest ih =>
  intro i outs es v f h hd hr he iA Gh h35 IX E4 ho x hP
  obtain⟨hi,qQ,fI⟩:=cB hd
  obtain⟨⟨tc,td⟩,⟨sc,sd⟩,p,q,u⟩:=e
  have hnl:=x.le
  have Ec:=x.lim
  have a4:=(x.get 4 (by decide)).trans g4
  have k:∀r q:Nat,r<12→12≤q→¬r=q:=fun r q h1 h2=>by omega
  obtain⟨m,eE⟩:∃ m,h.n=m+5:=⟨h.n-5,by omega⟩
  rw[aC Ro.eq_1]
  have Nu:h.lim≤m+5:=by omega
  simp[iA,Gh,h35,IX,E4,hi,qQ,a4,aD,eE,x.wf,turn,Nu,y7,ZJ]
  generalize hA:aY _ _ _ _ _ _=A
  obtain⟨v',K,rfl,p',x',_⟩:=OwnR.append (ho.push.push) (by simp[x.wf]) (by simp[eE]<;>omega) (by simp[eE];omega) hA (by simp;omega) (by decide)
  clear hA
  simp[E4]
  rw[aX (by omega) (by omega)]
  generalize hF:upd _ 37 _=F
  have Aw:=jZ.append hr (jZ.one (to:=to) (k:=3) (tc:=tc) (td:=td) (ic:=sc) (id:=sd) (pd:=bF p) (ad:=.isl false 0 []) (.inl rfl) (.inr rfl))
  refine ih (i+1) _ _ v' F K fI Aw ⟨by simp;omega,by omega⟩ ?_ ?_ ?_ ?_ ?_ (by simpa[tY]using p') ((x.push.push).trans x') ?_
  all_goals first
   | (rw[←hF];simp[iA,Gh,h35,IX];done)
   | skip
  intro f' h' v2 qR a1 a3 a4 a5 a6 a7
  refine hP f' h' v2 qR a1 (fun r IQ=>?_) a4 (by simpa[jX]using a5) a6 a7
  rw[a3 r IQ,←hF]
  simp[k r _ IQ]
theorem s109(b:aF)(tc td sc sd q:Int)(hi:bT b)(hz:fT b) :
  pcF D K6 [aH .none b,.agg [.int .i64 tc,.int .i64 td],.agg [.int .i64 sc,.int .i64 sd],.int .i64 q]=some (.tup [aH .none (eT b ⟨tc,td⟩ ⟨sc,sd⟩ q).1,eL false 8 fM (eT b ⟨tc,td⟩ ⟨sc,sd⟩ q).2]):=by
 have ht:=AfH hi hz tc td sc sd q
 have hFd:=kAF .none hi hz tc td
 unfold pcF
 rw[aJ _ _ _ _ (by simp[K6])]
 cases hu:(cF b ⟨tc,td⟩ ⟨sc,sd⟩ q).2.2 with
 | false =>
  rw[hu]at ht
  have hd:eT b ⟨tc,td⟩ ⟨sc,sd⟩ q=((cF b ⟨tc,td⟩ ⟨sc,sd⟩ q).1,[]):=by simp[eT,hu]
  rw[hd]
  generalize (fR b ⟨tc,td⟩).getD qB=a at *
  obtain⟨⟨vc,vd⟩,vp,vq⟩:=a
  simp[K6,e89,hFd,aG,e161,ht,turn,aI,hY]
 | true =>
  rw[hu]at ht
  obtain⟨Df,⟨⟨ac,ad⟩,ap,aq⟩,ha⟩:=Vt hi hu
  rw[ha]at hFd
  have xL:dO b ⟨tc,td⟩=aq:=by rw[eN,ha];rfl
  have hd:eT b ⟨tc,td⟩ ⟨sc,sd⟩ q=((cF b ⟨tc,td⟩ ⟨sc,sd⟩ q).1,jX aq (cF b ⟨tc,td⟩ ⟨sc,sd⟩ q).2.1++[⟨aq,4,⟨tc,td⟩,⟨sc,sd⟩,[]⟩]):=by simp[eT,hu,xL]
  rw[hd]
  simp[K6,e89,hFd,aG,e161,ht,turn]
  generalize hF:upd _ 37 _=F
  generalize hH:aA.push _ _=H0
  have hul:(cF b ⟨tc,td⟩ ⟨sc,sd⟩ q).2.1.length≤100000:=Nat.le_trans (Il hi ..) hz.ent
  generalize (cF b ⟨tc,td⟩ ⟨sc,sd⟩ q).2.1=gN at *
  generalize Bx:(cF b ⟨tc,td⟩ ⟨sc,sd⟩ q).1=b1 at *
  have l8:H0.n=5:=by rw[←hH];simp
  have tB:H0.lim=0:=by rw[←hH];simp
  have hw0:WF H0:=by rw[←hH];simp
  refine l109 [] false gN hul ac ad aq ap H0 (by omega) (by rw[←hH];simp) (fun r=>dC (fin [.cell 8 (some 6),.t 9] r)=some (.tup [aH .none b1,eL false 8 fM (jX aq gN++[⟨aq,4,⟨tc,td⟩,⟨sc,sd⟩,[]⟩])])) gN 0 [] [] .nsl F H0 rfl jZ.nil ⟨by simp,Nat.zero_le _⟩ (by rw[←hF];simp) (by rw[←hF];simp) (by rw[←hF];simp) (by rw[←hF];simp) (by rw[←hF];simp) (.nil rfl rfl) (.refl (by omega) hw0) fun f' h' v' qR q14 qr lC hrw TW x=>?_
  have q4:f' 4=.ptr 0 6 0 0:=by rw[qr 4 (by decide),←hF];simp
  have q5:f' 5=.ptr 1 2 0 0:=by rw[qr 5 (by decide),←hF];simp
  have q6:f' 6=.ptr 2 2 0 0:=by rw[qr 6 (by decide),←hF];simp
  have q8:f' 8=.ptr 3 6 0 0:=by rw[qr 8 (by decide),←hF];simp
  have q10:f' 10=.ptr 4 4 0 0:=by rw[qr 10 (by decide),←hF];simp
  have a0:h'.get 0=some (.arr 36 6 [aH .none b1] (some 1)):=(x.get 0 (by decide)).trans (by rw[←hH];simp)
  have a1:h'.get 1=some (.arr 40 2 [.agg [.int .i64 tc,.int .i64 td]] (some 1)):=(x.get 1 (by decide)).trans (by rw[←hH];simp)
  have a2:h'.get 2=some (.arr 40 2 [.agg [.int .i64 sc,.int .i64 sd]] (some 1)):=(x.get 2 (by decide)).trans (by rw[←hH];simp)
  have a3:h'.get 3=some (.arr 36 6 [.agg [.int .i64 0,.nsl,.nsl,.nsl,.nsl,.nsl]] (some 1)):=(x.get 3 (by decide)).trans (by rw[←hH];simp)
  have a4:h'.get 4=some (.arr 93 4 [.agg [.int .i64 ac,.int .i64 ad,bF ap,.int .i64 aq]] (some 1)):=(x.get 4 (by decide)).trans (by rw[←hH];simp)
  have al:h'.lim=0:=x.lim.trans tB
  obtain⟨m,eE⟩:∃ m,h'.n=m+5:=⟨h'.n-5,by have:=x.le;omega⟩
  have gZ:=jZ.append hrw (jZ.one (to:=aq) (k:=4) (tc:=tc) (td:=td) (ic:=sc) (id:=sd) (pd:=.nsl) (ad:=.nsl) (p:=[]) (.inr ⟨rfl,rfl⟩) (.inl rfl))
  simp only[List.nil_append]at gZ
  have Ea:bJ 199 (eL false 8 fM (jX aq gN++[⟨aq,4,⟨tc,td⟩,⟨sc,sd⟩,[]⟩]))=true:=eV (fun y _=>(fO y).2) 199 (by decide)
  cases TW with
  | nil hv hx =>
   subst hv
   subst hx
   simp[Iz,q4,q5,q6,q8,q10,q14,a0,a1,a2,a3,a4,al,eE,x.wf]
   generalize hA:aY _ _ _ _ _ _=A
   obtain⟨v2,K,rfl,p',x',_⟩:=OwnR.append (lo:=5) (OwnR.start 5 _ 100 8) (by simp[x.wf]) (by simp[eE]<;>omega) (by simp[eE,al]) hA (by simp<;>omega) (by decide)
   clear hA
   have b0:=x'.get 0 (by decide)
   have b1':=x'.get 1 (by decide)
   have b2:=x'.get 2 (by decide)
   have b3:=x'.get 3 (by decide)
   have b4:=x'.get 4 (by decide)
   have bl:=x'.lim
   have bn:=x'.le
   have l3:3<K.n:=by omega
   simp[eE,a0,a1,a2,a3,a4,al]at b0 b1' b2 b3 b4 bl p'
   have r1:∀o,resolve false (Dm.wl (K.set 3 o) 0) 199 v2=some (eL false 8 fM (jX aq gN++[⟨aq,4,⟨tc,td⟩,⟨sc,sd⟩,[]⟩])):=fun o=>pX ((by simpa[tY]using(p'.aW (o:=o) x'.wf (by decide) l3).wl (Nat.zero_le _)):OwnR 5 (Dm.wl (K.set 3 o) 0) v2 100 8 _) gZ false (by decide)
   simp[q8,b0,b1',b2,b3,b4,bl,al,l3,x'.wf,turn,aI,r1,Ea]
  | arr id sp cap hv hg Nu dV =>
   subst hv
   have Ky:=bB hg
   have e0:¬0=id:=by omega
   have e1:¬1=id:=by omega
   have e2:¬2=id:=by omega
   have e4:¬4=id:=by omega
   simp[Iz,q4,q5,q6,q8,q10,q14,a0,a1,a2,a3,a4,al,eE,x.wf,e0,e1,e2,e4]
   generalize hA:aY _ _ _ _ _ _=A
   obtain⟨v2,K,rfl,p',x',_⟩:=OwnR.append (lo:=5) (OwnR.push (.arr id sp cap rfl hg Nu dV)) (by simp[x.wf]) (by simp[eE]<;>omega) (by simp[eE,al]) hA (by simp<;>omega) (by decide)
   clear hA
   have b0:=x'.get 0 (by decide)
   have b1':=x'.get 1 (by decide)
   have b2:=x'.get 2 (by decide)
   have b3:=x'.get 3 (by decide)
   have b4:=x'.get 4 (by decide)
   have bl:=x'.lim
   have bn:=x'.le
   have l3:3<K.n:=by omega
   simp[eE,a0,a1,a2,a3,a4,al]at b0 b1' b2 b3 b4 bl p'
   have r1:∀o,resolve false (K.set 3 o) 199 v2=some (eL false 8 fM (jX aq gN++[⟨aq,4,⟨tc,td⟩,⟨sc,sd⟩,[]⟩])):=fun o=>pX ((by simpa[tY]using p'.aW (o:=o) x'.wf (by decide) l3):OwnR 5 (K.set 3 o) v2 100 8 _) gZ false (by decide)
   simp[q8,b0,b1',b2,b3,b4,bl,al,l3,x'.wf,turn,aI,r1,Ea]
theorem s36(b:aF)(k tc td sc sd q:Int)(p:bI)(hi:bT b)(hz:fT b) :
  pcF D t36 [aH .none b,.int .i64 q,.agg [.int .i64 k,.int .i64 tc,.int .i64 td,.int .i64 sc,.int .i64 sd,bF p,.isl false 0 []]]=some (.tup [aH .none (eT b ⟨tc,td⟩ ⟨sc,sd⟩ q).1,eL false 8 fM (eT b ⟨tc,td⟩ ⟨sc,sd⟩ q).2]):=by
 have hd:=s109 b tc td sc sd q hi hz
 have Ea:∀os:List iR,bJ 199 (eL false 8 fM os)=true:=fun os=>eV (fun y _=>(fO y).2) 199 (by decide)
 unfold pcF
 rw[aJ _ _ _ _ (by simp[t36])]
 simp[t36,e109,hd,turn,aI,Ea]
theorem s35(b:aF)(k tc td sc sd q:Int)(p:bI)(hi:bT b)(hz:fT b)(hp:bZ p) :
  pcF D t35 [aH .none b,.int .i64 q,.agg [.int .i64 k,.int .i64 tc,.int .i64 td,.int .i64 sc,.int .i64 sd,bF p,.isl false 0 []]]=some (.tup [aH .none (gJ b q ⟨tc,td⟩ ⟨sc,sd⟩ p).1,eL false 8 fM (gJ b q ⟨tc,td⟩ ⟨sc,sd⟩ p).2]):=by
 have hd:=s108 b tc td sc sd q p hi hz hp
 have Ea:∀os:List iR,bJ 199 (eL false 8 fM os)=true:=fun os=>eV (fun y _=>(fO y).2) 199 (by decide)
 unfold pcF
 rw[aJ _ _ _ _ (by simp[t35])]
 simp[t35,e108,hd,turn,aI,Ea]
end Go.Dm.Tc
namespace Go.Dm.Tc
def Fg:List Att→List UInt8→Option Val
 | [],_=>none
 | a::r,n=>if a.name=n then some a.val else Fg r n
def QT:Val:=⟨false,0,[]⟩
theorem l199(t:Bool)(l:List Att)(n:List UInt8)(hl:l.length≤1000000)(h0:aA)(g0:h0.get 0=some (.arr 106 3 [.agg [.bool false,.int .i64 0,.str []]] (some 1)))(aM:h0.lim=0) :
  ∀(rest:List Att) (i:Nat) (f:cY) (h:aA),l.drop i=rest→f 1=.str n→f 4=.ptr 0 3 0 0→f 8=eL t 4 gK l→f 9=.int .i64 l.length→f 10=.int .i64 i→Ext 1 h0 h →
  dC (fin [.cell 4 (some 3),.t 5] (run D 22 [.block 0,.seq G8] (.loop Qe) f h))=some (.tup [uU ((Fg rest n).getD QT),.bool (Fg rest n).isSome]):=by
 intro rest
 induction rest with
 | nil =>
  intro i f h hd h1 h4 h8 h9 iA hx
  have hi:=bR hd
  have:¬(i<l.length):=by omega
  have g:=(hx.get 0 (by decide)).trans g0
  have hlH:h.lim=0:=hx.lim.trans aM
  have wf:=hx.wf
  have hn:0<h.n:=hx.le
  rw[aC Qe.eq_1]
  simp[G8,h4,h9,iA,this,g,hlH,wf,hn,turn,aI,Fg,QT,uU]
 | cons a rest ih =>
  intro i f h hd h1 h4 h8 h9 iA hx
  obtain⟨hi,he,fI⟩:=cB hd
  have g:=(hx.get 0 (by decide)).trans g0
  have hlH:h.lim=0:=hx.lim.trans aM
  have wf:=hx.wf
  have hn:0<h.n:=hx.le
  have n0:¬0=h.n:=by omega
  have hw:IntKind.i64.wrap ((i:Int)+1)=(i:Int)+1:=aX (by omega) (by omega)
  obtain⟨nm,b,k,s⟩:=a
  rw[aC Qe.eq_1]
  by_cases hc:nm=n
  ·have hg:Fg (⟨nm,b,k,s⟩::rest) n=some ⟨b,k,s⟩:=by simp[Fg,hc]
   rw[hg]
   simp[h1,h4,h8,h9,iA,hi,he,gK,hc,hlH,g,n0,wf,hn,turn,aI,uU]
  ·have hg:Fg (⟨nm,b,k,s⟩::rest) n=Fg rest n:=by simp[Fg,hc]
   rw[hg]
   simp[h1,h4,h8,h9,iA,hi,he,gK,hc,hlH,g,n0,wf,hn,hw]
   generalize hF:upd _ 10 _=F
   exact ih (i+1) F _ fI (by rw[←hF];simp[h1]) (by rw[←hF];simp[h4]) (by rw[←hF];simp[h8]) (by rw[←hF];simp[h9]) (by rw[←hF];simp) hx.push
theorem s199(t:Bool)(l:List Att)(n:List UInt8)(hl:l.length≤1000000):pcF D CT [eL t 4 gK l,.str n]=some (.tup [uU ((Fg l n).getD QT),.bool (Fg l n).isSome]):=by
 unfold pcF
 rw[aJ _ _ _ _ (by simp[CT])]
 simp[CT,-iB]
 generalize hF:upd _ 10 _=F
 exact l199 t l n hl _ (by simp) (by simp) l 0 F _ rfl (by rw[←hF];simp) (by rw[←hF];simp) (by rw[←hF];simp) (by rw[←hF];simp) (by rw[←hF];simp) (.refl (by simp) (by simp))
def Ax(c:fB)(v:Val):Bool :=
 if c.kind=1 then !v.isText && decide (c.lo≤v.n) && decide (v.n≤c.hi)else if c.kind=2 then v.isText && (v.text == c.text)else if c.kind=3 then v.isText && iQ v.text c.text else false
theorem v200(c:fB)(v:Val):pcF D Ae [.agg [.str c.name,.int .i64 c.kind,.int .i64 c.lo,.int .i64 c.hi,.str c.text],.agg [.bool v.isText,.int .i64 v.n,.str v.text]]=some (.bool (Ax c v)):=by
 obtain⟨nm,k,lo,hi,tx⟩:=c
 obtain⟨b,n,s⟩:=v
 unfold pcF
 rw[aJ _ _ _ _ (by simp[Ae])]
 by_cases k1:k=1
 ·subst k1
  cases b<;>by_cases a1:lo≤n<;>by_cases a2:n≤hi<;>simp[Ae,Ax,a1,a2]
 ·by_cases k2:k=2
  ·subst k2
   cases b<;>simp[Ae,Ax]
  ·by_cases k3:k=3
   ·subst k3
    cases b<;>simp[Ae,Ax,w8,ZG]
   ·simp[Ae,Ax,k1,k2,k3]
def nJ(p:bI)(l:List Att):Bool:=p.all fun c=>match Fg l c.name with|some v=>Ax c v|none=>false
theorem l162(t u:Bool)(p:bI)(l:List Att)(hp:p.length≤1000000)(hl:l.length≤1000000) :
  ∀(rest:List fB) (i:Nat) (f:cY) (h:aA),p.drop i=rest→h.lim=0→WF h→f 1=eL u 4 gK l→f 9=eL t 5 aO p→f 10=.int .i64 p.length→f 11=.int .i64 i →
  dC (fin [.t 4] (run D 31 [.block 0,.seq I6] (.loop Qq) f h))=some (.bool (nJ rest l)):=by
 intro rest
 induction rest with
 | nil =>
  intro i f h hd aM wf h1 h9 iA lI
  have hi:=bR hd
  have:¬(i<p.length):=by omega
  rw[aC Qq.eq_1]
  simp[I6,iA,lI,this,nJ]
 | cons c rest ih =>
  intro i f h hd aM wf h1 h9 iA lI
  obtain⟨hi,he,fI⟩:=cB hd
  have hw:IntKind.i64.wrap ((i:Int)+1)=(i:Int)+1:=aX (by omega) (by omega)
  have hG:=s199 u l c.name hl
  have hf:∀h,resolve true h 200 (eL u 4 gK l)=some (eL u 4 gK l):=fun h=>eM _ _ _ _ true h 200 (by decide)
  rw[aC Qq.eq_1]
  cases hg:Fg l c.name with
  | none =>
   rw[hg]at hG
   have hm:nJ (c::rest) l=false:=by simp[nJ,hg]
   rw[hm]
   simp[h1,h9,iA,lI,hi,he,aO,aM,wf,w9,hG,uU,QT,turn]
  | some v =>
   rw[hg]at hG
   obtain⟨b,n,s⟩:=v
   have hH:=v200 c ⟨b,n,s⟩
   cases hv:Ax c ⟨b,n,s⟩with
   | false =>
    rw[hv]at hH
    have hm:nJ (c::rest) l=false:=by simp[nJ,hg,hv]
    rw[hm]
    simp[h1,h9,iA,lI,hi,he,aO,aM,wf,w9,hG,uU,turn,A7,hH]
   | true =>
    rw[hv]at hH
    have hm:nJ (c::rest) l=nJ rest l:=by simp[nJ,hg,hv]
    rw[hm]
    simp[h1,h9,iA,lI,hi,he,aO,aM,wf,w9,hG,uU,turn,A7,hH,hw]
    generalize hF:upd _ 11 _=F
    exact ih (i+1) F _ fI (by simp[aM]) (by simp[wf]) (by rw[←hF];simp[h1]) (by rw[←hF];simp[h9]) (by rw[←hF];simp[iA]) (by rw[←hF];simp)
theorem s162(t u:Bool)(p:bI)(l:List Att)(hp:p.length≤1000000)(hl:l.length≤1000000):pcF D Qr [eL t 5 aO p,eL u 4 gK l]=some (.bool (nJ p l)):=by
 unfold pcF
 rw[aJ _ _ _ _ (by simp[Qr])]
 simp[Qr,-iB]
 generalize hF:upd _ 11 _=F
 exact l162 t u p l hp hl p 0 F _ rfl (by simp) (by simp) (by rw[←hF];simp) (by rw[←hF];simp) (by rw[←hF];simp) (by rw[←hF];simp)
end Go.Dm.Tc
namespace Go.Dm.Tc
def Ou(n:Int):Val:=if IG n=0 then⟨false,aT (IntKind.i64.wrap (n.tdiv 2)) 0 9,[]⟩else⟨true,0,qO.getD (aT (IntKind.i64.wrap (n.tdiv 2)) 0 6).toNat []⟩
theorem s101(n:Int):pcF D L3 [.int .i64 n]=some (uU (Ou n)):=by
 unfold pcF
 rw[aJ _ _ _ _ (by simp[L3])]
 have w1:=s8 (IntKind.i64.wrap (n.tdiv 2)) 0 9 (by decide) (by decide) (by decide)
 have w2:=s8 (IntKind.i64.wrap (n.tdiv 2)) 0 6 (by decide) (by decide) (by decide)
 have hq:cO .quo (.int .i64 n) (.int .i64 2)=some (.int .i64 (IntKind.i64.wrap (n.tdiv 2))):=rfl
 by_cases h0:IG n=0
 ·simp[L3,tJ,h0,hq,e8,w1,turn,Ou,uU]
 ·have b1:=cZ (IntKind.i64.wrap (n.tdiv 2)) (show(0:Int)≤6 by decide)
  have bD:(aT (IntKind.i64.wrap (n.tdiv 2)) 0 6).toNat<qO.length:=by simp[qO];omega
  obtain⟨tx,hx⟩:∃ tx,qO[(aT (IntKind.i64.wrap (n.tdiv 2)) 0 6).toNat]?=some tx:=⟨_,List.getElem?_eq_getElem bD⟩
  simp[L3,tJ,h0,hq,e8,w2,turn,x8,ZI,b1.1,hx,Bk,Ou,uU]
def kM(has vals:List Int):List (List UInt8)→Nat→List Att→List Att
 | [],_,eU=>eU
 | nm::r,i,eU=>if i<has.length∧FO (has.getD i 0)=true∧eU.length<5 then kM has vals r (i+1) (eU++[⟨nm,Ou (zS vals i)⟩])else kM has vals r (i+1) eU
def NF(has vals:List Int):List Att:=kM has vals lQ 0 []
theorem Aq(has vals:List Int):∀(r:List (List UInt8)) (i:Nat) (eU:List Att),eU.length≤5→(kM has vals r i eU).length≤5
 | [],_,_,h=>h
 | nm::r,i,eU,h=>by
  rw[kM]
  split
  ·rename_i hc
   exact Aq has vals r _ _ (by simp;omega)
  ·exact Aq has vals r _ _ h
theorem FW(has vals:List Int):(NF has vals).length≤5:=Aq has vals _ _ _ (by simp)
theorem Ew(x:Att):jU 20 (gK x)∧Unl 22 (gK x):=⟨jM (by
  intro y hy
  simp only[List.mem_cons,List.not_mem_nil,or_false]at hy
  rcases hy with rfl|rfl|rfl|rfl
  all_goals first|exact fA _ _|exact pP _|exact Dk _),lA (by
  intro y hy
  simp only[List.mem_cons,List.not_mem_nil,or_false]at hy
  rcases hy with rfl|rfl|rfl|rfl
  all_goals first|exact(lF _ _).mono (by decide)|exact(wV _).mono (by decide)|exact(vG _).mono (by decide))⟩
theorem SW{lo:Nat}{h:aA}{v:DV}{ety:Nat}{ys:List Att}(w:Own lo h v ety 4 (ys.map gK)):dC (some (v,h))=some (eL false 4 gK ys):=w.out (fun y _=>(Ew y).1.mono (by decide)) (fun y _=>(Ew y).2.mono (by decide)) (k:=22) (by decide)
theorem l32(th tv:Bool)(has vals:List Int)(tp:Nat)(h0:aA)(g0:h0.get 0=some (.arr tp 2 [.agg [eL th 1 bQ has,eL tv 1 bQ vals]] (some 1)))(aM:h0.lim=0) :
  ∀(rest:List (List UInt8)) (eU:List Att) (i:Nat) (f:cY) (h:aA),lQ.drop i=rest→eU.length≤i→f 1=.ptr 0 2 0 0→f 6=eL false 1 Bk lQ→f 7=.int .i64 7→f 8=.int .i64 i→Own 1 h (f 3) 108 4 (eU.map gK)→Ext 1 h0 h →
  dC (fin [.t 2] (run D 44 [.block 0,.seq KH] (.loop Z6) f h))=some (eL false 4 gK (kM has vals rest i eU)):=by
 intro rest
 induction rest with
 | nil =>
  intro eU i f h hd ha h1 h6 h7 h8 ho hx
  have hi:=bR hd
  have:¬((i:Int)<7):=by simp[lQ]at hi;omega
  rw[aC Z6.eq_1]
  simp[KH,h7,h8,this,kM]
  exact SW ho
 | cons nm rest ih =>
  intro eU i f h hd ha h1 h6 h7 h8 ho hx
  obtain⟨hi,he,fI⟩:=cB hd
  have hi7:i<7:=by simpa[lQ]using hi
  have bD:(i:Int)<7:=by omega
  have Nv:=(hx.get 0 (by decide)).trans g0
  have w1:IntKind.i64.wrap ((i:Int)+1)=(i:Int)+1:=aX (by omega) (by omega)
  have hpk:=s93 tv vals i
  have cJ:lenV h 1 (f 3)=some (.int .i64 (eU.length:Int)):=by simpa using ho.lenV
  rw[aC Z6.eq_1]
  by_cases c1:i<has.length
  ·obtain⟨b,hb⟩:∃ b,has[i]=b:=⟨_,rfl⟩
   have Lb:has.getD i 0=b:=by rw[List.getD_eq_getElem?_getD,List.getElem?_eq_getElem c1,hb];rfl
   by_cases c2:IG b=1
   ·by_cases c3:eU.length<5
    ·have c3':(eU.length:Int)<5:=by omega
     have hm:kM has vals (nm::rest) i eU=kM has vals rest (i+1) (eU++[⟨nm,Ou (zS vals i)⟩]):=by simp only[kM];rw[if_pos ⟨c1,by rw[Lb];simp[FO,c2],c3⟩]
     rw[hm]
     simp[h1,h6,h7,h8,bD,Nv,hi,he,Bk,bQ,c1,hb,tJ,c2,cJ,c3',e93,hpk,e101,s101,uU]
     generalize hA:aY _ _ _ _ _ _=A
     obtain⟨v',h',rfl,Ks,uJ⟩:=ho.push.append hx.push.wf hx.push.le (by rw[hx.push.lim,aM];omega) hA (by simp;omega) (by decide)
     simp[w1,h8]
     refine ih (eU++[⟨nm,Ou (zS vals i)⟩]) (i+1) _ h' fI (by simp;omega) ?_ ?_ ?_ ?_ ?_ (hx.push.trans uJ)<;>simp[h1,h6,h7]
     simpa[gK]using Ks
    ·have c3':¬(eU.length:Int)<5:=by omega
     have hm:kM has vals (nm::rest) i eU=kM has vals rest (i+1) eU:=by simp only[kM];rw[if_neg (fun q=>c3 q.2.2)]
     rw[hm]
     simp[h1,h6,h7,h8,bD,Nv,hi,he,Bk,bQ,c1,hb,tJ,c2,cJ,c3',w1]
     refine ih eU (i+1) _ h fI (by omega) ?_ ?_ ?_ ?_ ?_ hx<;>simp[h1,h6,h7,ho]
   ·have hm:kM has vals (nm::rest) i eU=kM has vals rest (i+1) eU:=by simp only[kM];rw[if_neg (fun q=>c2 (by rw[Lb]at q;simpa[FO]using q.2.1))]
    rw[hm]
    simp[h1,h6,h7,h8,bD,Nv,hi,he,Bk,bQ,c1,hb,tJ,c2,w1]
    refine ih eU (i+1) _ h fI (by omega) ?_ ?_ ?_ ?_ ?_ hx<;>simp[h1,h6,h7,ho]
  ·have c1':¬((i:Int)<has.length):=by omega
   have hm:kM has vals (nm::rest) i eU=kM has vals rest (i+1) eU:=by simp only[kM];rw[if_neg (fun q=>c1 q.1)]
   rw[hm]
   simp[h1,h6,h7,h8,bD,Nv,hi,he,Bk,c1,w1]
   refine ih eU (i+1) _ h fI (by omega) ?_ ?_ ?_ ?_ ?_ hx<;>simp[h1,h6,h7,ho]
theorem s32(th tv:Bool)(has vals:List Int) :
  pcF D t32 [.agg [eL th 1 bQ has,eL tv 1 bQ vals]]=some (eL false 4 gK (NF has vals)):=by
 unfold pcF
 rw[aJ _ _ _ _ (by simp[t32])]
 simp[t32,e91,s91]
 refine l32 th tv has vals 28 _ ?_ ?_ lQ [] 0 _ _ rfl (by simp) ?_ ?_ ?_ ?_ ?_ (Ext.refl ?_ ?_)<;>simp[lQ]
 exact .start _ _ _ _
end Go.Dm.Tc
namespace Go.Dm.Tc
structure Bt where
 kind:Int
 aS:Int
 seq:Int
 own:Int
 num:Int
 has:List Int
 vals:List Int
 thas:List Int
 tvals:List Int
def qH(k:Bt):DV:=.agg [.int .i64 k.kind,.int .i64 k.aS,.int .i64 k.seq,.int .i64 k.own,.int .i64 k.num,eL false 1 bQ k.has,eL false 1 bQ k.vals,eL false 1 bQ k.thas,eL false 1 bQ k.tvals]
def Bt.knd(k:Bt):Int:=aT k.kind 1 5
def uG(k:Bt):Msg:=⟨k.knd,⟨aT k.aS 0 4,aT k.seq 0 4⟩,if 3≤k.knd then⟨aT k.own 0 4,aT k.num 0 4⟩else⟨0,0⟩,if k.knd=1∨k.knd=3 then eH k.has k.vals else[],if k.knd=5 then NF k.thas k.tvals else[]⟩
theorem RE(n:Nat)(xs:List Att):bJ (n+23) (eL false 4 gK xs)=true:=eV (fun x _=>(Ew x).2) _ (by omega)
theorem s9(k:Bt)(hl:k.has.length≤9223372036854775807):pcF D t9 [qH k]=some (sQ (uG k)):=by
 obtain⟨kd,cl,sq,ow,nm,has,vals,thas,tvals⟩:=k
 have w1:=s8 kd 1 5 (by decide) (by decide) (by decide)
 have w2:=fun m=>s8 m 0 4 (by decide) (by decide) (by decide)
 have hP:=s28 false false has vals hl
 have hT:=s32 false false thas tvals
 have b:=cZ kd (show(1:Int)≤5 by decide)
 obtain⟨K,hK⟩:∃ K,aT kd 1 5=K:=⟨_,rfl⟩
 rw[hK]at w1 b
 have hf:∀(xs:List Int) h,resolve true h 199 (eL false 1 bQ xs)=some (eL false 1 bQ xs):=fun xs h=>eM _ _ _ _ true h 199 (by decide)
 unfold pcF
 rw[aJ _ _ _ _ (by simp[t9])]
 have hc:K=1∨K=2∨K=3∨K=4∨K=5:=by omega
 rcases hc with rfl|rfl|rfl|rfl|rfl
 all_goals
  simp[t9,qH,e8,w1,w2,e28,hP,e32,hT,hf,turn,aI,RE]
  simp[uG,Bt.knd,hK,sQ,bF,hY]
end Go.Dm.Tc
namespace Go.Dm.Tc
theorem q163(id:Nat)(sp:List DV)(cap:Option Nat)(h:aA)(L:List Int)(g:h.get id=some (.arr 3 1 (L.map bQ++sp) cap))(hl:h.lim≤id)(hn:L.length≤12)(wf:WF h) :
  ∃ N sp' rK,fc D 163 [.sl id 1 0 L.length] h=some (.sl id 1 0 N.length,rK)∧rK.get id=some (.arr 3 1 (N.map bQ++sp') cap)∧rK.lim=h.lim∧jR N∧(∀x,x∈N↔x∈L)∧N.length≤12:=by
 obtain⟨K2,h2,R2⟩:=q113 id sp cap h L g hl hn wf
 have E1:=(As L).length_eq
 obtain⟨N,sp',K3,h3,R3,sN,mN,lN⟩:=q114 id (Ct L) sp cap K2 (by rw[R2.lim];exact hl) (by omega) (To _) R2.get R2.wf
 rw[E1]at h3
 refine⟨N,sp',K3,?_,R3.get,by rw[R3.lim,R2.lim],sN,fun y=>by rw[mN,(As _).mem_iff],by omega⟩
 rw[e163,aJ _ _ _ _ (by simp[I5])]
 simp[I5,h2,h3,turn]
theorem n201(h:aA):fc D 201 [.nsl,.int .i64 0,.int .i64 0] h=some (.tup [],h):=by
 rw[e201,aJ _ _ _ _ (by simp[G7])]
 simp[G7]
 generalize hF:upd _ 6 _=F
 have h2:F 2=.int .i64 0:=by rw[←hF];simp
 have h6:F 6=.int .i64 1:=by rw[←hF];simp
 rw[aC Ei.eq_1]
 simp[h2,h6]
 rfl
theorem n164(h:aA)(x:Int):fc D 164 [.nsl,.int .i64 0,.int .i64 0,.int .i64 x] h=some (.tup [],h):=by
 have hw:IntKind.i64.wrap (0:Int)=0:=rfl
 rw[e164,aJ _ _ _ _ (by simp[I4])]
 simp[I4]
 rw[aC I3.eq_1]
 simp[hw,n201]
 rfl
theorem n113(h:aA):fc D 113 [.nsl] h=some (.tup [],h):=by
 have hb:pcF D KL [.int .u64 0]=some (.int .i64 (b9 0)):=s165 0 (by decide)
 rw[e113,aJ _ _ _ _ (by simp[K0])]
 simp[K0,Bl,hb,n164]
 rfl
theorem n114(h:aA):fc D 114 [.nsl] h=some (.nsl,h):=by
 rw[e114,aJ _ _ _ _ (by simp[J9])]
 simp[J9]
theorem n163(h:aA):fc D 163 [.nsl] h=some (.nsl,h):=by
 rw[e163,aJ _ _ _ _ (by simp[I5])]
 simp[I5,n113,n114]
theorem Jq{h:aA}{v:DV}{L:List Int}(w:OwnR 0 h v 3 1 (L.map bQ))(wf:WF h)(hn:L.length≤12) :
  ∃ N v' h',fc D 163 [v] h=some (v',h')∧dC (some (v',h'))=some (eL false 1 bQ N)∧jR N∧(∀x,x∈N↔x∈L)∧N.length≤12:=by
 cases w with
 | nil hv hx =>
  have uJ:L=[]:=by simpa using hx
  subst hv;subst uJ
  exact⟨[],.nsl,h,n163 h,rfl,List.Pairwise.nil,fun _=>Iff.rfl,by simp⟩
 | arr id sp cap hv hg aM dV =>
  rw[List.length_map]at hv
  subst hv
  obtain⟨N,sp',K,h1,h2,h3,h4,h5,h6⟩:=q163 id sp cap h L hg aM hn wf
  have w:OwnR 0 K (.sl id 1 0 N.length) 3 1 (N.map bQ):=.arr id sp' cap (by simp) h2 (by rw[h3];exact aM) dV
  exact⟨N,_,K,h1,w.out (k:=22) (fun y _=>(kL y).1.mono (by decide)) (fun y _=>(kL y).2) (by decide),h4,h5,h6⟩
def wO(l:List Att):List aV→List Int
 | []=>[]
 | e::r=>if e.bL≠-1∧nJ e.pred l=true then e.bL::wO l r else wO l r
theorem Zm(l:List Att):∀es,(wO l es).length≤es.length
 | []=>Nat.le_refl _
 | e::r=>by have:=Zm l r;rw[wO];split<;>simp<;>omega
theorem l110(P:Res→Prop)(u:Bool)(l:List Att)(hl:l.length≤1000000)(es:List aV)(Ba:es.length≤100000)(hp:∀e∈es,e.pred.length≤1000000) :
  ∀(rest:List aV) (eU:List Int) (i:Nat) (f:cY) (h:aA),es.drop i=rest→eU.length≤i→f 2=eL u 4 gK l→f 12=eL false 7 aD es→f 13=.int .i64 es.length→f 14=.int .i64 i→OwnR 0 h (f 7) 3 1 (eU.map bQ)→h.lim=0→WF h →
  (∀F H,OwnR 0 H (F 7) 3 1 ((eU++wO l rest).map bQ)→H.lim=0→WF H→P (run D 35 [] Rn F H)) →
  P (run D 35 [.block 0,.seq Rn] (.loop Rm) f h):=by
 intro rest
 induction rest with
 | nil =>
  intro eU i f h hd ha h2 gQ nC Gh ho aM wf mW
  have hi:=bR hd
  have:¬(i<es.length):=by omega
  rw[aC Rm.eq_1]
  simp[nC,Gh,this]
  exact mW _ _ (by simpa[wO]using ho) aM wf
 | cons e rest ih =>
  intro eU i f h hd ha h2 gQ nC Gh ho aM wf mW
  obtain⟨hi,he,fI⟩:=cB hd
  have hw:IntKind.i64.wrap ((i:Int)+1)=(i:Int)+1:=aX (by omega) (by omega)
  have hM:=s162 false u e.pred l (hp e (by rw[←he];exact List.getElem_mem hi)) hl
  have hf:∀h,resolve true h 200 (eL u 4 gK l)=some (eL u 4 gK l):=fun h=>eM _ _ _ _ true h 200 (by decide)
  rw[aC Rm.eq_1]
  by_cases c1:e.bL=-1
  ·have hN:wO l (e::rest)=wO l rest:=by rw[wO,if_neg (fun q=>q.1 c1)]
   rw[hN]at mW
   simp[h2,gQ,nC,Gh,hi,he,aD,aM,wf,c1,hw]
   generalize hF:upd _ 14 _=F
   exact ih eU (i+1) F _ fI (by omega) (by rw[←hF];simp[h2]) (by rw[←hF];simp[gQ]) (by rw[←hF];simp[nC]) (by rw[←hF];simp) (by rw[←hF];simp;exact ho.push) (by simp[aM]) (by simp[wf]) mW
  ·cases c2:nJ e.pred l with
   | false =>
    rw[c2]at hM
    have hN:wO l (e::rest)=wO l rest:=by rw[wO,if_neg (fun q=>by rw[c2]at q;cases q.2)]
    rw[hN]at mW
    have hM':pcF D Qr [bF e.pred,eL u 4 gK l]=some (.bool false):=hM
    simp[h2,gQ,nC,Gh,hi,he,aD,aM,wf,c1,hw,UX,hM',hf]
    generalize hF:upd _ 14 _=F
    exact ih eU (i+1) F _ fI (by omega) (by rw[←hF];simp[h2]) (by rw[←hF];simp[gQ]) (by rw[←hF];simp[nC]) (by rw[←hF];simp) (by rw[←hF];simp;exact ho.push) (by simp[aM]) (by simp[wf]) mW
   | true =>
    rw[c2]at hM
    have hN:wO l (e::rest)=e.bL::wO l rest:=by rw[wO,if_pos ⟨c1,c2⟩]
    rw[hN,List.append_cons]at mW
    have hM':pcF D Qr [bF e.pred,eL u 4 gK l]=some (.bool true):=hM
    simp[h2,gQ,nC,Gh,hi,he,aD,aM,wf,c1,hw,UX,hM',hf]
    generalize hA:aY _ _ _ _ _ _=A
    obtain⟨w,K,rfl,Ks,uJ,_⟩:=ho.push.push.append (by simp[wf]) (Nat.zero_le _) (by simp[aM]) hA (by simp;omega) (by decide)
    clear hA
    have hKl:K.lim=0:=by rw[uJ.lim];simp[aM]
    simp[Gh,hw]
    generalize hF:upd _ 14 _=F
    exact ih (eU++[e.bL]) (i+1) F K fI (by simp;omega) (by rw[←hF];simp[h2]) (by rw[←hF];simp[gQ]) (by rw[←hF];simp[nC]) (by rw[←hF];simp) (by rw[←hF];simp;simpa[bQ]using Ks) hKl uJ.wf mW
theorem s110(t:dG)(b:aF)(c d:Int)(u:Bool)(l:List Att)(hl:l.length≤1000000)(z:fT b)(hp:∀e∈b.entries,e.pred.length≤1000000)(gQ:(ofT ⟨c,d⟩ b.entries).length≤12) :
  ∃ N,pcF D DU [aH t b,.agg [.int .i64 c,.int .i64 d],eL u 4 gK l]=some (eL false 1 bQ N)∧jR N∧(∀x,x∈N↔x∈wO l (ofT ⟨c,d⟩ b.entries))∧N.length≤12:=by
 have hO:=kOf t z c d
 unfold pcF
 rw[aJ _ _ _ _ (by simp[DU])]
 simp[DU,e142,hO,-iB]
 generalize hF:upd _ 14 _=F
 generalize hH:aA.push _ _=H
 refine l110 (fun r=>∃ N,dC (fin [.t 6] r)=some (eL false 1 bQ N)∧jR N∧(∀x,x∈N↔x∈wO l (ofT ⟨c,d⟩ b.entries))∧N.length≤12) u l hl (ofT ⟨c,d⟩ b.entries) (by omega) (fun e he=>hp e (List.mem_filter.1 he).1) (ofT ⟨c,d⟩ b.entries) [] 0 F H rfl (Nat.zero_le _) (by rw[←hF];simp) (by rw[←hF];simp) (by rw[←hF];simp) (by rw[←hF];simp) (.nil (by rw[←hF];simp) rfl) (by rw[←hH];simp) (by rw[←hH];simp) fun F1 H1 o1 l1 w1=>?_
 rw[List.nil_append]at o1
 have Va:=Zm l (ofT ⟨c,d⟩ b.entries)
 obtain⟨N,v',h',k1,k2,k3,k4,k5⟩:=Jq o1 w1 (by omega)
 refine⟨N,?_,k3,k4,k5⟩
 simp[Rn,k1,-iB]
 exact k2
def Bp(l:List Att):List fV→List Int
 | []=>[]
 | o::r=>if nJ o.pred l=true then o.id.aS::Bp l r else Bp l r
theorem B8(l:List Att):∀os,(Bp l os).length≤os.length
 | []=>Nat.le_refl _
 | o::r=>by have:=B8 l r;rw[Bp];split<;>simp<;>omega
theorem l111(P:Res→Prop)(t u:Bool)(l:List Att)(hl:l.length≤1000000)(os:List fV)(Ba:os.length≤100000)(hp:∀o∈os,o.pred.length≤1000000) :
  ∀(rest:List fV) (eU:List Int) (i:Nat) (f:cY) (h:aA),os.drop i=rest→eU.length≤i→f 1=eL u 4 gK l→f 9=eL t 3 cT os→f 10=.int .i64 os.length→f 11=.int .i64 i→OwnR 0 h (f 5) 3 1 (eU.map bQ)→h.lim=0→WF h →
  (∀F H,OwnR 0 H (F 5) 3 1 ((eU++Bp l rest).map bQ)→H.lim=0→WF H→P (run D 28 [] Rl F H)) →
  P (run D 28 [.block 0,.seq Rl] (.loop Rk) f h):=by
 intro rest
 induction rest with
 | nil =>
  intro eU i f h hd ha h1 h9 iA lI ho aM wf mW
  have hi:=bR hd
  have:¬(i<os.length):=by omega
  rw[aC Rk.eq_1]
  simp[iA,lI,this]
  exact mW _ _ (by simpa[Bp]using ho) aM wf
 | cons o rest ih =>
  intro eU i f h hd ha h1 h9 iA lI ho aM wf mW
  obtain⟨hi,he,fI⟩:=cB hd
  have hw:IntKind.i64.wrap ((i:Int)+1)=(i:Int)+1:=aX (by omega) (by omega)
  have hM:pcF D Qr [bF o.pred,eL u 4 gK l]=some (.bool (nJ o.pred l)):=s162 false u o.pred l (hp o (by rw[←he];exact List.getElem_mem hi)) hl
  have hf:∀h,resolve true h 200 (eL u 4 gK l)=some (eL u 4 gK l):=fun h=>eM _ _ _ _ true h 200 (by decide)
  rw[aC Rk.eq_1]
  cases c2:nJ o.pred l with
  | false =>
   rw[c2]at hM
   have hN:Bp l (o::rest)=Bp l rest:=by rw[Bp,if_neg (by rw[c2];decide)]
   rw[hN]at mW
   simp[h1,h9,iA,lI,hi,he,cT,aM,wf,hw,UX,hM,hf]
   generalize hF:upd _ 11 _=F
   exact ih eU (i+1) F _ fI (by omega) (by rw[←hF];simp[h1]) (by rw[←hF];simp[h9]) (by rw[←hF];simp[iA]) (by rw[←hF];simp) (by rw[←hF];simp;exact ho.push) (by simp[aM]) (by simp[wf]) mW
  | true =>
   rw[c2]at hM
   have hN:Bp l (o::rest)=o.id.aS::Bp l rest:=by rw[Bp,if_pos c2]
   rw[hN,List.append_cons]at mW
   simp[h1,h9,iA,lI,hi,he,cT,aM,wf,hw,UX,hM,hf]
   generalize hA:aY _ _ _ _ _ _=A
   obtain⟨w,K,rfl,Ks,uJ,_⟩:=ho.push.push.append (by simp[wf]) (Nat.zero_le _) (by simp[aM]) hA (by simp;omega) (by decide)
   clear hA
   have hKl:K.lim=0:=by rw[uJ.lim];simp[aM]
   simp[lI,hw]
   generalize hF:upd _ 11 _=F
   exact ih (eU++[o.id.aS]) (i+1) F K fI (by simp;omega) (by rw[←hF];simp[h1]) (by rw[←hF];simp[h9]) (by rw[←hF];simp[iA]) (by rw[←hF];simp) (by rw[←hF];simp;simpa[bQ]using Ks) hKl uJ.wf mW
theorem s111(t:dG)(b:aF)(u:Bool)(l:List Att)(hl:l.length≤1000000)(hp:∀o∈b.bU,o.pred.length≤1000000)(gQ:b.bU.length≤12) :
  ∃ N,pcF D DT [aH t b,eL u 4 gK l]=some (eL false 1 bQ N)∧jR N∧(∀x,x∈N↔x∈Bp l b.bU)∧N.length≤12:=by
 unfold pcF
 rw[aJ _ _ _ _ (by simp[DT])]
 simp[DT,iF,-iB]
 generalize hF:upd _ 11 _=F
 generalize hH:aA.push _ _=H
 refine l111 (fun r=>∃ N,dC (fin [.t 4] r)=some (eL false 1 bQ N)∧jR N∧(∀x,x∈N↔x∈Bp l b.bU)∧N.length≤12) t.5 u l hl b.bU (by omega) hp b.bU [] 0 F H rfl (Nat.zero_le _) (by rw[←hF];simp) (by rw[←hF];simp) (by rw[←hF];simp) (by rw[←hF];simp) (.nil (by rw[←hF];simp) rfl) (by rw[←hH];simp) (by rw[←hH];simp) fun F1 H1 o1 l1 w1=>?_
 rw[List.nil_append]at o1
 have Va:=B8 l b.bU
 obtain⟨N,v',h',k1,k2,k3,k4,k5⟩:=Jq o1 w1 (by omega)
 refine⟨N,?_,k3,k4,k5⟩
 simp[Rl,k1,-iB]
 exact k2
end Go.Dm.Tc
namespace Go.Dm.Tc
def ePO(m:Msg)(n:Int):DV:=.agg [.int .i64 n,.int .i64 m.kind,.int .i64 m.tree.aS,.int .i64 m.tree.seq,.int .i64 m.id.aS,.int .i64 m.id.seq,bF m.pred,eL false 4 gK m.gI]
def zJ(m:Msg)(c:Int):DV:=.agg [.int .i64 c,.int .i64 m.id.aS,.int .i64 m.id.seq,eL false 4 gK m.gI]
theorem QW(x:Att):Unl 2 (gK x):=Pv (k:=1) (by
 intro y hy
 simp only[List.mem_cons,List.not_mem_nil,or_false]at hy
 rcases hy with rfl|rfl|rfl|rfl
 all_goals first|exact lF _ _|exact wV _|exact vG _)
theorem Vf(l:List Att):Unl 21 (eL false 4 gK l):=(eV fun x _=>QW x).mono (by decide)
theorem Jy(m:Msg)(n:Int):jU 20 (ePO m n)∧Unl 22 (ePO m n):=⟨jM (by
  intro y hy
  simp only[List.mem_cons,List.not_mem_nil,or_false]at hy
  rcases hy with rfl|rfl|rfl|rfl|rfl|rfl|rfl|rfl
  all_goals first|exact fA _ _|exact eM _ _ _ _),lA (by
  intro y hy
  simp only[List.mem_cons,List.not_mem_nil,or_false]at hy
  rcases hy with rfl|rfl|rfl|rfl|rfl|rfl|rfl|rfl
  all_goals first|exact(lF _ _).mono (by decide)|exact(tT _).mono (by decide)|exact Vf _)⟩
theorem Ev(m:Msg)(n:Int):jU 20 (zJ m n)∧Unl 22 (zJ m n):=⟨jM (by
  intro y hy
  simp only[List.mem_cons,List.not_mem_nil,or_false]at hy
  rcases hy with rfl|rfl|rfl|rfl
  all_goals first|exact fA _ _|exact eM _ _ _ _),lA (by
  intro y hy
  simp only[List.mem_cons,List.not_mem_nil,or_false]at hy
  rcases hy with rfl|rfl|rfl|rfl
  all_goals first|exact(lF _ _).mono (by decide)|exact Vf _)⟩
theorem TG{lo:Nat}{h:aA}{v:DV}{ety sz k oY eQ:Nat}{xs ys:List DV}{cap:Option Nat}(w:OwnR lo h v ety sz xs)(g:h.get k=some (.arr oY eQ ys cap))(eG:ety≠oY):yG v k:=by
 intro a b c e
 cases w with
 | nil hv _=>rw[hv]at e;cases e
 | arr id sp cp hv hg _ _ =>
  rw[hv]at e
  cases e
  rw[g]at hg
  cases hg
  exact eG rfl
theorem ZP{lo:Nat}{h h':aA}{v:DV}{ety sz:Nat}{xs:List DV}(w:OwnR lo h v ety sz xs)(hg:∀k ys cap,h.get k=some (.arr ety sz ys cap)→h'.get k=h.get k)(hl:h'.lim=h.lim):OwnR lo h' v ety sz xs:=by
 cases w with
 | nil hv hx=>exact .nil hv hx
 | arr id sp cap hv g a b=>exact .arr id sp cap hv (by rw[hg id _ _ g];exact g) (by rw[hl];exact a) b
theorem l37a(P:Res→Prop)(m:Msg)(tp:Nat)(N:List Int)(hN:N.length≤100)(h0:aA)(g1:h0.get 1=some (.arr tp 7 [sQ m] (some 1)))(aM:h0.lim=0) :
  ∀(rest:List Int) (eU:List Int) (i:Nat) (f:cY) (h:aA),N.drop i=rest→eU.length≤i→f 3=.ptr 0 6 0 0→f 5=.ptr 1 7 0 0→f 11=.nsl→f 36=eL false 1 bQ N→f 37=.int .i64 N.length→f 38=.int .i64 i→OwnR 3 h (f 10) 100 8 (eU.map (ePO m))→Ext 3 h0 h →
  (∀F H,F 3=.ptr 0 6 0 0→F 5=.ptr 1 7 0 0→F 11=.nsl→OwnR 3 H (F 10) 100 8 ((eU++rest).map (ePO m))→Ext 3 h0 H→P (run D 70 [] Z3 F H)) →
  P (run D 70 [.block 0,.seq Z3] (.loop Z2) f h):=by
 intro rest
 induction rest with
 | nil =>
  intro eU i f h hd ha h3 h5 lI IX E4 OJ ho hx mW
  have hi:=bR hd
  have:¬(i<N.length):=by omega
  rw[aC Z2.eq_1]
  simp[E4,OJ,this]
  exact mW _ _ (by simp[h3]) (by simp[h5]) (by simp[lI]) (by simpa using ho) hx
 | cons n rest ih =>
  intro eU i f h hd ha h3 h5 lI IX E4 OJ ho hx mW
  obtain⟨hi,he,fI⟩:=cB hd
  have hw:IntKind.i64.wrap ((i:Int)+1)=(i:Int)+1:=aX (by omega) (by omega)
  have G1:=(hx.get 1 (by decide)).trans g1
  have hlH:h.lim=0:=hx.lim.trans aM
  rw[List.append_cons]at mW
  rw[aC Z2.eq_1]
  simp[h3,h5,IX,E4,OJ,hi,he,bQ,G1,sQ,hlH]
  generalize hA:aY _ _ _ _ _ _=A
  obtain⟨w,K,rfl,Ks,uJ,_⟩:=ho.push.append hx.push.wf (hx.push.le) (by simp[hlH]) hA (by simp;omega) (by decide)
  clear hA
  simp[OJ,hw]
  generalize hF:upd _ 38 _=F
  exact ih (eU++[n]) (i+1) F K fI (by simp;omega) (by rw[←hF];simp[h3]) (by rw[←hF];simp[h5]) (by rw[←hF];simp[lI]) (by rw[←hF];simp[IX]) (by rw[←hF];simp[E4]) (by rw[←hF];simp) (by rw[←hF];simp;simpa[ePO]using Ks) (hx.push.trans uJ) mW
theorem l37b(P:Res→Prop)(m:Msg)(tp:Nat)(N:List Int)(hN:N.length≤100)(os:List Int)(h0:aA)(g1:h0.get 1=some (.arr tp 7 [sQ m] (some 1)))(aM:h0.lim=0) :
  ∀(rest:List Int) (eU:List Int) (i:Nat) (f:cY) (h:aA),N.drop i=rest→eU.length≤i→f 5=.ptr 1 7 0 0→f 52=eL false 1 bQ N→f 53=.int .i64 N.length→f 54=.int .i64 i→OwnR 3 h (f 11) 103 4 (eU.map (zJ m))→OwnR 3 h (f 10) 100 8 (os.map (ePO m))→Ext 3 h0 h →
  (∀F H,OwnR 3 H (F 11) 103 4 ((eU++rest).map (zJ m))→OwnR 3 H (F 10) 100 8 (os.map (ePO m))→Ext 3 h0 H→P (run D 70 [] Z4 F H)) →
  P (run D 70 [.block 2,.seq Z4] (.loop Z1) f h):=by
 intro rest
 induction rest with
 | nil =>
  intro eU i f h hd ha h5 h52 h53 h54 ho hp hx mW
  have hi:=bR hd
  have:¬(i<N.length):=by omega
  rw[aC Z1.eq_1]
  simp[h53,h54,this]
  exact mW _ _ (by simpa using ho) (by simpa using hp) hx
 | cons n rest ih =>
  intro eU i f h hd ha h5 h52 h53 h54 ho hp hx mW
  obtain⟨hi,he,fI⟩:=cB hd
  have hw:IntKind.i64.wrap ((i:Int)+1)=(i:Int)+1:=aX (by omega) (by omega)
  have G1:=(hx.get 1 (by decide)).trans g1
  have hlH:h.lim=0:=hx.lim.trans aM
  rw[List.append_cons]at mW
  rw[aC Z1.eq_1]
  simp[h5,h52,h53,h54,hi,he,bQ,G1,sQ,hlH]
  generalize hA:aY _ _ _ _ _ _=A
  obtain⟨w,K,rfl,Ks,uJ,fr,_⟩:=rF ho.push hx.push.wf (hx.push.le) (by simp[hlH]) hA (by simp;omega) (by decide)
  clear hA
  have vB:=ZP (hp.push (o:=.arr 103 4 [.agg [.int .i64 n,.int .i64 m.id.aS,.int .i64 m.id.seq,eL false 4 gK m.gI]] (some 1))) (fun j ys cap gj=>fr j (bB gj) (TG ho.push gj (by decide))) uJ.lim
  simp[h54,hw]
  generalize hF:upd _ 54 _=F
  exact ih (eU++[n]) (i+1) F K fI (by simp;omega) (by rw[←hF];simp[h5]) (by rw[←hF];simp[h52]) (by rw[←hF];simp[h53]) (by rw[←hF];simp) (by rw[←hF];simp;simpa[zJ]using Ks) (by rw[←hF];simpa using vB) (hx.push.trans uJ) mW
structure CA(b:aF)(bL:Int)(m:Msg)(N C:List Int):Prop where
 yes:∀a,fR b m.tree=some a→a.bO=bL→jR N∧(∀x,x∈N↔x∈wO m.gI (ofT m.tree b.entries))∧jR C∧(∀x,x∈C↔x∈Bp m.gI b.bU)
 no:(∀a,fR b m.tree=some a→a.bO≠bL)→N=[]∧C=[]
theorem s37(t:dG)(b:aF)(bL:Int)(m:Msg)(hi:bT b)(z:fT b)(GK:m.gI.length≤1000000)(gQ:(ofT m.tree b.entries).length≤12)(ho:b.bU.length≤12) :
  ∃ N C,pcF D t37 [aH t b,.int .i64 bL,sQ m]=some (.tup [eL false 8 (ePO m) N,eL false 4 (zJ m) C])∧CA b bL m N C∧N.length≤1000∧C.length≤1000:=by
 have hA:=kAF (t:=t) hi z m.tree.aS m.tree.seq
 have hme:(⟨m.tree.aS,m.tree.seq⟩:ID)=m.tree:=rfl
 rw[hme]at hA
 have VZ:∀e∈b.entries,e.pred.length≤1000000:=fun e he=>(hi.pe e he).names.1
 have VY:∀o∈b.bU,o.pred.length≤1000000:=fun o h=>(hi.po o h).names.1
 obtain⟨N,hN,n1,n2,n3⟩:=s110 t b m.tree.aS m.tree.seq false m.gI GK z VZ gQ
 obtain⟨C,hC,c1,c2,c3⟩:=s111 t b false m.gI GK VY ho
 have hf:∀h,resolve true h 200 (eL false 4 gK m.gI)=some (eL false 4 gK m.gI):=fun h=>eM _ _ _ _ true h 200 (by decide)
 unfold pcF
 rw[aJ _ _ _ _ (by simp[t37])]
 cases ha:fR b m.tree with
 | none =>
  rw[ha]at hA
  refine⟨[],[],?_,⟨fun a h=>(by rw[ha]at h;cases h),fun _=>⟨rfl,rfl⟩⟩,by simp,by simp⟩
  simp[t37,e89,hA,hJ,sQ,aG,qB,turn,hY,aI]
 | some a =>
  rw[ha]at hA
  by_cases hp:a.bO=bL
  ·refine⟨N,C,?_,⟨fun _ _ _=>⟨n1,n2,c1,c2⟩,fun h=>absurd hp (h a ha)⟩,by omega,by omega⟩
   simp[t37,e89,hA,hJ,sQ,aG,hp,turn,e110,hN,hf,-iB]
   generalize hF:upd _ 38 _=F
   generalize hH:aA.push _ _=H
   refine l37a (fun r=>dC (fin [.t 6,.t 7] r)=some (.tup [eL false 8 (ePO m) N,eL false 4 (zJ m) C])) m 44 N (by omega) H (by rw[←hH];simp[sQ]) (by rw[←hH];simp) N [] 0 F H rfl (Nat.zero_le _) (by rw[←hF];simp) (by rw[←hF];simp) (by rw[←hF];simp) (by rw[←hF];simp) (by rw[←hF];simp) (by rw[←hF];simp) (.nil (by rw[←hF];simp) rfl) (.refl (by rw[←hH];simp) (by rw[←hH];simp)) fun F1 H1 a3 a5 a11 o1 x1=>?_
   rw[List.nil_append]at o1
   have g0:H.get 0=some (.arr 36 6 [aH t b] (some 1)):=by rw[←hH];simp
   have g1:H.get 1=some (.arr 44 7 [sQ m] (some 1)):=by rw[←hH];simp[sQ]
   have tB:H.lim=0:=by rw[←hH];simp
   have G0:=(x1.get 0 (by decide)).trans g0
   have G1:=(x1.get 1 (by decide)).trans g1
   have Ee:H1.lim=0:=x1.lim.trans tB
   simp[Z3,a3,a5,G0,G1,sQ,e111,hC,hf,-iB]
   generalize hF2:upd _ 54 _=F2
   refine l37b (fun r=>dC (fin [.t 6,.t 7] r)=some (.tup [eL false 8 (ePO m) N,eL false 4 (zJ m) C])) m 44 C (by omega) N H1 G1 Ee C [] 0 F2 H1 rfl (Nat.zero_le _) (by rw[←hF2];simp[a5]) (by rw[←hF2];simp) (by rw[←hF2];simp) (by rw[←hF2];simp) (.nil (by rw[←hF2];simp[a11]) rfl) (by rw[←hF2];simpa using o1) (.refl x1.le x1.wf) fun F3 H3 o3 p3 x3=>?_
   rw[List.nil_append]at o3
   have r1:resolve false H3 199 (F3 10)=some (eL false 8 (ePO m) N):=p3.resolve false (fun y _=>(Jy m y).1) (by decide)
   have r2:resolve false H3 199 (F3 11)=some (eL false 4 (zJ m) C):=o3.resolve false (fun y _=>(Ev m y).1) (by decide)
   simp[Z4,aI,-iB]
   exact FH (k:=23) (by simp[r1,r2]) (fun d hd=>by
    simp only[List.mem_cons,List.not_mem_nil,or_false]at hd
    rcases hd with rfl|rfl
    ·exact eV fun y _=>(Jy m y).2
    ·exact eV fun y _=>(Ev m y).2) (by decide)
  ·refine⟨[],[],?_,⟨fun a' h vB=>(by rw[ha]at h;cases h;exact absurd vB hp),fun _=>⟨rfl,rfl⟩⟩,by simp,by simp⟩
   simp[t37,e89,hA,hJ,sQ,aG,hp,turn,hY,aI]
end Go.Dm.Tc
namespace Go.Dm.Tc
theorem x42(m:Msg)(hp:m.pred.length≤1000000)(ha:m.gI.length≤1000000):pcF D t42 [.agg [.int .i64 m.kind,.int .i64 m.tree.aS,.int .i64 m.tree.seq,.int .i64 m.id.aS,.int .i64 m.id.seq,bF m.pred,eL false 4 gK m.gI],.agg [.int .i64 m.kind,.int .i64 m.tree.aS,.int .i64 m.tree.seq,.int .i64 m.id.aS,.int .i64 m.id.seq,bF m.pred,eL false 4 gK m.gI]]=some (.bool true):=by
 have q1:pcF D t41 [bF m.pred,bF m.pred]=some (.bool true):=by
  have:=s41 false false m.pred m.pred hp
  simpa[bF]using this
 have q2:pcF D t43 [eL false 4 gK m.gI,eL false 4 gK m.gI]=some (.bool true):=by
  have:=s43 false false m.gI m.gI ha
  simpa using this
 have hf:∀h,resolve true h 200 (eL false 4 gK m.gI)=some (eL false 4 gK m.gI):=fun h=>eM _ _ _ _ true h 200 (by decide)
 unfold pcF
 rw[aJ _ _ _ _ (by simp[t42])]
 simp[t42,e41,q1,e43,q2,hf]
theorem xl12(m:Msg)(hp:m.pred.length≤1000000)(ha:m.gI.length≤1000000)(N:List Int)(hN:N.length≤1000) :
  ∀(rest:List Int) (i:Nat) (f:cY) (h:aA),N.drop i=rest→h.lim=0→f 0=eL false 8 (ePO m) N→f 1=eL false 8 (ePO m) N→f 12=.int .i64 N.length→f 13=.int .i64 i →
  dC (fin [.t 4] (run D 42 [.block 0,.seq Wb] (.loop Iy) f h))=some (.bool true):=by
 intro rest
 induction rest with
 | nil =>
  intro i f h hd aM h0 h1 gQ nC
  have hi:=bR hd
  have:¬(i<N.length):=by omega
  rw[aC Iy.eq_1]
  simp[Wb,gQ,nC,this]
 | cons n rest ih =>
  intro i f h hd aM h0 h1 gQ nC
  obtain⟨hi,he,fI⟩:=cB hd
  have hw:IntKind.i64.wrap ((i:Int)+1)=(i:Int)+1:=aX (by omega) (by omega)
  have hM:=x42 m hp ha
  have hf:∀h,resolve true h 199 (eL false 4 gK m.gI)=some (eL false 4 gK m.gI):=fun h=>eM _ _ _ _ true h 199 (by decide)
  rw[aC Iy.eq_1]
  simp[h0,h1,gQ,nC,hi,he,ePO,e42,hM,hf,aM,hw]
  generalize hF:upd _ 13 _=F
  exact ih (i+1) F h fI aM (by rw[←hF];simp[h0]) (by rw[←hF];simp[h1]) (by rw[←hF];simp[gQ]) (by rw[←hF];simp)
theorem x12(m:Msg)(hp:m.pred.length≤1000000)(ha:m.gI.length≤1000000)(N:List Int)(hN:N.length≤1000):pcF D t12 [eL false 8 (ePO m) N,eL false 8 (ePO m) N]=some (.bool true):=by
 unfold pcF
 rw[aJ _ _ _ _ (by simp[t12])]
 simp[t12]
 generalize hF:upd _ 13 _=F
 have:=xl12 m hp ha N hN N 0 F pB rfl rfl (by rw[←hF];simp) (by rw[←hF];simp) (by rw[←hF];simp) (by rw[←hF];simp)
 simpa using this
theorem xl13(m:Msg)(ha:m.gI.length≤1000000)(N:List Int)(hN:N.length≤1000) :
  ∀(rest:List Int) (i:Nat) (f:cY) (h:aA),N.drop i=rest→h.lim=0→f 0=eL false 4 (zJ m) N→f 1=eL false 4 (zJ m) N→f 12=.int .i64 N.length→f 13=.int .i64 i →
  dC (fin [.t 4] (run D 55 [.block 0,.seq KN] (.loop AB) f h))=some (.bool true):=by
 intro rest
 induction rest with
 | nil =>
  intro i f h hd aM h0 h1 gQ nC
  have hi:=bR hd
  have:¬(i<N.length):=by omega
  rw[aC AB.eq_1]
  simp[KN,gQ,nC,this]
 | cons n rest ih =>
  intro i f h hd aM h0 h1 gQ nC
  obtain⟨hi,he,fI⟩:=cB hd
  have hw:IntKind.i64.wrap ((i:Int)+1)=(i:Int)+1:=aX (by omega) (by omega)
  have q2:pcF D t43 [eL false 4 gK m.gI,eL false 4 gK m.gI]=some (.bool true):=by
   have:=s43 false false m.gI m.gI ha
   simpa using this
  have hf:∀h,resolve true h 200 (eL false 4 gK m.gI)=some (eL false 4 gK m.gI):=fun h=>eM _ _ _ _ true h 200 (by decide)
  rw[aC AB.eq_1]
  simp[h0,h1,gQ,nC,hi,he,zJ,e43,q2,hf,aM,hw]
  generalize hF:upd _ 13 _=F
  exact ih (i+1) F h fI aM (by rw[←hF];simp[h0]) (by rw[←hF];simp[h1]) (by rw[←hF];simp[gQ]) (by rw[←hF];simp)
theorem x13(m:Msg)(ha:m.gI.length≤1000000)(N:List Int)(hN:N.length≤1000):pcF D t13 [eL false 4 (zJ m) N,eL false 4 (zJ m) N]=some (.bool true):=by
 unfold pcF
 rw[aJ _ _ _ _ (by simp[t13])]
 simp[t13]
 generalize hF:upd _ 13 _=F
 have:=xl13 m ha N hN N 0 F pB rfl rfl (by rw[←hF];simp) (by rw[←hF];simp) (by rw[←hF];simp) (by rw[←hF];simp)
 simpa using this
theorem s10(b:aF)(q k tc td sc sd:Int)(p:bI)(hi:bT b)(hz:ZL b b.bU.length)(hp:bZ p)(hf:fE b q=true)(iG:b.aR.length<100000∧b.seen.length<100000)(hk:k=1∨k=2∨k=3∨k=4) :
  pcF D t10 [aH .none b,.int .i64 q,.agg [.int .i64 k,.int .i64 tc,.int .i64 td,.int .i64 sc,.int .i64 sd,bF p,.isl false 0 []]]=some (.tup [aH .none (dS b q k ⟨tc,td⟩ ⟨sc,sd⟩ p).1,eL false 8 fM (dS b q k ⟨tc,td⟩ ⟨sc,sd⟩ p).2,.isl false 0 []]):=by
 have h1:=s33 b tc td q p hi hz hp hf iG
 have h2:=s34 b tc td q hi hz.sized
 have h3:=s35 b k tc td sc sd q p hi hz.sized hp
 have h4:=s36 b k tc td sc sd q p hi hz.sized
 have Ea:∀os:List iR,bJ 199 (eL false 8 fM os)=true:=fun os=>eV (fun y _=>(fO y).2) 199 (by decide)
 unfold pcF
 rw[aJ _ _ _ _ (by simp[t10])]
 rcases hk with rfl|rfl|rfl|rfl
 ·simp[t10,dS,e33,h1,turn,aI,Ea]
 ·simp[t10,dS,e34,h2,turn,aI,Ea]
 ·simp[t10,dS,e35,tX,h3,turn,aI,Ea]
 ·simp[t10,dS,e36,tX,h4,turn,aI,Ea]
theorem p10(b:aF)(q:Int)(m:Msg)(hk:m.kind=5)(hi:bT b)(z:fT b)(GK:m.gI.length≤1000000)(gQ:(ofT m.tree b.entries).length≤12)(ho:b.bU.length≤12) :
  ∃ N C,pcF D t10 [aH .none b,.int .i64 q,sQ m]=some (.tup [aH .none b,eL false 8 (ePO m) N,eL false 4 (zJ m) C])∧CA b q m N C∧N.length≤1000∧C.length≤1000:=by
 obtain⟨N,C,hP,ok,hn⟩:=s37 .none b q m hi z GK gQ ho
 have hu1:∀n,23≤n→bJ n (eL false 8 (ePO m) N)=true:=fun n hn=>eV (fun y _=>(Jy m y).2) n hn
 have Ea:∀n,23≤n→bJ n (eL false 4 (zJ m) C)=true:=fun n hn=>eV (fun y _=>(Ev m y).2) n hn
 refine⟨N,C,?_,ok,?_,?_⟩
 ·obtain⟨k,t,i,p,a⟩:=m
  simp only at hk
  subst hk
  unfold pcF
  rw[aJ _ _ _ _ (by simp[t10])]
  simp only[sQ]at hP
  have v1:=hu1 199 (by decide)
  have v2:=Ea 199 (by decide)
  simp[t10,sQ,e37,hP,turn,aI,v1,v2]
 ·exact hn.1
 ·exact hn.2
end Go.Dm.Tc
namespace Go.Dm.Tc
theorem Dn{α:Type}{key:α→ID}(x:ID)(l:List α):(bM key x l).find? (fun a=>key a=x)=none:=by
 rw[List.find?_eq_none]
 intro a ha
 simpa using(lK ha).2
theorem Ww{c:aF}(q:Int){x:ID}(p:bI)(h:x∈c.seen):bK c q x p=(c,[]):=by
 have:(bH c ⟨x,p,q⟩).2=false:=by unfold bH;rw[if_pos h]
 unfold bK
 rw[if_neg (by rw[this];decide)]
theorem tW{b:aF}{n:Nat}(h:bT b)(z:SzK b n){q k:Int}{t s:ID}{p:bI}(hf:fE b q=true)(hp:bZ p):bT (dS b q k t s p).1∧SzK (dS b q k t s p).1 (n+1):=by
 unfold dS
 split
 ·exact sG h z hf hp
 ·split
  ·exact tU h z _ _
  ·split
   ·exact Kd h z hf hp
   ·exact Pl h z _ _ _
def mQ(T:ID)(b:aF):Nat:=(ofT T b.entries).length
theorem Ez(T:ID)(a b:List aV):ofT T (a++b)=ofT T a++ofT T b:=by unfold ofT;rw[List.filter_append]
theorem TF(T:ID)(e:aV)(l:List aV):(ofT T (sP e l)).length=(ofT T l).length+if e.tree=T then 1 else 0:=by
 have h:(ofT T l).length=(ofT T (l.take (aU (eW e.tree e.sub) l))).length+(ofT T (l.drop (aU (eW e.tree e.sub) l))).length:=by
  rw[←List.length_append,←Ez,List.take_append_drop]
 unfold sP
 rw[Ez,List.length_append,h]
 have:ofT T (e::l.drop (aU (eW e.tree e.sub) l))=(if e.tree=T then[e]else[])++ofT T (l.drop (aU (eW e.tree e.sub) l)):=by
  unfold ofT
  by_cases hc:e.tree=T<;>simp[hc]
 rw[this,List.length_append]
 split<;>simp<;>omega
theorem Um(T:ID)(b:aF)(e:aV):mQ T (dY b e).1≤mQ T b+if e.tree=T then 1 else 0:=by
 unfold dY
 split
 ·have:=TF T {e with up:=qN b e} b.entries
  unfold mQ;simp only at this ⊢;omega
 ·exact Nat.le_add_right ..
theorem FN{T t:ID}{a a':List aV}(h:gC t a a'):(ofT T a').length=(ofT T a).length:=by
 induction h with
 | nil=>rfl
 | keep e _ ih=>unfold ofT at *;simp only[List.filter_cons];split<;>simp[ih]
 | up e ht hu _ ih=>unfold ofT at *;simp only[List.filter_cons];split<;>simp[ih]
theorem Ey(T:ID)(f:aV→Bool)(l:List aV):(ofT T (l.filter f)).length≤(ofT T l).length:=by
 unfold ofT
 rw[List.filter_filter]
 have:l.filter (fun a=>decide (a.tree=T) && f a)=(l.filter fun a=>decide (a.tree=T)).filter f:=by
  rw[List.filter_filter];congr 1;funext a;rw[Bool.and_comm]
 rw[this]
 exact List.length_filter_le ..
theorem B2{b:aF}(h:bT b)(T t s:ID)(q:Int):mQ T (cF b t s q).1≤mQ T b:=by
 unfold mQ
 rcases lM h t s q with⟨h1,_⟩|⟨e,_,_,_,_,h1⟩|⟨e,_,_,_,_,r',u',h1,h2,_⟩
 ·rw[h1];exact Nat.le_refl _
 ·rw[h1];exact Ey ..
 ·rw[h1]
  show(ofT T r').length≤_
  rw[FN h2];exact Ey ..
theorem B5(T:ID)(bL:Int)(x:ID)(p:bI):∀(l:List fV) (st:aF×List iR),mQ T (l.foldl (bV bL x p) st).1≤mQ T st.1+if x=T then l.length else 0
 | [],st=>by simp
 | o::r,st=>by
  rw[List.foldl_cons]
  have ih:=B5 T bL x p r (bV bL x p st o)
  have h1:mQ T (bV bL x p st o).1≤mQ T st.1+if x=T then 1 else 0:=by
   unfold bV
   split
   ·exact Um T st.1 ⟨x,o.id,o.pred,-1,false⟩
   ·split<;>simp
  split at h1
  ·rename_i hx;rw[if_pos hx]at ih ⊢;simp;omega
  ·rename_i hx;rw[if_neg hx]at ih ⊢;omega
theorem B3(T x:ID)(p:bI):∀(l:List bC) (st:aF×List iR),mQ T (l.foldl (eC x p) st).1≤mQ T st.1+(l.filter fun a=>decide (a.id=T)).length
 | [],st=>by simp
 | a::r,st=>by
  rw[List.foldl_cons]
  have ih:=B3 T x p r (eC x p st a)
  have h1:mQ T (eC x p st a).1≤mQ T st.1+if a.id=T then 1 else 0:=by
   unfold eC
   split
   ·exact Um T st.1 ⟨a.id,x,p,-1,false⟩
   ·split<;>simp
  by_cases hx:a.id=T
  ·rw[if_pos hx]at h1
   simp[hx];omega
  ·rw[if_neg hx]at h1
   simp[hx];omega
theorem B4(T x:ID):∀(l:List bC) (st:aF×List iR),bT st.1→mQ T (l.foldl (fG x) st).1≤mQ T st.1
 | [],st,_=>Nat.le_refl _
 | a::r,st,h=>by
  rw[List.foldl_cons]
  have h1:(fG x st a).1=(cF st.1 a.id x (-1)).1:=by unfold fG;rw[jI]
  have hi:bT (fG x st a).1:=by rw[h1];exact h.take ..
  have ih:=B4 T x r (fG x st a) hi
  have h2:=B2 h T a.id x (-1)
  have h3:mQ T (fG x st a).1=mQ T (cF st.1 a.id x (-1)).1:=by rw[h1]
  omega
theorem Za{T:ID}:∀{l:List bC},(l.map (·.id)).Nodup→(l.filter fun a=>decide (a.id=T)).length≤1
 | [],_=>by simp
 | a::r,h=>by
  rw[List.map_cons,List.nodup_cons]at h
  have ih:=Za (T:=T) h.2
  by_cases hc:a.id=T
  ·have:r.filter (fun a=>decide (a.id=T))=[]:=by
    rw[List.filter_eq_nil_iff]
    intro y hy
    have:y.id≠T:=fun e=>h.1 (by rw[hc,←e];exact List.mem_map_of_mem hy)
    simpa using this
   simp[hc,this]
  ·simp[hc];exact ih
theorem Sm{l:List ID}(h:dU l):l.Nodup:=by
 rw[List.nodup_iff_pairwise_ne]
 exact h.imp fun {a b} QM e=>by subst e;rw[fZ]at QM;omega
def TrK(b:aF)(n:Nat):Prop:=∀T,mQ T b≤n
theorem TrK.mono{b:aF}{n m:Nat}(h:TrK b n)(hn:n≤m):TrK b m:=fun T=>Nat.le_trans (h T) hn
theorem TH{b:aF}(h:bT b){x:ID}(hx:x ∉ b.seen):mQ x b=0:=by
 unfold mQ ofT
 rw[List.length_eq_zero_iff,List.filter_eq_nil_iff]
 intro e he
 have hr:=h.ent e he
 unfold mS at hr
 cases hf:b.aR.find? (fun a=>a.id=e.tree)with
 | none=>rw[hf]at hr;cases hr
 | some a =>
  have ha:=h.sub a (List.mem_of_find?_eq_some hf)
  have hi:a.id=e.tree:=by simpa using List.find?_some hf
  intro hc
  have hc:e.tree=x:=by simpa using hc
  exact hx (by rw[←hc,←hi];exact ha)
theorem PY{b:aF}{n:Nat}(h:bT b)(z:SzK b n)(r:TrK b n)(q:Int)(x:ID)(p:bI):TrK (bK b q x p).1 (n+1):=by
 intro T
 unfold bK
 by_cases hs:x∈b.seen
 ·have:bH b ⟨x,p,q⟩=(b,false):=by unfold bH;rw[if_pos hs]
  rw[this,if_neg (by simp)]
  have:=r T;show mQ T b≤_;omega
 ·have e:(bH b ⟨x,p,q⟩).2=true:=by unfold bH;rw[if_neg hs]
  have e2:(bH b ⟨x,p,q⟩).1.entries=b.entries:=by unfold bH;rw[if_neg hs]
  rw[if_pos e]
  have:=B5 T q x p b.bU ((bH b ⟨x,p,q⟩).1,lL b.aL q 1 x.aS x.seq 0 0 p)
  have e3:mQ T (bH b ⟨x,p,q⟩).1=mQ T b:=by unfold mQ;rw[e2]
  have hT:=r T
  have ho:=z.own
  simp only at this
  split at this
  ·rename_i hx;subst hx
   have:=TH h hs
   omega
  ·omega
theorem JL{b:aF}{n:Nat}(r:TrK b n)(q:Int)(x:ID):TrK (bN b q x).1 (n+1):=by
 intro T
 have hT:=r T
 unfold bN bX
 cases hf:b.aR.find? (fun a=>a.id=x)with
 | none=>simp;omega
 | some a =>
  by_cases hp:a.bO=q
  ·simp[hp]
   show(ofT T (b.entries.filter fun e=>!decide (e.tree=x))).length≤_
   exact Nat.le_trans (Ey ..) (by unfold mQ at hT;omega)
  ·simp[hp];omega
theorem YY{b:aF}{n:Nat}(r:TrK b n)(q:Int)(t s:ID)(p:bI):TrK (gJ b q t s p).1 (n+1):=by
 intro T
 have hT:=r T
 have:=Um T b ⟨t,s,p,q,false⟩
 unfold gJ
 simp only
 split at this<;>omega
theorem u9{b:aF}{n:Nat}(h:bT b)(r:TrK b n)(q:Int)(t s:ID):TrK (eT b t s q).1 (n+1):=by
 intro T
 have hT:=r T
 have:=B2 h T t s q
 rw[jI];omega
theorem Rr{b:aF}{n:Nat}(h:bT b)(r:TrK b n)(x:ID)(p:bI):TrK (fC b x p).1 (n+1):=by
 intro T
 have hT:=r T
 unfold fC
 split
 ·show mQ T b≤_;omega
 ·have:=B3 T x p b.aR (subOwn b x p,[])
  have h1:=Za (T:=T) (Sm h.ra)
  have e:mQ T (subOwn b x p)=mQ T b:=rfl
  simp only at this
  omega
theorem Ii{b:aF}{n:Nat}(h:bT b)(r:TrK b n)(x:ID):TrK (dH b x).1 (n+1):=by
 intro T
 have hT:=r T
 unfold dH
 split
 ·show mQ T b≤_;omega
 ·have:=B4 T x b.aR (endOwn b x,[]) (h.endOwn x)
  have e:mQ T (endOwn b x)=mQ T b:=rfl
  simp only at this
  omega
theorem RJ{b:aF}{n:Nat}(h:bT b)(z:SzK b n)(r:TrK b n)(q:mY):TrK (cP b q) (n+1):=by
 unfold cP
 simp only
 split
 ·exact Rr h r _ _
 ·split
  ·exact Ii h r _
  ·split
   ·exact PY h z r _ _ _
   ·unfold dS
    split
    ·exact PY h z r _ _ _
    ·split
     ·exact JL r _ _
     ·split
      ·exact YY r _ _ _ _
      ·exact u9 h r _ _ _
theorem Vq:∀(l:List mY) {b:aF} {n:Nat},bT b→SzK b n→TrK b n→TrK (l.foldl cP b) (n+l.length)
 | [],_,_,_,_,r=>r
 | q::l,b,n,h,z,r=>by
  obtain⟨h1,z1⟩:=eA h z q
  have:=Vq l h1 z1 (RJ h z r q)
  rw[List.foldl_cons,List.length_cons]
  exact this.mono (by omega)
theorem W1(aL:Int)(l:List mY):TrK (wE aL l) 12:=by
 have hw:=cZ aL (lo:=1) (hi:=4) (by decide)
 obtain⟨h,z⟩:=vJ (aT aL 1 4).toNat (by omega)
 exact(Vq (l.take 12) h z (fun T=>by simp[mQ,bY,ofT])).mono (by simp only[List.length_take];omega)
end Go.Dm.Tc
namespace Go.Dm.Tc
theorem Q5(x:Bt):1≤(uG x).kind∧(uG x).kind≤5:=cZ x.kind (by decide)
theorem Q4(x:Bt):bZ (uG x).pred:=by
 unfold uG
 simp only
 split
 ·exact fH ..
 ·exact bZ.nil
theorem Yk(x:Bt):(uG x).gI.length≤5∧((uG x).kind≠5→(uG x).gI=[]):=by
 have:=FW x.thas x.tvals
 unfold uG
 simp only
 split
 ·exact⟨this,fun h=>absurd (by assumption) h⟩
 ·exact⟨by simp,fun _=>rfl⟩
theorem KS{b:aF}{n k:Nat}(hz:SzK b n)(hn:n≤20)(hk:k≤n):ZL b k :=
 ⟨by have:=hz.aL;omega,by have:=hz.adv;omega,by have:=hz.seen;omega,by have:=hz.own;omega,by have:=hz.ent;have:=Nat.mul_le_mul hn hn;omega⟩
end Go.Dm.Tc
