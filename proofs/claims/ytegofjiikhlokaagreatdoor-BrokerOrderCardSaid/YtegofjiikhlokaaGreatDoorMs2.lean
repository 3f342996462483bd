/- A part of the proof. -/
import Derived.Test.YtegofjiikhlokaaGreatDoorMs1
import Derived.Test.YtegofjiikhlokaaGreatDoorMs0
set_option linter.all false
namespace Go.Dm.Tc
set_option maxRecDepth 20000
theorem ZB{α:Type}(l:List α)(e e':α)(r:List α)(sp:List α):(l++e::r++sp).set l.length e'=l++e'::r++sp:=by
 rw[List.append_assoc,List.append_assoc,List.set_append_right _ _ (Nat.le_refl _)]
 simp
theorem Sx{lo:Nat}{h:aA}{v:DV}{ety sz:Nat}{xs:List DV}(w:OwnR lo h v ety sz xs)(wf:WF h){id:Nat}{o:DO}(bD:id<h.n)(na:yG v id):OwnR lo (h.set id o) v ety sz xs:=by
 cases w with
 | nil hv hx=>exact .nil hv hx
 | arr k sp cap hv hg hl hi =>
  have eG:¬k=id:=fun e=>by subst e;exact na _ _ _ hv
  exact .arr k sp cap hv (by rw[cA wf bD,if_neg eG];exact hg) hl hi
theorem vO{lo:Nat}{h:aA}{v:DV}{ety sz:Nat}{xs:List DV}(w:OwnR lo h v ety sz xs){k:Nat}(hk:k<lo):yG v k:=by
 intro a b c e
 cases w with
 | nil hv hx=>rw[hv]at e;cases e
 | arr id sp cap hv hg hl hi=>rw[hv]at e;injection e;omega
set_option maxHeartbeats 1600000 in
theorem l161(S:List Fr)(me:Int)(aL:List Int)(adv:List bC)(seen:List ID)(own:List fV)(tc td:Int)(i4 n:Nat)(zb:DO) :
  ∀(rest done gN:List aV) (f:cY) (h:aA),done.length+rest.length=n→n≤100000→gN.length≤done.length→(∀e∈done++rest,bZ e.pred) →
   f 4=.ptr 0 6 0 0→f 5=.ptr 1 2 0 0→f 8=.ptr 3 6 0 0→f 56=.sl i4 7 0 n→f 57=.int .i64 n→f 58=.int .i64 done.length →
   h.get 0=some (.arr 36 6 [.agg [.int .i64 me,eL false 1 bQ aL,eL false 4 aG adv,eL false 2 eID seen,.sl i4 7 0 n,eL false 3 cT own]] (some 1))→h.get 1=some (.arr 40 2 [.agg [.int .i64 tc,.int .i64 td]] (some 1))→h.get 3=some zb →
   fW 4 h i4 114 7 ((done++rest).map aD)→OwnR 4 h (f 9) 114 7 (gN.map aD)→yG (f 9) i4→h.lim=0→4≤h.n→WF h →
  ∃ f' h',run D 96 (.block 0::.seq Ag::S) (.loop Ej) f h=run D 96 S Ag f' h'∧f' 4=.ptr 0 6 0 0∧f' 8=.ptr 3 6 0 0 ∧
   h'.get 0=some (.arr 36 6 [.agg [.int .i64 me,eL false 1 bQ aL,eL false 4 aG adv,eL false 2 eID seen,.sl i4 7 0 n,eL false 3 cT own]] (some 1))∧h'.get 3=some zb ∧
   fW 4 h' i4 114 7 ((cQ ⟨tc,td⟩ done rest gN).1.map aD)∧OwnR 4 h' (f' 9) 114 7 ((cQ ⟨tc,td⟩ done rest gN).2.map aD)∧(cQ ⟨tc,td⟩ done rest gN).1.length=n∧h'.lim=0∧4≤h'.n∧WF h':=by
 intro rest
 induction rest with
 | nil =>
  intro done gN f h hn BG hu hp h4 h5 h8 UI Nw E3 g0 g1 g3 o4 o9 na aM l8 wf
  have:¬(done.length<n):=by simp at hn;omega
  rw[aC Ej.eq_1]
  simp[Nw,E3,this]
  refine⟨_,_,rfl,by simp[h4],by simp[h8],g0,g3,?_,?_,?_,aM,l8,wf⟩
  ·simpa[cQ]using o4
  ·simpa[cQ]using o9
  ·simpa[cQ]using hn
 | cons e rest ih =>
  intro done gN f h hn BG hu hp h4 h5 h8 UI Nw E3 g0 g1 g3 o4 o9 na aM l8 wf
  have bD:done.length<n:=by simp at hn;omega
  have fS:=o4.lt
  have dV:=o4.lo
  have hL:(done++e::rest).length=n:=by simp at hn ⊢;omega
  obtain⟨⟨sp,cap,g4⟩,hl4,_⟩:=o4
  have hw:IntKind.i64.wrap ((done.length:Int)+1)=(done.length:Int)+1:=aX (by omega) (by omega)
  have n0:¬0=h.n:=by omega
  have n1:¬1=h.n:=by omega
  have n3:¬3=h.n:=by omega
  have n4:¬i4=h.n:=by omega
  have m0:¬h.n=0:=by omega
  have m1:¬h.n=1:=by omega
  have i0:¬0=i4:=by omega
  have i1:¬1=i4:=by omega
  have i3:¬3=i4:=by omega
  have j0:¬i4=0:=by omega
  have j1:¬i4=1:=by omega
  have xO:bS 7 (.sl i4 7 0 n) (.int .i64 (done.length:Int))=some (.ptr i4 7 done.length 0):=by simp[bS,asI,bD]
  have lC:(List.map aD (done++e::rest)++sp)[done.length]?=some (aD e):=by
   rw[List.getElem?_append_left (by simp),List.getElem?_map,List.getElem?_append_right (Nat.le_refl _)];simp
  have f1:=fun {α:Type} (t:Bool) (sz:Nat) (e:α→DV) (xs:List α)=>(eM t sz e xs).mono (show 1≤20 by decide)
  have VZ:=hp e (by simp)
  have hCv:=s90 (.int .i64 me) (eL false 1 bQ aL) (eL false 4 aG adv) (eL false 2 eID seen) (eL false 3 cT own) true (done++e::rest) tc td e.pred (by omega) VZ.unlike (Nat.le_trans VZ.len (by decide)) (fun x hx=>Nat.le_trans (hp x hx).len (by decide)) ((fA _ _).mono (by decide)) (f1 _ _ _ _) (f1 _ _ _ _) (f1 _ _ _ _) (f1 _ _ _ _)
  have o4R:∀o,OwnR 4 (h.push o) (.sl i4 7 0 n) 114 7 ((done++e::rest).map aD):=fun o=>by
   have:=(fW.toR (⟨⟨sp,cap,g4⟩,hl4,dV⟩:fW 4 h i4 114 7 ((done++e::rest).map aD))).push (o:=o)
   rw[List.length_map,hL]at this
   exact this
  have r4:∀o,resolve true (h.push o) 199 (.sl i4 7 0 n)=some (eL true 7 aD (done++e::rest)):=fun o=>(o4R o).resolve true (fun y _=>(cC y).1) (by decide)
  simp only[aD]at lC
  have Kq:∀F o,cQ ⟨tc,td⟩ done (e::rest) gN=cQ ⟨tc,td⟩ (done++[e]) rest gN→F 4=.ptr 0 6 0 0→F 5=.ptr 1 2 0 0→F 8=.ptr 3 6 0 0→F 56=.sl i4 7 0 n→F 57=.int .i64 n→F 58=.int .i64 ((done.length:Int)+1)→F 9=f 9 →
    ∃ f' h',run D 96 (.block 0::.seq Ag::S) (.loop Ej) F (h.push o)=run D 96 S Ag f' h'∧f' 4=.ptr 0 6 0 0∧f' 8=.ptr 3 6 0 0 ∧
   h'.get 0=some (.arr 36 6 [.agg [.int .i64 me,eL false 1 bQ aL,eL false 4 aG adv,eL false 2 eID seen,.sl i4 7 0 n,eL false 3 cT own]] (some 1))∧h'.get 3=some zb ∧
   fW 4 h' i4 114 7 ((cQ ⟨tc,td⟩ done (e::rest) gN).1.map aD)∧OwnR 4 h' (f' 9) 114 7 ((cQ ⟨tc,td⟩ done (e::rest) gN).2.map aD)∧(cQ ⟨tc,td⟩ done (e::rest) gN).1.length=n∧h'.lim=0∧4≤h'.n∧WF h':=by
   intro F o ht a4 a5 a8 a56 a57 a58 a9
   rw[ht]
   refine ih (done++[e]) gN F _ (by simp at hn ⊢;omega) BG (by simp;omega) (by simpa using hp) a4 a5 a8 a56 a57 (by rw[a58];simp) ?_ ?_ ?_ ?_ ?_ ?_ aM (by show 4≤h.n+1;omega) wf.push
   ·rw[cN,if_neg n0];exact g0
   ·rw[cN,if_neg n1];exact g1
   ·rw[cN,if_neg n3];exact g3
   ·have:=(⟨⟨sp,cap,g4⟩,hl4,dV⟩:fW 4 h i4 114 7 ((done++e::rest).map aD)).push (o:=o)
    simpa using this
   ·rw[a9];exact o9.push
   ·rw[a9];exact na
  rw[aC Ej.eq_1]
  by_cases ht:e.tree=⟨tc,td⟩
  ·have uP:e.tree.aS=tc:=by rw[ht]
   have Bb:e.tree.seq=td:=by rw[ht]
   cases sK:e.up with
   | true =>
    have wR:cQ ⟨tc,td⟩ done (e::rest) gN=cQ ⟨tc,td⟩ (done++[e]) rest gN:=by simp[cQ,sK]
    simp[h4,h5,UI,Nw,E3,bD,xO,g4,lC,aD,aM,n0,n1,n4,m0,m1,g0,g1,uP,Bb,sK,hw]
    generalize hF:upd _ 58 _=F
    exact Kq F _ wR (by rw[←hF];simp[h4]) (by rw[←hF];simp[h5]) (by rw[←hF];simp[h8]) (by rw[←hF];simp[UI]) (by rw[←hF];simp[Nw]) (by rw[←hF];simp) (by rw[←hF];simp)
   | false =>
    cases hC:cD (done++e::rest) ⟨tc,td⟩ e.pred with
    | true =>
     rw[hC]at hCv
     have wR:cQ ⟨tc,td⟩ done (e::rest) gN=cQ ⟨tc,td⟩ (done++[e]) rest gN:=by simp only[cQ];rw[if_neg];rw[hC];simp
     simp[h4,h5,UI,Nw,E3,bD,xO,g4,lC,aD,aM,n0,n1,n4,m0,m1,g0,g1,uP,Bb,sK,hw,-lB,r4,e90,hCv]
     generalize hF:upd _ 58 _=F
     exact Kq F _ wR (by rw[←hF];simp[h4]) (by rw[←hF];simp[h5]) (by rw[←hF];simp[h8]) (by rw[←hF];simp[UI]) (by rw[←hF];simp[Nw]) (by rw[←hF];simp) (by rw[←hF];simp)
    | false =>
     rw[hC]at hCv
     have Zb:cQ ⟨tc,td⟩ done (e::rest) gN=cQ ⟨tc,td⟩ (done++[{e with up:=true}]) rest (gN++[{e with up:=true}]):=by simp only[cQ];rw[if_pos ⟨ht,sK,hC⟩]
     simp[h4,h5,UI,Nw,E3,bD,xO,g4,lC,aD,aM,n0,n1,n4,m0,m1,i0,i1,i3,j0,j1,g0,g1,uP,Bb,sK,hw,-lB,r4,e90,hCv,hl4,fS,wf,turn]
     have Au:(List.map aD done++DV.agg [.int .i64 tc,.int .i64 td,.int .i64 e.sub.aS,.int .i64 e.sub.seq,bF e.pred,.int .i64 e.bL,.bool false]::List.map aD rest++sp).set done.length (.agg [.int .i64 tc,.int .i64 td,.int .i64 e.sub.aS,.int .i64 e.sub.seq,bF e.pred,.int .i64 e.bL,.bool true])=List.map aD (done++{e with up:=true}::rest)++sp:=by
      have:=ZB (List.map aD done) (DV.agg [.int .i64 tc,.int .i64 td,.int .i64 e.sub.aS,.int .i64 e.sub.seq,bF e.pred,.int .i64 e.bL,.bool false]) (.agg [.int .i64 tc,.int .i64 td,.int .i64 e.sub.aS,.int .i64 e.sub.seq,bF e.pred,.int .i64 e.bL,.bool true]) (List.map aD rest) sp
      rw[List.length_map]at this
      rw[this]
      simp[aD,uP,Bb]
     generalize hA:aY _ _ _ _ _ _=A
     obtain⟨v',h',rfl,o9',x9,fr9,na9⟩:=rF ((Sx o9 wf fS na).push.push) (by simp[wf]) (by simp;omega) (by simp[aM]) hA (by simp;omega) (by decide)
     clear hA
     have y0:=fr9 0 (by simp) (vO o9 (by decide))
     have y1:=fr9 1 (by simp) (vO o9 (by decide))
     have y3:=fr9 3 (by simp;omega) (vO o9 (by decide))
     have y4:=fr9 i4 (by simp;omega) na
     have ny:=na9 i4 (by simp;omega) na
     have yl:=x9.lim
     have yw:=x9.wf
     have yn:=x9.le
     have n41:¬i4=h.n+1:=by omega
     have n31:¬3=h.n+1:=by omega
     have m2:¬h.n=2:=by omega
     simp[wf,fS,n0,n1,n3,n4,m0,m1,m2,i0,i1,i3,n41,n31,g0,g1,g3,aM]at y0 y1 y3 y4 yl
     simp[E3,hw]
     generalize hF:upd _ 58 _=F
     rw[Zb]
     refine ih (done++[{e with up:=true}]) (gN++[{e with up:=true}]) F h' (by simp at hn ⊢;omega) BG (by simp;omega) ?_ ?_ ?_ ?_ ?_ ?_ ?_ y0 y1 y3 ⟨⟨sp,cap,?_⟩,?_,dV⟩ ?_ ?_ yl yn yw
     ·intro x hx
      simp only[List.append_assoc,List.singleton_append,List.mem_append,List.mem_cons]at hx
      rcases hx with hx|rfl|hx
      ·exact hp x (by simp[hx])
      ·exact VZ
      ·exact hp x (by simp[hx])
     ·rw[←hF];simp[h4]
     ·rw[←hF];simp[h5]
     ·rw[←hF];simp[h8]
     ·rw[←hF];simp[UI]
     ·rw[←hF];simp[Nw]
     ·rw[←hF];simp
     ·rw[y4];simp[aD,uP,Bb]
     ·rw[yl];exact Nat.zero_le _
     ·rw[←hF];simp;simpa[aD,uP,Bb]using o9'
     ·rw[←hF];simp;exact ny
  ·have Dh:=uI ht
   simp only at Dh
   have wR:cQ ⟨tc,td⟩ done (e::rest) gN=cQ ⟨tc,td⟩ (done++[e]) rest gN:=by simp[cQ,ht]
   simp[h4,h5,UI,Nw,E3,bD,xO,g4,lC,aD,aM,n0,n1,n4,m0,m1,g0,g1,Dh,hw]
   generalize hF:upd _ 58 _=F
   exact Kq F _ wR (by rw[←hF];simp[h4]) (by rw[←hF];simp[h5]) (by rw[←hF];simp[h8]) (by rw[←hF];simp[UI]) (by rw[←hF];simp[Nw]) (by rw[←hF];simp) (by rw[←hF];simp)
end Go.Dm.Tc
namespace Go.Dm.Tc
theorem A8{l:List aV}(hr:eY l){t s:ID}{i:Nat}{a:aV}(hi:l[i]?=some a)(ha:isE t s a=true):l.take i++l.drop (i+1)=l.filter fun x=>!isE t s x:=by
 have bD:i<l.length:=by
  by_cases h:i<l.length
  ·exact h
  ·rw[List.getElem?_eq_none (by omega)]at hi;cases hi
 have xO:l[i]=a:=by rw[List.getElem?_eq_getElem bD]at hi;exact Option.some.inj hi
 have IW:a.tree=t∧a.sub=s:=by simpa[isE]using ha
 have h0:eW t s a=0:=nX.2 IW
 have eG:∀j (hj:j<l.length),j≠i→isE t s l[j]=false:=by
  intro j hj hji
  cases he:isE t s l[j]with
  | false=>rfl
  | true =>
   have qQ:l[j].tree=t∧l[j].sub=s:=by simpa[isE]using he
   rcases Nat.lt_or_gt_of_ne hji with h|h
   ·have:=List.pairwise_iff_getElem.1 hr j i hj bD h
    rw[xO,IW.1,IW.2,nX.2 qQ]at this
    omega
   ·have:=List.pairwise_iff_getElem.1 hr i j bD hj h
    rw[xO,qQ.1,qQ.2,h0]at this
    omega
 have h1:(l.take i).filter (fun x=>!isE t s x)=l.take i:=by
  rw[List.filter_eq_self]
  intro y hy
  obtain⟨j,hj,rfl⟩:=List.mem_iff_getElem.1 hy
  rw[List.length_take]at hj
  have:=eG j (by omega) (by omega)
  simpa using this
 have h2:(l.drop (i+1)).filter (fun x=>!isE t s x)=l.drop (i+1):=by
  rw[List.filter_eq_self]
  intro y hy
  obtain⟨j,hj,rfl⟩:=List.mem_iff_getElem.1 hy
  rw[List.length_drop]at hj
  have:=eG (i+1+j) (by omega) (by omega)
  simpa using this
 have h3:(l.drop i).filter (fun x=>!isE t s x)=l.drop (i+1):=by
  rw[List.drop_eq_getElem_cons bD,List.filter_cons,xO,ha,h2];simp
 calc l.take i++l.drop (i+1)=(l.take i++l.drop i).filter (fun x=>!isE t s x):=by rw[List.filter_append,h1,h3]
  _=_:=by rw[List.take_append_drop]
theorem s161(b:aF)(tc td sc sd bL:Int)(hs:fT b)(hq:∀e∈b.entries,bZ e.pred)(re:eY b.entries) :
  pcF D I7 [aH .none b,.agg [.int .i64 tc,.int .i64 td],.agg [.int .i64 sc,.int .i64 sd],.int .i64 bL]=some (.tup [aH .none (cF b ⟨tc,td⟩ ⟨sc,sd⟩ bL).1,eL false 7 aD (cF b ⟨tc,td⟩ ⟨sc,sd⟩ bL).2.1,.bool (cF b ⟨tc,td⟩ ⟨sc,sd⟩ bL).2.2]):=by
 obtain⟨me,aL,adv,seen,ent,own⟩:=b
 obtain⟨z1,z2,z3,z4,z5⟩:=hs
 simp only at z1 z2 z3 z4 z5 re hq
 obtain⟨R,hR⟩:∃ R,R=DV.tup [aH .none (cF ⟨me,aL,adv,seen,ent,own⟩ ⟨tc,td⟩ ⟨sc,sd⟩ bL).1,eL false 7 aD (cF ⟨me,aL,adv,seen,ent,own⟩ ⟨tc,td⟩ ⟨sc,sd⟩ bL).2.1,.bool (cF ⟨me,aL,adv,seen,ent,own⟩ ⟨tc,td⟩ ⟨sc,sd⟩ bL).2.2]:=⟨_,rfl⟩
 rw[←hR]
 have lC:ent.length≤1000000:=by omega
 have hPl:=s156 (.int .i64 me) (eL false 1 bQ aL) (eL false 4 aG adv) (eL false 2 eID seen) (eL false 3 cT own) true ent tc td sc sd re lC
 have wN:=hitE re ⟨tc,td⟩ ⟨sc,sd⟩
 unfold pcF
 rw[aJ _ _ _ _ (by simp[I7])]
 simp[I7,aH,dG.none,x7]
 generalize hA:dN _ _ _ _ _=A
 obtain⟨v4,K,rfl,o4,x,_⟩:=yY (lo:=4) (qG ..) (by simp) (by simp) (by simp) (by simp;omega) (by decide) hA
 clear hA
 have a0:=x.get 0 (by decide)
 have a1:=x.get 1 (by decide)
 have a2:=x.get 2 (by decide)
 have a3:=x.get 3 (by decide)
 have q0:=x.lim
 have w0:=x.wf
 have n0:=x.le
 simp at a0 a1 a2 a3 q0
 have l0':0<K.n:=by omega
 obtain⟨H,hH⟩:∃ H,H=K.set 0 (.arr 36 6 [.agg [.int .i64 me,eL false 1 bQ aL,eL false 4 aG adv,eL false 2 eID seen,v4,eL false 3 cT own]] (some 1)):=⟨_,rfl⟩
 have wH:WF H:=by rw[hH];exact w0.set
 have nH:H.n=K.n:=by rw[hH];rfl
 have lH:H.lim=0:=by rw[hH];exact q0
 have g0:H.get 0=some (.arr 36 6 [.agg [.int .i64 me,eL false 1 bQ aL,eL false 4 aG adv,eL false 2 eID seen,v4,eL false 3 cT own]] (some 1)):=by rw[hH,cA w0 l0',if_pos rfl]
 have g1:H.get 1=some (.arr 40 2 [.agg [.int .i64 tc,.int .i64 td]] (some 1)):=by rw[hH,cA w0 l0',if_neg (by decide)];exact a1
 have g2:H.get 2=some (.arr 40 2 [.agg [.int .i64 sc,.int .i64 sd]] (some 1)):=by rw[hH,cA w0 l0',if_neg (by decide)];exact a2
 have g3:H.get 3=some (.arr 36 6 [.agg [.int .i64 0,.nsl,.nsl,.nsl,.nsl,.nsl]] (some 1)):=by rw[hH,cA w0 l0',if_neg (by decide)];exact a3
 have st4:=o4.bE
 have ec4:=o4.aP
 replace o4:Own 4 H v4 114 7 (ent.map aD):=by rw[hH];exact o4.aW w0 (by decide) l0'
 simp[a0,a1,a2,a3,q0,w0,l0',st4,ec4,turn]
 rw[←hH]
 clear hH
 have l3:3<H.n:=by omega
 have l0:0<H.n:=by omega
 have r1:resolve true H 199 v4=some (eL true 7 aD ent):=o4.resolve true (fun y _=>(cC y).1) (by decide)
 have r2:∀o',resolve false (H.set 3 o') 198 v4=some (eL false 7 aD ent):=fun o'=>(o4.aW wH (by decide) l3).resolve false (fun y _=>(cC y).1) (by decide)
 cases yW:ent.find? (isE ⟨tc,td⟩ ⟨sc,sd⟩)with
 | none =>
  rw[yW]at wN
  simp only at wN
  have He:cF ⟨me,aL,adv,seen,ent,own⟩ ⟨tc,td⟩ ⟨sc,sd⟩ bL=(⟨me,aL,adv,seen,ent,own⟩,[],false):=by simp[cF,yW]
  simp[r1,r2,Hk,hPl,wN,g0,g3,lH,wH,l3,turn,aI]
  simp[hR,He,aH,dG.none,hY]
 | some e =>
  rw[yW]at wN
  simp only at wN
  obtain⟨QJ,OG⟩:=wN
  obtain⟨i,hi⟩:∃ i,aU (eW ⟨tc,td⟩ ⟨sc,sd⟩) ent=i:=⟨_,rfl⟩
  rw[hi]at OG hPl
  have Hf:i<ent.length:=by
   by_cases h:i<ent.length
   ·exact h
   ·rw[List.getElem?_eq_none (by omega)]at OG;cases OG
  obtain⟨id,sp,cap,hv4,hg4,hl4,hlo4,Gf,Bw⟩:=o4.toR.index (i:=i) (x:=aD e) (by simp[OG]) .i64
  simp only[aD]at Bw
  by_cases tC:e.bL=bL
  ·have hw:IntKind.i64.wrap ((i:Int)+1)=(i:Int)+1:=aX (by omega) (by omega)
   have Ef:=A8 re OG (List.find?_some yW)
   obtain⟨v4',H',hD,m4,x2,_⟩:=s198 4 H v4 ent i o4 Hf lC wH (by omega)
   rw[Ef]at m4
   obtain⟨fl,Va⟩:∃ fl,(ent.filter fun x=>!isE ⟨tc,td⟩ ⟨sc,sd⟩ x)=fl:=⟨_,rfl⟩
   rw[Va]at m4
   have hfln:fl.length≤100000:=by rw[←Va];exact Nat.le_trans (List.length_filter_le ..) z4
   have hflp:∀x∈fl,bZ x.pred:=fun x hx=>hq x (by rw[←Va]at hx;exact(List.mem_filter.1 hx).1)
   have b0:=x2.get 0 (by decide)
   have b1:=x2.get 1 (by decide)
   have b3:=x2.get 3 (by decide)
   have q2:=x2.lim
   have w2:=x2.wf
   have n2:=x2.le
   rw[g0]at b0
   rw[g1]at b1
   rw[g3]at b3
   rw[lH]at q2
   have Bd:0<H'.n:=by omega
   have h23:3<H'.n:=by omega
   have r4:=fun o o'=>((m4.aW (o:=o) w2 (by decide) Bd).aW (o:=o') w2.set (by decide) h23).resolve (n:=198) false (fun y _=>(cC y).1) (by decide)
   cases sK:e.up with
   | false =>
    have He:cF ⟨me,aL,adv,seen,ent,own⟩ ⟨tc,td⟩ ⟨sc,sd⟩ bL=(⟨me,aL,adv,seen,fl,own⟩,[],false):=by simp[cF,yW,tC,sK,Va]
    rw[sK]at Bw
    simp[r1,Hk,hPl,QJ,Gf,hg4,Bw,eq_true tC,g0,g3,lH,wH,l3,hw,hD,b0,b3,q2,w2,Bd,h23,m4.bE,m4.aP,r4,turn,aI]
    simp[hR,He,aH,dG.none,hY]
   | true =>
    have He:cF ⟨me,aL,adv,seen,ent,own⟩ ⟨tc,td⟩ ⟨sc,sd⟩ bL=(⟨me,aL,adv,seen,(cQ ⟨tc,td⟩ [] fl []).1,own⟩,(cQ ⟨tc,td⟩ [] fl []).2,true):=by simp[cF,yW,tC,sK,Va]
    rw[sK]at Bw
    have st:=m4.bE
    have ec:=m4.aP
    cases m4 with
    | nil hv hx =>
     subst hv
     have hf0:fl=[]:=List.map_eq_nil_iff.1 hx
     subst hf0
     simp[r1,Hk,hPl,QJ,Gf,hg4,Bw,eq_true tC,g0,g3,lH,wH,l3,hw,hD,b0,b3,q2,w2,Bd,h23,turn]
     rw[aC Ej.eq_1]
     simp[Ag,b0,b3,q2,w2,Bd,h23,turn,aI]
     simp[hR,He,aH,dG.none,hY,cQ]
    | arr id2 sp2 cap2 hv hg hl hlo2 =>
     subst hv
     simp only[List.length_map]at hD st ec
     simp[r1,Hk,hPl,QJ,Gf,hg4,Bw,eq_true tC,g0,g3,lH,wH,l3,hw,hD,b0,b3,q2,w2,Bd,h23,turn]
     generalize hF:upd _ 58 _=F
     have j0:¬id2=0:=by omega
     obtain⟨f1,K4,k1,k2,k3,c0,c3,o5,o9,cJ,q4,n4,w4⟩:=l161 [] me aL adv seen own tc td id2 fl.length (.arr 36 6 [.agg [.int .i64 0,.nsl,.nsl,.nsl,.nsl,.nsl]] (some 1)) fl [] [] F (by simp) hfln (by simp) (by simpa using hflp) (by rw[←hF];simp) (by rw[←hF];simp) (by rw[←hF];simp) (by rw[←hF];simp) (by rw[←hF];simp) (by rw[←hF];simp)
      (h:=H'.set 0 (.arr 36 6 [.agg [.int .i64 me,eL false 1 bQ aL,eL false 4 aG adv,eL false 2 eID seen,.sl id2 7 0 fl.length,eL false 3 cT own]] (some 1))) (by simp[w2,Bd]) (by simp[w2,Bd,b1]) (by simp[w2,Bd,b3]) ⟨⟨sp2,cap2,by simp[w2,Bd,j0,hg]⟩,by exact hl,hlo2⟩ (by rw[←hF];simp;exact .nil rfl rfl) (by rw[←hF];simp;intro a b c e;cases e) q2 (by exact n2) w2.set
     rw[k1]
     clear hF k1
     have y0:0<K4.n:=by omega
     have y3:3<K4.n:=by omega
     have s5:=fun o'=>(o5.toR.aW (o:=o') w4 (by decide) y3).resolve (n:=198) false (fun y _=>(cC y).1) (by decide)
     have s9:=fun o'=>(o9.aW (o:=o') w4 (by decide) y3).resolve (n:=199) false (fun y _=>(cC y).1) (by decide)
     simp only[List.length_map,cJ]at s5
     simp[Ag,k2,k3,c0,c3,q4,w4,y3,turn,-lB,s5,s9,aI]
     simp[hR,He,aH,dG.none]
  ·have He:cF ⟨me,aL,adv,seen,ent,own⟩ ⟨tc,td⟩ ⟨sc,sd⟩ bL=(⟨me,aL,adv,seen,ent,own⟩,[],false):=by simp[cF,yW,tC]
   simp[r1,r2,Hk,hPl,QJ,Gf,hg4,Bw,tC,g0,g3,lH,wH,l3,turn,aI]
   simp[hR,He,aH,dG.none,hY]
end Go.Dm.Tc
namespace Go.Dm.Tc
theorem MX{lo:Nat}{h:aA}{v:DV}{ety sz:Nat}{xs:List DV}(w:OwnR lo h v ety sz xs){k:Nat}(hk:h.n≤k):yG v k:=by
 intro a b c e
 cases w with
 | nil hv hx=>rw[hv]at e;cases e
 | arr id sp cap hv hg hl hi=>rw[hv]at e;injection e with e1;have:=bB hg;omega
set_option maxHeartbeats 3200000 in
theorem l149(S:List Fr)(me:Int)(aL:List Int)(adv:List bC)(seen:List ID)(own:List fV)(tc td:Int)(n:Nat)(zb:DO) :
  ∀(rest done gN:List aV) (i4:Nat) (f:cY) (h:aA),done.length+rest.length=n→n≤100000→gN.length≤done.length→(∀e∈done++rest,bZ e.pred) →
   f 4=.ptr 0 6 0 0→f 5=.ptr 1 2 0 0→f 8=.ptr 3 6 0 0→f 57=.int .i64 n→f 58=.int .i64 done.length →
   h.get 0=some (.arr 36 6 [.agg [.int .i64 me,eL false 1 bQ aL,eL false 4 aG adv,eL false 2 eID seen,.sl i4 7 0 n,eL false 3 cT own]] (some 1))→h.get 1=some (.arr 40 2 [.agg [.int .i64 tc,.int .i64 td]] (some 1))→h.get 3=some zb →
   fW 4 h i4 114 7 ((done++rest).map aD)→OwnR 4 h (f 13) 114 7 (gN.map aD)→yG (f 13) i4→h.lim=0→4≤h.n→WF h →
  ∃ i5 f' h',run D 104 (.block 0::.seq Ek::S) (.loop Iu) f h=run D 104 S Ek f' h'∧f' 4=.ptr 0 6 0 0∧f' 8=.ptr 3 6 0 0 ∧
   h'.get 0=some (.arr 36 6 [.agg [.int .i64 me,eL false 1 bQ aL,eL false 4 aG adv,eL false 2 eID seen,.sl i5 7 0 n,eL false 3 cT own]] (some 1))∧h'.get 3=some zb ∧
   fW 4 h' i5 114 7 ((cQ ⟨tc,td⟩ done rest gN).1.map aD)∧OwnR 4 h' (f' 13) 114 7 ((cQ ⟨tc,td⟩ done rest gN).2.map aD)∧(cQ ⟨tc,td⟩ done rest gN).1.length=n∧h'.lim=0∧4≤h'.n∧WF h':=by
 intro rest
 induction rest with
 | nil =>
  intro done gN i4 f h hn BG hu hp h4 h5 h8 Nw E3 g0 g1 g3 o4 o9 na aM l8 wf
  have:¬(done.length<n):=by simp at hn;omega
  rw[aC Iu.eq_1]
  simp[Nw,E3,this]
  refine⟨i4,_,_,rfl,by simp[h4],by simp[h8],g0,g3,?_,?_,?_,aM,l8,wf⟩
  ·simpa[cQ]using o4
  ·simpa[cQ]using o9
  ·simpa[cQ]using hn
 | cons e rest ih =>
  intro done gN i4 f h hn BG hu hp h4 h5 h8 Nw E3 g0 g1 g3 o4 o9 na aM l8 wf
  have bD:done.length<n:=by simp at hn;omega
  have fS:=o4.lt
  have dV:=o4.lo
  have hL:(done++e::rest).length=n:=by simp at hn ⊢;omega
  have o4':=o4
  obtain⟨⟨sp,cap,g4⟩,hl4,_⟩:=o4
  have hw:IntKind.i64.wrap ((done.length:Int)+1)=(done.length:Int)+1:=aX (by omega) (by omega)
  have n0:¬0=h.n:=by omega
  have n1:¬1=h.n:=by omega
  have n3:¬3=h.n:=by omega
  have n4:¬i4=h.n:=by omega
  have m0:¬h.n=0:=by omega
  have m1:¬h.n=1:=by omega
  have i0:¬0=i4:=by omega
  have i1:¬1=i4:=by omega
  have i3:¬3=i4:=by omega
  have j0:¬i4=0:=by omega
  have j1:¬i4=1:=by omega
  have xO:∀i,bS 7 (.sl i 7 0 n) (.int .i64 (done.length:Int))=some (.ptr i 7 done.length 0):=fun i=>by simp[bS,asI,bD]
  have lC:(List.map aD (done++e::rest)++sp)[done.length]?=some (aD e):=by
   rw[List.getElem?_append_left (by simp),List.getElem?_map,List.getElem?_append_right (Nat.le_refl _)];simp
  have VZ:=hp e (by simp)
  have hCv:=s148 (.int .i64 me) (eL false 1 bQ aL) (eL false 4 aG adv) (eL false 2 eID seen) (eL false 3 cT own) true (done++e::rest) tc td e.pred (by omega) VZ (fun x hx=>Nat.le_trans (hp x hx).len (by decide))
  have r4:∀o,resolve true (h.push o) 199 (.sl i4 7 0 n)=some (eL true 7 aD (done++e::rest)):=fun o=>by
   have:=(o4'.toR.push (o:=o)).resolve (n:=199) true (fun y _=>(cC y).1) (by decide)
   rw[List.length_map,hL]at this
   exact this
  simp only[aD]at lC
  have Kq:∀F o,cQ ⟨tc,td⟩ done (e::rest) gN=cQ ⟨tc,td⟩ (done++[e]) rest gN→F 4=.ptr 0 6 0 0→F 5=.ptr 1 2 0 0→F 8=.ptr 3 6 0 0→F 57=.int .i64 n→F 58=.int .i64 ((done.length:Int)+1)→F 13=f 13 →
    ∃ i5 f' h',run D 104 (.block 0::.seq Ek::S) (.loop Iu) F (h.push o)=run D 104 S Ek f' h'∧f' 4=.ptr 0 6 0 0∧f' 8=.ptr 3 6 0 0 ∧
   h'.get 0=some (.arr 36 6 [.agg [.int .i64 me,eL false 1 bQ aL,eL false 4 aG adv,eL false 2 eID seen,.sl i5 7 0 n,eL false 3 cT own]] (some 1))∧h'.get 3=some zb ∧
   fW 4 h' i5 114 7 ((cQ ⟨tc,td⟩ done (e::rest) gN).1.map aD)∧OwnR 4 h' (f' 13) 114 7 ((cQ ⟨tc,td⟩ done (e::rest) gN).2.map aD)∧(cQ ⟨tc,td⟩ done (e::rest) gN).1.length=n∧h'.lim=0∧4≤h'.n∧WF h':=by
   intro F o ht a4 a5 a8 a57 a58 a9
   rw[ht]
   refine ih (done++[e]) gN i4 F _ (by simp at hn ⊢;omega) BG (by simp;omega) (by simpa using hp) a4 a5 a8 a57 (by rw[a58];simp) ?_ ?_ ?_ ?_ ?_ ?_ aM (by show 4≤h.n+1;omega) wf.push
   ·rw[cN,if_neg n0];exact g0
   ·rw[cN,if_neg n1];exact g1
   ·rw[cN,if_neg n3];exact g3
   ·have:=o4'.push (o:=o)
    simpa using this
   ·rw[a9];exact o9.push
   ·rw[a9];exact na
  rw[aC Iu.eq_1]
  by_cases ht:e.tree=⟨tc,td⟩
  ·have uP:e.tree.aS=tc:=by rw[ht]
   have Bb:e.tree.seq=td:=by rw[ht]
   cases sK:e.up with
   | true =>
    have wR:cQ ⟨tc,td⟩ done (e::rest) gN=cQ ⟨tc,td⟩ (done++[e]) rest gN:=by simp[cQ,sK]
    simp[h4,h5,Nw,E3,bD,xO,g4,lC,aD,aM,n0,n1,n4,m0,m1,g0,g1,uP,Bb,sK,hw]
    generalize hF:upd _ 58 _=F
    exact Kq F _ wR (by rw[←hF];simp[h4]) (by rw[←hF];simp[h5]) (by rw[←hF];simp[h8]) (by rw[←hF];simp[Nw]) (by rw[←hF];simp) (by rw[←hF];simp)
   | false =>
    cases hC:cD (done++e::rest) ⟨tc,td⟩ e.pred with
    | true =>
     rw[hC]at hCv
     have wR:cQ ⟨tc,td⟩ done (e::rest) gN=cQ ⟨tc,td⟩ (done++[e]) rest gN:=by simp only[cQ];rw[if_neg];rw[hC];simp
     simp[h4,h5,Nw,E3,bD,xO,g4,lC,aD,aM,n0,n1,n4,m0,m1,g0,g1,uP,Bb,sK,hw,-lB,r4,HF,hCv]
     generalize hF:upd _ 58 _=F
     exact Kq F _ wR (by rw[←hF];simp[h4]) (by rw[←hF];simp[h5]) (by rw[←hF];simp[h8]) (by rw[←hF];simp[Nw]) (by rw[←hF];simp) (by rw[←hF];simp)
    | false =>
     rw[hC]at hCv
     have Zb:cQ ⟨tc,td⟩ done (e::rest) gN=cQ ⟨tc,td⟩ (done++[{e with up:=true}]) rest (gN++[{e with up:=true}]):=by simp only[cQ];rw[if_pos ⟨ht,sK,hC⟩]
     have n41:¬i4=h.n+1:=by omega
     have hele:Uh 7 7 0 n (some (.arr 114 7 (List.map aD done++DV.agg [.int .i64 tc,.int .i64 td,.int .i64 e.sub.aS,.int .i64 e.sub.seq,bF e.pred,.int .i64 e.bL,.bool false]::(List.map aD rest++sp)) cap))=some (List.map aD (done++e::rest)):=by
      have hl:(List.map aD (done++e::rest)).length=n:=by simpa using hL
      have Ec:List.map aD done++DV.agg [.int .i64 tc,.int .i64 td,.int .i64 e.sub.aS,.int .i64 e.sub.seq,bF e.pred,.int .i64 e.bL,.bool false]::(List.map aD rest++sp)=List.map aD (done++e::rest)++sp:=by simp[aD,uP,Bb,sK]
      rw[Ec,xX,if_pos ⟨rfl,rfl,by simp at hl ⊢;omega⟩,List.drop_zero,List.take_left' hl]
     simp[h4,h5,Nw,E3,bD,xO,g4,lC,aD,aM,n0,n1,n4,n41,m0,m1,i0,i1,i3,j0,j1,g0,g1,uP,Bb,sK,hw,-lB,r4,HF,hCv,hl4,fS,wf,turn,-xX,hele]
     generalize hA:aY _ _ _ _ _ _=A
     obtain⟨v5,K1,rfl,o5,x5,_,_⟩:=rF (lo:=h.n+1) (xs:=[]) (.arr (h.n+1) [] (some 0) rfl (by simp) (by simp[aM]) (Nat.le_refl _)) (by simp[wf]) (by simp) (by simp[aM]) hA (by simp;simp at hL;omega) (by decide)
     clear hA
     have hlow5:∀k,k<h.n→K1.get k=h.get k:=fun k hk=>by
      rw[x5.get k (by omega)]
      have a1:¬k=h.n+1:=by omega
      have a2:¬k=h.n:=by omega
      simp[a1,a2]
     have hn5:=x5.le
     have wf5:=x5.wf
     have lim5:K1.lim=0:=by rw[x5.lim];simp[aM]
     have o9k:OwnR 4 K1 (f 13) 114 7 (gN.map aD):=o9.ext ⟨by omega,by rw[lim5,aM],hlow5,wf5⟩
     cases o5 with
     | nil hv hx=>simp at hx
     | arr i5 sp5 cap5 hv hg5 m7 WE =>
      have na5:yG (f 13) i5:=MX o9 (by omega)
      have hid5:=bB hg5
      subst hv
      have b0:=(hlow5 0 (by omega)).trans g0
      have b1:=(hlow5 1 (by omega)).trans g1
      have b3:=(hlow5 3 (by omega)).trans g3
      have hln5:(([]:List DV)++(List.map aD done++DV.agg [.int .i64 tc,.int .i64 td,.int .i64 e.sub.aS,.int .i64 e.sub.seq,bF e.pred,.int .i64 e.bL,.bool false]::List.map aD rest)).length=n:=by simp;simpa using hL
      rw[hln5]
      rw[List.nil_append]at hg5
      have k50:¬i5=0:=by omega
      have k05:¬0=i5:=by omega
      have l05:0<K1.n:=by omega
      have hli5:K1.lim≤i5:=m7
      have hel5:(List.map aD done++DV.agg [.int .i64 tc,.int .i64 td,.int .i64 e.sub.aS,.int .i64 e.sub.seq,bF e.pred,.int .i64 e.bL,.bool false]::List.map aD rest++sp5)[done.length]?=some (DV.agg [.int .i64 tc,.int .i64 td,.int .i64 e.sub.aS,.int .i64 e.sub.seq,bF e.pred,.int .i64 e.bL,.bool false]):=by
       rw[List.append_assoc,List.getElem?_append_right (by simp)];simp
      simp[h4,E3,b0,lim5,wf5,l05,xO,hg5,k50,k05,hid5,hli5,hel5,turn]
      generalize hA:aY _ _ _ _ _ _=A
      obtain⟨v',h',rfl,o9',x9,fr9,na9⟩:=rF ((Sx (Sx o9k wf5 l05 (vO o9k (by decide))) wf5.set hid5 na5).push) (by simp[wf5]) (by simp;omega) (by simp[lim5]) hA (by simp;omega) (by decide)
      clear hA
      have y0:=fr9 0 (by simp) (vO o9k (by decide))
      have y1:=fr9 1 (by simp;omega) (vO o9k (by decide))
      have y3:=fr9 3 (by simp;omega) (vO o9k (by decide))
      have y4:=fr9 i5 (by simp;omega) na5
      have ny:=na9 i5 (by simp;omega) na5
      have yl:=x9.lim
      have yw:=x9.wf
      have yn:=x9.le
      have e0:¬0=K1.n:=by omega
      have e1:¬1=K1.n:=by omega
      have e3:¬3=K1.n:=by omega
      have e5:¬i5=K1.n:=by omega
      have d1:¬1=i5:=by omega
      have d3:¬3=i5:=by omega
      simp[wf5,hid5,l05,e0,e1,e3,e5,k50,k05,d1,d3,b0,b1,b3,lim5]at y0 y1 y3 y4 yl
      simp[E3,hw]
      generalize hF:upd _ 58 _=F
      rw[Zb]
      refine ih (done++[{e with up:=true}]) (gN++[{e with up:=true}]) i5 F h' (by simp at hn ⊢;omega) BG (by simp;omega) ?_ ?_ ?_ ?_ ?_ ?_ y0 y1 y3 ⟨⟨sp5,cap5,?_⟩,?_,by omega⟩ ?_ ?_ yl yn yw
      ·intro x hx
       simp only[List.append_assoc,List.singleton_append,List.mem_append,List.mem_cons]at hx
       rcases hx with hx|rfl|hx
       ·exact hp x (by simp[hx])
       ·exact VZ
       ·exact hp x (by simp[hx])
      ·rw[←hF];simp[h4]
      ·rw[←hF];simp[h5]
      ·rw[←hF];simp[h8]
      ·rw[←hF];simp[Nw]
      ·rw[←hF];simp
      ·rw[y4];simp[aD,uP,Bb]
      ·rw[yl];exact Nat.zero_le _
      ·rw[←hF];simp;simpa[aD,uP,Bb]using o9'
      ·rw[←hF];simp;exact ny
  ·have Dh:=uI ht
   simp only at Dh
   have wR:cQ ⟨tc,td⟩ done (e::rest) gN=cQ ⟨tc,td⟩ (done++[e]) rest gN:=by simp[cQ,ht]
   simp[h4,h5,Nw,E3,bD,xO,g4,lC,aD,aM,n0,n1,n4,m0,m1,g0,g1,Dh,hw]
   generalize hF:upd _ 58 _=F
   exact Kq F _ wR (by rw[←hF];simp[h4]) (by rw[←hF];simp[h5]) (by rw[←hF];simp[h8]) (by rw[←hF];simp[Nw]) (by rw[←hF];simp) (by rw[←hF];simp)
end Go.Dm.Tc
namespace Go.Dm.Tc
set_option maxHeartbeats 1600000 in
theorem s149(b:aF)(tc td sc sd bL:Int)(hs:fT b)(hq:∀e∈b.entries,bZ e.pred)(re:eY b.entries) :
  pcF D Qu [aH .none b,.agg [.int .i64 tc,.int .i64 td],.agg [.int .i64 sc,.int .i64 sd],.int .i64 bL]=some (.tup [aH .none (cF b ⟨tc,td⟩ ⟨sc,sd⟩ bL).1,eL false 7 aD (cF b ⟨tc,td⟩ ⟨sc,sd⟩ bL).2.1,.bool (cF b ⟨tc,td⟩ ⟨sc,sd⟩ bL).2.2]):=by
 obtain⟨me,aL,adv,seen,ent,own⟩:=b
 obtain⟨z1,z2,z3,z4,z5⟩:=hs
 simp only at z1 z2 z3 z4 z5 re hq
 obtain⟨R,hR⟩:∃ R,R=DV.tup [aH .none (cF ⟨me,aL,adv,seen,ent,own⟩ ⟨tc,td⟩ ⟨sc,sd⟩ bL).1,eL false 7 aD (cF ⟨me,aL,adv,seen,ent,own⟩ ⟨tc,td⟩ ⟨sc,sd⟩ bL).2.1,.bool (cF ⟨me,aL,adv,seen,ent,own⟩ ⟨tc,td⟩ ⟨sc,sd⟩ bL).2.2]:=⟨_,rfl⟩
 rw[←hR]
 have lC:ent.length≤1000000:=by omega
 have hEn:=s147 (.int .i64 me) (eL false 1 bQ aL) (eL false 4 aG adv) (eL false 2 eID seen) (eL false 3 cT own) false ent tc td sc sd lC
 have GL:=uQ (isE ⟨tc,td⟩ ⟨sc,sd⟩) ent
 unfold pcF
 rw[aJ _ _ _ _ (by simp[Qu])]
 cases yW:ent.find? (isE ⟨tc,td⟩ ⟨sc,sd⟩)with
 | none =>
  rw[yW]at GL
  simp only at GL
  rw[GL]at hEn
  have He:cF ⟨me,aL,adv,seen,ent,own⟩ ⟨tc,td⟩ ⟨sc,sd⟩ bL=(⟨me,aL,adv,seen,ent,own⟩,[],false):=by simp[cF,yW]
  simp[Qu,aH,dG.none,Ly,hEn,gY,turn,aI]
  simp[hR,He,aH,dG.none,hY]
 | some e =>
  rw[yW]at GL
  simp only at GL
  obtain⟨i,hi,OG⟩:=GL
  rw[hi]at hEn
  have Ay:¬(i:Int)<0:=by omega
  have Hf:i<ent.length:=by
   by_cases h:i<ent.length
   ·exact h
   ·rw[List.getElem?_eq_none (by omega)]at OG;cases OG
  have hw:IntKind.i64.wrap ((i:Int)+1)=(i:Int)+1:=aX (by omega) (by omega)
  have S6:i≤ent.length:=Nat.le_of_lt Hf
  by_cases tC:e.bL=bL
  ·have Ef:=A8 re OG (List.find?_some yW)
   obtain⟨fl,Va⟩:∃ fl,(ent.filter fun x=>!isE ⟨tc,td⟩ ⟨sc,sd⟩ x)=fl:=⟨_,rfl⟩
   rw[Va]at Ef
   simp[Qu,aH,dG.none,Ly,hEn,Ay,gY,OG,aD,eq_true tC,S6,hw,turn]
   generalize hA:aY _ _ _ _ _ _=A
   obtain⟨i1,K1,rfl,o1,x1,y1,j1⟩:=(fW.fresh (lo:=4) (ety:=114) (sz:=7) (xs:=[]) (cap:=some 0) (by simp) (by simp)).append (n:=0) rfl (by simp) (by simp) (by simp) hA (by simp;omega) (by decide)
   clear hA
   have a0:=x1.get 0 (by decide)
   have a1:=x1.get 1 (by decide)
   have a3:=x1.get 3 (by decide)
   have q1:=x1.lim
   have w1:=x1.wf
   have n1:=x1.le
   have u1:=o1.lo
   have m0:¬0=i1:=by omega
   have m1:¬i1=0:=by omega
   have m2:¬i1=1:=by omega
   have m3:¬1=i1:=by omega
   simp at a0 a1 a3 q1 o1
   simp[a0,a1,a3,q1,m0,m1,m2,m3,S6,hw,Hf,Nat.succ_le_of_lt Hf]
   generalize hA:aY _ _ _ _ _ _=A
   obtain⟨i2,K2,rfl,o2,x2,y2,j2⟩:=o1.append (by simp[S6]) w1 n1 (by omega) hA (by simp;omega) (by decide)
   clear hA
   have b0:=x2.get 0 (by decide)
   have b1:=x2.get 1 (by decide)
   have b3:=x2.get 3 (by decide)
   have q2:=x2.lim
   have w2:=x2.wf
   have n2:=x2.le
   have u2:=o2.lo
   rw[a0]at b0
   rw[a1]at b1
   rw[a3]at b3
   rw[q1]at q2
   have l2:0<K2.n:=by omega
   have l23:3<K2.n:=by omega
   have cJ:(List.take i (List.map aD ent)++List.drop (i+1) (List.map aD ent))=fl.map aD:=by rw[←Ef];simp
   rw[cJ]at o2
   have hlw:fl.length=i+(ent.length-(i+1)):=by rw[←Ef];simp[Nat.min_eq_left S6]
   have eE:min i ent.length+(ent.length-(i+1))=fl.length:=by rw[hlw,Nat.min_eq_left S6]
   have hfln:fl.length≤100000:=by rw[←Va];exact Nat.le_trans (List.length_filter_le ..) z4
   have hflp:∀x∈fl,bZ x.pred:=fun x hx=>hq x (by rw[←Va]at hx;exact(List.mem_filter.1 hx).1)
   have hmn2:i+(ent.length-(i+1))=fl.length:=hlw.symm
   have r4:=fun o o'=>((o2.toR.aW (o:=o) w2 (by decide) l2).aW (o:=o') w2.set (by decide) l23).resolve (n:=198) false (fun y _=>(cC y).1) (by decide)
   simp only[List.length_map]at r4
   cases sK:e.up with
   | false =>
    have He:cF ⟨me,aL,adv,seen,ent,own⟩ ⟨tc,td⟩ ⟨sc,sd⟩ bL=(⟨me,aL,adv,seen,fl,own⟩,[],false):=by simp[cF,yW,tC,sK,Va]
    simp[b0,b3,q2,w2,l2,l23,sK,eE,hmn2,Nat.min_eq_left S6,-lB,r4,turn,aI]
    simp[hR,He,aH,dG.none,hY]
   | true =>
    have He:cF ⟨me,aL,adv,seen,ent,own⟩ ⟨tc,td⟩ ⟨sc,sd⟩ bL=(⟨me,aL,adv,seen,(cQ ⟨tc,td⟩ [] fl []).1,own⟩,(cQ ⟨tc,td⟩ [] fl []).2,true):=by simp[cF,yW,tC,sK,Va]
    simp[b0,b3,q2,w2,l2,l23,sK,eE,hmn2,Nat.min_eq_left S6,turn]
    generalize hF:upd _ 58 _=F
    have j2:¬i2=0:=by omega
    have o3:fW 4 (K2.set 0 (.arr 36 6 [.agg [.int .i64 me,eL false 1 bQ aL,eL false 4 aG adv,eL false 2 eID seen,.sl i2 7 0 fl.length,eL false 3 cT own]] (some 1))) i2 114 7 (fl.map aD):=o2.aW w2 (by decide) l2
    obtain⟨i5,f1,K4,k1,k2,k3,c0,c3,o5,o9,hln4,q4,n4,w4⟩:=l149 [] me aL adv seen own tc td fl.length (.arr 36 6 [.agg [.int .i64 0,.nsl,.nsl,.nsl,.nsl,.nsl]] (some 1)) fl [] [] i2 F _ (by simp) hfln (by simp) (by simpa using hflp) (by rw[←hF];simp) (by rw[←hF];simp) (by rw[←hF];simp) (by rw[←hF];simp) (by rw[←hF];simp)
     (by simp[w2,l2]) (by simp[w2,l2,b1]) (by simp[w2,l2,b3]) o3 (by rw[←hF];simp;exact .nil rfl rfl) (by rw[←hF];simp;intro a b c e;cases e) q2 (by exact n2) w2.set
    rw[k1]
    clear hF k1
    have y0:0<K4.n:=by omega
    have y3:3<K4.n:=by omega
    have s5:=fun o'=>(o5.toR.aW (o:=o') w4 (by decide) y3).resolve (n:=198) false (fun y _=>(cC y).1) (by decide)
    have s9:=fun o'=>(o9.aW (o:=o') w4 (by decide) y3).resolve (n:=199) false (fun y _=>(cC y).1) (by decide)
    simp only[List.length_map,hln4]at s5
    simp[Ek,k2,k3,c0,c3,q4,w4,y3,turn,-lB,s5,s9,aI]
    simp[hR,He,aH,dG.none]
  ·have He:cF ⟨me,aL,adv,seen,ent,own⟩ ⟨tc,td⟩ ⟨sc,sd⟩ bL=(⟨me,aL,adv,seen,ent,own⟩,[],false):=by simp[cF,yW,tC]
   simp[Qu,aH,dG.none,Ly,hEn,Ay,gY,OG,aD,tC,turn,aI]
   simp[hR,He,aH,dG.none,hY,aD]
end Go.Dm.Tc
namespace Go.Dm.Tc
theorem OQ{α:Type}(key:α→ID){l:List α}(h:dU (l.map key))(x:ID)(a:α):l.find? (fun b=>decide (key b=x))=some a↔a∈l∧key a=x:=by
 constructor
 ·intro hf
  exact⟨List.mem_of_find?_eq_some hf,by simpa using List.find?_some hf⟩
 ·rintro⟨hm,hk⟩
  cases hf:l.find? (fun b=>decide (key b=x))with
  | none=>exact absurd hk (by have:=List.find?_eq_none.1 hf a hm;simpa using this)
  | some b =>
   have hb:=List.mem_of_find?_eq_some hf
   have hkb:key b=x:=by simpa using List.find?_some hf
   have:b=a:=by
    by_cases e:b=a
    ·exact e
    ·exfalso
     unfold dU at h
     rw[List.pairwise_map]at h
     obtain⟨i,hi,rfl⟩:=List.mem_iff_getElem.1 hb
     obtain⟨j,hj,rfl⟩:=List.mem_iff_getElem.1 hm
     rcases Nat.lt_trichotomy i j with bD|he|bD
     ·have:=List.pairwise_iff_getElem.1 h i j hi hj bD
      rw[hkb,hk,fZ]at this;omega
     ·subst he;exact e rfl
     ·have:=List.pairwise_iff_getElem.1 h j i hj hi bD
      rw[hkb,hk,fZ]at this;omega
   rw[this]
theorem zW{α:Type}(key:α→ID){l:List α}(x:ID):l.find? (fun b=>decide (key b=x))=none↔∀a∈l,key a≠x:=by
 rw[List.find?_eq_none]
 exact⟨fun h a ha=>by simpa using h a ha,fun h a ha=>by simpa using h a ha⟩
theorem jQ{b:aF}(h:dU (b.aR.map (·.id))){x:ID}{a:bC}:fR b x=some a↔a∈b.aR∧a.id=x:=OQ (fun a:bC=>a.id) h x a
theorem Mo{b:aF}{x:ID}:fR b x=none↔∀a∈b.aR,a.id≠x:=zW (fun a:bC=>a.id) x
theorem eN(b:aF)(x:ID):dO b x=((fR b x).getD qB).bO:=rfl
theorem jJ{l:List aV}{t:ID}{p:bI}:cD l t p=true↔∃ e∈l,e.tree=t∧e.up=true∧kQ e.pred p=true:=by
 unfold cD ofT
 rw[List.any_eq_true]
 constructor
 ·rintro⟨e,he,h⟩
  have:=List.mem_filter.1 he
  rw[Bool.and_eq_true]at h
  exact⟨e,this.1,by simpa using this.2,h.1,h.2⟩
 ·rintro⟨e,he,h1,h2,h3⟩
  exact⟨e,List.mem_filter.2 ⟨he,by simpa using h1⟩,by rw[h2,h3];rfl⟩
theorem qE{e x:aV}{l:List aV}:x∈sP e l↔x=e∨x∈l:=by
 unfold sP
 rw[List.mem_append,List.mem_cons]
 constructor
 ·rintro(h|h|h)
  ·exact .inr (List.mem_of_mem_take h)
  ·exact .inl h
  ·exact .inr (List.mem_of_mem_drop h)
 ·rintro(h|h)
  ·exact .inr (.inl h)
  ·rw[←List.take_append_drop (aU (eW e.tree e.sub) l) l,List.mem_append]at h
   exact h.elim .inl fun h=>.inr (.inr h)
theorem Yw(e:aV)(l:List aV):(sP e l).length=l.length+1:=by
 unfold sP
 rw[List.length_append,List.length_cons,List.length_take,List.length_drop]
 have:=dB (eW e.tree e.sub) l
 omega
theorem RV{t s:ID}{a:aV}(h1:¬eW t s a<0)(h2:¬(a.tree=t∧a.sub=s))(e:aV)(he:e.tree=t)(he2:e.sub=s):eW a.tree a.sub e<0:=by
 rw[sU,jF,jF]at *
 rw[he,he2]
 rw[ID.ext',ID.ext']at h2
 rw[ID.ext']at *
 omega
theorem Yv{e:aV}{l:List aV}(h:eY l)(hn:∀x∈l,isE e.tree e.sub x=false):eY (sP e l):=by
 unfold eY sP
 rw[List.pairwise_append,List.pairwise_cons]
 generalize hk:aU (eW e.tree e.sub) l=k
 have iG:∀b∈l.take k,eW e.tree e.sub b<0:=by
  intro b hb
  obtain⟨i,hi,rfl⟩:=List.mem_iff_getElem.1 hb
  rw[List.getElem_take]
  rw[List.length_take]at hi
  have:=List.not_of_lt_findIdx (p:=fun x=>!decide (eW e.tree e.sub x<0)) (xs:=l) (i:=i) (by unfold aU at hk;omega)
  simpa using this
 have nP:∀b∈l.drop k,eW b.tree b.sub e<0:=by
  intro b hb
  obtain⟨i,hi,rfl⟩:=List.mem_iff_getElem.1 hb
  rw[List.length_drop]at hi
  rw[List.getElem_drop]
  have Pa:k<l.length:=by omega
  have h1:¬eW e.tree e.sub l[k]<0:=by
   have:=List.findIdx_getElem (p:=fun x=>!decide (eW e.tree e.sub x<0)) (xs:=l) (w:=by unfold aU at hk;omega)
   have qM:List.findIdx (fun x=>!decide (eW e.tree e.sub x<0)) l=k:=hk
   simp only[qM]at this
   simpa using this
  have h2:¬eW e.tree e.sub l[k+i]<0:=fun hc=>h1 (VT h _ _ k (k+i) Pa (by omega) (by omega) hc)
  refine RV h2 ?_ e rfl rfl
  have:=hn l[k+i] (List.getElem_mem _)
  simpa[isE]using this
 refine⟨h.sublist (List.take_sublist ..),⟨fun b hb=>nP b hb,h.sublist (List.drop_sublist ..)⟩,?_⟩
 intro x hx y hy
 rcases List.mem_cons.1 hy with rfl|hy
 ·exact iG x hx
 ·exact Ak (iG x hx) (by have:=nP y hy;omega)
structure bT(b:aF):Prop where
 aL:mH (fun x y=>decide (x<y)) b.aL=true
 loc:∀x∈b.aL,0≤x
 ra:dU (b.aR.map (·.id))
 rs:dU b.seen
 ro:dU (b.bU.map (·.id))
 re:eY b.entries
 sub:∀a∈b.aR,a.id∈b.seen
 par:∀a∈b.aR,fE b a.bO=true
 pa:∀a∈b.aR,bZ a.pred
 po:∀o∈b.bU,bZ o.pred
 ent:∀e∈b.entries,mS b e=true
 pe:∀e∈b.entries,bZ e.pred
 tight:F8 b=true
structure SzK(b:aF)(n:Nat):Prop where
 aL:b.aL.length≤1000
 adv:b.aR.length≤n
 seen:b.seen.length≤n
 own:b.bU.length≤n
 ent:b.entries.length≤n*n
theorem SzK.sized{b:aF}{n:Nat}(h:SzK b n)(hn:n≤300):fT b:=by
 have:=Nat.mul_le_mul hn hn
 obtain⟨h1,h2,h3,h4,h5⟩:=h
 exact⟨by omega,by omega,by omega,by omega,by omega⟩
theorem SzK.mono{b:aF}{n m:Nat}(h:SzK b n)(hn:n≤m):SzK b m:=by
 have:=Nat.mul_le_mul hn hn
 obtain⟨h1,h2,h3,h4,h5⟩:=h
 exact⟨h1,by omega,by omega,by omega,by omega⟩
theorem bT.asked{b:aF}(h:bT b):X4 b:=⟨fun e he=>(h.pe e he).unlike,fun e he=>Nat.le_trans (h.pe e he).len (by decide)⟩
theorem bT.sizedP{b:aF}(h:bT b):X0 b:=⟨fun a ha=>(h.pa a ha).names.1,fun a ha=>(h.pe a ha).names.1,fun a ha=>(h.po a ha).names.1⟩
theorem bT.right{b:aF}(h:bT b):Sn b=true:=by
 unfold Sn Es
 rw[h.aL,rI (key:=fun a:bC=>a.id) h.ra,rI (key:=fun a:fV=>a.id) h.ro,Oq h.re,show mH (fun x y=>kN x y) b.seen=true from rI (key:=fun a:ID=>a) (by simpa using h.rs)]
 have h1:(b.aR.any fun a=>!xC b a)=false:=by
  rw[List.any_eq_false]
  intro a ha
  simp[xC,h.sub a ha,h.par a ha,(h.pa a ha).right]
 have h2:(b.entries.any fun e=>!mS b e)=false:=by
  rw[List.any_eq_false]
  intro e he
  simp[h.ent e he]
 have h3:(b.bU.any fun o=>!tM o.pred)=false:=by
  rw[List.any_eq_false]
  intro o ho
  simp[(h.po o ho).right]
 rw[h1,h2,h3]
 rfl
theorem iJ{b:aF}{e:aV}:mS b e=true↔∃ a,fR b e.tree=some a∧fE b e.bL=true∧(e.bL=a.bO→a.bO=-1)∧(e.up=true→a.bO≠-1)∧tM e.pred=true:=by
 unfold mS fR
 cases b.aR.find? (fun a=>a.id=e.tree)with
 | none=>simp
 | some a =>
  simp only[Option.some.injEq,exists_eq_left',Bool.and_eq_true,Bool.or_eq_true,Bool.not_eq_true',Bool.and_eq_false_iff,decide_eq_true_eq,decide_eq_false_iff_not]
  constructor
  ·rintro⟨⟨⟨h1,h2⟩,h3⟩,h4⟩
   exact⟨h1,fun q=>h2.resolve_left (fun hn=>hn q),fun q=>h3.resolve_left (by rw[q];decide),h4⟩
  ·rintro⟨h1,h2,h3,h4⟩
   refine⟨⟨⟨h1,?_⟩,?_⟩,h4⟩
   ·by_cases q:e.bL=a.bO
    ·exact .inr (h2 q)
    ·exact .inl q
   ·cases q:e.up with
    | false=>exact .inl rfl
    | true=>exact .inr (h3 q)
theorem kI{b:aF}:F8 b=true↔∀e∈b.entries,e.up=true∨dO b e.tree=-1∨cD b.entries e.tree e.pred=true:=by
 unfold F8
 rw[List.all_eq_true]
 simp only[JP,Bool.or_eq_true,decide_eq_true_eq,or_assoc]
theorem vR{b b':aF}(h:b'.aL=b.aL)(n:Int):fE b' n=fE b n:=by unfold fE;rw[h]
theorem pW{b b':aF}{e:aV}(h:b'.aL=b.aL)(ha:fR b' e.tree=fR b e.tree):mS b' e=mS b e:=by
 rw[Bool.eq_iff_iff,iJ,iJ,ha]
 simp only[vR h]
theorem bT.start{me:Int}{aL:List Int}(hn:mH (fun x y=>decide (x<y)) aL=true)(hl:∀x∈aL,0≤x):bT ⟨me,aL,[],[],[],[]⟩ :=
 ⟨hn,hl,.nil,.nil,.nil,.nil,fun a h=>(by cases h),fun a h=>(by cases h),fun a h=>(by cases h),fun a h=>(by cases h),fun a h=>(by cases h),fun a h=>(by cases h),rfl⟩
theorem SzK.start{me:Int}{aL:List Int}(hn:aL.length≤1000):SzK ⟨me,aL,[],[],[],[]⟩ 0:=⟨hn,Nat.le_refl _,Nat.le_refl _,Nat.le_refl _,Nat.le_refl _⟩
theorem qJ{b:aF}(h:bT b)(a:bC)(hn:a.id ∉ b.seen)(x:ID):fR (bH b a).1 x=if a.id=x then some a else fR b x:=by
 have hnew:∀c∈b.aR,c.id≠a.id:=fun c hc e=>hn (by rw[←e];exact h.sub c hc)
 have hr:dU ((bH b a).1.aR.map (·.id)):=by
  unfold bH;rw[if_neg hn]
  exact pN (fun a:bC=>a.id) a h.ra hnew
 have hm:∀c,c∈(bH b a).1.aR↔c=a∨c∈b.aR:=by
  intro c
  unfold bH;rw[if_neg hn]
  exact nB (fun a:bC=>a.id) a b.aR c
 by_cases e:a.id=x
 ·rw[if_pos e,jQ hr,hm];exact⟨.inl rfl,e⟩
 ·rw[if_neg e]
  cases hq:fR b x with
  | none =>
   rw[Mo]at hq ⊢
   intro c hc
   rcases(hm c).1 hc with rfl|hc
   ·exact e
   ·exact hq c hc
  | some c =>
   rw[jQ h.ra]at hq
   rw[jQ hr,hm]
   exact⟨.inr hq.1,hq.2⟩
theorem bT.learn{b:aF}(h:bT b){a:bC}(hp:fE b a.bO=true)(hr:bZ a.pred):bT (bH b a).1:=by
 by_cases hn:a.id∈b.seen
 ·unfold bH;rw[if_pos hn];exact h
 ·have ho:=qJ h a hn
  have hE:(bH b a).1.entries=b.entries:=by unfold bH;rw[if_neg hn]
  have hN:(bH b a).1.aL=b.aL:=by unfold bH;rw[if_neg hn]
  have hO:(bH b a).1.bU=b.bU:=by unfold bH;rw[if_neg hn]
  have hA:(bH b a).1.aR=gX (fun a=>a.id) a b.aR:=by unfold bH;rw[if_neg hn]
  have hS:(bH b a).1.seen=gX (fun x=>x) a.id b.seen:=by unfold bH;rw[if_neg hn]
  have hother:∀e∈b.entries,fR (bH b a).1 e.tree=fR b e.tree:=by
   intro e he
   rw[ho,if_neg]
   intro hc
   obtain⟨c,uP,_⟩:=iJ.1 (h.ent e he)
   rw[jQ h.ra]at uP
   exact hn (by rw[hc,←uP.2];exact h.sub c uP.1)
  refine⟨by rw[hN];exact h.aL,by rw[hN];exact h.loc,?_,?_,by rw[hO];exact h.ro,by rw[hE];exact h.re,?_,?_,?_,by rw[hO];exact h.po,?_,by rw[hE];exact h.pe,?_⟩
  ·rw[hA];exact pN (fun a:bC=>a.id) a h.ra fun c hc e=>hn (by rw[←e];exact h.sub c hc)
  ·rw[hS]
   have:=pN (fun x:ID=>x) a.id (l:=b.seen) (by simpa using h.rs) (fun c hc e=>hn (by rw[←e];exact hc))
   simpa using this
  ·intro c hc
   rw[hA,nB]at hc
   rw[hS,nB]
   rcases hc with rfl|hc
   ·exact .inl rfl
   ·exact .inr (h.sub c hc)
  ·intro c hc
   rw[vR hN]
   rw[hA,nB]at hc
   rcases hc with rfl|hc
   ·exact hp
   ·exact h.par c hc
  ·intro c hc
   rw[hA,nB]at hc
   rcases hc with rfl|hc
   ·exact hr
   ·exact h.pa c hc
  ·intro e he
   rw[hE]at he
   rw[pW hN (hother e he)];exact h.ent e he
  ·rw[kI,hE]
   intro e he
   rw[eN,hother e he,←eN]
   exact kI.1 h.tight e he
theorem SzK.learn{b:aF}{n:Nat}(h:SzK b n)(a:bC):SzK (bH b a).1 (n+1):=by
 have h':=h.mono (Nat.le_succ n)
 unfold bH
 split
 ·exact h'
 ·obtain⟨h1,h2,h3,h4,h5⟩:=h'
  exact⟨h1,by simp only[Hs];have:=h.adv;omega,by simp only[Hs];have:=h.seen;omega,h4,h5⟩
theorem Pg{b:aF}{x:ID}{q:Int}(h:(bX b x q).2=false):(bX b x q).1=b:=by
 unfold bX at *
 split at h
 ·rfl
 ·split at h
  ·cases h
  ·rename_i h2;rw[if_neg h2]
theorem Lg{b:aF}{x:ID}{q:Int}(h:(bX b x q).2=true):(bX b x q).1={b with aR:=bM (fun a=>a.id) x b.aR,entries:=bM (fun e=>e.tree) x b.entries}∧∃ a,fR b x=some a∧a.bO=q:=by
 unfold bX at *
 split at h
 ·cases h
 ·rename_i a ha
  split at h
  ·rename_i h2;rw[if_pos h2];exact⟨rfl,a,ha,h2⟩
  ·cases h
theorem fP{α:Type}{key:α→ID}{x:ID}{l:List α}{a:α}:a∈bM key x l↔a∈l∧key a≠x:=by
 unfold bM;rw[List.mem_filter];simp
theorem Fk{l:List aV}{x t:ID}{p:bI}(h:t≠x):cD (bM (fun e=>e.tree) x l) t p=cD l t p:=by
 rw[Bool.eq_iff_iff,jJ,jJ]
 constructor
 ·rintro⟨e,he,h2⟩
  exact⟨e,(fP.1 he).1,h2⟩
 ·rintro⟨e,he,h2⟩
  exact⟨e,fP.2 ⟨he,by rw[h2.1];exact h⟩,h2⟩
theorem tQ{b b':aF}(h:dU (b.aR.map (·.id))){x t:ID}(hb:b'.aR=bM (fun a=>a.id) x b.aR)(ht:t≠x):fR b' t=fR b t:=by
 have hr:dU (b'.aR.map (·.id)):=by rw[hb];exact nV _ x h
 cases hq:fR b t with
 | none =>
  rw[Mo]at hq ⊢
  intro a ha
  rw[hb]at ha
  exact hq a (fP.1 ha).1
 | some a =>
  rw[jQ h]at hq
  rw[jQ hr,hb,fP]
  exact⟨⟨hq.1,by rw[hq.2];exact ht⟩,hq.2⟩
theorem bT.forget{b:aF}(h:bT b)(x:ID)(q:Int):bT (bX b x q).1:=by
 cases hc:(bX b x q).2 with
 | false=>rw[Pg hc];exact h
 | true =>
  obtain⟨e1,_⟩:=Lg hc
  generalize (bX b x q).1=b' at *
  have hA:b'.aR=bM (fun a=>a.id) x b.aR:=by rw[e1]
  have hE:b'.entries=bM (fun e=>e.tree) x b.entries:=by rw[e1]
  have hN:b'.aL=b.aL:=by rw[e1]
  have hS:b'.seen=b.seen:=by rw[e1]
  have hO:b'.bU=b.bU:=by rw[e1]
  refine⟨by rw[hN];exact h.aL,by rw[hN];exact h.loc,by rw[hA];exact nV _ x h.ra,by rw[hS];exact h.rs,by rw[hO];exact h.ro,by rw[hE];exact h.re.sublist (List.filter_sublist ..),?_,?_,?_,by rw[hO];exact h.po,?_,?_,?_⟩
  ·intro a ha;rw[hA]at ha;rw[hS];exact h.sub a (fP.1 ha).1
  ·intro a ha;rw[hA]at ha;rw[vR hN];exact h.par a (fP.1 ha).1
  ·intro a ha;rw[hA]at ha;exact h.pa a (fP.1 ha).1
  ·intro e he
   rw[hE]at he
   have:=fP.1 he
   rw[pW hN (tQ h.ra hA this.2)]
   exact h.ent e this.1
  ·intro e he;rw[hE]at he;exact h.pe e (fP.1 he).1
  ·rw[kI]
   intro e he
   rw[hE]at he
   have:=fP.1 he
   rw[hE,Fk this.2,eN,tQ h.ra hA this.2,←eN]
   exact kI.1 h.tight e this.1
theorem SzK.forget{b:aF}{n:Nat}(h:SzK b n)(x:ID)(q:Int):SzK (bX b x q).1 n:=by
 cases hc:(bX b x q).2 with
 | false=>rw[Pg hc];exact h
 | true =>
  rw[(Lg hc).1]
  obtain⟨h1,h2,h3,h4,h5⟩:=h
  exact⟨h1,Nat.le_trans (wT ..) h2,h3,h4,Nat.le_trans (wT ..) h5⟩
theorem vP{b:aF}{e:aV}:iZ b e=true↔∃ a,fR b e.tree=some a∧(∀x∈b.entries,isE e.tree e.sub x=false)∧(e.bL=a.bO→a.bO=-1):=by
 unfold iZ fR
 cases b.aR.find? (fun a=>a.id=e.tree)with
 | none=>simp
 | some a =>
  simp only[Option.some.injEq,exists_eq_left',Bool.and_eq_true,Bool.not_eq_true',Bool.and_eq_false_iff,List.any_eq_false,Bool.not_eq_true,decide_eq_false_iff_not,Bool.not_eq_false',decide_eq_true_eq]
  refine and_congr Iff.rfl ⟨fun h q=>h.resolve_left (fun hn=>hn q),fun h=>?_⟩
  by_cases q:e.bL=a.bO
  ·exact .inr (h q)
  ·exact .inl q
theorem Ds{l l':List aV}{t:ID}{p:bI}(h:∀e∈l,e∈l')(hc:cD l t p=true):cD l' t p=true:=by
 rw[jJ]at *
 obtain⟨e,he,h2⟩:=hc
 exact⟨e,h e he,h2⟩
theorem bT.add{b:aF}(h:bT b){e:aV}(hl:fE b e.bL=true)(hp:bZ e.pred):bT (dY b e).1:=by
 by_cases hm:iZ b e=true
 ·obtain⟨a,ha,wR,S9⟩:=vP.1 hm
  unfold dY
  rw[if_pos hm]
  have xL:dO b e.tree=a.bO:=by rw[eN,ha];rfl
  refine⟨h.aL,h.loc,h.ra,h.rs,h.ro,?_,h.sub,h.par,h.pa,h.po,?_,?_,?_⟩
  ·exact Yv (e:={e with up:=qN b e}) h.re wR
  ·intro x hx
   rw[qE]at hx
   have hs:∀y,mS {b with entries:=sP {e with up:=qN b e} b.entries} y=mS b y:=fun y=>pW rfl rfl
   rw[hs]
   rcases hx with rfl|hx
   ·rw[iJ]
    refine⟨a,ha,hl,S9,?_,hp.right⟩
    intro hu S2
    simp only[qN,xL,S2]at hu
    simp at hu
   ·exact h.ent x hx
  ·intro x hx
   rw[qE]at hx
   rcases hx with rfl|hx
   ·exact hp
   ·exact h.pe x hx
  ·rw[kI]
   intro x hx
   have hs:∀y,dO {b with entries:=sP {e with up:=qN b e} b.entries} y=dO b y:=fun y=>rfl
   rw[hs]
   have uJ:=hx
   rw[qE]at hx
   rcases hx with rfl|hx
   ·by_cases S2:a.bO=-1
    ·exact .inr (.inl (by rw[xL,S2]))
    ·cases OI:cD b.entries e.tree e.pred with
     | true=>exact .inr (.inr (Ds (fun y hy=>qE.2 (.inr hy)) OI))
     | false=>left;simp[qN,xL,S2,OI]
   ·rcases kI.1 h.tight x hx with h1|h1|h1
    ·exact .inl h1
    ·exact .inr (.inl h1)
    ·exact .inr (.inr (Ds (fun y hy=>qE.2 (.inr hy)) h1))
 ·unfold dY
  rw[if_neg hm];exact h
inductive gC(t:ID):List aV→List aV→Prop where
 | nil:gC t [] []
 | keep (e:aV) {l l':List aV} (h:gC t l l'):gC t (e::l) (e::l')
 | up (e:aV) {l l':List aV} (ht:e.tree=t) (hu:e.up=false) (h:gC t l l'):gC t (e::l) ({e with up:=true}::l')
theorem gC.refl(t:ID):∀l,gC t l l
 | []=>.nil
 | e::l=>.keep e (gC.refl t l)
theorem gC.append{t:ID}{a a' b b':List aV}(h:gC t a a')(k:gC t b b'):gC t (a++b) (a'++b'):=by
 induction h with
 | nil=>exact k
 | keep e _ ih=>exact .keep e ih
 | up e ht hu _ ih=>exact .up e ht hu ih
theorem gC.len{t:ID}{a a':List aV}(h:gC t a a'):a'.length=a.length:=by
 induction h with
 | nil=>rfl
 | keep e _ ih=>simp[ih]
 | up e ht hu _ ih=>simp[ih]
theorem gC.mem{t:ID}{a a':List aV}(h:gC t a a'){x:aV}(hx:x∈a'):x∈a∨∃ e∈a,e.tree=t∧e.up=false∧x={e with up:=true}:=by
 induction h with
 | nil=>cases hx
 | keep e _ ih =>
  rcases List.mem_cons.1 hx with rfl|hx
  ·exact .inl (List.mem_cons_self ..)
  ·rcases ih hx with h|⟨y,hy,h⟩
   ·exact .inl (List.mem_cons_of_mem _ h)
   ·exact .inr ⟨y,List.mem_cons_of_mem _ hy,h⟩
 | up e ht hu _ ih =>
  rcases List.mem_cons.1 hx with rfl|hx
  ·exact .inr ⟨e,List.mem_cons_self ..,ht,hu,rfl⟩
  ·rcases ih hx with h|⟨y,hy,h⟩
   ·exact .inl (List.mem_cons_of_mem _ h)
   ·exact .inr ⟨y,List.mem_cons_of_mem _ hy,h⟩
theorem gC.of_mem{t:ID}{a a':List aV}(h:gC t a a'){x:aV}(hx:x∈a):x∈a'∨(x.tree=t∧x.up=false∧{x with up:=true}∈a'):=by
 induction h with
 | nil=>cases hx
 | keep e _ ih =>
  rcases List.mem_cons.1 hx with rfl|hx
  ·exact .inl (List.mem_cons_self ..)
  ·rcases ih hx with h|⟨h1,h2,h3⟩
   ·exact .inl (List.mem_cons_of_mem _ h)
   ·exact .inr ⟨h1,h2,List.mem_cons_of_mem _ h3⟩
 | up e ht hu _ ih =>
  rcases List.mem_cons.1 hx with rfl|hx
  ·exact .inr ⟨ht,hu,List.mem_cons_self ..⟩
  ·rcases ih hx with h|⟨h1,h2,h3⟩
   ·exact .inl (List.mem_cons_of_mem _ h)
   ·exact .inr ⟨h1,h2,List.mem_cons_of_mem _ h3⟩
theorem gC.rising{t:ID}{a a':List aV}(h:gC t a a')(hr:eY a):eY a':=by
 induction h with
 | nil=>exact hr
 | keep e h ih =>
  unfold eY at *
  rw[List.pairwise_cons]at *
  refine⟨fun x hx=>?_,ih hr.2⟩
  rcases h.mem hx with hx|⟨y,hy,_,_,rfl⟩
  ·exact hr.1 x hx
  ·exact hr.1 y hy
 | up e ht hu h ih =>
  unfold eY at *
  rw[List.pairwise_cons]at *
  refine⟨fun x hx=>?_,ih hr.2⟩
  have:∀t s,eW t s {e with up:=true}=eW t s e:=fun t s=>rfl
  rw[this]
  rcases h.mem hx with hx|⟨y,hy,_,_,rfl⟩
  ·exact hr.1 x hx
  ·exact hr.1 y hy
theorem gC.covered{t:ID}{a a':List aV}(h:gC t a a'){t':ID}{p:bI}(hc:cD a t' p=true):cD a' t' p=true:=by
 rw[jJ]at *
 obtain⟨e,he,h1,h2,h3⟩:=hc
 rcases h.of_mem he with hx|⟨_,hx,_⟩
 ·exact⟨e,hx,h1,h2,h3⟩
 ·rw[h2]at hx;cases hx
theorem Qb(t:ID):∀(rest done gN:List aV),∃ r',(cQ t done rest gN).1=done++r'∧gC t rest r'∧(∀x∈r',x.tree=t→x.up=true∨cD (done++r') t x.pred=true) ∧
  ∃ u',(cQ t done rest gN).2=gN++u'∧∀x∈u',x∈r'∧x.tree=t∧x.up=true∧{x with up:=false}∈rest∧cD (done++rest) t x.pred=false:=by
 intro rest
 induction rest with
 | nil=>intro done gN;exact⟨[],by simp[cQ],.nil,(fun x hx=>by cases hx),[],by simp[cQ],(fun x hx=>by cases hx)⟩
 | cons e rest ih =>
  intro done gN
  unfold cQ
  by_cases hc:e.tree=t∧e.up=false∧cD (done++e::rest) t e.pred=false
  ·rw[if_pos hc]
   obtain⟨r',h1,h2,h3,u',h4,h5⟩:=ih (done++[{e with up:=true}]) (gN++[{e with up:=true}])
   refine⟨{e with up:=true}::r',by rw[h1];simp,.up e hc.1 hc.2.1 h2,?_,{e with up:=true}::u',by rw[h4];simp,?_⟩
   ·intro x hx ht
    rcases List.mem_cons.1 hx with rfl|hx
    ·exact .inl rfl
    ·have:=h3 x hx ht
     simpa using this
   ·intro x hx
    rcases List.mem_cons.1 hx with rfl|hx
    ·have he:({{e with up:=true} with up:=false}:aV)=e:=by obtain⟨a1,a2,a3,a4,a5⟩:=e;simp only at hc;rw[hc.2.1]
     exact⟨List.mem_cons_self ..,hc.1,rfl,by rw[he];exact List.mem_cons_self ..,hc.2.2⟩
    ·obtain⟨k1,k2,k3,k4,k5⟩:=h5 x hx
     refine⟨List.mem_cons_of_mem _ k1,k2,k3,List.mem_cons_of_mem _ k4,?_⟩
     have hR:gC t (done++e::rest) (done++[{e with up:=true}]++rest):=by
      rw[List.append_assoc]
      exact(gC.refl t done).append (.up e hc.1 hc.2.1 (.refl t rest))
     cases hq:cD (done++e::rest) t x.pred with
     | false=>rfl
     | true=>rw[hR.covered hq]at k5;cases k5
  ·rw[if_neg hc]
   obtain⟨r',h1,h2,h3,u',h4,h5⟩:=ih (done++[e]) gN
   refine⟨e::r',by rw[h1];simp,.keep e h2,?_,u',h4,?_⟩
   ·intro x hx ht
    rcases List.mem_cons.1 hx with rfl|hx
    ·cases hu:x.up with
     | true=>exact .inl rfl
     | false =>
      cases hq:cD (done++x::rest) t x.pred with
      | true=>exact .inr (((gC.refl t done).append (.keep x h2)).covered hq)
      | false=>exact absurd ⟨ht,hu,hq⟩ hc
    ·have:=h3 x hx ht
     simpa using this
   ·intro x hx
    obtain⟨k1,k2,k3,k4,k5⟩:=h5 x hx
    exact⟨List.mem_cons_of_mem _ k1,k2,k3,List.mem_cons_of_mem _ k4,by simpa using k5⟩
theorem lM{b:aF}(h:bT b)(t s:ID)(q:Int) :
  ((cF b t s q)=(b,[],false)∧∀e∈b.entries,isE t s e=true→e.bL≠q) ∨
  (∃ e∈b.entries,isE t s e=true∧e.bL=q∧e.up=false∧cF b t s q=({b with entries:=b.entries.filter fun x=>!isE t s x},[],false)) ∨
  (∃ e∈b.entries,isE t s e=true∧e.bL=q∧e.up=true∧∃ r' u',cF b t s q=({b with entries:=r'},u',true)∧gC t (b.entries.filter fun x=>!isE t s x) r' ∧
   (∀x∈r',x.tree=t→x.up=true∨cD r' t x.pred=true)∧∀x∈u',x∈r'∧x.tree=t∧x.up=true∧{x with up:=false}∈b.entries.filter (fun x=>!isE t s x)∧cD (b.entries.filter fun x=>!isE t s x) t x.pred=false):=by
 unfold cF
 cases hf:b.entries.find? (isE t s)with
 | none =>
  left
  refine⟨rfl,fun e he hi=>?_⟩
  have:=List.find?_eq_none.1 hf e he
  exact absurd hi this
 | some e =>
  have he:=List.mem_of_find?_eq_some hf
  have hi:=List.find?_some hf
  by_cases hq:e.bL=q
  ·simp only[if_pos hq]
   cases hu:e.up with
   | false =>
    right;left
    exact⟨e,he,hi,hq,hu,by simp⟩
   | true =>
    right;right
    obtain⟨r',h1,h2,h3,u',h4,h5⟩:=Qb t (b.entries.filter fun x=>!isE t s x) [] []
    refine⟨e,he,hi,hq,hu,r',u',by simp[h1,h4],h2,by simpa using h3,by simpa using h5⟩
  ·left
   refine⟨by simp only[if_neg hq],fun x hx Gf=>?_⟩
   have hkey:x=e:=by
    by_cases hxe:x=e
    ·exact hxe
    ·exfalso
     have k1:x.tree=t∧x.sub=s:=by simpa[isE]using Gf
     have k2:e.tree=t∧e.sub=s:=by simpa[isE]using hi
     obtain⟨i,lS,rfl⟩:=List.mem_iff_getElem.1 hx
     obtain⟨j,TZ,rfl⟩:=List.mem_iff_getElem.1 he
     rcases Nat.lt_trichotomy i j with bD|he|bD
     ·have:=List.pairwise_iff_getElem.1 h.re i j lS TZ bD
      rw[k2.1,k2.2,nX.2 k1]at this;omega
     ·subst he;exact hxe rfl
     ·have:=List.pairwise_iff_getElem.1 h.re j i TZ lS bD
      rw[k1.1,k1.2,nX.2 k2]at this;omega
   rw[hkey];exact hq
theorem bT.entries{b b':aF}(h:bT b)(hb:b'={b with entries:=b'.entries})(hre:eY b'.entries)(he:∀e∈b'.entries,∃ d∈b.entries,e.tree=d.tree∧e.pred=d.pred∧e.bL=d.bL∧(e.up=true→dO b e.tree≠-1))
  (ht:∀e∈b'.entries,e.up=true∨dO b e.tree=-1∨cD b'.entries e.tree e.pred=true):bT b':=by
 have hA:b'.aR=b.aR:=by rw[hb]
 have hN:b'.aL=b.aL:=by rw[hb]
 have hS:b'.seen=b.seen:=by rw[hb]
 have hO:b'.bU=b.bU:=by rw[hb]
 have ho:∀x,fR b' x=fR b x:=fun x=>by unfold fR;rw[hA]
 refine⟨by rw[hN];exact h.aL,by rw[hN];exact h.loc,by rw[hA];exact h.ra,by rw[hS];exact h.rs,by rw[hO];exact h.ro,hre,by rw[hA,hS];exact h.sub,?_,by rw[hA];exact h.pa,by rw[hO];exact h.po,?_,?_,?_⟩
 ·intro a ha;rw[vR hN];rw[hA]at ha;exact h.par a ha
 ·intro e hm
  obtain⟨d,hd,k1,k2,k3,k4⟩:=he e hm
  rw[pW hN (ho _),iJ]
  obtain⟨a,a1,a2,a3,a4,a5⟩:=iJ.1 (h.ent d hd)
  refine⟨a,by rw[k1];exact a1,by rw[k3];exact a2,by rw[k3];exact a3,fun hu=>?_,by rw[k2];exact a5⟩
  have:=k4 hu
  rw[eN,k1,a1]at this
  exact this
 ·intro e hm
  obtain⟨d,hd,_,k2,_⟩:=he e hm
  rw[k2];exact h.pe d hd
 ·rw[kI]
  intro e hm
  have:dO b' e.tree=dO b e.tree:=by rw[eN,ho,←eN]
  rw[this]
  exact ht e hm
theorem bT.up{b:aF}(h:bT b){e:aV}(he:e∈b.entries)(hu:e.up=true):dO b e.tree≠-1:=by
 obtain⟨a,a1,_,_,a4,_⟩:=iJ.1 (h.ent e he)
 rw[eN,a1]
 exact a4 hu
theorem bT.take{b:aF}(h:bT b)(t s:ID)(q:Int):bT (cF b t s q).1:=by
 have S0:∀x∈b.entries.filter (fun x=>!isE t s x),x∈b.entries:=fun x hx=>(List.mem_filter.1 hx).1
 have hrf:eY (b.entries.filter fun x=>!isE t s x):=h.re.sublist (List.filter_sublist ..)
 rcases lM h t s q with⟨hc,_⟩|⟨e,he,hi,_,hu,hc⟩|⟨e,he,hi,_,hu,r',u',hc,hR,htt,_⟩
 ·rw[hc];exact h
 ·rw[hc]
  refine h.entries rfl hrf ?_ ?_
  ·intro x hx
   exact⟨x,S0 x hx,rfl,rfl,rfl,fun hux=>h.up (S0 x hx) hux⟩
  ·intro x hx
   rcases kI.1 h.tight x (S0 x hx)with h1|h1|h1
   ·exact .inl h1
   ·exact .inr (.inl h1)
   ·refine .inr (.inr ?_)
    rw[jJ]at *
    obtain⟨d,hd,k1,k2,k3⟩:=h1
    refine⟨d,List.mem_filter.2 ⟨hd,?_⟩,k1,k2,k3⟩
    cases fS:isE t s d with
    | false=>rfl
    | true =>
     exfalso
     have q1:d.tree=t∧d.sub=s:=by simpa[isE]using fS
     have q2:e.tree=t∧e.sub=s:=by simpa[isE]using hi
     have:d=e:=by
      by_cases hde:d=e
      ·exact hde
      ·exfalso
       obtain⟨i,lS,rfl⟩:=List.mem_iff_getElem.1 hd
       obtain⟨j,TZ,rfl⟩:=List.mem_iff_getElem.1 he
       rcases Nat.lt_trichotomy i j with bD|Pc|bD
       ·have:=List.pairwise_iff_getElem.1 h.re i j lS TZ bD
        rw[q2.1,q2.2,nX.2 q1]at this;omega
       ·subst Pc;exact hde rfl
       ·have:=List.pairwise_iff_getElem.1 h.re j i TZ lS bD
        rw[q1.1,q1.2,nX.2 q2]at this;omega
     rw[this,hu]at k2;cases k2
 ·have hpt:dO b t≠-1:=by
   have:=h.up he hu
   have q2:e.tree=t∧e.sub=s:=by simpa[isE]using hi
   rw[q2.1]at this;exact this
  rw[hc]
  refine h.entries rfl (hR.rising hrf) ?_ ?_
  ·intro x hx
   rcases hR.mem hx with hx|⟨y,hy,h1,h2,rfl⟩
   ·exact⟨x,S0 x hx,rfl,rfl,rfl,fun hux=>h.up (S0 x hx) hux⟩
   ·exact⟨y,S0 y hy,rfl,rfl,rfl,fun _=>by rw[h1];exact hpt⟩
  ·intro x hx
   by_cases hxt:x.tree=t
   ·rcases htt x hx hxt with k|k
    ·exact .inl k
    ·exact .inr (.inr (by rw[hxt];exact k))
   ·have uJ:x∈b.entries.filter fun x=>!isE t s x:=by
     rcases hR.mem hx with hx|⟨y,hy,h1,h2,rfl⟩
     ·exact hx
     ·exact absurd h1 hxt
    rcases kI.1 h.tight x (S0 x uJ)with h1|h1|h1
    ·exact .inl h1
    ·exact .inr (.inl h1)
    ·refine .inr (.inr (hR.covered ?_))
     rw[jJ]at *
     obtain⟨d,hd,k1,k2,k3⟩:=h1
     refine⟨d,List.mem_filter.2 ⟨hd,?_⟩,k1,k2,k3⟩
     have:¬(d.tree=t∧d.sub=s):=fun hh=>hxt (by rw[←k1];exact hh.1)
     simp[isE,this]
theorem Vs{b:aF}(h:bT b)(t s:ID)(q:Int):(cF b t s q).1.entries.length≤b.entries.length:=by
 rcases lM h t s q with⟨hc,_⟩|⟨e,_,_,_,_,hc⟩|⟨e,_,_,_,_,r',u',hc,hR,_⟩
 ·rw[hc];exact Nat.le_refl _
 ·rw[hc];exact List.length_filter_le ..
 ·rw[hc]
  show r'.length≤_
  rw[hR.len];exact List.length_filter_le ..
theorem Of(b:aF)(t s:ID)(q:Int):(cF b t s q).1={b with entries:=(cF b t s q).1.entries}:=by
 unfold cF
 split
 ·rfl
 ·split
  ·split<;>rfl
  ·rfl
theorem QA(b:aF)(e:aV):(dY b e).1={b with entries:=(dY b e).1.entries}:=by
 unfold dY
 split<;>rfl
theorem VL(b:aF)(e:aV):(dY b e).1.entries.length≤b.entries.length+1:=by
 unfold dY
 split
 ·simp only[Yw];exact Nat.le_refl _
 ·exact Nat.le_succ _
theorem SzK.take{b:aF}{n:Nat}(h:SzK b n)(hi:bT b)(t s:ID)(q:Int):SzK (cF b t s q).1 n:=by
 have h1:=Vs hi t s q
 rw[Of]at h1 ⊢
 obtain⟨a1,a2,a3,a4,a5⟩:=h
 exact⟨a1,a2,a3,a4,Nat.le_trans h1 a5⟩
theorem SzK.add{b:aF}{n:Nat}(h:SzK b n)(e:aV):SzK (dY b e).1 (n+1):=by
 have h1:=VL b e
 rw[QA]at h1 ⊢
 obtain⟨a1,a2,a3,a4,a5⟩:=h
 have:(n+1)*(n+1)=n*n+n+n+1:=by rw[Nat.add_mul,Nat.mul_add];omega
 exact⟨a1,Nat.le_succ_of_le a2,Nat.le_succ_of_le a3,Nat.le_succ_of_le a4,by simp only at h1 ⊢;omega⟩
end Go.Dm.Tc
namespace Go.Dm.Tc
theorem AaB(t:dG)(b:aF):DV.agg (iF t b)=aH t b:=_root_.id rfl
theorem HE(sz:Nat)(t:dG)(b:aF):aP sz (aH t b)=iF t b:=_root_.id rfl
theorem z8(t:dG)(b:aF):(iF t b).length=6:=_root_.id rfl
theorem VH(t:dG)(b:aF):(iF t b).take 6=iF t b:=_root_.id rfl
theorem bC_0(t:dG)(b:aF):(iF t b)[0]?=some (.int .i64 b.me):=_root_.id rfl
theorem bC_1(t:dG)(b:aF):(iF t b)[1]?=some (eL t.aL 1 bQ b.aL):=_root_.id rfl
theorem bC_2(t:dG)(b:aF):(iF t b)[2]?=some (eL t.aR 4 aG b.aR):=_root_.id rfl
theorem bC_3(t:dG)(b:aF):(iF t b)[3]?=some (eL t.seen 2 eID b.seen):=_root_.id rfl
theorem bC_4(t:dG)(b:aF):(iF t b)[4]?=some (eL t.entries 7 aD b.entries):=_root_.id rfl
theorem bC_5(t:dG)(b:aF):(iF t b)[5]?=some (eL t.bU 3 cT b.bU):=_root_.id rfl
theorem AhD(t:dG)(b:aF)(h:0<(iF t b).length):(iF t b)[0]=.int .i64 b.me:=_root_.id rfl
theorem AhC(t:dG)(b:aF)(h:1<(iF t b).length):(iF t b)[1]=eL t.aL 1 bQ b.aL:=_root_.id rfl
theorem AhB(t:dG)(b:aF)(h:2<(iF t b).length):(iF t b)[2]=eL t.aR 4 aG b.aR:=_root_.id rfl
theorem AhA(t:dG)(b:aF)(h:3<(iF t b).length):(iF t b)[3]=eL t.seen 2 eID b.seen:=_root_.id rfl
theorem AgJ(t:dG)(b:aF)(h:4<(iF t b).length):(iF t b)[4]=eL t.entries 7 aD b.entries:=_root_.id rfl
theorem AgI(t:dG)(b:aF)(h:5<(iF t b).length):(iF t b)[5]=eL t.bU 3 cT b.bU:=_root_.id rfl
theorem Wl(t:dG)(b:aF):bE 6 (aH t b)=true:=_root_.id rfl
theorem ZK(tg:Bool)(h:aA)(n:Nat)(t:dG)(b:aF):resolve tg h (n+2) (aH t b)=some (aH t b):=by
 simp[aH]
theorem AaF(n:Nat)(b:aF):bJ (n+24) (aH .none b)=true:=by
 simp[aH,dG.none]
theorem o7(h:aA)(t:dG)(b:aF):jH h (aH t b)=some (aH t b,h):=by
 simp[aH,Ud,Fc,Kl,T4,BO,Bo,Bn,Fn]
theorem GX(off:Nat)(n:Option Nat)(t:dG)(b:aF):Ln off n (aH t b)=dM n (iF t b) off:=_root_.id rfl
attribute [simp] AaB HE z8 VH bC_0 bC_1 bC_2 bC_3 bC_4 bC_5 AhD AhC AhB AhA AgJ AgI Wl ZK AaF o7 GX BR T5 Zo BQ Ud Kl Fc T4 BP OO BO BN OP Bo Bn Fn
section
variable {b:aF} (t:dG)
theorem kAF(h:bT b)(z:fT b)(c d:Int):pcF D t89 [aH t b,.agg [.int .i64 c,.int .i64 d]]=some (.tup [aG ((fR b ⟨c,d⟩).getD qB),.bool (hJ (fR b ⟨c,d⟩))]) :=
 s89 _ _ _ _ _ _ _ c d h.ra (by have:=z.adv;omega) ((fA _ _).mono (by decide)) ((eM _ _ _ _).mono (by decide)) ((eM _ _ _ _).mono (by decide)) ((eM _ _ _ _).mono (by decide)) ((eM _ _ _ _).mono (by decide))
def Gm(b:aF)(t s:ID):Option aV:=b.entries.find? (isE t s)
theorem kOf(z:fT b)(c d:Int):pcF D J3 [aH t b,.agg [.int .i64 c,.int .i64 d]]=some (eL false 7 aD (ofT ⟨c,d⟩ b.entries)) :=
 s142 _ _ _ _ _ _ _ c d (by have:=z.ent;omega)
theorem NV(h:bT b)(z:fT b)(c d:Int)(p:bI)(q:Int):pcF D We [aH t b,.agg [.int .i64 c,.int .i64 d,bF p,.int .i64 q]]=some (.tup [aH .none (bH b ⟨⟨c,d⟩,p,q⟩).1,.bool (bH b ⟨⟨c,d⟩,p,q⟩).2]):=s102 t b c d p q z h.ra h.rs
theorem AY(h:bT b)(z:fT b)(c d:Int)(p:bI)(q:Int):pcF D t99 [aH .none b,.agg [.int .i64 c,.int .i64 d,bF p,.int .i64 q]]=some (.tup [aH .none (bH b ⟨⟨c,d⟩,p,q⟩).1,.bool (bH b ⟨⟨c,d⟩,p,q⟩).2]):=s99 b c d p q z h.ra h.rs
theorem BA(h:bT b)(z:fT b)(c d q:Int):pcF D Wd [aH t b,.agg [.int .i64 c,.int .i64 d],.int .i64 q]=some (.tup [aH .none (bX b ⟨c,d⟩ q).1,.bool (bX b ⟨c,d⟩ q).2]):=s107 t b c d q z h.ra
theorem Ys(h:bT b)(z:fT b)(c d q:Int):pcF D Mv [aH .none b,.agg [.int .i64 c,.int .i64 d],.int .i64 q]=some (.tup [aH .none (bX b ⟨c,d⟩ q).1,.bool (bX b ⟨c,d⟩ q).2]):=s126 b c d q z h.ra
theorem kAdd(h:bT b)(z:fT b)(tc td sc sd:Int){p:bI}(hp:bZ p)(q:Int)(u:Bool):pcF D K8 [aH .none b,.agg [.int .i64 tc,.int .i64 td,.int .i64 sc,.int .i64 sd,bF p,.int .i64 q,.bool u]]=some (.tup [aH .none (dY b ⟨⟨tc,td⟩,⟨sc,sd⟩,p,q,u⟩).1,.bool (dY b ⟨⟨tc,td⟩,⟨sc,sd⟩,p,q,u⟩).2]) :=
 s105 b ⟨⟨tc,td⟩,⟨sc,sd⟩,p,q,u⟩ z h.asked hp h.ra h.re
theorem AZ(h:bT b)(z:fT b)(tc td sc sd:Int){p:bI}(hp:bZ p)(q:Int)(u:Bool):pcF D t96 [aH .none b,.agg [.int .i64 tc,.int .i64 td,.int .i64 sc,.int .i64 sd,bF p,.int .i64 q,.bool u]]=some (.tup [aH .none (dY b ⟨⟨tc,td⟩,⟨sc,sd⟩,p,q,u⟩).1,.bool (dY b ⟨⟨tc,td⟩,⟨sc,sd⟩,p,q,u⟩).2]) :=
 s96 b ⟨⟨tc,td⟩,⟨sc,sd⟩,p,q,u⟩ z h.asked hp
theorem AfH(h:bT b)(z:fT b)(tc td sc sd q:Int):pcF D I7 [aH .none b,.agg [.int .i64 tc,.int .i64 td],.agg [.int .i64 sc,.int .i64 sd],.int .i64 q]=some (.tup [aH .none (cF b ⟨tc,td⟩ ⟨sc,sd⟩ q).1,eL false 7 aD (cF b ⟨tc,td⟩ ⟨sc,sd⟩ q).2.1,.bool (cF b ⟨tc,td⟩ ⟨sc,sd⟩ q).2.2]) :=
 s161 b tc td sc sd q z h.pe h.re
theorem d8(h:bT b)(z:fT b)(tc td sc sd q:Int):pcF D Qu [aH .none b,.agg [.int .i64 tc,.int .i64 td],.agg [.int .i64 sc,.int .i64 sd],.int .i64 q]=some (.tup [aH .none (cF b ⟨tc,td⟩ ⟨sc,sd⟩ q).1,eL false 7 aD (cF b ⟨tc,td⟩ ⟨sc,sd⟩ q).2.1,.bool (cF b ⟨tc,td⟩ ⟨sc,sd⟩ q).2.2]) :=
 s149 b tc td sc sd q z h.pe h.re
theorem AfI(h:bT b)(z:fT b)(u:dG)(c:aF):pcF D t16 [aH t b,aH u c]=some (.bool (decide (b=c))):=s16 t u b c z h.sizedP
end
end Go.Dm.Tc
namespace Go.Dm.Tc
structure PK where
 has:List Int
 vals:List Int
def ePK(p:PK):DV:=.agg [eL false 1 bQ p.has,eL false 1 bQ p.vals]
def PK.pred(p:PK):bI:=eH p.has p.vals
structure mY where
 kind:Int
 bL:Int
 tree:Int
 aS:Int
 seq:Int
 has:List Int
 vals:List Int
def hU(s:mY):DV:=.agg [.int .i64 s.kind,.int .i64 s.bL,.int .i64 s.tree,.int .i64 s.aS,.int .i64 s.seq,eL false 1 bQ s.has,eL false 1 bQ s.vals]
structure D9 where
 aL:Int
 steps:List mY
def xY(b:D9):DV:=.agg [.int .i64 b.aL,eL false 7 hU b.steps]
end Go.Dm.Tc
namespace Go.Dm.Tc
theorem U1{l:List aV}(h:eY l){d e:aV}(hd:d∈l)(he:e∈l)(ht:d.tree=e.tree)(hs:d.sub=e.sub):d=e:=by
 by_cases hde:d=e
 ·exact hde
 ·exfalso
  obtain⟨i,hi,rfl⟩:=List.mem_iff_getElem.1 hd
  obtain⟨j,hj,rfl⟩:=List.mem_iff_getElem.1 he
  rcases Nat.lt_trichotomy i j with bD|Pc|bD
  ·have:=List.pairwise_iff_getElem.1 h i j hi hj bD
   rw[nX.2 ⟨ht,hs⟩]at this;omega
  ·subst Pc;exact hde rfl
  ·have:=List.pairwise_iff_getElem.1 h j i hj hi bD
   rw[nX.2 ⟨ht.symm,hs.symm⟩]at this;omega
theorem Tp{t s:ID}{e:aV}:isE t s e=true↔e.tree=t∧e.sub=s:=by simp[isE]
theorem vT{t s:ID}{e:aV}:isE t s e=false↔¬(e.tree=t∧e.sub=s):=by simp[isE]
theorem Lv{b:aF}(h:eY b.entries){t s:ID}{e:aV}:Gm b t s=some e↔e∈b.entries∧e.tree=t∧e.sub=s:=by
 constructor
 ·intro hf
  exact⟨List.mem_of_find?_eq_some hf,Tp.1 (List.find?_some hf)⟩
 ·rintro⟨hm,ht,hs⟩
  cases hf:Gm b t s with
  | none=>exact absurd (Tp.2 ⟨ht,hs⟩) (by have:=List.find?_eq_none.1 hf e hm;simpa using this)
  | some d =>
   have hd:=List.mem_of_find?_eq_some hf
   have hd2:=Tp.1 (List.find?_some hf)
   rw[U1 h hd hm (hd2.1.trans ht.symm) (hd2.2.trans hs.symm)]
theorem Lw{b:aF}{t s:ID}:Gm b t s=none↔∀e∈b.entries,¬(e.tree=t∧e.sub=s):=by
 unfold Gm
 rw[List.find?_eq_none]
 exact⟨fun h e he=>vT.1 (by simpa using h e he),fun h e he=>by rw[vT.2 (h e he)];simp⟩
theorem CK(t:ID):∀(rest done gN:List aV),(cQ t done rest gN).2.length≤gN.length+rest.length:=by
 intro rest
 induction rest with
 | nil=>intro done gN;simp[cQ]
 | cons e rest ih =>
  intro done gN
  unfold cQ
  split
  ·have:=ih (done++[{e with up:=true}]) (gN++[{e with up:=true}]);simp at this ⊢;omega
  ·have:=ih (done++[e]) gN;simp at this ⊢;omega
theorem Vr(b:aF)(t s:ID)(q:Int):(cF b t s q).2.1.length≤b.entries.length:=by
 unfold cF
 split
 ·simp
 ·split
  ·split
   ·refine Nat.le_trans (CK _ _ _ _) ?_
    simp only[List.length_nil,Nat.zero_add]
    exact List.length_filter_le ..
   ·simp
  ·simp
end Go.Dm.Tc
namespace Go.Dm.Tc
def atL(L:List Int)(i:Nat):Int:=L.getD i 0
def swp(L:List Int)(j:Nat):List Int:=(L.set (j+1) (atL L j)).set j (atL L (j+1))
def bub:Nat→List Int→List Int
 | 0,L=>L
 | j+1,L=>if atL L (j+1)<atL L j then bub j (swp L j)else L
def isr:Nat→Nat→List Int→List Int
 | 0,_,L=>L
 | k+1,i,L=>isr k (i+1) (bub i L)
def Ct(L:List Int):List Int:=isr (L.length-1) 1 L
theorem lW{L:List Int}{i:Nat}(h:i<L.length):atL L i=L[i]:=by simp[atL,h]
theorem KT{L:List Int}{j:Nat}(h:j+1<L.length):(swp L j).Perm L:=by
 unfold swp
 rw[lW (by omega:j<L.length),lW h]
 exact List.set_set_perm h (by omega)
theorem Hm(L:List Int)(j:Nat):(swp L j).length=L.length:=by simp[swp]
theorem Hn{L:List Int}{j:Nat}(h:j+1<L.length)(k:Nat):atL (swp L j) k=if k=j then atL L (j+1)else if k=j+1 then atL L j else atL L k:=by
 have hj:j<L.length:=by omega
 unfold swp atL
 simp only[List.getD_eq_getElem?_getD,List.getElem?_set,List.length_set]
 by_cases h1:k=j
 ·subst h1;simp[hj]
 ·have Dh:¬j=k:=fun e=>h1 e.symm
  by_cases h2:k=j+1
  ·subst h2;simp[h]
  ·have IY:¬j+1=k:=fun e=>h2 e.symm
   simp[h1,Dh,h2,IY]
theorem Ml:∀(j:Nat) {L:List Int},j<L.length→(bub j L).Perm L
 | 0,_,_=>.refl _
 | j+1,L,h=>by
  unfold bub
  split
  ·exact(Ml j (by rw[Hm];omega)).trans (KT h)
  ·exact .refl _
theorem Uq(j:Nat){L:List Int}(h:j<L.length):(bub j L).length=L.length:=(Ml j h).length_eq
theorem Mk{i:Nat}:∀(j:Nat) {L:List Int},j≤i→i<L.length→(∀p q,p<q→q≤i→p≠j→q≠j→atL L p≤atL L q)→(∀q,j<q→q≤i→atL L j≤atL L q)→∀p q,p<q→q≤i→atL (bub j L) p≤atL (bub j L) q
 | 0,L,hj,hi,h1,h2,p,q,uL,hq=>by
  unfold bub
  by_cases hp:p=0
  ·subst hp;exact h2 q uL hq
  ·exact h1 p q uL hq hp (by omega)
 | j+1,L,hj,hi,h1,h2,p,q,uL,hq=>by
  unfold bub
  have hl:j+1<L.length:=by omega
  split
  ·rename_i hc
   refine Mk j (by omega) (by rw[Hm];exact hi) ?_ ?_ p q uL hq
   ·intro p q uL hq hp yW
    rw[Hn hl,Hn hl,if_neg hp,if_neg yW]
    by_cases e1:p=j+1
    ·rw[if_pos e1,if_neg (by omega)]
     exact h1 j q (by omega) hq (by omega) (by omega)
    ·rw[if_neg e1]
     by_cases e2:q=j+1
     ·rw[if_pos e2]
      exact h1 p j (by omega) (by omega) (by omega) (by omega)
     ·rw[if_neg e2]
      exact h1 p q uL hq e1 e2
   ·intro q Ht hq
    rw[Hn hl,Hn hl,if_pos rfl,if_neg (by omega)]
    by_cases e2:q=j+1
    ·rw[if_pos e2];omega
    ·rw[if_neg e2];exact h2 q (by omega) hq
  ·rename_i hc
   by_cases e1:p=j+1
   ·subst e1;exact h2 q uL hq
   ·by_cases e2:q=j+1
    ·subst e2
     by_cases e3:p=j
     ·subst e3;omega
     ·have:=h1 p j (by omega) (by omega) e1 (by omega)
      omega
    ·exact h1 p q uL hq e1 e2
theorem Yt:∀(k i:Nat) {L:List Int},i+k≤L.length→(isr k i L).Perm L
 | 0,_,_,_=>.refl _
 | k+1,i,L,h=>by
  unfold isr
  have hi:i<L.length:=by omega
  exact(Yt k (i+1) (by rw[Uq i hi];omega)).trans (Ml i hi)
theorem Ko:∀(k i:Nat) {L:List Int},i+k≤L.length→(∀p q,p<q→q<i→atL L p≤atL L q)→∀p q,p<q→q<i+k→atL (isr k i L) p≤atL (isr k i L) q
 | 0,_,_,_,hs=>by simpa[isr]using hs
 | k+1,i,L,h,hs=>by
  have hi:i<L.length:=by omega
  unfold isr
  intro p q uL hq
  refine Ko k (i+1) (by rw[Uq i hi];omega) ?_ p q uL (by omega)
  intro p q uL hq
  exact Mk i (Nat.le_refl _) hi (fun p q uL hq _ yW=>hs p q uL (by omega)) (fun q h1 h2=>by omega) p q uL (by omega)
theorem As(L:List Int):(Ct L).Perm L:=by
 unfold Ct
 cases L with
 | nil=>exact .refl _
 | cons a l=>exact Yt _ 1 (by simp;omega)
theorem To(L:List Int):(Ct L).Pairwise (·≤·):=by
 rw[List.pairwise_iff_getElem]
 intro p q hp hq uL
 have hl:=(As L).length_eq
 rw[←lW hp,←lW hq]
 unfold Ct at *
 cases L with
 | nil=>simp[isr]at hp
 | cons a l=>exact Ko _ 1 (by simp;omega) (fun p q h1 h2=>by omega) p q uL (by simp at *;omega)
theorem s207(a b:Int):pcF D CS [.int .i64 a,.int .i64 b]=some (.bool (decide (a<b))):=by
 unfold pcF
 rw[aJ _ _ _ _ (by simp[CS])]
 simp[CS,UW,SG,turn]
structure zL(id:Nat)(sp:List DV)(cap:Option Nat)(h h':aA)(L:List Int):Prop where
 get:h'.get id=some (.arr 3 1 (L.map bQ++sp) cap)
 n:h'.n=h.n
 lim:h'.lim=h.lim
 wf:WF h'
 oth:∀k,k≠id→h'.get k=h.get k
theorem AfC(S:List Fr)(P:Res→Prop)(id n:Nat)(sp:List DV)(cap:Option Nat)(h:aA)(hl:h.lim≤id)(hn:n≤1000000) :
  ∀(j:Nat) (L:List Int) (f:cY) (h':aA),zL id sp cap h h' L→j<L.length→L.length=n→f 0=.sl id 1 0 n→f 1=.int .i64 0→f 7=.int .i64 j →
  (∀f' rK,f' 0=.sl id 1 0 n→f' 1=.int .i64 0→f' 2=f 2→f' 6=f 6→zL id sp cap h rK (bub j L)→P (ret D 49 S .normal f' rK)) →
  P (run D 49 (.block 2::S) (.loop Qd) f h'):=by
 intro j
 induction j with
 | zero =>
  intro L f h' R hj hL h0 h1 h7 hP
  rw[aC Qd.eq_1]
  simp[h0,h1,h7]
  exact hP _ h' (by simp[h0]) (by simp[h1]) (by simp) (by simp) R
 | succ j ih =>
  intro L f h' R hj hL h0 h1 h7 hP
  have wS:j<L.length:=by omega
  have bD:j<n:=by omega
  have hlt1:j+1<n:=by omega
  have hx:∀k,k<L.length→(L.map bQ++sp)[k]?=some (.int .i64 (atL L k)):=fun k hk=>by
   rw[List.getElem?_append_left (by simpa using hk),List.getElem?_map,List.getElem?_eq_getElem hk,lW hk];rfl
  have BC:=hx (j+1) hj
  have At:=hx j wS
  have g:=R.get
  have Nu:h'.lim≤id:=by rw[R.lim];exact hl
  have Zd:=bB g
  have R9:=R.wf
  have BD:IntKind.i64.wrap (j:Int)=(j:Int):=aX (by omega) (by omega)
  have lS:bS 1 (.sl id 1 0 n) (.int .i64 ((j:Int)+1))=some (.ptr id 1 (j+1) 0):=by
   have:((j:Int)+1)=((j+1:Nat):Int):=by omega
   rw[this];simp[bS,asI];omega
  have sA:bS 1 (.sl id 1 0 n) (.int .i64 (j:Int))=some (.ptr id 1 j 0):=by simp[bS,asI,bD]
  have Ee:=s207 (atL L (j+1)) (atL L j)
  rw[aC Qd.eq_1]
  by_cases hc:atL L (j+1)<atL L j
  ·simp[h0,h1,h7,g,BC,At,Nu,Zd,R9,BD,lS,sA,e207,Ee,hc,turn]
   generalize hF:upd _ 7 _=F
   have hb:bub (j+1) L=bub j (swp L j):=by
    show(if atL L (j+1)<atL L j then bub j (swp L j)else L)=_
    rw[if_pos hc]
   have gZ:((L.map bQ++sp).set (j+1) (.int .i64 (atL L j))).set j (.int .i64 (atL L (j+1)))=(swp L j).map bQ++sp:=by
    unfold swp
    rw[List.set_append_left _ _ (by simpa using hj),List.set_append_left _ _ (by simp;omega),List.map_set,List.map_set]
    rfl
   rw[gZ]
   have R':zL id sp cap h (h'.set id (.arr 3 1 ((swp L j).map bQ++sp) cap)) (swp L j) :=
    ⟨by rw[cA R9 Zd,if_pos rfl],R.n,R.lim,R9.set,fun k hk=>by rw[cA R9 Zd,if_neg hk];exact R.oth k hk⟩
   refine ih (swp L j) F _ R' (by rw[Hm];exact wS) (by rw[Hm];exact hL) ?_ ?_ ?_ ?_
   ·rw[←hF];simp[h0]
   ·rw[←hF];simp[h1]
   ·rw[←hF];simp
   ·intro f' rK a0 a1 a2 a6 RR
    exact hP f' rK a0 a1 (by rw[a2,←hF];simp) (by rw[a6,←hF];simp) (by rw[hb];exact RR)
  ·have hb:bub (j+1) L=L:=by
    show(if atL L (j+1)<atL L j then bub j (swp L j)else L)=_
    rw[if_neg hc]
   simp[h0,h1,h7,g,BC,At,Nu,Zd,R9,BD,lS,sA,e207,Ee,hc,turn]
   exact hP _ h' (by simp[h0]) (by simp[h1]) (by simp) (by simp) (by rw[hb];exact R)
theorem AfB(id n:Nat)(sp:List DV)(cap:Option Nat)(h:aA)(hl:h.lim≤id)(hn:n≤1000000) :
  ∀(k i:Nat) (L:List Int) (f:cY) (h':aA),zL id sp cap h h' L→i+k=n→L.length=n→f 0=.sl id 1 0 n→f 1=.int .i64 0→f 2=.int .i64 n→f 6=.int .i64 i →
  ∃ rK,fin [] (run D 49 [.block 0] (.loop Ei) f h')=some (.tup [],rK)∧zL id sp cap h rK (isr k i L):=by
 intro k
 induction k with
 | zero =>
  intro i L f h' R hk hL h0 h1 h2 h6
  have hi:i=n:=by omega
  subst hi
  rw[aC Ei.eq_1]
  simp[h2,h6]
  exact⟨h',rfl,R⟩
 | succ k ih =>
  intro i L f h' R hk hL h0 h1 h2 h6
  have bD:i<n:=by omega
  have hw:IntKind.i64.wrap ((i:Int)+1)=(i:Int)+1:=aX (by omega) (by omega)
  rw[aC Ei.eq_1]
  simp[h2,h6,bD]
  generalize hF:upd _ 7 _=F
  refine AfC _ (fun r=>∃ rK,fin [] r=some (.tup [],rK)∧zL id sp cap h rK (isr (k+1) i L)) id n sp cap h hl hn i L F h' R (by omega) hL (by rw[←hF];simp[h0]) (by rw[←hF];simp[h1]) (by rw[←hF];simp) fun f' rK a0 a1 a2 a6 R'=>?_
  have b2:f' 2=.int .i64 n:=by rw[a2,←hF];simp[h2]
  have b6:f' 6=.int .i64 i:=by rw[a6,←hF];simp[h6]
  simp[KK,b6,hw]
  generalize hG:upd _ 6 _=G
  exact ih (i+1) (bub i L) G rK R' (by omega) (by rw[Uq i (by omega)];exact hL) (by rw[←hG];simp[a0]) (by rw[←hG];simp[a1]) (by rw[←hG];simp[b2]) (by rw[←hG];simp)
theorem q201(id:Nat)(sp:List DV)(cap:Option Nat)(h:aA)(L:List Int)(g:h.get id=some (.arr 3 1 (L.map bQ++sp) cap))(hl:h.lim≤id)(hn:L.length≤1000000)(wf:WF h) :
  ∃ rK,fc D 201 [.sl id 1 0 L.length,.int .i64 0,.int .i64 L.length] h=some (.tup [],rK)∧zL id sp cap h rK (Ct L):=by
 rw[e201,aJ _ _ _ _ (by simp[G7])]
 simp[G7]
 generalize hF:upd _ 6 _=F
 have R:zL id sp cap h h L:=⟨g,rfl,rfl,wf,fun _ _=>rfl⟩
 unfold Ct
 cases L with
 | nil =>
  have h2:F 2=.int .i64 0:=by rw[←hF];simp
  have h6:F 6=.int .i64 1:=by rw[←hF];simp
  rw[aC Ei.eq_1]
  simp[h2,h6]
  exact⟨h,rfl,R⟩
 | cons a l =>
  refine AfB id (a::l).length sp cap h hl hn ((a::l).length-1) 1 (a::l) F h R (by simp;omega) rfl ?_ ?_ ?_ ?_
  all_goals (rw[←hF];simp)
def b9(n:Nat):Int:=if n=0 then 0 else if n<2 then 1 else if n<4 then 2 else if n<8 then 3 else 4
theorem s165(n:Nat)(hn:n≤12):pcF D KL [.int .u64 n]=some (.int .i64 (b9 n)):=by
 have:n=0∨n=1∨n=2∨n=3∨n=4∨n=5∨n=6∨n=7∨n=8∨n=9∨n=10∨n=11∨n=12:=by omega
 rcases this with rfl|rfl|rfl|rfl|rfl|rfl|rfl|rfl|rfl|rfl|rfl|rfl|rfl
 ·exact oE (n:=2000) (args:=[.int .u64 0]) Bl rfl (by kernel_rfl)
 ·exact oE (n:=2000) (args:=[.int .u64 1]) Bl rfl (by kernel_rfl)
 ·exact oE (n:=2000) (args:=[.int .u64 2]) Bl rfl (by kernel_rfl)
 ·exact oE (n:=2000) (args:=[.int .u64 3]) Bl rfl (by kernel_rfl)
 ·exact oE (n:=2000) (args:=[.int .u64 4]) Bl rfl (by kernel_rfl)
 ·exact oE (n:=2000) (args:=[.int .u64 5]) Bl rfl (by kernel_rfl)
 ·exact oE (n:=2000) (args:=[.int .u64 6]) Bl rfl (by kernel_rfl)
 ·exact oE (n:=2000) (args:=[.int .u64 7]) Bl rfl (by kernel_rfl)
 ·exact oE (n:=2000) (args:=[.int .u64 8]) Bl rfl (by kernel_rfl)
 ·exact oE (n:=2000) (args:=[.int .u64 9]) Bl rfl (by kernel_rfl)
 ·exact oE (n:=2000) (args:=[.int .u64 10]) Bl rfl (by kernel_rfl)
 ·exact oE (n:=2000) (args:=[.int .u64 11]) Bl rfl (by kernel_rfl)
 ·exact oE (n:=2000) (args:=[.int .u64 12]) Bl rfl (by kernel_rfl)
theorem q164(id:Nat)(sp:List DV)(cap:Option Nat)(h:aA)(L:List Int)(x:Int)(g:h.get id=some (.arr 3 1 (L.map bQ++sp) cap))(hl:h.lim≤id)(hn:L.length≤12)(wf:WF h) :
  ∃ rK,fc D 164 [.sl id 1 0 L.length,.int .i64 0,.int .i64 L.length,.int .i64 x] h=some (.tup [],rK)∧zL id sp cap h rK (Ct L):=by
 obtain⟨rK,hq,R⟩:=q201 id sp cap h L g hl (by omega) wf
 refine⟨rK,?_,R⟩
 have hw:IntKind.i64.wrap (L.length:Int)=L.length:=aX (by omega) (by omega)
 have gQ:(L.length:Int)≤12:=by omega
 rw[e164,aJ _ _ _ _ (by simp[I4])]
 simp[I4]
 rw[aC I3.eq_1]
 simp[hw,gQ,hn,hq,turn]
 rfl
theorem q113(id:Nat)(sp:List DV)(cap:Option Nat)(h:aA)(L:List Int)(g:h.get id=some (.arr 3 1 (L.map bQ++sp) cap))(hl:h.lim≤id)(hn:L.length≤12)(wf:WF h) :
  ∃ rK,fc D 113 [.sl id 1 0 L.length] h=some (.tup [],rK)∧zL id sp cap h rK (Ct L):=by
 obtain⟨rK,hq,R⟩:=q164 id sp cap h L (b9 L.length) g hl hn wf
 refine⟨rK,?_,R⟩
 have hb:=s165 L.length hn
 have hw:IntKind.u64.wrap (L.length:Int)=L.length:=by
  have:L.length=0∨L.length=1∨L.length=2∨L.length=3∨L.length=4∨L.length=5∨L.length=6∨L.length=7∨L.length=8∨L.length=9∨L.length=10∨L.length=11∨L.length=12:=by omega
  rcases this with e|e|e|e|e|e|e|e|e|e|e|e|e<;>rw[e]<;>rfl
 rw[e113,aJ _ _ _ _ (by simp[K0])]
 simp[K0,hw,Bl,hb,hq,turn]
 rfl
end Go.Dm.Tc
namespace Go.Dm.Tc
def jR(L:List Int):Prop:=L.Pairwise (·<·)
theorem Fq{A:List Int}{v:Int}(h:jR A)(hv:∀a∈A,a<v):jR (A++[v]):=by
 unfold jR at *
 rw[List.pairwise_append]
 exact⟨h,List.pairwise_singleton ..,fun a ha b hb=>by rw[List.mem_singleton.1 hb];exact hv a ha⟩
theorem tV{L:List Int}{p:Nat}(h:p<L.length):L.take (p+1)=L.take p++[atL L p]:=by
 rw[List.take_succ,List.getElem?_eq_getElem h,lW h];rfl
theorem Oe{M:List Int}{k:Nat}(h:k<M.length)(v:Int):(M.set k v).take (k+1)=M.take k++[v]:=by
 rw[tV (by simpa using h)]
 congr 1
 ·exact List.take_set_of_le (Nat.le_refl _)
 ·simp[atL,h]
structure yJ(L M:List Int)(k p:Nat):Prop where
 len:M.length=L.length
 k1:1≤k
 kp:k<p
 pl:p≤L.length
 tail:∀i,p-1≤i→atL M i=atL L i
 strict:jR (M.take k)
 mem:∀x,x∈M.take k↔x∈L.take p
 last:atL M (k-1)=atL L (p-1)
theorem yJ.start{L:List Int}{k:Nat}(hs:jR (L.take k))(h1:1≤k)(hk:k<L.length)(he:atL L k=atL L (k-1)):yJ L L k (k+1):=by
 refine⟨rfl,h1,by omega,by omega,fun _ _=>rfl,hs,fun x=>?_,by simp[he]⟩
 rw[tV hk,List.mem_append,List.mem_singleton]
 constructor
 ·exact .inl
 ·rintro(h|h)
  ·exact h
  ·rw[h,he]
   have:k-1<L.length:=by omega
   rw[lW this]
   exact List.mem_take_iff_getElem.2 ⟨k-1,by omega,rfl⟩
theorem yJ.same{L M:List Int}{k p:Nat}(h:yJ L M k p)(hp:p<L.length)(he:atL L p=atL L (p-1)):yJ L M k (p+1):=by
 refine⟨h.len,h.k1,by have:=h.kp;omega,by omega,fun i hi=>h.tail i (by omega),h.strict,fun x=>?_,by rw[h.last];simp[he]⟩
 rw[h.mem,tV hp,List.mem_append,List.mem_singleton]
 constructor
 ·exact .inl
 ·rintro(q|q)
  ·exact q
  ·rw[q,he]
   have hkp:=h.kp
   have:p-1<L.length:=by omega
   rw[lW this]
   exact List.mem_take_iff_getElem.2 ⟨p-1,by omega,rfl⟩
theorem yJ.more{L M:List Int}{k p:Nat}(h:yJ L M k p)(hs:L.Pairwise (·≤·))(hp:p<L.length)(he:atL L p≠atL L (p-1)):yJ L (M.set k (atL L p)) (k+1) (p+1):=by
 have hkp:=h.kp
 have IR:=h.k1
 have hkM:k<M.length:=by rw[h.len];omega
 have bD:atL L (p-1)<atL L p:=by
  have:=List.pairwise_iff_getElem.1 hs (p-1) p (by omega) hp (by omega)
  rw[←lW (by omega:p-1<L.length),←lW hp]at this
  omega
 refine⟨by simpa using h.len,by omega,by omega,by omega,?_,?_,?_,?_⟩
 ·intro i hi
  have:atL (M.set k (atL L p)) i=atL M i:=by
   unfold atL
   simp only[List.getD_eq_getElem?_getD,List.getElem?_set]
   rw[if_neg (by omega)]
  rw[this]
  exact h.tail i (by omega)
 ·rw[Oe hkM]
  refine Fq h.strict fun a ha=>?_
  have dI:a≤atL M (k-1):=by
   obtain⟨i,hi,rfl⟩:=List.mem_take_iff_getElem.1 ha
   by_cases e:i=k-1
   ·subst e;rw[lW (by omega)];exact Int.le_refl _
   ·have:=List.pairwise_iff_getElem.1 h.strict i (k-1) (by simp;omega) (by simp;omega) (by omega)
    simp only[List.getElem_take]at this
    rw[lW (by omega)];omega
  rw[h.last]at dI
  omega
 ·intro x
  rw[Oe hkM,tV hp,List.mem_append,List.mem_append,h.mem]
 ·have:atL (M.set k (atL L p)) (k+1-1)=atL L p:=by simp[atL,hkM]
  rw[this];rfl
theorem AfE(S:List Fr)(P:Res→Prop)(id n k0:Nat)(L:List Int)(sp:List DV)(cap:Option Nat)(h:aA)(hl:h.lim≤id)(hn:n≤1000000)(hs:L.Pairwise (·≤·))(hL:L.length=n)(Fe:k0≤n) :
  ∀(j p k:Nat) (M:List Int) (f:cY) (h':aA),zL id sp cap h h' M→yJ L M k p→k0<p→p+j=n→f 0=.sl id 1 0 n→f 3=.int .i64 k→f 4=.sl id 1 k0 (n-k0)→f 5=.int .i64 ((p-k0:Nat):Int) →
  (∀k' M' f' rK,f' 0=.sl id 1 0 n→f' 3=.int .i64 k'→zL id sp cap h rK M'→yJ L M' k' n→P (ret D 61 S .normal f' rK)) →
  P (run D 61 (.block 2::S) (.loop Rj) f h'):=by
 intro j
 induction j with
 | zero =>
  intro p k M f h' R I hk hp h0 h3 h4 h5 hP
  have hpn:p=n:=by omega
  subst hpn
  rw[aC Rj.eq_1]
  simp[h0,h3,h4,h5]
  exact hP k M _ h' (by simp[h0]) (by simp[h3]) R I
 | succ j ih =>
  intro p k M f h' R I hk hp h0 h3 h4 h5 hP
  have hkp:=I.kp
  have hML:M.length=n:=by rw[I.len,hL]
  have hpn:p<n:=by omega
  have hx:∀i,i<n→(M.map bQ++sp)[i]?=some (.int .i64 (atL M i)):=fun i hi=>by
   rw[List.getElem?_append_left (by simp;omega),List.getElem?_map,List.getElem?_eq_getElem (by omega),lW (by omega)];rfl
  have BC:=hx p hpn
  have At:=hx (p-1) (by omega)
  have hxk:=hx k (by omega)
  rw[I.tail p (by omega)]at BC
  rw[I.tail (p-1) (by omega)]at At
  have g:=R.get
  have Nu:h'.lim≤id:=by rw[R.lim];exact hl
  have Zd:=bB g
  have R9:=R.wf
  have lS:bS 1 (.sl id 1 k0 (n-k0)) (.int .i64 ((p-k0:Nat):Int))=some (.ptr id 1 p 0):=by
   have:p-k0<n-k0:=by omega
   simp[bS,asI,this];omega
  have BD:IntKind.i64.wrap (((p-k0:Nat):Int)-1)=((p-k0-1:Nat):Int):=by rw[aX (by omega) (by omega)];omega
  have VW:IntKind.i64.wrap (((p-k0:Nat):Int)+1)=((p+1-k0:Nat):Int):=by rw[aX (by omega) (by omega)];omega
  have hw3:IntKind.i64.wrap ((k:Int)+1)=((k+1:Nat):Int):=by rw[aX (by omega) (by omega)];omega
  have sA:bS 1 (.sl id 1 k0 (n-k0)) (.int .i64 ((p-k0-1:Nat):Int))=some (.ptr id 1 (p-1) 0):=by
   have:p-k0-1<n-k0:=by omega
   simp[bS,asI,this];omega
  have QI:bS 1 (.sl id 1 0 n) (.int .i64 (k:Int))=some (.ptr id 1 k 0):=by
   have:k<n:=by omega
   simp[bS,asI,this]
  have bD:((p-k0:Nat):Int)<((n-k0:Nat):Int):=by omega
  have rB:p-k0<n-k0:=by omega
  rw[aC Rj.eq_1]
  by_cases hc:atL L p=atL L (p-1)
  ·simp[h0,h3,h4,h5,g,BC,At,Nu,Zd,R9,BD,VW,hw3,lS,sA,QI,bD,rB,hc]
   generalize hF:upd _ 5 _=F
   exact ih (p+1) k M F h' R (I.same (by omega) hc) (by omega) (by omega) (by rw[←hF];simp[h0]) (by rw[←hF];simp[h3]) (by rw[←hF];simp[h4]) (by rw[←hF];simp) hP
  ·simp[h0,h3,h4,h5,g,BC,At,Nu,Zd,R9,BD,VW,hw3,lS,sA,QI,bD,rB,hc,hxk]
   generalize hF:upd _ 5 _=F
   have gZ:(M.map bQ++sp).set k (.int .i64 (atL L p))=(M.set k (atL L p)).map bQ++sp:=by
    rw[List.set_append_left _ _ (by simp;omega),List.map_set];rfl
   rw[gZ]
   have R':zL id sp cap h (h'.set id (.arr 3 1 ((M.set k (atL L p)).map bQ++sp) cap)) (M.set k (atL L p)) :=
    ⟨by rw[cA R9 Zd,if_pos rfl],R.n,R.lim,R9.set,fun i hi=>by rw[cA R9 Zd,if_neg hi];exact R.oth i hi⟩
   exact ih (p+1) (k+1) _ F _ R' (I.more hs (by omega) hc) (by omega) (by omega) (by rw[←hF];simp[h0]) (by rw[←hF];simp) (by rw[←hF];simp[h4]) (by rw[←hF];simp) hP
def WN(id:Nat)(cap:Option Nat)(h:aA)(L:List Int)(r:Res):Prop :=
 ∃ N sp' rK,fin [.t 2] r=some (.sl id 1 0 N.length,rK)∧zL id sp' cap h rK N∧jR N∧(∀x,x∈N↔x∈L)∧N.length≤L.length
theorem AfD(id n:Nat)(L:List Int)(sp:List DV)(cap:Option Nat)(h:aA)(hl:h.lim≤id)(hn:n≤1000000)(hs:L.Pairwise (·≤·))(hL:L.length=n)(g:h.get id=some (.arr 3 1 (L.map bQ++sp) cap))(wf:WF h) :
  ∀(j k:Nat) (f:cY),jR (L.take k)→1≤k→k+j=n→f 0=.sl id 1 0 n→f 3=.int .i64 k →
  WN id cap h L (run D 61 [.block 0,.seq J8] (.loop Ri) f h):=by
 have R:zL id sp cap h h L:=⟨g,rfl,rfl,wf,fun _ _=>rfl⟩
 have Zd:=bB g
 intro j
 induction j with
 | zero =>
  intro k f dK h1 hk h0 h3
  have QH:k=n:=by omega
  subst QH
  rw[aC Ri.eq_1]
  simp[h0,h3,J8]
  refine⟨L,sp,h,by rw[hL];rfl,R,by rw[←hL,List.take_length]at dK;exact dK,fun x=>Iff.rfl,Nat.le_refl _⟩
 | succ j ih =>
  intro k f dK h1 hk h0 h3
  have QH:k<n:=by omega
  have hx:∀i,i<n→(L.map bQ++sp)[i]?=some (.int .i64 (atL L i)):=fun i hi=>by
   rw[List.getElem?_append_left (by simp;omega),List.getElem?_map,List.getElem?_eq_getElem (by omega),lW (by omega)];rfl
  have BC:=hx k QH
  have At:=hx (k-1) (by omega)
  have BD:IntKind.i64.wrap ((k:Int)-1)=((k-1:Nat):Int):=by rw[aX (by omega) (by omega)];omega
  have hw3:IntKind.i64.wrap ((k:Int)+1)=((k+1:Nat):Int):=by rw[aX (by omega) (by omega)];omega
  have QI:∀i:Nat,i<n→bS 1 (.sl id 1 0 n) (.int .i64 (i:Int))=some (.ptr id 1 i 0):=fun i hi=>by
   simp[bS,asI,hi]
  have lS:=QI k QH
  have sA:=QI (k-1) (by omega)
  rw[aC Ri.eq_1]
  by_cases hc:atL L k=atL L (k-1)
  ·have E1:iI h 1 (.sl id 1 0 n) (some (.int .i64 (k:Int))) none=some (.sl id 1 k (n-k)):=by
    simp only[iI,g]
    rw[if_pos ⟨trivial,trivial,by simp;omega⟩]
    simp only[dQ,asI]
    rw[if_pos ⟨by omega,by omega⟩]
    simp
   simp[h0,h3,g,BC,At,hl,Zd,wf,BD,hw3,lS,sA,QH,hc,E1]
   generalize hF:upd _ 5 _=F
   refine AfE _ (WN id cap h L) id n k L sp cap h hl hn hs hL (by omega) (n-(k+1)) (k+1) k L F h R (yJ.start dK h1 (by omega) hc) (by omega) (by omega) (by rw[←hF];simp[h0]) (by rw[←hF];simp[h3]) (by rw[←hF];simp) (by rw[←hF];simp<;>omega) fun k' M f' rK a0 a3 R' I=>?_
   have g':=R'.get
   have Nu:rK.lim≤id:=by rw[R'.lim];exact hl
   have hkp:=I.kp
   have hML:M.length=n:=by rw[I.len,hL]
   have hsl1:iI rK 1 (.sl id 1 0 n) (some (.int .i64 (k':Int))) none=some (.sl id 1 k' (n-k')):=by
    simp only[iI,g']
    rw[if_pos ⟨trivial,trivial,by simp;omega⟩]
    simp only[dQ,asI]
    rw[if_pos ⟨by omega,by omega⟩]
    simp
   have T1:=rN (z:=.int .i64 0) (len:=n-k') (off:=k') g' (by simp;omega) Nu (by omega)
   have R9:=R'.wf
   have hnn':=bB g'
   have gZ:dE (M.map bQ++sp) (List.replicate (n-k') (.int .i64 0)) k'=(M.take k').map bQ++(List.replicate (n-k') (.int .i64 0)++sp):=by
    unfold dE
    have e1:(M.map bQ++sp).take k'=(M.take k').map bQ:=by
     rw[List.take_append_of_le_length (by simp;omega),List.map_take]
    have e2:(M.map bQ++sp).drop (k'+(n-k'))=sp:=by
     have:k'+(n-k')=(M.map bQ).length:=by simp;omega
     rw[this,List.drop_left]
    simp only[List.length_replicate]
    rw[e1,e2,List.append_assoc]
   obtain⟨X,hX⟩:∃ X,(M.take k').map bQ++(List.replicate (n-k') (.int .i64 0)++sp)=X:=⟨_,rfl⟩
   have hXl:n≤X.length:=by rw[←hX];simp;omega
   rw[gZ,hX]at T1
   have hsl2:∀H:aA,∀xs c,H.get id=some (.arr 3 1 xs c)→n≤xs.length→iI H 1 (.sl id 1 0 n) none (some (.int .i64 (k':Int)))=some (.sl id 1 0 k'):=fun H xs c hg cJ=>by
    simp only[iI,hg]
    rw[if_pos ⟨trivial,trivial,by omega⟩]
    simp only[dQ,asI]
    rw[if_pos ⟨by omega,by omega⟩]
    simp
   have IT:(rK.set id (.arr 3 1 (X) cap)).get id=some (.arr 3 1 (X) cap):=by
    rw[cA R9 hnn',if_pos rfl]
   have hs2:=hsl2 _ _ _ IT hXl
   simp[KP,a0,a3,hsl1,T1,uC,hs2]
   refine⟨M.take k',List.replicate (n-k') (.int .i64 0)++sp,(rK.set id (.arr 3 1 (X) cap)),?_,⟨by rw[hX];exact IT,R'.n,R'.lim,R9.set,fun i hi=>by rw[cA R9 hnn',if_neg hi];exact R'.oth i hi⟩,I.strict,fun x=>?_,by simp;omega⟩
   ·have:(M.take k').length=k':=by simp;omega
    rw[this];rfl
   ·rw[I.mem,←hL,List.take_length]
  ·have bD:atL L (k-1)<atL L k:=by
    have:=List.pairwise_iff_getElem.1 hs (k-1) k (by omega) (by omega) (by omega)
    rw[←lW (by omega:k-1<L.length),←lW (by omega:k<L.length)]at this
    omega
   have hst':jR (L.take (k+1)):=by
    rw[tV (by omega)]
    refine Fq dK fun a ha=>?_
    obtain⟨i,hi,rfl⟩:=List.mem_take_iff_getElem.1 ha
    have dI:L[i]≤atL L (k-1):=by
     rw[lW (by omega)]
     by_cases e:i=k-1
     ·subst e;exact Int.le_refl _
     ·exact List.pairwise_iff_getElem.1 hs i (k-1) (by omega) (by omega) (by omega)
    omega
   simp[h0,h3,g,BC,At,hl,Zd,wf,BD,hw3,lS,sA,QH,hc,KO]
   generalize hF:upd _ 3 _=F
   exact ih (k+1) F hst' (by omega) (by omega) (by rw[←hF];simp[h0]) (by rw[←hF];simp)
theorem q114(id:Nat)(L:List Int)(sp:List DV)(cap:Option Nat)(h:aA)(hl:h.lim≤id)(hn:L.length≤1000000)(hs:L.Pairwise (·≤·))(g:h.get id=some (.arr 3 1 (L.map bQ++sp) cap))(wf:WF h) :
  ∃ N sp' rK,fc D 114 [.sl id 1 0 L.length] h=some (.sl id 1 0 N.length,rK)∧zL id sp' cap h rK N∧jR N∧(∀x,x∈N↔x∈L)∧N.length≤L.length:=by
 rw[e114,aJ _ _ _ _ (by simp[J9])]
 simp[J9]
 by_cases h2:L.length<2
 ·have IY:(L.length:Int)<2:=by omega
  simp[h2,IY]
  refine⟨L,sp,h,⟨rfl,rfl⟩,⟨g,rfl,rfl,wf,fun _ _=>rfl⟩,?_,fun x=>Iff.rfl,Nat.le_refl _⟩
  match L,h2 with
  | [],_=>exact List.Pairwise.nil
  | [a],_=>exact List.pairwise_singleton ..
 ·have IY:¬(L.length:Int)<2:=by omega
  simp[h2,IY]
  generalize hF:upd _ 3 _=F
  refine AfD id L.length L sp cap h hl hn hs rfl g wf (L.length-1) 1 F ?_ (Nat.le_refl _) (by omega) (by rw[←hF];simp) (by rw[←hF];simp)
  match L with
  | []=>simp[jR]
  | a::r=>simp[jR]
end Go.Dm.Tc
namespace Go.Dm.Tc
theorem JN{a b:UInt8}(h1:¬a<b)(h2:¬b<a):a=b:=by
 rw[UInt8.lt_iff_toNat_lt]at h1 h2
 exact UInt8.toNat_inj.1 (by omega)
theorem yX:∀{a b:List UInt8},Go.Lib.compareBytes a b<0↔Go.Op.bytesLess a b=true
 | [],[]=>by simp[Go.Lib.compareBytes,Go.Op.bytesLess]
 | [],b::bs=>by simp[Go.Lib.compareBytes,Go.Op.bytesLess]
 | a::az,[]=>by simp[Go.Lib.compareBytes,Go.Op.bytesLess]
 | a::az,b::bz=>by
  have ih:=yX (a:=az) (b:=bz)
  unfold Go.Lib.compareBytes Go.Op.bytesLess
  by_cases h1:a<b
  ·simp[h1]
  ·by_cases h2:b<a
   ·have:a≠b:=fun e=>by subst e;exact h1 h2
    simp[h1,h2,this]
   ·have:=JN h1 h2
    simp[h1,h2,this,ih]
theorem Dv:∀{a b:List UInt8},Go.Lib.compareBytes a b=0↔a=b
 | [],[]=>by simp[Go.Lib.compareBytes]
 | [],b::bs=>by simp[Go.Lib.compareBytes]
 | a::az,[]=>by simp[Go.Lib.compareBytes]
 | a::az,b::bz=>by
  have ih:=Dv (a:=az) (b:=bz)
  unfold Go.Lib.compareBytes
  by_cases h1:a<b
  ·have:a≠b:=fun e=>by subst e;have:=JM (a:=a) (b:=a);simp_all
   simp[h1,this]
  ·by_cases h2:b<a
   ·have:a≠b:=fun e=>by subst e;exact h1 h2
    simp[h1,h2,this]
   ·have:=JN h1 h2
    simp[h1,h2,this,ih]
theorem s233(a b:List UInt8):pcF D CL [.str a,.str b]=some (.int .i64 (Go.Lib.compareBytes a b)):=by
 unfold pcF
 rw[aJ _ _ _ _ (by simp[CL])]
 simp[CL,e238,nR]
theorem s220(a b:List UInt8):pcF D CN [.str a,.str b]=some (.int .i64 (Go.Lib.compareBytes a b)):=by
 unfold pcF
 rw[aJ _ _ _ _ (by simp[CN])]
 simp[CN,e233,s233]
def eS(s:List UInt8)(c:fB):Int:=Go.Lib.compareBytes c.name s
theorem s219(c:fB)(s:List UInt8):pcF D CO [aO c,.str s]=some (.int .i64 (eS s c)):=by
 unfold pcF
 rw[aJ _ _ _ _ (by simp[CO])]
 simp[CO,aO,e220,s220,eS]
theorem l218(t:Bool)(xs:List fB)(s:List UInt8)(g:Nat)(cap:List DV)(cm:fB→Int)(hg:∀x∈xs,∀h,fc D g ([aO x,.str s]++cap) h=some (.int .i64 (cm x),h))(hl:xs.length≤1000000)
  (hm:∀i j (hi:i<xs.length) (hj:j<xs.length),i≤j→cm xs[j]<0→cm xs[i]<0) (h:aA) :
  ∀(n i j:Nat) (f:cY),j-i=n→i≤j→j≤xs.length→f 0=eL t 5 aO xs→f 1=.str s→f 2=.func g cap→f 8=.int .i64 xs.length→f 9=.int .i64 i→f 10=.int .i64 j →
  (∀q (hq:q<i),(uK:q<xs.length)→cm xs[q]<0)→(∀q (hq:q<xs.length),j≤q→¬cm xs[q]<0) →
  dC (fin [.t 6,.t 7] (run D 49 [.block 0,.seq Qc] (.loop G5) f h))=some (.tup [.int .i64 (aU cm xs),.bool (fF cm xs)]):=by
 intro n
 induction n using Nat.strongRecOn with
 | ind n ih =>
  intro i j f hn UB hj h0 h1 h2 h8 h9 iA iG nP
  rw[aC G5.eq_1]
  by_cases bD:i<j
  ·have hk:(i+j) / 2<xs.length:=by omega
   have Ty:xs[(i+j) / 2]?=some xs[(i+j) / 2]:=List.getElem?_eq_getElem hk
   have sM:=hg xs[(i+j) / 2] (List.getElem_mem hk)
   simp only[aO,List.cons_append,List.nil_append]at sM
   have w1:IntKind.i64.wrap ((i:Int)+j)=((i:Int)+j):=aX (by omega) (by omega)
   have w2:IntKind.u64.wrap ((i:Int)+j)=((i:Int)+j):=By (by omega) (by omega)
   have w3:IntKind.i64.wrap (((i+j) / 2:Nat):Int)=((i+j) / 2:Nat):=aX (by omega) (by omega)
   have w4:IntKind.i64.wrap ((((i+j) / 2:Nat):Int)+1)=((((i+j) / 2:Nat):Int)+1):=aX (by omega) (by omega)
   by_cases hc:cm xs[(i+j) / 2]<0
   ·simp[h0,h1,h2,h8,h9,iA,bD,hk,Ty,sM,aO,w1,w2,w3,w4,hc,-Int.natCast_ediv]
    refine ih (j-((i+j) / 2+1)) (by omega) ((i+j) / 2+1) j _ rfl (by omega) hj ?_ ?_ ?_ ?_ ?_ ?_ ?_ nP<;>try simp[h0,h1,h2,h8,iA]
    intro q hq uK
    exact hm q ((i+j) / 2) uK hk (by omega) hc
   ·simp[h0,h1,h2,h8,h9,iA,bD,hk,Ty,sM,aO,w1,w2,w3,w4,hc,-Int.natCast_ediv]
    refine ih ((i+j) / 2-i) (by omega) i ((i+j) / 2) _ rfl (by omega) (by omega) ?_ ?_ ?_ ?_ ?_ ?_ iG ?_<;>try simp[h0,h1,h2,h8,h9]
    intro q hq uK
    exact Int.not_lt.1 fun hx=>hc (hm ((i+j) / 2) q hk hq uK hx)
  ·have S7:i=j:=by omega
   subst S7
   have dV:aU cm xs=i:=pL hj (fun q hq=>iG q hq (by omega)) (fun hq=>nP i hq (Nat.le_refl i))
   by_cases hi:i<xs.length
   ·have sM:=hg xs[i] (List.getElem_mem hi)
    simp only[aO,List.cons_append,List.nil_append]at sM
    have Ty:xs[i]?=some xs[i]:=List.getElem?_eq_getElem hi
    simp[Qc,h0,h1,h2,h8,h9,iA,hi,Ty,sM,aO,dV,fF,aI]
    rfl
   ·simp[Qc,h0,h1,h2,h8,h9,iA,hi,dV,fF,aI]
theorem s218(t:Bool)(xs:List fB)(s:List UInt8)(hl:xs.length≤1000000)(hm:∀i j (hi:i<xs.length) (hj:j<xs.length),i≤j→eS s xs[j]<0→eS s xs[i]<0) :
  pcF D CP [eL t 5 aO xs,.str s,.func 219 []]=some (.tup [.int .i64 (aU (eS s) xs),.bool (fF (eS s) xs)]):=by
 have hg:∀x∈xs,∀h,fc D 219 ([aO x,.str s]++[]) h=some (.int .i64 (eS s x),h):=fun x _ h=>by
  have:=s219 x s
  simp only[aO]at this
  simp[aO,e219,this]
 unfold pcF
 rw[aJ _ _ _ _ (by simp[CP])]
 simp[CP]
 refine l218 t xs s 219 [] (eS s) hg hl hm _ xs.length 0 xs.length _ (by omega) (by omega) (by omega) ?_ ?_ ?_ ?_ ?_ ?_ ?_ ?_<;>simp
 intro q hq uK
 omega
def mxI(a b:Int):Int:=if a<b then b else a
def mnI(a b:Int):Int:=if b<a then b else a
def gV(a b:fB):Option fB :=
 if a.kind=1 then(if b.kind=1∧mxI a.lo b.lo≤mnI a.hi b.hi then some {a with lo:=mxI a.lo b.lo,hi:=mnI a.hi b.hi} else none)
 else if b.kind=1 then none
 else if a.kind=2 then(if jA b a.text=true then some a else none)
 else if b.kind=2 then(if jA a b.text=true then some b else none)
 else if a.text.length<b.text.length then(if iQ b.text a.text=true then some b else none)
 else(if iQ a.text b.text=true then some a else none)
def kZ:fB:=⟨[],0,0,0,[]⟩
def kH(k:Int):Prop:=k=1∨k=2∨k=3
theorem s221(a b:fB)(ha:kH a.kind)(hb:kH b.kind):pcF D zA [aO a,aO b]=some (.tup [aO ((gV a b).getD kZ),.bool (hJ (gV a b))]):=by
 obtain⟨nm,k,lo,hi,tx⟩:=a
 obtain⟨nm',k',lo',kE,tx'⟩:=b
 simp only[kH]at ha hb
 unfold pcF
 rw[aJ _ _ _ _ (by simp[zA])]
 rcases ha with rfl|rfl|rfl
 ·rcases hb with rfl|rfl|rfl
  ·by_cases h:mnI hi kE<mxI lo lo'
   ·have h':¬mxI lo lo'≤mnI hi kE:=by omega
    simp only[mnI,mxI]at h h'
    simp[zA,aO,gV,mnI,mxI,h,h',turn,aI,hJ,kZ]
   ·have h':mxI lo lo'≤mnI hi kE:=by omega
    simp only[mnI,mxI]at h h'
    simp[zA,aO,gV,mnI,mxI,h,h',turn,aI,hJ,kZ]
  ·simp[zA,aO,gV,turn,aI,hJ,kZ]
  ·simp[zA,aO,gV,turn,aI,hJ,kZ]
 ·rcases hb with rfl|rfl|rfl
  ·simp[zA,aO,gV,turn,aI,hJ,kZ]
  ·have hh:=EI nm' 2 lo' kE tx' tx
   cases hq:jA ⟨nm',2,lo',kE,tx'⟩ tx<;>rw[hq]at hh<;>simp[zA,aO,gV,turn,aI,hJ,kZ,A6,M9,uU,A7,hh,hq]
  ·have hh:=EI nm' 3 lo' kE tx' tx
   cases hq:jA ⟨nm',3,lo',kE,tx'⟩ tx<;>rw[hq]at hh<;>simp[zA,aO,gV,turn,aI,hJ,kZ,A6,M9,uU,A7,hh,hq]
 ·rcases hb with rfl|rfl|rfl
  ·simp[zA,aO,gV,turn,aI,hJ,kZ]
  ·have hh:=EI nm 3 lo hi tx tx'
   cases hq:jA ⟨nm,3,lo,hi,tx⟩ tx'<;>rw[hq]at hh<;>simp[zA,aO,gV,turn,aI,hJ,kZ,A6,M9,uU,A7,hh,hq]
  ·by_cases hl:tx.length<tx'.length
   ·have hh:=EI nm 3 lo hi tx tx'
    have hd:jA ⟨nm,3,lo,hi,tx⟩ tx'=iQ tx' tx:=rfl
    rw[hd]at hh
    have Kv:(tx.length:Int)<tx'.length:=by omega
    cases hq:iQ tx' tx<;>rw[hq]at hh<;>simp[zA,aO,gV,turn,aI,hJ,kZ,A6,M9,uU,A7,hh,hq,hl,Kv]
   ·have hh:=EI nm' 3 lo' kE tx' tx
    have hd:jA ⟨nm',3,lo',kE,tx'⟩ tx=iQ tx tx':=rfl
    rw[hd]at hh
    have Kv:¬(tx.length:Int)<tx'.length:=by omega
    cases hq:iQ tx tx'<;>rw[hq]at hh<;>simp[zA,aO,gV,turn,aI,hJ,kZ,A6,M9,uU,A7,hh,hq,hl,Kv]
end Go.Dm.Tc
namespace Go.Dm.Tc
def yH(p:bI):Prop:=(p.map (·.name)).Pairwise fun a b=>Go.Op.bytesLess a b=true
theorem VD{a b:List UInt8}(h1:¬Go.Lib.compareBytes a b<0)(h2:Go.Lib.compareBytes a b≠0):Go.Op.bytesLess b a=true:=by
 have go:∀(a b:List UInt8),Go.Op.bytesLess a b=true∨a=b∨Go.Op.bytesLess b a=true:=by
  intro a
  induction a with
  | nil=>intro b;cases b<;>simp[Go.Op.bytesLess]
  | cons x a ih =>
   intro b
   cases b with
   | nil=>simp[Go.Op.bytesLess]
   | cons y b =>
    simp only[Go.Op.bytesLess]
    by_cases h1:x<y
    ·simp[h1]
    ·by_cases h2:y<x
     ·simp[h2]
     ·have:=JN h1 h2
      subst this
      rcases ih b with h|h|h<;>simp[h]
 rcases go a b with h|h|h
 ·exact absurd (yX.2 h) h1
 ·exact absurd (Dv.2 h) h2
 ·exact h
theorem yH.mono{p:bI}(h:yH p)(s:List UInt8):∀i j (hi:i<p.length) (hj:j<p.length),i≤j→eS s p[j]<0→eS s p[i]<0:=by
 intro i j hi hj UB hc
 unfold eS at *
 rw[yX]at *
 rcases Nat.lt_or_eq_of_le UB with bD|rfl
 ·have:=List.pairwise_iff_getElem.1 h i j (by simpa using hi) (by simpa using hj) bD
  simp only[List.getElem_map]at this
  exact yE this hc
 ·exact hc
theorem AU{α:Type}{cm:α→Int}{xs:List α}{q:Nat}(hq:q<aU cm xs)(hl:q<xs.length):cm xs[q]<0:=by
 have:=List.not_of_lt_findIdx hq
 simpa using this
theorem NL{α:Type}{cm:α→Int}{xs:List α}(hl:aU cm xs<xs.length):¬cm xs[aU cm xs]<0:=by
 intro hc
 have h1:(fun x=>!decide (cm x<0)) (xs[aU cm xs])=true:=List.findIdx_getElem (w:=hl)
 have h2:(!decide (cm xs[aU cm xs]<0))=true:=h1
 rw[decide_eq_true hc]at h2
 cases h2
def zE(out:bI)(c:fB):Option bI :=
 if fF (eS c.name) out=true then(match out[aU (eS c.name) out]? with
  | some x=>(match gV x c with|some b=>some (out.set (aU (eS c.name) out) b)|none=>none)
  | none=>none)
 else if out.length=5 then none else some (out.take (aU (eS c.name) out)++c::out.drop (aU (eS c.name) out))
def mT:bI→bI→Option bI
 | out,[]=>some out
 | out,c::r=>match zE out c with
  | some o=>mT o r
  | none=>none
theorem R6{a b x:fB}(hn:a.name=b.name)(h:gV a b=some x):x.name=a.name:=by
 unfold gV at h
 repeat' split at h
 all_goals first
  | (cases h;done)
  | (cases h;first|rfl|exact hn.symm)
theorem Kn{a b x:fB}(ha:kH a.kind)(hb:kH b.kind)(h:gV a b=some x):kH x.kind:=by
 unfold gV at h
 repeat' split at h
 all_goals first
  | (cases h;done)
  | (cases h;first|exact ha|exact hb)
theorem Hx{cm:fB→Int}{out:bI}(h:fF cm out=true):∃ x,out[aU cm out]?=some x∧cm x=0∧aU cm out<out.length:=by
 unfold fF at h
 split at h
 ·rename_i x hx
  exact⟨x,hx,by simpa using h,(List.getElem?_eq_some_iff.1 hx).1⟩
 ·cases h
theorem BB{out:bI}{c:fB}{o:bI}(hu:yH out)(hk:∀x∈out,kH x.kind)(hl:out.length≤5)(hc:kH c.kind)(h:zE out c=some o):yH o∧(∀x∈o,kH x.kind)∧o.length≤5:=by
 unfold zE at h
 split at h
 ·rename_i hh
  obtain⟨x,hx,At,bD⟩:=Hx hh
  rw[hx]at h
  simp only at h
  split at h
  ·rename_i b hb
   cases h
   have hxm:x∈out:=List.mem_of_getElem? hx
   have OD:b.name=x.name:=R6 (Dv.1 At) hb
   refine⟨?_,fun y hy=>?_,by simpa using hl⟩
   ·unfold yH at hu ⊢
    have:(out.set (aU (eS c.name) out) b).map (·.name)=out.map (·.name):=by
     rw[List.map_set]
     refine List.ext_getElem? fun i=>?_
     rw[List.getElem?_set]
     split
     ·rename_i e;subst e
      simp only[List.length_map,bD,if_true,List.getElem?_map,hx,Option.map_some,OD]
     ·rfl
    rw[this];exact hu
   ·rcases List.mem_or_eq_of_mem_set hy with h1|h1
    ·exact hk y h1
    ·subst h1;exact Kn (hk x hxm) hc hb
  ·cases h
 ·rename_i hh
  split at h
  ·cases h
  ·rename_i h5
   cases h
   refine⟨?_,fun y hy=>?_,by simp;omega⟩
   ·unfold yH at hu ⊢
    generalize sL:aU (eS c.name) out=k at *
    rw[List.map_append,List.map_cons,List.map_take,List.map_drop,List.pairwise_append,List.pairwise_cons]
    have iG:∀n∈(out.map (·.name)).take k,Go.Op.bytesLess n c.name=true:=by
     intro n hn
     obtain⟨i,hi,rfl⟩:=List.mem_iff_getElem.1 hn
     simp only[List.length_take,List.length_map]at hi
     simp only[List.getElem_take,List.getElem_map]
     have:=AU (cm:=eS c.name) (xs:=out) (q:=i) (by rw[sL];omega) (by omega)
     exact yX.1 this
    have nP:∀n∈(out.map (·.name)).drop k,Go.Op.bytesLess c.name n=true:=by
     intro n hn
     obtain⟨i,hi,rfl⟩:=List.mem_iff_getElem.1 hn
     simp only[List.length_drop,List.length_map]at hi
     simp only[List.getElem_drop,List.getElem_map]
     have IR:k<out.length:=by omega
     have h0:¬eS c.name out[k]<0:=by
      have:=NL (cm:=eS c.name) (xs:=out) (by rw[sL];exact IR)
      simp only[sL]at this
      exact this
     have h1:eS c.name out[k]≠0:=by
      intro e
      apply hh
      unfold fF
      rw[sL,List.getElem?_eq_getElem IR]
      simp[e]
     have h2:=VD h0 h1
     by_cases sA:i=0
     ·subst sA;simpa using h2
     ·have:=List.pairwise_iff_getElem.1 hu k (k+i) (by simpa using IR) (by simp;omega) (by omega)
      simp only[List.getElem_map]at this
      exact yE h2 this
    refine⟨hu.sublist (List.take_sublist ..),⟨nP,hu.sublist (List.drop_sublist ..)⟩,?_⟩
    intro x hx y hy
    rcases List.mem_cons.1 hy with rfl|hy
    ·exact iG x hx
    ·exact yE (iG x hx) (nP y hy)
   ·rcases List.mem_append.1 hy with h1|h1
    ·exact hk y (List.mem_of_mem_take h1)
    ·rcases List.mem_cons.1 h1 with rfl|h1
     ·exact hc
     ·exact hk y (List.mem_of_mem_drop h1)
theorem Om(t:Bool)(h:aA)(ty:Nat)(k:IntKind)(m:Int):resolve t h 200 (.iface ty (.int k m))=some (.iface ty (.int k m)):=rfl
theorem s55(s:List UInt8)(i:Int)(ty:Nat)(e:Int):∃ T v,pcF D t55 [.str s,.int .i64 i,.iface ty (.int .i64 e)]=some (.iface T v)∧(∀h,resolve false h 199 (.iface T v)=some (.iface T v))∧bJ 199 (.iface T v)=true:=by
 unfold pcF
 rw[aJ _ _ _ _ (by simp[t55])]
 simp[t55,uD,Gi]
 exact⟨_,_,rfl,fun _=>rfl,rfl⟩
end Go.Dm.Tc
namespace Go.Dm.Tc
theorem l192(S:List Fr)(t:Bool)(l:bI)(hl:l.length≤1000000)(hr:∀c∈l,dD c=true∧c.name.length≤1000000)(P:Res→Prop) :
  ∀(rest:bI) (i:Nat) (f:cY) (h:aA),l.drop i=rest→f 0=eL t 5 aO l→f 3=.nili→f 13=eL t 5 aO l→f 14=.int .i64 l.length→f 15=.int .i64 i→h.lim=0→WF h →
  (∀f' h',f' 0=eL t 5 aO l→f' 3=.nili→h'.lim=0→WF h'→P (run D 75 S Qj f' h')) →
  P (run D 75 (.block 0::.seq Qj::S) (.loop Qi) f h):=by
 intro rest
 induction rest with
 | nil =>
  intro i f h hd h0 h3 nC Gh zI aM wf hP
  have hi:=bR hd
  have:¬(i<l.length):=by omega
  rw[aC Qi.eq_1]
  simp[Gh,zI,this]
  refine hP _ _ ?_ ?_ aM wf<;>simp[h0,h3]
 | cons c rest ih =>
  intro i f h hd h0 h3 nC Gh zI aM wf hP
  obtain⟨hi,he,fI⟩:=cB hd
  have hc:=hr c (by rw[←he];exact List.getElem_mem hi)
  have hs:=s138 c.name c.kind c.lo c.hi c.text hc.2
  have uP:dD ⟨c.name,c.kind,c.lo,c.hi,c.text⟩=true:=hc.1
  rw[uP]at hs
  rw[aC Qi.eq_1]
  simp[nC,Gh,zI,hi,he,aO,aM,wf,turn,e138,hs]
  rw[aX (by omega) (by omega)]
  generalize hF:upd _ 15 _=F
  refine ih (i+1) F _ fI ?_ ?_ ?_ ?_ ?_ ?_ ?_ hP
  ·rw[←hF];simp[h0]
  ·rw[←hF];simp[h3]
  ·rw[←hF];simp[nC]
  ·rw[←hF];simp[Gh]
  ·rw[←hF];simp
  ·simp[aM]
  ·simp[wf]
def wG(o:Option bI)(r:Option DV):Prop :=
 match o with
 | some out=>r=some (.tup [eL false 5 aO out,.nili])
 | none=>∃ T v,r=some (.tup [.isl false 0 [],.iface T v])
theorem m192(t:Bool)(l:bI)(hl:l.length≤1000000)(hr:∀c∈l,kH c.kind) :
  ∀(rest:bI) (i:Nat) (out:bI) (v:DV) (f:cY) (h:aA),l.drop i=rest→yH out→(∀c∈out,kH c.kind)→out.length≤5→f 3=.nili→f 27=eL t 5 aO l→f 28=.int .i64 l.length→f 29=.int .i64 i→f 6=v →
  Own 0 h v 96 5 (out.map aO)→h.lim=0→WF h →
  wG (mT out rest) (dC (fin [.t 2,.t 3] (run D 75 [.block 2,.seq H6] (.loop Qh) f h))):=by
 intro rest
 induction rest with
 | nil =>
  intro i out v f h hd hu hk h5 h3 UJ WJ o0 h6 ho aM wf
  have hi:=bR hd
  have:¬(i<l.length):=by omega
  have r1:resolve false h 199 v=some (eL false 5 aO out):=ho.toR.resolve false (fun y _=>(lZ y).1) (by decide)
  rw[aC Qh.eq_1]
  simp[H6,WJ,o0,this,h6,h3,mT,wG,aI,r1]
  exact eV (fun y _=>(lZ y).2) 199 (by decide)
 | cons c rest ih =>
  intro i out v f h hd hu hk h5 h3 UJ WJ o0 h6 ho aM wf
  obtain⟨hi,he,fI⟩:=cB hd
  have hc:=hr c (by rw[←he];exact List.getElem_mem hi)
  have n0:0≤h.n:=Nat.zero_le _
  have r1:∀o,resolve true (h.push o) 200 v=some (eL true 5 aO out):=fun o=>ho.push.toR.resolve true (fun y _=>(lZ y).1) (by decide)
  have hs:=s218 true out c.name (by omega) (hu.mono c.name)
  rw[aC Qh.eq_1]
  cases hh:fF (eS c.name) out with
  | true =>
   obtain⟨x,hx,At,bD⟩:=Hx hh
   rw[hh]at hs
   cases ho with
   | nil hv hx=>simp at hx;subst hx;simp at bD
   | arr id hv hg Nu dV =>
    have Gf:bS 5 v (.int .i64 (aU (eS c.name) out:Nat))=some (.ptr id 5 (aU (eS c.name) out) 0):=by rw[hv];simp[bS,asI,bD]
    have Ky:=bB hg
    have eG:¬id=h.n:=by omega
    have Kt:¬h.n=id:=by omega
    have Tw:¬id=h.n+1:=by omega
    have hidn2:id<h.n+1+1:=by omega
    have hxm:x∈out:=List.mem_of_getElem? hx
    have hb:=s221 x c (hk x hxm) hc
    have uJ:out[aU (eS c.name) out]=x:=by rw[List.getElem?_eq_getElem bD]at hx;exact Option.some.inj hx
    cases hj:gV x c with
    | none =>
     rw[hj]at hb
     simp only[aO,Option.getD,hJ]at hb
     obtain⟨T,w,hw,BD,VW⟩:=s55 [112,114,101,100] i 65 5
     simp[UJ,WJ,o0,hi,he,h6,h3,r1,aM,wf,turn,UU,hs,hg,Gf,Ky,bD,uJ,eG,Kt,Tw,hidn2,e221,hb,e55,hw,BD,VW,Om,aI,aO,mT,zE,hh,hx,hj,wG]
    | some b =>
     rw[hj]at hb
     simp only[aO,Option.getD,hJ]at hb
     have rZ:zE out c=some (out.set (aU (eS c.name) out) b):=by simp[zE,hh,hx,hj]
     obtain⟨g1,g2,g3⟩:=BB hu hk h5 hc rZ
     have BH:mT out (c::rest)=mT (out.set (aU (eS c.name) out) b) rest:=by simp only[mT,rZ]
     have hidn1:id<h.n+1:=by omega
     rw[BH]
     simp[UJ,WJ,o0,hi,he,h6,h3,r1,aM,wf,turn,UU,hs,hg,Gf,Ky,hidn1,bD,uJ,eG,Kt,Tw,hidn2,e221,hb,aO]
     rw[aX (by omega) (by omega)]
     generalize hF:upd _ 29 _=F
     refine ih (i+1) _ v F _ fI g1 g2 g3 ?_ ?_ ?_ ?_ ?_ (.arr id (by rw[hv];simp) ?_ ?_ (Nat.zero_le _)) ?_ ?_
     ·rw[←hF];simp[h3]
     ·rw[←hF];simp[UJ]
     ·rw[←hF];simp[WJ]
     ·rw[←hF];simp
     ·rw[←hF];simp[h6]
     ·simp[eG,Kt,Tw,Ky,wf,List.map_set,aO]
     ·simp[aM]
     ·simp[aM]
     ·simp[wf]
  | false =>
   rw[hh]at hs
   by_cases hf:out.length=5
   ·obtain⟨T,w,hw,BD,VW⟩:=s55 [112,114,101,100] i 65 7
    have m7:lenV (h.push (.arr 96 5 [aO c] (some 1))) 1 v=some (.int .i64 out.length):=by simpa using ho.push.toR.lenV
    simp only[aO]at m7
    simp[UJ,WJ,o0,hi,he,h6,h3,r1,aM,wf,turn,UU,hs,m7,hf,e55,hw,BD,VW,Om,aI,aO,mT,zE,hh,wG]
   ·have m7:lenV (h.push (.arr 96 5 [aO c] (some 1))) 1 v=some (.int .i64 out.length):=by simpa using ho.push.toR.lenV
    simp only[aO]at m7
    have hf':¬(out.length:Int)=5:=by omega
    have rZ:zE out c=some (out.take (aU (eS c.name) out)++c::out.drop (aU (eS c.name) out)):=by simp[zE,hh,hf]
    obtain⟨g1,g2,g3⟩:=BB hu hk h5 hc rZ
    have BH:mT out (c::rest)=mT (out.take (aU (eS c.name) out)++c::out.drop (aU (eS c.name) out)) rest:=by simp only[mT,rZ]
    rw[BH]
    simp[UJ,WJ,o0,hi,he,h6,h3,r1,aM,wf,turn,UU,hs,m7,hf,hf',aO]
    generalize hA:fc D _ _ _=A
    obtain⟨v',K,rfl,p,x,_⟩:=q222 hA 0 out c (vety:=96) (c:=1) ho.push.push (by simp[aO]) (dB _ _) (by omega) (by simp[wf]) (Nat.zero_le _) (by simp[aM])
    clear hA
    simp[o0]
    rw[aX (by omega) (by omega)]
    generalize hF:upd _ 29 _=F
    refine ih (i+1) _ v' F K fI g1 g2 g3 ?_ ?_ ?_ ?_ ?_ p ?_ x.wf
    ·rw[←hF];simp[h3]
    ·rw[←hF];simp[UJ]
    ·rw[←hF];simp[WJ]
    ·rw[←hF];simp
    ·rw[←hF];simp
    ·rw[x.lim];simp[aM]
theorem s192(t:Bool)(l:bI)(hl:l.length≤1000000)(hr:∀c∈l,dD c=true∧c.name.length≤1000000)(hk:∀c∈l,kH c.kind):wG (mT [] l) (pcF D CX [eL t 5 aO l]):=by
 unfold pcF
 rw[aJ _ _ _ _ (by simp[CX])]
 simp[CX]
 generalize hF:upd _ 15 _=F
 refine l192 [] t l hl hr (fun r=>wG (mT [] l) (dC (fin [.t 2,.t 3] r))) l 0 F pB rfl ?_ ?_ ?_ ?_ ?_ ?_ ?_ fun f' h' k0 k3 klim kwf=>?_
 ·rw[←hF];simp
 ·rw[←hF];simp
 ·rw[←hF];simp
 ·rw[←hF];simp
 ·rw[←hF];simp
 ·simp
 ·simp
 ·simp[Qj,k0]
  refine m192 t l hl hk l 0 [] .nsl _ h' rfl (by simp[yH]) (by simp) (by simp) ?_ ?_ ?_ ?_ ?_ (.nil rfl rfl) klim kwf<;>simp[k3]
end Go.Dm.Tc
