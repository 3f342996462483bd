/- A part of the proof. -/
import Derived.Test.YtegofjiikhlokaaGreatDoorMs1
import Derived.Test.YtegofjiikhlokaaGreatDoorMs0
set_option linter.all false
namespace Go.Dm.Tc
set_option maxRecDepth 20000
theorem v96(me:Int)(aM:List Int)(adv:List bG)(seen:List ID)(ent:List aX)(own:List fT)(tc td sc sd:Int)(p:bJ)(bK:Int)(U:Bool)(kZ:ent.length≤100000)(F:cT)(H:aA)
  (g0:H.get 0=some (.arr 36 6 [.agg [.int .i64 me,eL false 1 bO aM,eL false 4 aG adv,eL false 2 eID seen,eL false 7 aD ent,eL false 3 cP own]] (some 1)))
  (g1:H.get 1=some (.arr 114 7 [.agg [.int .i64 tc,.int .i64 td,.int .i64 sc,.int .i64 sd,bE p,.int .i64 bK,.bool U]] (some 1)))
  (g2:H.get 2=some (.arr 36 6 [.agg [.int .i64 0,.nsl,.nsl,.nsl,.nsl,.nsl]] (some 1))) (aL:H.lim=0) (hn:3≤H.n) (wf:WF H) (h2:F 2=.ptr 0 6 0 0) (h3:F 3=.ptr 1 7 0 0) (h4:F 4=.ptr 2 6 0 0) (h7:F 7=.int .i64 0) :
  cW (fin [.cell 4 (some 6),.t 5] (run D 115 [.block 0,.seq Fk] (.loop Ih) F H))=some (.tup [aE .none ⟨me,aM,adv,seen,tM ⟨⟨tc,td⟩,⟨sc,sd⟩,p,bK,U⟩ ent,own⟩,.bool U]):=by
 obtain⟨f1,k1,k2,k3,k4,k5,k6⟩:=l96 [] H (.int .i64 me) (eL false 1 bO aM) (eL false 4 aG adv) (eL false 2 eID seen) (eL false 3 cP own) ent tc td sc sd (bE p) (.int .i64 bK) (.bool U) (by omega) g0 g1 aL _ 0 F rfl (by omega) h2 h3 h7
 rw[k1]
 rw[h4]at k4
 clear k1
 have hJ:=cZ (fB ⟨tc,td⟩ ⟨sc,sd⟩) ent
 have v0:¬0=H.n:=by omega
 have v1:¬1=H.n:=by omega
 have v2:¬2=H.n:=by omega
 have v3:¬H.n=0:=by omega
 have v4:¬H.n=1:=by omega
 simp[Fk,k2,k3,k4,k6,hJ,g0,g1,g2,aL,wf,v0,v1,v2,v3,v4]
 generalize hA:aY _ _ _ _ _ _=A
 obtain⟨i1,K1,rfl,o1,x1,y1,j1⟩:=(fO.fresh (lo:=3) (ety:=114) (sz:=7) (xs:=[]) (cap:=some 0) (by omega) hn).append (n:=0) rfl wf.push (by simp;omega) (by simp[aL]) hA (by simp;omega) (by decide)
 clear hA
 have a0:=x1.get 0 (by decide)
 have a1:=x1.get 1 (by decide)
 have a2:=x1.get 2 (by decide)
 have q1:=x1.lim
 have w1:=x1.wf
 have n1:=x1.le
 have u1:=o1.lo
 have m0:¬0=i1:=by omega
 have m1:¬i1=0:=by omega
 have m2:¬i1=1:=by omega
 have m3:¬1=i1:=by omega
 simp[g0,g1,g2,v0,v1,v2,aL]at a0 a1 a2 q1 o1
 simp[k2,k3,g0,g1,a0,a1,a2,q1,m0,m1,m2,m3,v3,v4,hJ]
 generalize hA:aY _ _ _ _ _ _=A
 obtain⟨i2,K2,rfl,o2,x2,y2,j2⟩:=(o1.push (o:=_)).append (by simp[hJ]) (by simp[w1]) (by simp;omega) (by simp[q1]) hA (by simp;omega) (by decide)
 clear hA
 have b0:=x2.get 0 (by decide)
 have b1:=x2.get 1 (by decide)
 have b2:=x2.get 2 (by decide)
 have q2:=x2.lim
 have w2:=x2.wf
 have n2:=x2.le
 have u2:=o2.lo
 have c0:¬0=K1.n:=by omega
 have c1:¬1=K1.n:=by omega
 have c2:¬2=K1.n:=by omega
 have m4:¬i2=0:=by omega
 have m5:¬i2=1:=by omega
 simp[a0,a1,a2,q1,c0,c1,c2]at b0 b1 b2 q2 o2
 simp[k2,k3,k6,g0,g1,a0,b0,b1,b2,q2,m0,m1,m2,m3,m4,m5,v3,v4,hJ]
 generalize hA:aY _ _ _ _ _ _=A
 obtain⟨i3,K3,rfl,o3,x3,y3,j3⟩:=o2.append (by simp[hJ]) w2 n2 (by omega) hA (by simp;omega) (by decide)
 clear hA
 have d0:=x3.get 0 (by decide)
 have d1:=x3.get 1 (by decide)
 have d2:=x3.get 2 (by decide)
 have q3:=x3.lim
 have w3:=x3.wf
 have n3:=x3.le
 have l3:0<K3.n:=by omega
 have l32:2<K3.n:=by omega
 rw[b0]at d0
 rw[b1]at d1
 rw[b2]at d2
 rw[q2]at q3
 have cH:(List.take (aV (fB ⟨tc,td⟩ ⟨sc,sd⟩) ent) (List.map aD ent)++DV.agg [.int .i64 tc,.int .i64 td,.int .i64 sc,.int .i64 sd,bE p,.int .i64 bK,.bool U]::List.drop (aV (fB ⟨tc,td⟩ ⟨sc,sd⟩) ent) (List.map aD ent))=(tM ⟨⟨tc,td⟩,⟨sc,sd⟩,p,bK,U⟩ ent).map aD:=by simp[tM,aD]
 simp only[List.append_assoc,List.singleton_append]at o3
 rw[cH]at o3
 have pN:min (aV (fB ⟨tc,td⟩ ⟨sc,sd⟩) ent) ent.length=aV (fB ⟨tc,td⟩ ⟨sc,sd⟩) ent:=by omega
 have Xy:(tM ⟨⟨tc,td⟩,⟨sc,sd⟩,p,bK,U⟩ ent).length=aV (fB ⟨tc,td⟩ ⟨sc,sd⟩) ent+1+(ent.length-aV (fB ⟨tc,td⟩ ⟨sc,sd⟩) ent):=by simp[tM,pN];omega
 have r4:=fun o o'=>((o3.toR.aU (o:=o) w3 (by decide) l3).aU (o:=o') w3.set (by decide) l32).resolve (n:=198) false (fun y _=>(cA y).1) (by decide)
 simp only[List.length_map,Xy]at r4
 simp[k2,k3,k4,g0,d0,d1,d2,q3,w3,l3,l32,turn,pN,v3,v4,m1,m4,r4,aI]
 simp[aE,dA.none]
theorem s96(b:aH)(e:aX)(hs:fG b)(hq:T8 b)(UU:cB e.pred):
  pcF D t96 [aE .none b,.agg [.int .i64 e.tree.aW,.int .i64 e.tree.seq,.int .i64 e.sub.aW,.int .i64 e.sub.seq,bE e.pred,.int .i64 e.bK,.bool e.up]]=some (.tup [aE .none (dW b e).1,.bool (dW b e).2]):=by
 obtain⟨me,aM,adv,seen,ent,own⟩:=b
 obtain⟨⟨tc,td⟩,⟨sc,sd⟩,p,bK,up⟩:=e
 obtain⟨z1,z2,z3,z4,z5⟩:=hs
 simp only at z1 z2 z3 z4 z5 UU
 obtain⟨R,hR⟩:∃ R,R=DV.tup [aE .none (dW ⟨me,aM,adv,seen,ent,own⟩ ⟨⟨tc,td⟩,⟨sc,sd⟩,p,bK,up⟩).1,.bool (dW ⟨me,aM,adv,seen,ent,own⟩ ⟨⟨tc,td⟩,⟨sc,sd⟩,p,bK,up⟩).2]:=⟨_,rfl⟩
 rw[←hR]
 have Aw:adv.length≤1000000:=by omega
 have kZ:ent.length≤1000000:=by omega
 have xJ:=uM (fun a:bG=>decide (a.id=⟨tc,td⟩)) adv
 have FJ:=uM (isE ⟨tc,td⟩ ⟨sc,sd⟩) ent
 have Ku:=Yl (l:=ent) (t:=⟨tc,td⟩) (s:=⟨sc,sd⟩)
 have hEn:=s147 (.int .i64 me) (eL false 1 bO aM) (eL false 4 aG adv) (eL false 2 eID seen) (eL false 3 cP own) false ent tc td sc sd kZ
 have hCv:=s148 (.int .i64 me) (eL false 1 bO aM) (eL false 4 aG adv) (eL false 2 eID seen) (eL false 3 cP own) false ent tc td p kZ UU hq.len
 unfold pcF
 rw[aJ _ _ _ _ (by simp[t96])]
 cases Ho:adv.find? (fun a=>decide (a.id=⟨tc,td⟩))with
 | none =>
  rw[Ho]at xJ
  simp only at xJ
  have wF:jU ⟨me,aM,adv,seen,ent,own⟩ ⟨⟨tc,td⟩,⟨sc,sd⟩,p,bK,up⟩=false:=by simp[jU,Ho]
  simp[t96,aE,dA.none,Di,Cg,Aw,xJ,gV,turn,aI]
  simp[hR,dW,wF,aE,dA.none]
 | some a =>
  rw[Ho]at xJ
  simp only at xJ
  obtain⟨j,hj,HL⟩:=xJ
  have UX:¬(j:Int)<0:=by omega
  cases yP:ent.find? (isE ⟨tc,td⟩ ⟨sc,sd⟩)with
  | some e2 =>
   rw[yP]at FJ Ku
   simp only at FJ
   obtain⟨k,hk,_⟩:=FJ
   rw[hk]at hEn
   have Ew:(0:Int)≤(k:Int):=by omega
   have wF:jU ⟨me,aM,adv,seen,ent,own⟩ ⟨⟨tc,td⟩,⟨sc,sd⟩,p,bK,up⟩=false:=by simp only[jU,Ho,Ku];simp[gK]
   simp[t96,aE,dA.none,Di,Cg,Aw,hj,UX,gV,Lo,hEn,Ew,turn,aI]
   simp[hR,dW,wF,aE,dA.none]
  | none =>
   rw[yP]at FJ Ku
   simp only at FJ
   rw[FJ]at hEn
   by_cases P5:bK=a.bN∧¬a.bN=-1
   ·have wF:jU ⟨me,aM,adv,seen,ent,own⟩ ⟨⟨tc,td⟩,⟨sc,sd⟩,p,bK,up⟩=false:=by simp only[jU,Ho,Ku];simp[P5.1,P5.2]
    have hf1:=P5.1
    have TB:=P5.2
    subst hf1
    simp[t96,aE,dA.none,Di,Cg,Aw,hj,UX,HL,aG,gV,Lo,hEn,TB,turn,aI]
    simp[hR,dW,wF,aE,dA.none]
   ·have wF:jU ⟨me,aM,adv,seen,ent,own⟩ ⟨⟨tc,td⟩,⟨sc,sd⟩,p,bK,up⟩=true:=by
     simp only[jU,Ho,Ku,gK]
     by_cases h1:bK=a.bN
     ·have h2:a.bN=-1:=by
       by_cases h2:a.bN=-1
       ·exact h2
       ·exact absurd ⟨h1,h2⟩ P5
      simp[h2]
     ·simp[h1]
    have xF:dR ⟨me,aM,adv,seen,ent,own⟩ ⟨tc,td⟩=a.bN:=by simp[dR,Ho]
    have mV:∀U F H,pD ⟨me,aM,adv,seen,ent,own⟩ ⟨⟨tc,td⟩,⟨sc,sd⟩,p,bK,up⟩=U→H.get 0=some (.arr 36 6 [.agg [.int .i64 me,eL false 1 bO aM,eL false 4 aG adv,eL false 2 eID seen,eL false 7 aD ent,eL false 3 cP own]] (some 1))→H.get 1=some (.arr 114 7 [.agg [.int .i64 tc,.int .i64 td,.int .i64 sc,.int .i64 sd,bE p,.int .i64 bK,.bool U]] (some 1)) →
      H.get 2=some (.arr 36 6 [.agg [.int .i64 0,.nsl,.nsl,.nsl,.nsl,.nsl]] (some 1))→H.lim=0→3≤H.n→WF H→F 2=.ptr 0 6 0 0→F 3=.ptr 1 7 0 0→F 4=.ptr 2 6 0 0→F 7=.int .i64 0 →
      cW (fin [.cell 4 (some 6),.t 5] (run D 115 [.block 0,.seq Fk] (.loop Ih) F H))=some R:=fun U F H u a0 a1 a2 a3 a4 a5 a6 a7 a8 a9=>by
     rw[v96 me aM adv seen ent own tc td sc sd p bK U z4 F H a0 a1 a2 a3 a4 a5 a6 a7 a8 a9,hR]
     simp[dW,wF,u]
    by_cases Cs:a.bN=-1
    ·have sJ:pD ⟨me,aM,adv,seen,ent,own⟩ ⟨⟨tc,td⟩,⟨sc,sd⟩,p,bK,up⟩=false:=by simp[pD,xF,Cs]
     by_cases NL:bK=-1
     ·simp[t96,aE,dA.none,Di,Cg,Aw,hj,UX,HL,aG,gV,Lo,hEn,Cs,eq_true NL,turn]
      refine mV false _ _ sJ ?_ ?_ ?_ ?_ ?_ ?_ ?_ ?_ ?_ ?_<;>simp
     ·simp[t96,aE,dA.none,Di,Cg,Aw,hj,UX,HL,aG,gV,Lo,hEn,Cs,NL,turn]
      refine mV false _ _ sJ ?_ ?_ ?_ ?_ ?_ ?_ ?_ ?_ ?_ ?_<;>simp
    ·have P6:¬bK=a.bN:=fun e=>P5 ⟨e,Cs⟩
     cases hC:cK ent ⟨tc,td⟩ p with
     | true =>
      rw[hC]at hCv
      have sJ:pD ⟨me,aM,adv,seen,ent,own⟩ ⟨⟨tc,td⟩,⟨sc,sd⟩,p,bK,up⟩=false:=by simp[pD,hC]
      by_cases NL:bK=-1
      ·simp[t96,aE,dA.none,Di,Cg,Aw,hj,UX,HL,aG,gV,Lo,hEn,Cs,P6,eq_true NL,GC,hCv,turn]
       refine mV false _ _ sJ ?_ ?_ ?_ ?_ ?_ ?_ ?_ ?_ ?_ ?_<;>simp
      ·simp[t96,aE,dA.none,Di,Cg,Aw,hj,UX,HL,aG,gV,Lo,hEn,Cs,P6,NL,GC,hCv,turn]
       refine mV false _ _ sJ ?_ ?_ ?_ ?_ ?_ ?_ ?_ ?_ ?_ ?_<;>simp
     | false =>
      rw[hC]at hCv
      have sJ:pD ⟨me,aM,adv,seen,ent,own⟩ ⟨⟨tc,td⟩,⟨sc,sd⟩,p,bK,up⟩=true:=by simp[pD,xF,Cs,hC]
      by_cases NL:bK=-1
      ·simp[t96,aE,dA.none,Di,Cg,Aw,hj,UX,HL,aG,gV,Lo,hEn,Cs,P6,eq_true NL,GC,hCv,turn]
       refine mV true _ _ sJ ?_ ?_ ?_ ?_ ?_ ?_ ?_ ?_ ?_ ?_<;>simp
      ·simp[t96,aE,dA.none,Di,Cg,Aw,hj,UX,HL,aG,gV,Lo,hEn,Cs,P6,NL,GC,hCv,turn]
       refine mV true _ _ sJ ?_ ?_ ?_ ?_ ?_ ?_ ?_ ?_ ?_ ?_<;>simp
end Go.Dm.Tc
/-
Two rows of one element type side by side: what is put behind one leaves the other one alone.
-/
namespace Go.Dm.Tc
def xZ(v:DV)(k:Nat):Prop:=∀sz off len,v≠.sl k sz off len
theorem qY{lo:Nat}{h:aA}{v:DV}{ety sz bytes:Nat}{xs ys:List DV}{A:Option (DV×aA)}(w:OwnR lo h v ety sz xs)(wf:WF h)(dS:lo≤h.n)(aL:h.lim≤h.n)(hA:aY h ety sz bytes v ys=A)
  (hb:(xs.length+ys.length)*bytes≤140737488355328) (Bt:1≤bytes) :
  ∃ v' h',A=some (v',h')∧OwnR lo h' v' ety sz (xs++ys)∧Ext lo h h'∧(∀k,k<h.n→xZ v k→h'.get k=h.get k)∧(∀k,k<h.n→xZ v k→xZ v' k):=by
 have hm:xs.length+ys.length≤140737488355328:=Nat.le_trans (Nat.le_mul_of_pos_right _ Bt) hb
 by_cases hy:ys=[]
 ·subst hy
  refine⟨v,h,?_,by simpa using w,.refl dS wf,fun _ _ _=>rfl,fun _ _ q=>q⟩
  rw[←hA]
  cases w with
  | nil hv hx=>subst hv;rfl
  | arr id sp cap hv hg _ _=>subst hv;rfl
 ·have So:ys.isEmpty=false:=by cases ys<;>simp_all
  have ZJ:0<ys.length:=List.length_pos_iff.2 hy
  cases w with
  | nil hv hx =>
   subst hv;subst hx
   simp only[List.length_nil,Nat.zero_add]at hb hm
   refine⟨.sl h.n sz 0 ys.length,h.push (.arr ety sz ys none),?_,.arr h.n [] none rfl (by simp[cM]) (by exact aL) dS,(Ext.refl dS wf).push,fun k hk _=>by rw[cM,if_neg (by omega)],fun k hk _ eM off' len' e=>by injection e;omega⟩
   rw[←hA]
   simp only[aY,So]
   rw[if_neg (by simp),if_pos ⟨hb,by omega⟩]
  | arr id sp cap hv hg hl hi =>
   subst hv
   have bC:=bB hg
   have eG:∀k,xZ (.sl id sz 0 xs.length) k→k≠id:=fun k q e=>by subst e;exact q _ _ _ rfl
   by_cases rX:xs.length+ys.length≤(xs++sp).length
   ·refine⟨.sl id sz 0 (xs.length+ys.length),h.set id (.arr ety sz (dD (xs++sp) ys xs.length) cap),?_,.arr id (sp.drop ys.length) cap (by simp) ?_ (by exact hl) hi,(Ext.refl dS wf).set hi bC,fun k _ q=>by rw[bY wf bC,if_neg (eG k q)],fun k _ q eM off' len' e=>by injection e with e1;exact eG k q e1.symm⟩
    ·rw[←hA];exact kO hg rX hl hb Bt hy
    ·rw[bY wf bC,if_pos rfl]
     simp only[dD,List.take_left',List.append_assoc]
     congr 3
     rw[List.drop_append]
     simp
   ·cases cap with
    | none =>
     refine⟨.sl h.n sz 0 (xs.length+ys.length),(h.set id .dead).push (.arr ety sz (xs++ys) none),?_,.arr h.n [] none (by simp) ?_ (by exact aL) dS,((Ext.refl dS wf).set hi bC).push,fun k hk q=>by rw[cM,if_neg (by show ¬k=h.n;omega),bY wf bC,if_neg (eG k q)],fun k hk _ eM off' len' e=>by injection e;omega⟩
     ·rw[←hA]
      simp only[aY,So,hg]
      simp only[Bool.false_eq_true,if_false,true_and,Nat.zero_add,List.drop_zero]
      rw[if_pos ⟨by simp,hb,by omega⟩,if_neg rX,if_pos hl]
      simp
     ·simpa using cR (h:=h.set id .dead)
    | some c =>
     refine⟨.sl h.n sz 0 (xs.length+ys.length),h.push (.arr ety sz (xs++ys) none),?_,.arr h.n [] none (by simp) ?_ (by exact aL) dS,(Ext.refl dS wf).push,fun k hk _=>by rw[cM,if_neg (by omega)],fun k hk _ eM off' len' e=>by injection e;omega⟩
     ·rw[←hA]
      rw[gZ hg (by simp) (by omega) hb Bt hy]
      simp
     ·simpa using cR (h:=h)
def dF(tree:ID):List aX→List aX→List aX→List aX×List aX
 | done,[],iG=>(done,iG)
 | done,e::r,iG=>if e.tree=tree∧e.up=false∧cK (done++e::r) tree e.pred=false then dF tree (done++[{e with up:=true}]) r (iG++[{e with up:=true}])else dF tree (done++[e]) r iG
def bZ(b : aH)(tree sub : ID)(bK : Int) : aH × List aX × Bool :=
  match b.entries.find? (isE tree sub)with
  | none => (b, [], false)
  | some e => if e.bK = bK then
      (if e.up = true then({ b with entries := (dF tree [] (b.entries.filter fun x => !isE tree sub x) []).1 }, (dF tree [] (b.entries.filter fun x => !isE tree sub x) []).2, true)
       else({ b with entries := b.entries.filter fun x => !isE tree sub x }, [], false))
    else(b, [], false)
end Go.Dm.Tc
/-
What functions of the program compute,part 19: an entry taken out (the loop).
-/
namespace Go.Dm.Tc
theorem YB{α:Type}(l:List α)(e e':α)(r:List α)(sp:List α):(l++e::r++sp).set l.length e'=l++e'::r++sp:=by
 rw[List.append_assoc,List.append_assoc,List.set_append_right _ _ (Nat.le_refl _)]
 simp
theorem Ry{lo:Nat}{h:aA}{v:DV}{ety sz:Nat}{xs:List DV}(w:OwnR lo h v ety sz xs)(wf:WF h){id:Nat}{o:DO}(bC:id<h.n)(na:xZ v id):OwnR lo (h.set id o) v ety sz xs:=by
 cases w with
 | nil hv hx=>exact .nil hv hx
 | arr k sp cap hv hg hl hi =>
  have eG:¬k=id:=fun e=>by subst e;exact na _ _ _ hv
  exact .arr k sp cap hv (by rw[bY wf bC,if_neg eG];exact hg) hl hi
theorem vI{lo:Nat}{h:aA}{v:DV}{ety sz:Nat}{xs:List DV}(w:OwnR lo h v ety sz xs){k:Nat}(hk:k<lo):xZ v k:=by
 intro a b c e
 cases w with
 | nil hv hx=>rw[hv]at e;cases e
 | arr id sp cap hv hg hl hi=>rw[hv]at e;injection e;omega
set_option maxHeartbeats 1600000 in
theorem l161(S:List Fr)(me:Int)(aM:List Int)(adv:List bG)(seen:List ID)(own:List fT)(tc td:Int)(i4 n:Nat)(zb:DO) :
  ∀(rest done iG:List aX) (f:cT) (h:aA),done.length+rest.length=n→n≤100000→iG.length≤done.length→(∀e∈done++rest,cB e.pred) →
   f 4=.ptr 0 6 0 0→f 5=.ptr 1 2 0 0→f 8=.ptr 3 6 0 0→f 56=.sl i4 7 0 n→f 57=.int .i64 n→f 58=.int .i64 done.length →
   h.get 0=some (.arr 36 6 [.agg [.int .i64 me,eL false 1 bO aM,eL false 4 aG adv,eL false 2 eID seen,.sl i4 7 0 n,eL false 3 cP own]] (some 1))→h.get 1=some (.arr 40 2 [.agg [.int .i64 tc,.int .i64 td]] (some 1))→h.get 3=some zb →
   fO 4 h i4 114 7 ((done++rest).map aD)→OwnR 4 h (f 9) 114 7 (iG.map aD)→xZ (f 9) i4→h.lim=0→4≤h.n→WF h →
  ∃ f' h',run D 96 (.block 0::.seq Aa::S) (.loop Ef) f h=run D 96 S Aa f' h'∧f' 4=.ptr 0 6 0 0∧f' 8=.ptr 3 6 0 0 ∧
   h'.get 0=some (.arr 36 6 [.agg [.int .i64 me,eL false 1 bO aM,eL false 4 aG adv,eL false 2 eID seen,.sl i4 7 0 n,eL false 3 cP own]] (some 1))∧h'.get 3=some zb ∧
   fO 4 h' i4 114 7 ((dF ⟨tc,td⟩ done rest iG).1.map aD)∧OwnR 4 h' (f' 9) 114 7 ((dF ⟨tc,td⟩ done rest iG).2.map aD)∧(dF ⟨tc,td⟩ done rest iG).1.length=n∧h'.lim=0∧4≤h'.n∧WF h':=by
 intro rest
 induction rest with
 | nil =>
  intro done iG f h hn AC hu hp h4 h5 h8 Yc Ea B1 g0 g1 g3 o4 o9 na aL ZP wf
  have:¬(done.length<n):=by simp at hn;omega
  rw[aC Ef.eq_1]
  simp[Ea,B1,this]
  refine⟨_,_,rfl,by simp[h4],by simp[h8],g0,g3,?_,?_,?_,aL,ZP,wf⟩
  ·simpa[dF]using o4
  ·simpa[dF]using o9
  ·simpa[dF]using hn
 | cons e rest ih =>
  intro done iG f h hn AC hu hp h4 h5 h8 Yc Ea B1 g0 g1 g3 o4 o9 na aL ZP wf
  have bC:done.length<n:=by simp at hn;omega
  have fI:=o4.lt
  have dS:=o4.lo
  have hL:(done++e::rest).length=n:=by simp at hn ⊢;omega
  obtain⟨⟨sp,cap,g4⟩,hl4,_⟩:=o4
  have hw:IntKind.i64.wrap ((done.length:Int)+1)=(done.length:Int)+1:=aT (by omega) (by omega)
  have n0:¬0=h.n:=by omega
  have n1:¬1=h.n:=by omega
  have n3:¬3=h.n:=by omega
  have n4:¬i4=h.n:=by omega
  have m0:¬h.n=0:=by omega
  have m1:¬h.n=1:=by omega
  have i0:¬0=i4:=by omega
  have i1:¬1=i4:=by omega
  have i3:¬3=i4:=by omega
  have j0:¬i4=0:=by omega
  have j1:¬i4=1:=by omega
  have xI:bQ 7 (.sl i4 7 0 n) (.int .i64 (done.length:Int))=some (.ptr i4 7 done.length 0):=by simp[bQ,asI,bC]
  have kZ:(List.map aD (done++e::rest)++sp)[done.length]?=some (aD e):=by
   rw[List.getElem?_append_left (by simp),List.getElem?_map,List.getElem?_append_right (Nat.le_refl _)];simp
  have f1:=fun {α:Type} (t:Bool) (sz:Nat) (e:α→DV) (xs:List α)=>(gS t sz e xs).mono (show 1≤20 by decide)
  have Z9:=hp e (by simp)
  have hCv:=s90 (.int .i64 me) (eL false 1 bO aM) (eL false 4 aG adv) (eL false 2 eID seen) (eL false 3 cP own) true (done++e::rest) tc td e.pred (by omega) Z9.unlike (Nat.le_trans Z9.len (by decide)) (fun x hx=>Nat.le_trans (hp x hx).len (by decide)) ((fL _ _).mono (by decide)) (f1 _ _ _ _) (f1 _ _ _ _) (f1 _ _ _ _) (f1 _ _ _ _)
  have o4R:∀o,OwnR 4 (h.push o) (.sl i4 7 0 n) 114 7 ((done++e::rest).map aD):=fun o=>by
   have:=(fO.toR (⟨⟨sp,cap,g4⟩,hl4,dS⟩:fO 4 h i4 114 7 ((done++e::rest).map aD))).push (o:=o)
   rw[List.length_map,hL]at this
   exact this
  have r4:∀o,resolve true (h.push o) 199 (.sl i4 7 0 n)=some (eL true 7 aD (done++e::rest)):=fun o=>(o4R o).resolve true (fun y _=>(cA y).1) (by decide)
  simp only[aD]at kZ
  have Ki:∀F o,dF ⟨tc,td⟩ done (e::rest) iG=dF ⟨tc,td⟩ (done++[e]) rest iG→F 4=.ptr 0 6 0 0→F 5=.ptr 1 2 0 0→F 8=.ptr 3 6 0 0→F 56=.sl i4 7 0 n→F 57=.int .i64 n→F 58=.int .i64 ((done.length:Int)+1)→F 9=f 9 →
    ∃ f' h',run D 96 (.block 0::.seq Aa::S) (.loop Ef) F (h.push o)=run D 96 S Aa f' h'∧f' 4=.ptr 0 6 0 0∧f' 8=.ptr 3 6 0 0 ∧
   h'.get 0=some (.arr 36 6 [.agg [.int .i64 me,eL false 1 bO aM,eL false 4 aG adv,eL false 2 eID seen,.sl i4 7 0 n,eL false 3 cP own]] (some 1))∧h'.get 3=some zb ∧
   fO 4 h' i4 114 7 ((dF ⟨tc,td⟩ done (e::rest) iG).1.map aD)∧OwnR 4 h' (f' 9) 114 7 ((dF ⟨tc,td⟩ done (e::rest) iG).2.map aD)∧(dF ⟨tc,td⟩ done (e::rest) iG).1.length=n∧h'.lim=0∧4≤h'.n∧WF h':=by
   intro F o ht a4 a5 a8 a56 a57 a58 a9
   rw[ht]
   refine ih (done++[e]) iG F _ (by simp at hn ⊢;omega) AC (by simp;omega) (by simpa using hp) a4 a5 a8 a56 a57 (by rw[a58];simp) ?_ ?_ ?_ ?_ ?_ ?_ aL (by show 4≤h.n+1;omega) wf.push
   ·rw[cM,if_neg n0];exact g0
   ·rw[cM,if_neg n1];exact g1
   ·rw[cM,if_neg n3];exact g3
   ·have:=(⟨⟨sp,cap,g4⟩,hl4,dS⟩:fO 4 h i4 114 7 ((done++e::rest).map aD)).push (o:=o)
    simpa using this
   ·rw[a9];exact o9.push
   ·rw[a9];exact na
  rw[aC Ef.eq_1]
  by_cases ht:e.tree=⟨tc,td⟩
  ·have uL:e.tree.aW=tc:=by rw[ht]
   have Av:e.tree.seq=td:=by rw[ht]
   cases sJ:e.up with
   | true =>
    have tQ:dF ⟨tc,td⟩ done (e::rest) iG=dF ⟨tc,td⟩ (done++[e]) rest iG:=by simp[dF,sJ]
    simp[h4,h5,Yc,Ea,B1,bC,xI,g4,kZ,aD,aL,n0,n1,n4,m0,m1,g0,g1,uL,Av,sJ,hw]
    generalize hF:upd _ 58 _=F
    exact Ki F _ tQ (by rw[←hF];simp[h4]) (by rw[←hF];simp[h5]) (by rw[←hF];simp[h8]) (by rw[←hF];simp[Yc]) (by rw[←hF];simp[Ea]) (by rw[←hF];simp) (by rw[←hF];simp)
   | false =>
    cases hC:cK (done++e::rest) ⟨tc,td⟩ e.pred with
    | true =>
     rw[hC]at hCv
     have tQ:dF ⟨tc,td⟩ done (e::rest) iG=dF ⟨tc,td⟩ (done++[e]) rest iG:=by simp only[dF];rw[if_neg];rw[hC];simp
     simp[h4,h5,Yc,Ea,B1,bC,xI,g4,kZ,aD,aL,n0,n1,n4,m0,m1,g0,g1,uL,Av,sJ,hw,-kY,r4,e90,hCv]
     generalize hF:upd _ 58 _=F
     exact Ki F _ tQ (by rw[←hF];simp[h4]) (by rw[←hF];simp[h5]) (by rw[←hF];simp[h8]) (by rw[←hF];simp[Yc]) (by rw[←hF];simp[Ea]) (by rw[←hF];simp) (by rw[←hF];simp)
    | false =>
     rw[hC]at hCv
     have Xw:dF ⟨tc,td⟩ done (e::rest) iG=dF ⟨tc,td⟩ (done++[{e with up:=true}]) rest (iG++[{e with up:=true}]):=by simp only[dF];rw[if_pos ⟨ht,sJ,hC⟩]
     simp[h4,h5,Yc,Ea,B1,bC,xI,g4,kZ,aD,aL,n0,n1,n4,m0,m1,i0,i1,i3,j0,j1,g0,g1,uL,Av,sJ,hw,-kY,r4,e90,hCv,hl4,fI,wf,turn]
     have Ap:(List.map aD done++DV.agg [.int .i64 tc,.int .i64 td,.int .i64 e.sub.aW,.int .i64 e.sub.seq,bE e.pred,.int .i64 e.bK,.bool false]::List.map aD rest++sp).set done.length (.agg [.int .i64 tc,.int .i64 td,.int .i64 e.sub.aW,.int .i64 e.sub.seq,bE e.pred,.int .i64 e.bK,.bool true])=List.map aD (done++{e with up:=true}::rest)++sp:=by
      have:=YB (List.map aD done) (DV.agg [.int .i64 tc,.int .i64 td,.int .i64 e.sub.aW,.int .i64 e.sub.seq,bE e.pred,.int .i64 e.bK,.bool false]) (.agg [.int .i64 tc,.int .i64 td,.int .i64 e.sub.aW,.int .i64 e.sub.seq,bE e.pred,.int .i64 e.bK,.bool true]) (List.map aD rest) sp
      rw[List.length_map]at this
      rw[this]
      simp[aD,uL,Av]
     generalize hA:aY _ _ _ _ _ _=A
     obtain⟨v',h',rfl,o9',x9,fr9,na9⟩:=qY ((Ry o9 wf fI na).push.push) (by simp[wf]) (by simp;omega) (by simp[aL]) hA (by simp;omega) (by decide)
     clear hA
     have y0:=fr9 0 (by simp) (vI o9 (by decide))
     have y1:=fr9 1 (by simp) (vI o9 (by decide))
     have y3:=fr9 3 (by simp;omega) (vI o9 (by decide))
     have y4:=fr9 i4 (by simp;omega) na
     have ny:=na9 i4 (by simp;omega) na
     have yl:=x9.lim
     have yw:=x9.wf
     have yn:=x9.le
     have n41:¬i4=h.n+1:=by omega
     have n31:¬3=h.n+1:=by omega
     have m2:¬h.n=2:=by omega
     simp[wf,fI,n0,n1,n3,n4,m0,m1,m2,i0,i1,i3,n41,n31,g0,g1,g3,aL]at y0 y1 y3 y4 yl
     simp[B1,hw]
     generalize hF:upd _ 58 _=F
     rw[Xw]
     refine ih (done++[{e with up:=true}]) (iG++[{e with up:=true}]) F h' (by simp at hn ⊢;omega) AC (by simp;omega) ?_ ?_ ?_ ?_ ?_ ?_ ?_ y0 y1 y3 ⟨⟨sp,cap,?_⟩,?_,dS⟩ ?_ ?_ yl yn yw
     ·intro x hx
      simp only[List.append_assoc,List.singleton_append,List.mem_append,List.mem_cons]at hx
      rcases hx with hx|rfl|hx
      ·exact hp x (by simp[hx])
      ·exact Z9
      ·exact hp x (by simp[hx])
     ·rw[←hF];simp[h4]
     ·rw[←hF];simp[h5]
     ·rw[←hF];simp[h8]
     ·rw[←hF];simp[Yc]
     ·rw[←hF];simp[Ea]
     ·rw[←hF];simp
     ·rw[y4];simp[aD,uL,Av]
     ·rw[yl];exact Nat.zero_le _
     ·rw[←hF];simp;simpa[aD,uL,Av]using o9'
     ·rw[←hF];simp;exact ny
  ·have tN:=qD ht
   simp only at tN
   have tQ:dF ⟨tc,td⟩ done (e::rest) iG=dF ⟨tc,td⟩ (done++[e]) rest iG:=by simp[dF,ht]
   simp[h4,h5,Yc,Ea,B1,bC,xI,g4,kZ,aD,aL,n0,n1,n4,m0,m1,g0,g1,tN,hw]
   generalize hF:upd _ 58 _=F
   exact Ki F _ tQ (by rw[←hF];simp[h4]) (by rw[←hF];simp[h5]) (by rw[←hF];simp[h8]) (by rw[←hF];simp[Yc]) (by rw[←hF];simp[Ea]) (by rw[←hF];simp) (by rw[←hF];simp)
end Go.Dm.Tc
/-
What functions of the program compute,part 20: an entry taken out.
-/
namespace Go.Dm.Tc
theorem Yz{l:List aX}(hr:fR l){t s:ID}{i:Nat}{a:aX}(hi:l[i]?=some a)(ha:isE t s a=true):l.take i++l.drop (i+1)=l.filter fun x=>!isE t s x:=by
 have bC:i<l.length:=by
  by_cases h:i<l.length
  ·exact h
  ·rw[List.getElem?_eq_none (by omega)]at hi;cases hi
 have xI:l[i]=a:=by rw[List.getElem?_eq_getElem bC]at hi;exact Option.some.inj hi
 have HP:a.tree=t∧a.sub=s:=by simpa[isE]using ha
 have h0:fB t s a=0:=nA.2 HP
 have eG:∀j (hj:j<l.length),j≠i→isE t s l[j]=false:=by
  intro j hj hji
  cases he:isE t s l[j]with
  | false=>rfl
  | true =>
   have kL:l[j].tree=t∧l[j].sub=s:=by simpa[isE]using he
   rcases Nat.lt_or_gt_of_ne hji with h|h
   ·have:=List.pairwise_iff_getElem.1 hr j i hj bC h
    rw[xI,HP.1,HP.2,nA.2 kL]at this
    omega
   ·have:=List.pairwise_iff_getElem.1 hr i j bC hj h
    rw[xI,kL.1,kL.2,h0]at this
    omega
 have h1:(l.take i).filter (fun x=>!isE t s x)=l.take i:=by
  rw[List.filter_eq_self]
  intro y hy
  obtain⟨j,hj,rfl⟩:=List.mem_iff_getElem.1 hy
  rw[List.length_take]at hj
  have:=eG j (by omega) (by omega)
  simpa using this
 have h2:(l.drop (i+1)).filter (fun x=>!isE t s x)=l.drop (i+1):=by
  rw[List.filter_eq_self]
  intro y hy
  obtain⟨j,hj,rfl⟩:=List.mem_iff_getElem.1 hy
  rw[List.length_drop]at hj
  have:=eG (i+1+j) (by omega) (by omega)
  simpa using this
 have h3:(l.drop i).filter (fun x=>!isE t s x)=l.drop (i+1):=by
  rw[List.drop_eq_getElem_cons bC,List.filter_cons,xI,ha,h2];simp
 calc l.take i++l.drop (i+1)=(l.take i++l.drop i).filter (fun x=>!isE t s x):=by rw[List.filter_append,h1,h3]
  _=_:=by rw[List.take_append_drop]
theorem s161(b:aH)(tc td sc sd bK:Int)(hs:fG b)(hq:∀e∈b.entries,cB e.pred)(re:fR b.entries) :
  pcF D E2 [aE .none b,.agg [.int .i64 tc,.int .i64 td],.agg [.int .i64 sc,.int .i64 sd],.int .i64 bK]=some (.tup [aE .none (bZ b ⟨tc,td⟩ ⟨sc,sd⟩ bK).1,eL false 7 aD (bZ b ⟨tc,td⟩ ⟨sc,sd⟩ bK).2.1,.bool (bZ b ⟨tc,td⟩ ⟨sc,sd⟩ bK).2.2]):=by
 obtain⟨me,aM,adv,seen,ent,own⟩:=b
 obtain⟨z1,z2,z3,z4,z5⟩:=hs
 simp only at z1 z2 z3 z4 z5 re hq
 obtain⟨R,hR⟩:∃ R,R=DV.tup [aE .none (bZ ⟨me,aM,adv,seen,ent,own⟩ ⟨tc,td⟩ ⟨sc,sd⟩ bK).1,eL false 7 aD (bZ ⟨me,aM,adv,seen,ent,own⟩ ⟨tc,td⟩ ⟨sc,sd⟩ bK).2.1,.bool (bZ ⟨me,aM,adv,seen,ent,own⟩ ⟨tc,td⟩ ⟨sc,sd⟩ bK).2.2]:=⟨_,rfl⟩
 rw[←hR]
 have kZ:ent.length≤1000000:=by omega
 have hPl:=s156 (.int .i64 me) (eL false 1 bO aM) (eL false 4 aG adv) (eL false 2 eID seen) (eL false 3 cP own) true ent tc td sc sd re kZ
 have wG:=hitE re ⟨tc,td⟩ ⟨sc,sd⟩
 unfold pcF
 rw[aJ _ _ _ _ (by simp[E2])]
 simp[E2,aE,dA.none,i7]
 generalize hA:dN _ _ _ _ _=A
 obtain⟨v4,K,rfl,o4,x,_⟩:=yR (lo:=4) (qF ..) (by simp) (by simp) (by simp) (by simp;omega) (by decide) hA
 clear hA
 have a0:=x.get 0 (by decide)
 have a1:=x.get 1 (by decide)
 have a2:=x.get 2 (by decide)
 have a3:=x.get 3 (by decide)
 have q0:=x.lim
 have w0:=x.wf
 have n0:=x.le
 simp at a0 a1 a2 a3 q0
 have l0':0<K.n:=by omega
 obtain⟨H,hH⟩:∃ H,H=K.set 0 (.arr 36 6 [.agg [.int .i64 me,eL false 1 bO aM,eL false 4 aG adv,eL false 2 eID seen,v4,eL false 3 cP own]] (some 1)):=⟨_,rfl⟩
 have wH:WF H:=by rw[hH];exact w0.set
 have nH:H.n=K.n:=by rw[hH];rfl
 have lH:H.lim=0:=by rw[hH];exact q0
 have g0:H.get 0=some (.arr 36 6 [.agg [.int .i64 me,eL false 1 bO aM,eL false 4 aG adv,eL false 2 eID seen,v4,eL false 3 cP own]] (some 1)):=by rw[hH,bY w0 l0',if_pos rfl]
 have g1:H.get 1=some (.arr 40 2 [.agg [.int .i64 tc,.int .i64 td]] (some 1)):=by rw[hH,bY w0 l0',if_neg (by decide)];exact a1
 have g2:H.get 2=some (.arr 40 2 [.agg [.int .i64 sc,.int .i64 sd]] (some 1)):=by rw[hH,bY w0 l0',if_neg (by decide)];exact a2
 have g3:H.get 3=some (.arr 36 6 [.agg [.int .i64 0,.nsl,.nsl,.nsl,.nsl,.nsl]] (some 1)):=by rw[hH,bY w0 l0',if_neg (by decide)];exact a3
 have st4:=o4.bD
 have ec4:=o4.aP
 replace o4:Own 4 H v4 114 7 (ent.map aD):=by rw[hH];exact o4.aU w0 (by decide) l0'
 simp[a0,a1,a2,a3,q0,w0,l0',st4,ec4,turn]
 rw[←hH]
 clear hH
 have l3:3<H.n:=by omega
 have l0:0<H.n:=by omega
 have r1:resolve true H 199 v4=some (eL true 7 aD ent):=o4.resolve true (fun y _=>(cA y).1) (by decide)
 have r2:∀o',resolve false (H.set 3 o') 198 v4=some (eL false 7 aD ent):=fun o'=>(o4.aU wH (by decide) l3).resolve false (fun y _=>(cA y).1) (by decide)
 cases yP:ent.find? (isE ⟨tc,td⟩ ⟨sc,sd⟩)with
 | none =>
  rw[yP]at wG
  simp only at wG
  have Gy:bZ ⟨me,aM,adv,seen,ent,own⟩ ⟨tc,td⟩ ⟨sc,sd⟩ bK=(⟨me,aM,adv,seen,ent,own⟩,[],false):=by simp[bZ,yP]
  simp[r1,r2,He,hPl,wG,g0,g3,lH,wH,l3,turn,aI]
  simp[hR,Gy,aE,dA.none,iD]
 | some e =>
  rw[yP]at wG
  simp only at wG
  obtain⟨PH,NK⟩:=wG
  obtain⟨i,hi⟩:∃ i,aV (fB ⟨tc,td⟩ ⟨sc,sd⟩) ent=i:=⟨_,rfl⟩
  rw[hi]at NK hPl
  have Gz:i<ent.length:=by
   by_cases h:i<ent.length
   ·exact h
   ·rw[List.getElem?_eq_none (by omega)]at NK;cases NK
  obtain⟨id,sp,cap,hv4,hg4,hl4,hlo4,Dy,Bs⟩:=o4.toR.index (i:=i) (x:=aD e) (by simp[NK]) .i64
  simp only[aD]at Bs
  by_cases tA:e.bK=bK
  ·have hw:IntKind.i64.wrap ((i:Int)+1)=(i:Int)+1:=aT (by omega) (by omega)
   have Dz:=Yz re NK (List.find?_some yP)
   obtain⟨v4',H',hD,m4,x2,_⟩:=s198 4 H v4 ent i o4 Gz kZ wH (by omega)
   rw[Dz]at m4
   obtain⟨fl,Tz⟩:∃ fl,(ent.filter fun x=>!isE ⟨tc,td⟩ ⟨sc,sd⟩ x)=fl:=⟨_,rfl⟩
   rw[Tz]at m4
   have hfln:fl.length≤100000:=by rw[←Tz];exact Nat.le_trans (List.length_filter_le ..) z4
   have hflp:∀x∈fl,cB x.pred:=fun x hx=>hq x (by rw[←Tz]at hx;exact(List.mem_filter.1 hx).1)
   have b0:=x2.get 0 (by decide)
   have b1:=x2.get 1 (by decide)
   have b3:=x2.get 3 (by decide)
   have q2:=x2.lim
   have w2:=x2.wf
   have n2:=x2.le
   rw[g0]at b0
   rw[g1]at b1
   rw[g3]at b3
   rw[lH]at q2
   have Ax:0<H'.n:=by omega
   have h23:3<H'.n:=by omega
   have r4:=fun o o'=>((m4.aU (o:=o) w2 (by decide) Ax).aU (o:=o') w2.set (by decide) h23).resolve (n:=198) false (fun y _=>(cA y).1) (by decide)
   cases sJ:e.up with
   | false =>
    have Gy:bZ ⟨me,aM,adv,seen,ent,own⟩ ⟨tc,td⟩ ⟨sc,sd⟩ bK=(⟨me,aM,adv,seen,fl,own⟩,[],false):=by simp[bZ,yP,tA,sJ,Tz]
    rw[sJ]at Bs
    simp[r1,He,hPl,PH,Dy,hg4,Bs,eq_true tA,g0,g3,lH,wH,l3,hw,hD,b0,b3,q2,w2,Ax,h23,m4.bD,m4.aP,r4,turn,aI]
    simp[hR,Gy,aE,dA.none,iD]
   | true =>
    have Gy:bZ ⟨me,aM,adv,seen,ent,own⟩ ⟨tc,td⟩ ⟨sc,sd⟩ bK=(⟨me,aM,adv,seen,(dF ⟨tc,td⟩ [] fl []).1,own⟩,(dF ⟨tc,td⟩ [] fl []).2,true):=by simp[bZ,yP,tA,sJ,Tz]
    rw[sJ]at Bs
    have st:=m4.bD
    have ec:=m4.aP
    cases m4 with
    | nil hv hx =>
     subst hv
     have hf0:fl=[]:=List.map_eq_nil_iff.1 hx
     subst hf0
     simp[r1,He,hPl,PH,Dy,hg4,Bs,eq_true tA,g0,g3,lH,wH,l3,hw,hD,b0,b3,q2,w2,Ax,h23,turn]
     rw[aC Ef.eq_1]
     simp[Aa,b0,b3,q2,w2,Ax,h23,turn,aI]
     simp[hR,Gy,aE,dA.none,iD,dF]
    | arr id2 sp2 cap2 hv hg hl hlo2 =>
     subst hv
     simp only[List.length_map]at hD st ec
     simp[r1,He,hPl,PH,Dy,hg4,Bs,eq_true tA,g0,g3,lH,wH,l3,hw,hD,b0,b3,q2,w2,Ax,h23,turn]
     generalize hF:upd _ 58 _=F
     have j0:¬id2=0:=by omega
     obtain⟨f1,K4,k1,k2,k3,c0,c3,o5,o9,cH,q4,n4,w4⟩:=l161 [] me aM adv seen own tc td id2 fl.length (.arr 36 6 [.agg [.int .i64 0,.nsl,.nsl,.nsl,.nsl,.nsl]] (some 1)) fl [] [] F (by simp) hfln (by simp) (by simpa using hflp) (by rw[←hF];simp) (by rw[←hF];simp) (by rw[←hF];simp) (by rw[←hF];simp) (by rw[←hF];simp) (by rw[←hF];simp)
      (h:=H'.set 0 (.arr 36 6 [.agg [.int .i64 me,eL false 1 bO aM,eL false 4 aG adv,eL false 2 eID seen,.sl id2 7 0 fl.length,eL false 3 cP own]] (some 1))) (by simp[w2,Ax]) (by simp[w2,Ax,b1]) (by simp[w2,Ax,b3]) ⟨⟨sp2,cap2,by simp[w2,Ax,j0,hg]⟩,by exact hl,hlo2⟩ (by rw[←hF];simp;exact .nil rfl rfl) (by rw[←hF];simp;intro a b c e;cases e) q2 (by exact n2) w2.set
     rw[k1]
     clear hF k1
     have y0:0<K4.n:=by omega
     have y3:3<K4.n:=by omega
     have s5:=fun o'=>(o5.toR.aU (o:=o') w4 (by decide) y3).resolve (n:=198) false (fun y _=>(cA y).1) (by decide)
     have s9:=fun o'=>(o9.aU (o:=o') w4 (by decide) y3).resolve (n:=199) false (fun y _=>(cA y).1) (by decide)
     simp only[List.length_map,cH]at s5
     simp[Aa,k2,k3,c0,c3,q4,w4,y3,turn,-kY,s5,s9,aI]
     simp[hR,Gy,aE,dA.none]
  ·have Gy:bZ ⟨me,aM,adv,seen,ent,own⟩ ⟨tc,td⟩ ⟨sc,sd⟩ bK=(⟨me,aM,adv,seen,ent,own⟩,[],false):=by simp[bZ,yP,tA]
   simp[r1,r2,He,hPl,PH,Dy,hg4,Bs,tA,g0,g3,lH,wH,l3,turn,aI]
   simp[hR,Gy,aE,dA.none,iD]
end Go.Dm.Tc
/-
What the reference's functions compute,part 8: an entry taken out (the loop).
-/
namespace Go.Dm.Tc
theorem MA{lo:Nat}{h:aA}{v:DV}{ety sz:Nat}{xs:List DV}(w:OwnR lo h v ety sz xs){k:Nat}(hk:h.n≤k):xZ v k:=by
 intro a b c e
 cases w with
 | nil hv hx=>rw[hv]at e;cases e
 | arr id sp cap hv hg hl hi=>rw[hv]at e;injection e with e1;have:=bB hg;omega
set_option maxHeartbeats 3200000 in
theorem l149(S:List Fr)(me:Int)(aM:List Int)(adv:List bG)(seen:List ID)(own:List fT)(tc td:Int)(n:Nat)(zb:DO) :
  ∀(rest done iG:List aX) (i4:Nat) (f:cT) (h:aA),done.length+rest.length=n→n≤100000→iG.length≤done.length→(∀e∈done++rest,cB e.pred) →
   f 4=.ptr 0 6 0 0→f 5=.ptr 1 2 0 0→f 8=.ptr 3 6 0 0→f 57=.int .i64 n→f 58=.int .i64 done.length →
   h.get 0=some (.arr 36 6 [.agg [.int .i64 me,eL false 1 bO aM,eL false 4 aG adv,eL false 2 eID seen,.sl i4 7 0 n,eL false 3 cP own]] (some 1))→h.get 1=some (.arr 40 2 [.agg [.int .i64 tc,.int .i64 td]] (some 1))→h.get 3=some zb →
   fO 4 h i4 114 7 ((done++rest).map aD)→OwnR 4 h (f 13) 114 7 (iG.map aD)→xZ (f 13) i4→h.lim=0→4≤h.n→WF h →
  ∃ i5 f' h',run D 104 (.block 0::.seq Eg::S) (.loop Im) f h=run D 104 S Eg f' h'∧f' 4=.ptr 0 6 0 0∧f' 8=.ptr 3 6 0 0 ∧
   h'.get 0=some (.arr 36 6 [.agg [.int .i64 me,eL false 1 bO aM,eL false 4 aG adv,eL false 2 eID seen,.sl i5 7 0 n,eL false 3 cP own]] (some 1))∧h'.get 3=some zb ∧
   fO 4 h' i5 114 7 ((dF ⟨tc,td⟩ done rest iG).1.map aD)∧OwnR 4 h' (f' 13) 114 7 ((dF ⟨tc,td⟩ done rest iG).2.map aD)∧(dF ⟨tc,td⟩ done rest iG).1.length=n∧h'.lim=0∧4≤h'.n∧WF h':=by
 intro rest
 induction rest with
 | nil =>
  intro done iG i4 f h hn AC hu hp h4 h5 h8 Ea B1 g0 g1 g3 o4 o9 na aL ZP wf
  have:¬(done.length<n):=by simp at hn;omega
  rw[aC Im.eq_1]
  simp[Ea,B1,this]
  refine⟨i4,_,_,rfl,by simp[h4],by simp[h8],g0,g3,?_,?_,?_,aL,ZP,wf⟩
  ·simpa[dF]using o4
  ·simpa[dF]using o9
  ·simpa[dF]using hn
 | cons e rest ih =>
  intro done iG i4 f h hn AC hu hp h4 h5 h8 Ea B1 g0 g1 g3 o4 o9 na aL ZP wf
  have bC:done.length<n:=by simp at hn;omega
  have fI:=o4.lt
  have dS:=o4.lo
  have hL:(done++e::rest).length=n:=by simp at hn ⊢;omega
  have o4':=o4
  obtain⟨⟨sp,cap,g4⟩,hl4,_⟩:=o4
  have hw:IntKind.i64.wrap ((done.length:Int)+1)=(done.length:Int)+1:=aT (by omega) (by omega)
  have n0:¬0=h.n:=by omega
  have n1:¬1=h.n:=by omega
  have n3:¬3=h.n:=by omega
  have n4:¬i4=h.n:=by omega
  have m0:¬h.n=0:=by omega
  have m1:¬h.n=1:=by omega
  have i0:¬0=i4:=by omega
  have i1:¬1=i4:=by omega
  have i3:¬3=i4:=by omega
  have j0:¬i4=0:=by omega
  have j1:¬i4=1:=by omega
  have xI:∀i,bQ 7 (.sl i 7 0 n) (.int .i64 (done.length:Int))=some (.ptr i 7 done.length 0):=fun i=>by simp[bQ,asI,bC]
  have kZ:(List.map aD (done++e::rest)++sp)[done.length]?=some (aD e):=by
   rw[List.getElem?_append_left (by simp),List.getElem?_map,List.getElem?_append_right (Nat.le_refl _)];simp
  have Z9:=hp e (by simp)
  have hCv:=s148 (.int .i64 me) (eL false 1 bO aM) (eL false 4 aG adv) (eL false 2 eID seen) (eL false 3 cP own) true (done++e::rest) tc td e.pred (by omega) Z9 (fun x hx=>Nat.le_trans (hp x hx).len (by decide))
  have r4:∀o,resolve true (h.push o) 199 (.sl i4 7 0 n)=some (eL true 7 aD (done++e::rest)):=fun o=>by
   have:=(o4'.toR.push (o:=o)).resolve (n:=199) true (fun y _=>(cA y).1) (by decide)
   rw[List.length_map,hL]at this
   exact this
  simp only[aD]at kZ
  have Ki:∀F o,dF ⟨tc,td⟩ done (e::rest) iG=dF ⟨tc,td⟩ (done++[e]) rest iG→F 4=.ptr 0 6 0 0→F 5=.ptr 1 2 0 0→F 8=.ptr 3 6 0 0→F 57=.int .i64 n→F 58=.int .i64 ((done.length:Int)+1)→F 13=f 13 →
    ∃ i5 f' h',run D 104 (.block 0::.seq Eg::S) (.loop Im) F (h.push o)=run D 104 S Eg f' h'∧f' 4=.ptr 0 6 0 0∧f' 8=.ptr 3 6 0 0 ∧
   h'.get 0=some (.arr 36 6 [.agg [.int .i64 me,eL false 1 bO aM,eL false 4 aG adv,eL false 2 eID seen,.sl i5 7 0 n,eL false 3 cP own]] (some 1))∧h'.get 3=some zb ∧
   fO 4 h' i5 114 7 ((dF ⟨tc,td⟩ done (e::rest) iG).1.map aD)∧OwnR 4 h' (f' 13) 114 7 ((dF ⟨tc,td⟩ done (e::rest) iG).2.map aD)∧(dF ⟨tc,td⟩ done (e::rest) iG).1.length=n∧h'.lim=0∧4≤h'.n∧WF h':=by
   intro F o ht a4 a5 a8 a57 a58 a9
   rw[ht]
   refine ih (done++[e]) iG i4 F _ (by simp at hn ⊢;omega) AC (by simp;omega) (by simpa using hp) a4 a5 a8 a57 (by rw[a58];simp) ?_ ?_ ?_ ?_ ?_ ?_ aL (by show 4≤h.n+1;omega) wf.push
   ·rw[cM,if_neg n0];exact g0
   ·rw[cM,if_neg n1];exact g1
   ·rw[cM,if_neg n3];exact g3
   ·have:=o4'.push (o:=o)
    simpa using this
   ·rw[a9];exact o9.push
   ·rw[a9];exact na
  rw[aC Im.eq_1]
  by_cases ht:e.tree=⟨tc,td⟩
  ·have uL:e.tree.aW=tc:=by rw[ht]
   have Av:e.tree.seq=td:=by rw[ht]
   cases sJ:e.up with
   | true =>
    have tQ:dF ⟨tc,td⟩ done (e::rest) iG=dF ⟨tc,td⟩ (done++[e]) rest iG:=by simp[dF,sJ]
    simp[h4,h5,Ea,B1,bC,xI,g4,kZ,aD,aL,n0,n1,n4,m0,m1,g0,g1,uL,Av,sJ,hw]
    generalize hF:upd _ 58 _=F
    exact Ki F _ tQ (by rw[←hF];simp[h4]) (by rw[←hF];simp[h5]) (by rw[←hF];simp[h8]) (by rw[←hF];simp[Ea]) (by rw[←hF];simp) (by rw[←hF];simp)
   | false =>
    cases hC:cK (done++e::rest) ⟨tc,td⟩ e.pred with
    | true =>
     rw[hC]at hCv
     have tQ:dF ⟨tc,td⟩ done (e::rest) iG=dF ⟨tc,td⟩ (done++[e]) rest iG:=by simp only[dF];rw[if_neg];rw[hC];simp
     simp[h4,h5,Ea,B1,bC,xI,g4,kZ,aD,aL,n0,n1,n4,m0,m1,g0,g1,uL,Av,sJ,hw,-kY,r4,GC,hCv]
     generalize hF:upd _ 58 _=F
     exact Ki F _ tQ (by rw[←hF];simp[h4]) (by rw[←hF];simp[h5]) (by rw[←hF];simp[h8]) (by rw[←hF];simp[Ea]) (by rw[←hF];simp) (by rw[←hF];simp)
    | false =>
     rw[hC]at hCv
     have Xw:dF ⟨tc,td⟩ done (e::rest) iG=dF ⟨tc,td⟩ (done++[{e with up:=true}]) rest (iG++[{e with up:=true}]):=by simp only[dF];rw[if_pos ⟨ht,sJ,hC⟩]
     have n41:¬i4=h.n+1:=by omega
     have hele:Ti 7 7 0 n (some (.arr 114 7 (List.map aD done++DV.agg [.int .i64 tc,.int .i64 td,.int .i64 e.sub.aW,.int .i64 e.sub.seq,bE e.pred,.int .i64 e.bK,.bool false]::(List.map aD rest++sp)) cap))=some (List.map aD (done++e::rest)):=by
      have hl:(List.map aD (done++e::rest)).length=n:=by simpa using hL
      have Dv:List.map aD done++DV.agg [.int .i64 tc,.int .i64 td,.int .i64 e.sub.aW,.int .i64 e.sub.seq,bE e.pred,.int .i64 e.bK,.bool false]::(List.map aD rest++sp)=List.map aD (done++e::rest)++sp:=by simp[aD,uL,Av,sJ]
      rw[Dv,xP,if_pos ⟨rfl,rfl,by simp at hl ⊢;omega⟩,List.drop_zero,List.take_left' hl]
     simp[h4,h5,Ea,B1,bC,xI,g4,kZ,aD,aL,n0,n1,n4,n41,m0,m1,i0,i1,i3,j0,j1,g0,g1,uL,Av,sJ,hw,-kY,r4,GC,hCv,hl4,fI,wf,turn,-xP,hele]
     generalize hA:aY _ _ _ _ _ _=A
     obtain⟨v5,K1,rfl,o5,x5,_,_⟩:=qY (lo:=h.n+1) (xs:=[]) (.arr (h.n+1) [] (some 0) rfl (by simp) (by simp[aL]) (Nat.le_refl _)) (by simp[wf]) (by simp) (by simp[aL]) hA (by simp;simp at hL;omega) (by decide)
     clear hA
     have hlow5:∀k,k<h.n→K1.get k=h.get k:=fun k hk=>by
      rw[x5.get k (by omega)]
      have a1:¬k=h.n+1:=by omega
      have a2:¬k=h.n:=by omega
      simp[a1,a2]
     have hn5:=x5.le
     have wf5:=x5.wf
     have lim5:K1.lim=0:=by rw[x5.lim];simp[aL]
     have o9k:OwnR 4 K1 (f 13) 114 7 (iG.map aD):=o9.ext ⟨by omega,by rw[lim5,aL],hlow5,wf5⟩
     cases o5 with
     | nil hv hx=>simp at hx
     | arr i5 sp5 cap5 hv hg5 ZR UZ =>
      have na5:xZ (f 13) i5:=MA o9 (by omega)
      have hid5:=bB hg5
      subst hv
      have b0:=(hlow5 0 (by omega)).trans g0
      have b1:=(hlow5 1 (by omega)).trans g1
      have b3:=(hlow5 3 (by omega)).trans g3
      have hln5:(([]:List DV)++(List.map aD done++DV.agg [.int .i64 tc,.int .i64 td,.int .i64 e.sub.aW,.int .i64 e.sub.seq,bE e.pred,.int .i64 e.bK,.bool false]::List.map aD rest)).length=n:=by simp;simpa using hL
      rw[hln5]
      rw[List.nil_append]at hg5
      have k50:¬i5=0:=by omega
      have k05:¬0=i5:=by omega
      have l05:0<K1.n:=by omega
      have hli5:K1.lim≤i5:=ZR
      have hel5:(List.map aD done++DV.agg [.int .i64 tc,.int .i64 td,.int .i64 e.sub.aW,.int .i64 e.sub.seq,bE e.pred,.int .i64 e.bK,.bool false]::List.map aD rest++sp5)[done.length]?=some (DV.agg [.int .i64 tc,.int .i64 td,.int .i64 e.sub.aW,.int .i64 e.sub.seq,bE e.pred,.int .i64 e.bK,.bool false]):=by
       rw[List.append_assoc,List.getElem?_append_right (by simp)];simp
      simp[h4,B1,b0,lim5,wf5,l05,xI,hg5,k50,k05,hid5,hli5,hel5,turn]
      generalize hA:aY _ _ _ _ _ _=A
      obtain⟨v',h',rfl,o9',x9,fr9,na9⟩:=qY ((Ry (Ry o9k wf5 l05 (vI o9k (by decide))) wf5.set hid5 na5).push) (by simp[wf5]) (by simp;omega) (by simp[lim5]) hA (by simp;omega) (by decide)
      clear hA
      have y0:=fr9 0 (by simp) (vI o9k (by decide))
      have y1:=fr9 1 (by simp;omega) (vI o9k (by decide))
      have y3:=fr9 3 (by simp;omega) (vI o9k (by decide))
      have y4:=fr9 i5 (by simp;omega) na5
      have ny:=na9 i5 (by simp;omega) na5
      have yl:=x9.lim
      have yw:=x9.wf
      have yn:=x9.le
      have e0:¬0=K1.n:=by omega
      have e1:¬1=K1.n:=by omega
      have e3:¬3=K1.n:=by omega
      have e5:¬i5=K1.n:=by omega
      have d1:¬1=i5:=by omega
      have d3:¬3=i5:=by omega
      simp[wf5,hid5,l05,e0,e1,e3,e5,k50,k05,d1,d3,b0,b1,b3,lim5]at y0 y1 y3 y4 yl
      simp[B1,hw]
      generalize hF:upd _ 58 _=F
      rw[Xw]
      refine ih (done++[{e with up:=true}]) (iG++[{e with up:=true}]) i5 F h' (by simp at hn ⊢;omega) AC (by simp;omega) ?_ ?_ ?_ ?_ ?_ ?_ y0 y1 y3 ⟨⟨sp5,cap5,?_⟩,?_,by omega⟩ ?_ ?_ yl yn yw
      ·intro x hx
       simp only[List.append_assoc,List.singleton_append,List.mem_append,List.mem_cons]at hx
       rcases hx with hx|rfl|hx
       ·exact hp x (by simp[hx])
       ·exact Z9
       ·exact hp x (by simp[hx])
      ·rw[←hF];simp[h4]
      ·rw[←hF];simp[h5]
      ·rw[←hF];simp[h8]
      ·rw[←hF];simp[Ea]
      ·rw[←hF];simp
      ·rw[y4];simp[aD,uL,Av]
      ·rw[yl];exact Nat.zero_le _
      ·rw[←hF];simp;simpa[aD,uL,Av]using o9'
      ·rw[←hF];simp;exact ny
  ·have tN:=qD ht
   simp only at tN
   have tQ:dF ⟨tc,td⟩ done (e::rest) iG=dF ⟨tc,td⟩ (done++[e]) rest iG:=by simp[dF,ht]
   simp[h4,h5,Ea,B1,bC,xI,g4,kZ,aD,aL,n0,n1,n4,m0,m1,g0,g1,tN,hw]
   generalize hF:upd _ 58 _=F
   exact Ki F _ tQ (by rw[←hF];simp[h4]) (by rw[←hF];simp[h5]) (by rw[←hF];simp[h8]) (by rw[←hF];simp[Ea]) (by rw[←hF];simp) (by rw[←hF];simp)
end Go.Dm.Tc
/-
What the reference's functions compute,part 9: an entry taken out.
-/
namespace Go.Dm.Tc
set_option maxHeartbeats 1600000 in
theorem s149(b:aH)(tc td sc sd bK:Int)(hs:fG b)(hq:∀e∈b.entries,cB e.pred)(re:fR b.entries) :
  pcF D Px [aE .none b,.agg [.int .i64 tc,.int .i64 td],.agg [.int .i64 sc,.int .i64 sd],.int .i64 bK]=some (.tup [aE .none (bZ b ⟨tc,td⟩ ⟨sc,sd⟩ bK).1,eL false 7 aD (bZ b ⟨tc,td⟩ ⟨sc,sd⟩ bK).2.1,.bool (bZ b ⟨tc,td⟩ ⟨sc,sd⟩ bK).2.2]):=by
 obtain⟨me,aM,adv,seen,ent,own⟩:=b
 obtain⟨z1,z2,z3,z4,z5⟩:=hs
 simp only at z1 z2 z3 z4 z5 re hq
 obtain⟨R,hR⟩:∃ R,R=DV.tup [aE .none (bZ ⟨me,aM,adv,seen,ent,own⟩ ⟨tc,td⟩ ⟨sc,sd⟩ bK).1,eL false 7 aD (bZ ⟨me,aM,adv,seen,ent,own⟩ ⟨tc,td⟩ ⟨sc,sd⟩ bK).2.1,.bool (bZ ⟨me,aM,adv,seen,ent,own⟩ ⟨tc,td⟩ ⟨sc,sd⟩ bK).2.2]:=⟨_,rfl⟩
 rw[←hR]
 have kZ:ent.length≤1000000:=by omega
 have hEn:=s147 (.int .i64 me) (eL false 1 bO aM) (eL false 4 aG adv) (eL false 2 eID seen) (eL false 3 cP own) false ent tc td sc sd kZ
 have FJ:=uM (isE ⟨tc,td⟩ ⟨sc,sd⟩) ent
 unfold pcF
 rw[aJ _ _ _ _ (by simp[Px])]
 cases yP:ent.find? (isE ⟨tc,td⟩ ⟨sc,sd⟩)with
 | none =>
  rw[yP]at FJ
  simp only at FJ
  rw[FJ]at hEn
  have Gy:bZ ⟨me,aM,adv,seen,ent,own⟩ ⟨tc,td⟩ ⟨sc,sd⟩ bK=(⟨me,aM,adv,seen,ent,own⟩,[],false):=by simp[bZ,yP]
  simp[Px,aE,dA.none,Lo,hEn,gV,turn,aI]
  simp[hR,Gy,aE,dA.none,iD]
 | some e =>
  rw[yP]at FJ
  simp only at FJ
  obtain⟨i,hi,NK⟩:=FJ
  rw[hi]at hEn
  have As:¬(i:Int)<0:=by omega
  have Gz:i<ent.length:=by
   by_cases h:i<ent.length
   ·exact h
   ·rw[List.getElem?_eq_none (by omega)]at NK;cases NK
  have hw:IntKind.i64.wrap ((i:Int)+1)=(i:Int)+1:=aT (by omega) (by omega)
  have P2:i≤ent.length:=Nat.le_of_lt Gz
  by_cases tA:e.bK=bK
  ·have Dz:=Yz re NK (List.find?_some yP)
   obtain⟨fl,Tz⟩:∃ fl,(ent.filter fun x=>!isE ⟨tc,td⟩ ⟨sc,sd⟩ x)=fl:=⟨_,rfl⟩
   rw[Tz]at Dz
   simp[Px,aE,dA.none,Lo,hEn,As,gV,NK,aD,eq_true tA,P2,hw,turn]
   generalize hA:aY _ _ _ _ _ _=A
   obtain⟨i1,K1,rfl,o1,x1,y1,j1⟩:=(fO.fresh (lo:=4) (ety:=114) (sz:=7) (xs:=[]) (cap:=some 0) (by simp) (by simp)).append (n:=0) rfl (by simp) (by simp) (by simp) hA (by simp;omega) (by decide)
   clear hA
   have a0:=x1.get 0 (by decide)
   have a1:=x1.get 1 (by decide)
   have a3:=x1.get 3 (by decide)
   have q1:=x1.lim
   have w1:=x1.wf
   have n1:=x1.le
   have u1:=o1.lo
   have m0:¬0=i1:=by omega
   have m1:¬i1=0:=by omega
   have m2:¬i1=1:=by omega
   have m3:¬1=i1:=by omega
   simp at a0 a1 a3 q1 o1
   simp[a0,a1,a3,q1,m0,m1,m2,m3,P2,hw,Gz,Nat.succ_le_of_lt Gz]
   generalize hA:aY _ _ _ _ _ _=A
   obtain⟨i2,K2,rfl,o2,x2,y2,j2⟩:=o1.append (by simp[P2]) w1 n1 (by omega) hA (by simp;omega) (by decide)
   clear hA
   have b0:=x2.get 0 (by decide)
   have b1:=x2.get 1 (by decide)
   have b3:=x2.get 3 (by decide)
   have q2:=x2.lim
   have w2:=x2.wf
   have n2:=x2.le
   have u2:=o2.lo
   rw[a0]at b0
   rw[a1]at b1
   rw[a3]at b3
   rw[q1]at q2
   have l2:0<K2.n:=by omega
   have l23:3<K2.n:=by omega
   have cH:(List.take i (List.map aD ent)++List.drop (i+1) (List.map aD ent))=fl.map aD:=by rw[←Dz];simp
   rw[cH]at o2
   have hlw:fl.length=i+(ent.length-(i+1)):=by rw[←Dz];simp[Nat.min_eq_left P2]
   have eB:min i ent.length+(ent.length-(i+1))=fl.length:=by rw[hlw,Nat.min_eq_left P2]
   have hfln:fl.length≤100000:=by rw[←Tz];exact Nat.le_trans (List.length_filter_le ..) z4
   have hflp:∀x∈fl,cB x.pred:=fun x hx=>hq x (by rw[←Tz]at hx;exact(List.mem_filter.1 hx).1)
   have hmn2:i+(ent.length-(i+1))=fl.length:=hlw.symm
   have r4:=fun o o'=>((o2.toR.aU (o:=o) w2 (by decide) l2).aU (o:=o') w2.set (by decide) l23).resolve (n:=198) false (fun y _=>(cA y).1) (by decide)
   simp only[List.length_map]at r4
   cases sJ:e.up with
   | false =>
    have Gy:bZ ⟨me,aM,adv,seen,ent,own⟩ ⟨tc,td⟩ ⟨sc,sd⟩ bK=(⟨me,aM,adv,seen,fl,own⟩,[],false):=by simp[bZ,yP,tA,sJ,Tz]
    simp[b0,b3,q2,w2,l2,l23,sJ,eB,hmn2,Nat.min_eq_left P2,-kY,r4,turn,aI]
    simp[hR,Gy,aE,dA.none,iD]
   | true =>
    have Gy:bZ ⟨me,aM,adv,seen,ent,own⟩ ⟨tc,td⟩ ⟨sc,sd⟩ bK=(⟨me,aM,adv,seen,(dF ⟨tc,td⟩ [] fl []).1,own⟩,(dF ⟨tc,td⟩ [] fl []).2,true):=by simp[bZ,yP,tA,sJ,Tz]
    simp[b0,b3,q2,w2,l2,l23,sJ,eB,hmn2,Nat.min_eq_left P2,turn]
    generalize hF:upd _ 58 _=F
    have j2:¬i2=0:=by omega
    have o3:fO 4 (K2.set 0 (.arr 36 6 [.agg [.int .i64 me,eL false 1 bO aM,eL false 4 aG adv,eL false 2 eID seen,.sl i2 7 0 fl.length,eL false 3 cP own]] (some 1))) i2 114 7 (fl.map aD):=o2.aU w2 (by decide) l2
    obtain⟨i5,f1,K4,k1,k2,k3,c0,c3,o5,o9,hln4,q4,n4,w4⟩:=l149 [] me aM adv seen own tc td fl.length (.arr 36 6 [.agg [.int .i64 0,.nsl,.nsl,.nsl,.nsl,.nsl]] (some 1)) fl [] [] i2 F _ (by simp) hfln (by simp) (by simpa using hflp) (by rw[←hF];simp) (by rw[←hF];simp) (by rw[←hF];simp) (by rw[←hF];simp) (by rw[←hF];simp)
     (by simp[w2,l2]) (by simp[w2,l2,b1]) (by simp[w2,l2,b3]) o3 (by rw[←hF];simp;exact .nil rfl rfl) (by rw[←hF];simp;intro a b c e;cases e) q2 (by exact n2) w2.set
    rw[k1]
    clear hF k1
    have y0:0<K4.n:=by omega
    have y3:3<K4.n:=by omega
    have s5:=fun o'=>(o5.toR.aU (o:=o') w4 (by decide) y3).resolve (n:=198) false (fun y _=>(cA y).1) (by decide)
    have s9:=fun o'=>(o9.aU (o:=o') w4 (by decide) y3).resolve (n:=199) false (fun y _=>(cA y).1) (by decide)
    simp only[List.length_map,hln4]at s5
    simp[Eg,k2,k3,c0,c3,q4,w4,y3,turn,-kY,s5,s9,aI]
    simp[hR,Gy,aE,dA.none]
  ·have Gy:bZ ⟨me,aM,adv,seen,ent,own⟩ ⟨tc,td⟩ ⟨sc,sd⟩ bK=(⟨me,aM,adv,seen,ent,own⟩,[],false):=by simp[bZ,yP,tA]
   simp[Px,aE,dA.none,Lo,hEn,As,gV,NK,aD,tA,turn,aI]
   simp[hR,Gy,aE,dA.none,iD,aD]
end Go.Dm.Tc
/-
What every broker keeps that calls Gu: plain laws (learned,forgotten,added,taken out).
-/
namespace Go.Dm.Tc
theorem NT{α:Type}(key:α→ID){l:List α}(h:eE (l.map key))(x:ID)(a:α):l.find? (fun b=>decide (key b=x))=some a↔a∈l∧key a=x:=by
 constructor
 ·intro hf
  exact⟨List.mem_of_find?_eq_some hf,by simpa using List.find?_some hf⟩
 ·rintro⟨hm,hk⟩
  cases hf:l.find? (fun b=>decide (key b=x))with
  | none=>exact absurd hk (by have:=List.find?_eq_none.1 hf a hm;simpa using this)
  | some b =>
   have hb:=List.mem_of_find?_eq_some hf
   have hkb:key b=x:=by simpa using List.find?_some hf
   have:b=a:=by
    by_cases e:b=a
    ·exact e
    ·exfalso
     unfold eE at h
     rw[List.pairwise_map]at h
     obtain⟨i,hi,rfl⟩:=List.mem_iff_getElem.1 hb
     obtain⟨j,hj,rfl⟩:=List.mem_iff_getElem.1 hm
     rcases Nat.lt_trichotomy i j with bC|he|bC
     ·have:=List.pairwise_iff_getElem.1 h i j hi hj bC
      rw[hkb,hk,iV]at this;omega
     ·subst he;exact e rfl
     ·have:=List.pairwise_iff_getElem.1 h j i hj hi bC
      rw[hkb,hk,iV]at this;omega
   rw[this]
theorem zP{α:Type}(key:α→ID){l:List α}(x:ID):l.find? (fun b=>decide (key b=x))=none↔∀a∈l,key a≠x:=by
 rw[List.find?_eq_none]
 exact⟨fun h a ha=>by simpa using h a ha,fun h a ha=>by simpa using h a ha⟩
theorem pP{b:aH}(h:eE (b.aR.map (·.id))){x:ID}{a:bG}:gO b x=some a↔a∈b.aR∧a.id=x:=NT (fun a:bG=>a.id) h x a
theorem Mc{b:aH}{x:ID}:gO b x=none↔∀a∈b.aR,a.id≠x:=zP (fun a:bG=>a.id) x
theorem eY(b:aH)(x:ID):dR b x=((gO b x).getD qA).bN:=rfl
theorem jF{l:List aX}{t:ID}{p:bJ}:cK l t p=true↔∃ e∈l,e.tree=t∧e.up=true∧jS e.pred p=true:=by
 unfold cK ofT
 rw[List.any_eq_true]
 constructor
 ·rintro⟨e,he,h⟩
  have:=List.mem_filter.1 he
  rw[Bool.and_eq_true]at h
  exact⟨e,this.1,by simpa using this.2,h.1,h.2⟩
 ·rintro⟨e,he,h1,h2,h3⟩
  exact⟨e,List.mem_filter.2 ⟨he,by simpa using h1⟩,by rw[h2,h3];rfl⟩
theorem rS{e x:aX}{l:List aX}:x∈tM e l↔x=e∨x∈l:=by
 unfold tM
 rw[List.mem_append,List.mem_cons]
 constructor
 ·rintro(h|h|h)
  ·exact .inr (List.mem_of_mem_take h)
  ·exact .inl h
  ·exact .inr (List.mem_of_mem_drop h)
 ·rintro(h|h)
  ·exact .inr (.inl h)
  ·rw[←List.take_append_drop (aV (fB e.tree e.sub) l) l,List.mem_append]at h
   exact h.elim .inl fun h=>.inr (.inr h)
theorem Kg(e:aX)(l:List aX):(tM e l).length=l.length+1:=by
 unfold tM
 rw[List.length_append,List.length_cons,List.length_take,List.length_drop]
 have:=cZ (fB e.tree e.sub) l
 omega
theorem QR{t s:ID}{a:aX}(h1:¬fB t s a<0)(h2:¬(a.tree=t∧a.sub=s))(e:aX)(he:e.tree=t)(he2:e.sub=s):fB a.tree a.sub e<0:=by
 rw[yG,mS,mS]at *
 rw[he,he2]
 rw[ID.ext',ID.ext']at h2
 rw[ID.ext']at *
 omega
theorem Xr{e:aX}{l:List aX}(h:fR l)(hn:∀x∈l,isE e.tree e.sub x=false):fR (tM e l):=by
 unfold fR tM
 rw[List.pairwise_append,List.pairwise_cons]
 generalize hk:aV (fB e.tree e.sub) l=k
 have hJ:∀b∈l.take k,fB e.tree e.sub b<0:=by
  intro b hb
  obtain⟨i,hi,rfl⟩:=List.mem_iff_getElem.1 hb
  rw[List.getElem_take]
  rw[List.length_take]at hi
  have:=List.not_of_lt_findIdx (p:=fun x=>!decide (fB e.tree e.sub x<0)) (xs:=l) (i:=i) (by unfold aV at hk;omega)
  simpa using this
 have nN:∀b∈l.drop k,fB b.tree b.sub e<0:=by
  intro b hb
  obtain⟨i,hi,rfl⟩:=List.mem_iff_getElem.1 hb
  rw[List.length_drop]at hi
  rw[List.getElem_drop]
  have Of:k<l.length:=by omega
  have h1:¬fB e.tree e.sub l[k]<0:=by
   have:=List.findIdx_getElem (p:=fun x=>!decide (fB e.tree e.sub x<0)) (xs:=l) (w:=by unfold aV at hk;omega)
   have qJ:List.findIdx (fun x=>!decide (fB e.tree e.sub x<0)) l=k:=hk
   simp only[qJ]at this
   simpa using this
  have h2:¬fB e.tree e.sub l[k+i]<0:=fun hc=>h1 (UP h _ _ k (k+i) Of (by omega) (by omega) hc)
  refine QR h2 ?_ e rfl rfl
  have:=hn l[k+i] (List.getElem_mem _)
  simpa[isE]using this
 refine⟨h.sublist (List.take_sublist ..),⟨fun b hb=>nN b hb,h.sublist (List.drop_sublist ..)⟩,?_⟩
 intro x hx y hy
 rcases List.mem_cons.1 hy with rfl|hy
 ·exact hJ x hx
 ·exact Ae (hJ x hx) (by have:=nN y hy;omega)
structure cD(b:aH):Prop where
 aM:mF (fun x y=>decide (x<y)) b.aM=true
 loc:∀x∈b.aM,0≤x
 ra:eE (b.aR.map (·.id))
 rs:eE b.seen
 ro:eE (b.bT.map (·.id))
 re:fR b.entries
 sub:∀a∈b.aR,a.id∈b.seen
 par:∀a∈b.aR,hU b a.bN=true
 pa:∀a∈b.aR,cB a.pred
 po:∀o∈b.bT,cB o.pred
 ent:∀e∈b.entries,mQ b e=true
 pe:∀e∈b.entries,cB e.pred
 tight:C1 b=true
structure SzK(b:aH)(n:Nat):Prop where
 aM:b.aM.length≤1000
 adv:b.aR.length≤n
 seen:b.seen.length≤n
 own:b.bT.length≤n
 ent:b.entries.length≤n*n
theorem SzK.sized{b:aH}{n:Nat}(h:SzK b n)(hn:n≤300):fG b:=by
 have:=Nat.mul_le_mul hn hn
 obtain⟨h1,h2,h3,h4,h5⟩:=h
 exact⟨by omega,by omega,by omega,by omega,by omega⟩
theorem SzK.mono{b:aH}{n m:Nat}(h:SzK b n)(hn:n≤m):SzK b m:=by
 have:=Nat.mul_le_mul hn hn
 obtain⟨h1,h2,h3,h4,h5⟩:=h
 exact⟨h1,by omega,by omega,by omega,by omega⟩
theorem cD.asked{b:aH}(h:cD b):T8 b:=⟨fun e he=>(h.pe e he).unlike,fun e he=>Nat.le_trans (h.pe e he).len (by decide)⟩
theorem cD.sizedP{b:aH}(h:cD b):Fh b:=⟨fun a ha=>(h.pa a ha).names.1,fun a ha=>(h.pe a ha).names.1,fun a ha=>(h.po a ha).names.1⟩
theorem cD.right{b:aH}(h:cD b):Rq b=true:=by
 unfold Rq Em
 rw[h.aM,rC (key:=fun a:bG=>a.id) h.ra,rC (key:=fun a:fT=>a.id) h.ro,Ny h.re,show mF (fun x y=>kK x y) b.seen=true from rC (key:=fun a:ID=>a) (by simpa using h.rs)]
 have h1:(b.aR.any fun a=>!wV b a)=false:=by
  rw[List.any_eq_false]
  intro a ha
  simp[wV,h.sub a ha,h.par a ha,(h.pa a ha).right]
 have h2:(b.entries.any fun e=>!mQ b e)=false:=by
  rw[List.any_eq_false]
  intro e he
  simp[h.ent e he]
 have h3:(b.bT.any fun o=>!tK o.pred)=false:=by
  rw[List.any_eq_false]
  intro o ho
  simp[(h.po o ho).right]
 rw[h1,h2,h3]
 rfl
theorem jC{b:aH}{e:aX}:mQ b e=true↔∃ a,gO b e.tree=some a∧hU b e.bK=true∧(e.bK=a.bN→a.bN=-1)∧(e.up=true→a.bN≠-1)∧tK e.pred=true:=by
 unfold mQ gO
 cases b.aR.find? (fun a=>a.id=e.tree)with
 | none=>simp
 | some a =>
  simp only[Option.some.injEq,exists_eq_left',Bool.and_eq_true,Bool.or_eq_true,Bool.not_eq_true',Bool.and_eq_false_iff,decide_eq_true_eq,decide_eq_false_iff_not]
  constructor
  ·rintro⟨⟨⟨h1,h2⟩,h3⟩,h4⟩
   exact⟨h1,fun q=>h2.resolve_left (fun hn=>hn q),fun q=>h3.resolve_left (by rw[q];decide),h4⟩
  ·rintro⟨h1,h2,h3,h4⟩
   refine⟨⟨⟨h1,?_⟩,?_⟩,h4⟩
   ·by_cases q:e.bK=a.bN
    ·exact .inr (h2 q)
    ·exact .inl q
   ·cases q:e.up with
    | false=>exact .inl rfl
    | true=>exact .inr (h3 q)
theorem jI{b:aH}:C1 b=true↔∀e∈b.entries,e.up=true∨dR b e.tree=-1∨cK b.entries e.tree e.pred=true:=by
 unfold C1
 rw[List.all_eq_true]
 simp only[IK,Bool.or_eq_true,decide_eq_true_eq,or_assoc]
theorem vK{b b':aH}(h:b'.aM=b.aM)(n:Int):hU b' n=hU b n:=by unfold hU;rw[h]
theorem pV{b b':aH}{e:aX}(h:b'.aM=b.aM)(ha:gO b' e.tree=gO b e.tree):mQ b' e=mQ b e:=by
 rw[Bool.eq_iff_iff,jC,jC,ha]
 simp only[vK h]
theorem cD.start{me:Int}{aM:List Int}(hn:mF (fun x y=>decide (x<y)) aM=true)(hl:∀x∈aM,0≤x):cD ⟨me,aM,[],[],[],[]⟩ :=
 ⟨hn,hl,.nil,.nil,.nil,.nil,fun a h=>(by cases h),fun a h=>(by cases h),fun a h=>(by cases h),fun a h=>(by cases h),fun a h=>(by cases h),fun a h=>(by cases h),rfl⟩
theorem SzK.start{me:Int}{aM:List Int}(hn:aM.length≤1000):SzK ⟨me,aM,[],[],[],[]⟩ 0:=⟨hn,Nat.le_refl _,Nat.le_refl _,Nat.le_refl _,Nat.le_refl _⟩
theorem A3{b:aH}(h:cD b)(a:bG)(hn:a.id ∉ b.seen)(x:ID):gO (bM b a).1 x=if a.id=x then some a else gO b x:=by
 have hnew:∀c∈b.aR,c.id≠a.id:=fun c hc e=>hn (by rw[←e];exact h.sub c hc)
 have hr:eE ((bM b a).1.aR.map (·.id)):=by
  unfold bM;rw[if_neg hn]
  exact pM (fun a:bG=>a.id) a h.ra hnew
 have hm:∀c,c∈(bM b a).1.aR↔c=a∨c∈b.aR:=by
  intro c
  unfold bM;rw[if_neg hn]
  exact nZ (fun a:bG=>a.id) a b.aR c
 by_cases e:a.id=x
 ·rw[if_pos e,pP hr,hm];exact⟨.inl rfl,e⟩
 ·rw[if_neg e]
  cases hq:gO b x with
  | none =>
   rw[Mc]at hq ⊢
   intro c hc
   rcases(hm c).1 hc with rfl|hc
   ·exact e
   ·exact hq c hc
  | some c =>
   rw[pP h.ra]at hq
   rw[pP hr,hm]
   exact⟨.inr hq.1,hq.2⟩
theorem cD.learn{b:aH}(h:cD b){a:bG}(hp:hU b a.bN=true)(hr:cB a.pred):cD (bM b a).1:=by
 by_cases hn:a.id∈b.seen
 ·unfold bM;rw[if_pos hn];exact h
 ·have ho:=A3 h a hn
  have hE:(bM b a).1.entries=b.entries:=by unfold bM;rw[if_neg hn]
  have hN:(bM b a).1.aM=b.aM:=by unfold bM;rw[if_neg hn]
  have hO:(bM b a).1.bT=b.bT:=by unfold bM;rw[if_neg hn]
  have hA:(bM b a).1.aR=iS (fun a=>a.id) a b.aR:=by unfold bM;rw[if_neg hn]
  have hS:(bM b a).1.seen=iS (fun x=>x) a.id b.seen:=by unfold bM;rw[if_neg hn]
  have hother:∀e∈b.entries,gO (bM b a).1 e.tree=gO b e.tree:=by
   intro e he
   rw[ho,if_neg]
   intro hc
   obtain⟨c,uL,_⟩:=jC.1 (h.ent e he)
   rw[pP h.ra]at uL
   exact hn (by rw[hc,←uL.2];exact h.sub c uL.1)
  refine⟨by rw[hN];exact h.aM,by rw[hN];exact h.loc,?_,?_,by rw[hO];exact h.ro,by rw[hE];exact h.re,?_,?_,?_,by rw[hO];exact h.po,?_,by rw[hE];exact h.pe,?_⟩
  ·rw[hA];exact pM (fun a:bG=>a.id) a h.ra fun c hc e=>hn (by rw[←e];exact h.sub c hc)
  ·rw[hS]
   have:=pM (fun x:ID=>x) a.id (l:=b.seen) (by simpa using h.rs) (fun c hc e=>hn (by rw[←e];exact hc))
   simpa using this
  ·intro c hc
   rw[hA,nZ]at hc
   rw[hS,nZ]
   rcases hc with rfl|hc
   ·exact .inl rfl
   ·exact .inr (h.sub c hc)
  ·intro c hc
   rw[vK hN]
   rw[hA,nZ]at hc
   rcases hc with rfl|hc
   ·exact hp
   ·exact h.par c hc
  ·intro c hc
   rw[hA,nZ]at hc
   rcases hc with rfl|hc
   ·exact hr
   ·exact h.pa c hc
  ·intro e he
   rw[hE]at he
   rw[pV hN (hother e he)];exact h.ent e he
  ·rw[jI,hE]
   intro e he
   rw[eY,hother e he,←eY]
   exact jI.1 h.tight e he
theorem SzK.learn{b:aH}{n:Nat}(h:SzK b n)(a:bG):SzK (bM b a).1 (n+1):=by
 have h':=h.mono (Nat.le_succ n)
 unfold bM
 split
 ·exact h'
 ·obtain⟨h1,h2,h3,h4,h5⟩:=h'
  exact⟨h1,by simp only[Hn];have:=h.adv;omega,by simp only[Hn];have:=h.seen;omega,h4,h5⟩
theorem Ol{b:aH}{x:ID}{q:Int}(h:(bU b x q).2=false):(bU b x q).1=b:=by
 unfold bU at *
 split at h
 ·rfl
 ·split at h
  ·cases h
  ·rename_i h2;rw[if_neg h2]
theorem Kz{b:aH}{x:ID}{q:Int}(h:(bU b x q).2=true):(bU b x q).1={b with aR:=cQ (fun a=>a.id) x b.aR,entries:=cQ (fun e=>e.tree) x b.entries}∧∃ a,gO b x=some a∧a.bN=q:=by
 unfold bU at *
 split at h
 ·cases h
 ·rename_i a ha
  split at h
  ·rename_i h2;rw[if_pos h2];exact⟨rfl,a,ha,h2⟩
  ·cases h
theorem fW{α:Type}{key:α→ID}{x:ID}{l:List α}{a:α}:a∈cQ key x l↔a∈l∧key a≠x:=by
 unfold cQ;rw[List.mem_filter];simp
theorem Fd{l:List aX}{x t:ID}{p:bJ}(h:t≠x):cK (cQ (fun e=>e.tree) x l) t p=cK l t p:=by
 rw[Bool.eq_iff_iff,jF,jF]
 constructor
 ·rintro⟨e,he,h2⟩
  exact⟨e,(fW.1 he).1,h2⟩
 ·rintro⟨e,he,h2⟩
  exact⟨e,fW.2 ⟨he,by rw[h2.1];exact h⟩,h2⟩
theorem zW{b b':aH}(h:eE (b.aR.map (·.id))){x t:ID}(hb:b'.aR=cQ (fun a=>a.id) x b.aR)(ht:t≠x):gO b' t=gO b t:=by
 have hr:eE (b'.aR.map (·.id)):=by rw[hb];exact nT _ x h
 cases hq:gO b t with
 | none =>
  rw[Mc]at hq ⊢
  intro a ha
  rw[hb]at ha
  exact hq a (fW.1 ha).1
 | some a =>
  rw[pP h]at hq
  rw[pP hr,hb,fW]
  exact⟨⟨hq.1,by rw[hq.2];exact ht⟩,hq.2⟩
theorem cD.forget{b:aH}(h:cD b)(x:ID)(q:Int):cD (bU b x q).1:=by
 cases hc:(bU b x q).2 with
 | false=>rw[Ol hc];exact h
 | true =>
  obtain⟨e1,_⟩:=Kz hc
  generalize (bU b x q).1=b' at *
  have hA:b'.aR=cQ (fun a=>a.id) x b.aR:=by rw[e1]
  have hE:b'.entries=cQ (fun e=>e.tree) x b.entries:=by rw[e1]
  have hN:b'.aM=b.aM:=by rw[e1]
  have hS:b'.seen=b.seen:=by rw[e1]
  have hO:b'.bT=b.bT:=by rw[e1]
  refine⟨by rw[hN];exact h.aM,by rw[hN];exact h.loc,by rw[hA];exact nT _ x h.ra,by rw[hS];exact h.rs,by rw[hO];exact h.ro,by rw[hE];exact h.re.sublist (List.filter_sublist ..),?_,?_,?_,by rw[hO];exact h.po,?_,?_,?_⟩
  ·intro a ha;rw[hA]at ha;rw[hS];exact h.sub a (fW.1 ha).1
  ·intro a ha;rw[hA]at ha;rw[vK hN];exact h.par a (fW.1 ha).1
  ·intro a ha;rw[hA]at ha;exact h.pa a (fW.1 ha).1
  ·intro e he
   rw[hE]at he
   have:=fW.1 he
   rw[pV hN (zW h.ra hA this.2)]
   exact h.ent e this.1
  ·intro e he;rw[hE]at he;exact h.pe e (fW.1 he).1
  ·rw[jI]
   intro e he
   rw[hE]at he
   have:=fW.1 he
   rw[hE,Fd this.2,eY,zW h.ra hA this.2,←eY]
   exact jI.1 h.tight e this.1
theorem SzK.forget{b:aH}{n:Nat}(h:SzK b n)(x:ID)(q:Int):SzK (bU b x q).1 n:=by
 cases hc:(bU b x q).2 with
 | false=>rw[Ol hc];exact h
 | true =>
  rw[(Kz hc).1]
  obtain⟨h1,h2,h3,h4,h5⟩:=h
  exact⟨h1,Nat.le_trans (wN ..) h2,h3,h4,Nat.le_trans (wN ..) h5⟩
theorem rR{b:aH}{e:aX}:jU b e=true↔∃ a,gO b e.tree=some a∧(∀x∈b.entries,isE e.tree e.sub x=false)∧(e.bK=a.bN→a.bN=-1):=by
 unfold jU gO
 cases b.aR.find? (fun a=>a.id=e.tree)with
 | none=>simp
 | some a =>
  simp only[Option.some.injEq,exists_eq_left',Bool.and_eq_true,Bool.not_eq_true',Bool.and_eq_false_iff,List.any_eq_false,Bool.not_eq_true,decide_eq_false_iff_not,Bool.not_eq_false',decide_eq_true_eq]
  refine and_congr Iff.rfl ⟨fun h q=>h.resolve_left (fun hn=>hn q),fun h=>?_⟩
  by_cases q:e.bK=a.bN
  ·exact .inr (h q)
  ·exact .inl q
theorem Dj{l l':List aX}{t:ID}{p:bJ}(h:∀e∈l,e∈l')(hc:cK l t p=true):cK l' t p=true:=by
 rw[jF]at *
 obtain⟨e,he,h2⟩:=hc
 exact⟨e,h e he,h2⟩
theorem cD.add{b:aH}(h:cD b){e:aX}(hl:hU b e.bK=true)(hp:cB e.pred):cD (dW b e).1:=by
 by_cases hm:jU b e=true
 ·obtain⟨a,ha,tQ,P5⟩:=rR.1 hm
  unfold dW
  rw[if_pos hm]
  have xF:dR b e.tree=a.bN:=by rw[eY,ha];rfl
  refine⟨h.aM,h.loc,h.ra,h.rs,h.ro,?_,h.sub,h.par,h.pa,h.po,?_,?_,?_⟩
  ·exact Xr (e:={e with up:=pD b e}) h.re tQ
  ·intro x hx
   rw[rS]at hx
   have hs:∀y,mQ {b with entries:=tM {e with up:=pD b e} b.entries} y=mQ b y:=fun y=>pV rfl rfl
   rw[hs]
   rcases hx with rfl|hx
   ·rw[jC]
    refine⟨a,ha,hl,P5,?_,hp.right⟩
    intro hu O8
    simp only[pD,xF,O8]at hu
    simp at hu
   ·exact h.ent x hx
  ·intro x hx
   rw[rS]at hx
   rcases hx with rfl|hx
   ·exact hp
   ·exact h.pe x hx
  ·rw[jI]
   intro x hx
   have hs:∀y,dR {b with entries:=tM {e with up:=pD b e} b.entries} y=dR b y:=fun y=>rfl
   rw[hs]
   have uG:=hx
   rw[rS]at hx
   rcases hx with rfl|hx
   ·by_cases O8:a.bN=-1
    ·exact .inr (.inl (by rw[xF,O8]))
    ·cases NM:cK b.entries e.tree e.pred with
     | true=>exact .inr (.inr (Dj (fun y hy=>rS.2 (.inr hy)) NM))
     | false=>left;simp[pD,xF,O8,NM]
   ·rcases jI.1 h.tight x hx with h1|h1|h1
    ·exact .inl h1
    ·exact .inr (.inl h1)
    ·exact .inr (.inr (Dj (fun y hy=>rS.2 (.inr hy)) h1))
 ·unfold dW
  rw[if_neg hm];exact h
inductive fS(t:ID):List aX→List aX→Prop where
 | nil:fS t [] []
 | keep (e:aX) {l l':List aX} (h:fS t l l'):fS t (e::l) (e::l')
 | up (e:aX) {l l':List aX} (ht:e.tree=t) (hu:e.up=false) (h:fS t l l'):fS t (e::l) ({e with up:=true}::l')
theorem fS.refl(t:ID):∀l,fS t l l
 | []=>.nil
 | e::l=>.keep e (fS.refl t l)
theorem fS.append{t:ID}{a a' b b':List aX}(h:fS t a a')(k:fS t b b'):fS t (a++b) (a'++b'):=by
 induction h with
 | nil=>exact k
 | keep e _ ih=>exact .keep e ih
 | up e ht hu _ ih=>exact .up e ht hu ih
theorem fS.len{t:ID}{a a':List aX}(h:fS t a a'):a'.length=a.length:=by
 induction h with
 | nil=>rfl
 | keep e _ ih=>simp[ih]
 | up e ht hu _ ih=>simp[ih]
theorem fS.mem{t:ID}{a a':List aX}(h:fS t a a'){x:aX}(hx:x∈a'):x∈a∨∃ e∈a,e.tree=t∧e.up=false∧x={e with up:=true}:=by
 induction h with
 | nil=>cases hx
 | keep e _ ih =>
  rcases List.mem_cons.1 hx with rfl|hx
  ·exact .inl (List.mem_cons_self ..)
  ·rcases ih hx with h|⟨y,hy,h⟩
   ·exact .inl (List.mem_cons_of_mem _ h)
   ·exact .inr ⟨y,List.mem_cons_of_mem _ hy,h⟩
 | up e ht hu _ ih =>
  rcases List.mem_cons.1 hx with rfl|hx
  ·exact .inr ⟨e,List.mem_cons_self ..,ht,hu,rfl⟩
  ·rcases ih hx with h|⟨y,hy,h⟩
   ·exact .inl (List.mem_cons_of_mem _ h)
   ·exact .inr ⟨y,List.mem_cons_of_mem _ hy,h⟩
theorem fS.of_mem{t:ID}{a a':List aX}(h:fS t a a'){x:aX}(hx:x∈a):x∈a'∨(x.tree=t∧x.up=false∧{x with up:=true}∈a'):=by
 induction h with
 | nil=>cases hx
 | keep e _ ih =>
  rcases List.mem_cons.1 hx with rfl|hx
  ·exact .inl (List.mem_cons_self ..)
  ·rcases ih hx with h|⟨h1,h2,h3⟩
   ·exact .inl (List.mem_cons_of_mem _ h)
   ·exact .inr ⟨h1,h2,List.mem_cons_of_mem _ h3⟩
 | up e ht hu _ ih =>
  rcases List.mem_cons.1 hx with rfl|hx
  ·exact .inr ⟨ht,hu,List.mem_cons_self ..⟩
  ·rcases ih hx with h|⟨h1,h2,h3⟩
   ·exact .inl (List.mem_cons_of_mem _ h)
   ·exact .inr ⟨h1,h2,List.mem_cons_of_mem _ h3⟩
theorem fS.rising{t:ID}{a a':List aX}(h:fS t a a')(hr:fR a):fR a':=by
 induction h with
 | nil=>exact hr
 | keep e h ih =>
  unfold fR at *
  rw[List.pairwise_cons]at *
  refine⟨fun x hx=>?_,ih hr.2⟩
  rcases h.mem hx with hx|⟨y,hy,_,_,rfl⟩
  ·exact hr.1 x hx
  ·exact hr.1 y hy
 | up e ht hu h ih =>
  unfold fR at *
  rw[List.pairwise_cons]at *
  refine⟨fun x hx=>?_,ih hr.2⟩
  have:∀t s,fB t s {e with up:=true}=fB t s e:=fun t s=>rfl
  rw[this]
  rcases h.mem hx with hx|⟨y,hy,_,_,rfl⟩
  ·exact hr.1 x hx
  ·exact hr.1 y hy
theorem fS.covered{t:ID}{a a':List aX}(h:fS t a a'){t':ID}{p:bJ}(hc:cK a t' p=true):cK a' t' p=true:=by
 rw[jF]at *
 obtain⟨e,he,h1,h2,h3⟩:=hc
 rcases h.of_mem he with hx|⟨_,hx,_⟩
 ·exact⟨e,hx,h1,h2,h3⟩
 ·rw[h2]at hx;cases hx
theorem Pe(t:ID):∀(rest done iG:List aX),∃ r',(dF t done rest iG).1=done++r'∧fS t rest r'∧(∀x∈r',x.tree=t→x.up=true∨cK (done++r') t x.pred=true) ∧
  ∃ u',(dF t done rest iG).2=iG++u'∧∀x∈u',x∈r'∧x.tree=t∧x.up=true∧{x with up:=false}∈rest∧cK (done++rest) t x.pred=false:=by
 intro rest
 induction rest with
 | nil=>intro done iG;exact⟨[],by simp[dF],.nil,(fun x hx=>by cases hx),[],by simp[dF],(fun x hx=>by cases hx)⟩
 | cons e rest ih =>
  intro done iG
  unfold dF
  by_cases hc:e.tree=t∧e.up=false∧cK (done++e::rest) t e.pred=false
  ·rw[if_pos hc]
   obtain⟨r',h1,h2,h3,u',h4,h5⟩:=ih (done++[{e with up:=true}]) (iG++[{e with up:=true}])
   refine⟨{e with up:=true}::r',by rw[h1];simp,.up e hc.1 hc.2.1 h2,?_,{e with up:=true}::u',by rw[h4];simp,?_⟩
   ·intro x hx ht
    rcases List.mem_cons.1 hx with rfl|hx
    ·exact .inl rfl
    ·have:=h3 x hx ht
     simpa using this
   ·intro x hx
    rcases List.mem_cons.1 hx with rfl|hx
    ·have he:({{e with up:=true} with up:=false}:aX)=e:=by obtain⟨a1,a2,a3,a4,a5⟩:=e;simp only at hc;rw[hc.2.1]
     exact⟨List.mem_cons_self ..,hc.1,rfl,by rw[he];exact List.mem_cons_self ..,hc.2.2⟩
    ·obtain⟨k1,k2,k3,k4,k5⟩:=h5 x hx
     refine⟨List.mem_cons_of_mem _ k1,k2,k3,List.mem_cons_of_mem _ k4,?_⟩
     have hR:fS t (done++e::rest) (done++[{e with up:=true}]++rest):=by
      rw[List.append_assoc]
      exact(fS.refl t done).append (.up e hc.1 hc.2.1 (.refl t rest))
     cases hq:cK (done++e::rest) t x.pred with
     | false=>rfl
     | true=>rw[hR.covered hq]at k5;cases k5
  ·rw[if_neg hc]
   obtain⟨r',h1,h2,h3,u',h4,h5⟩:=ih (done++[e]) iG
   refine⟨e::r',by rw[h1];simp,.keep e h2,?_,u',h4,?_⟩
   ·intro x hx ht
    rcases List.mem_cons.1 hx with rfl|hx
    ·cases hu:x.up with
     | true=>exact .inl rfl
     | false =>
      cases hq:cK (done++x::rest) t x.pred with
      | true=>exact .inr (((fS.refl t done).append (.keep x h2)).covered hq)
      | false=>exact absurd ⟨ht,hu,hq⟩ hc
    ·have:=h3 x hx ht
     simpa using this
   ·intro x hx
    obtain⟨k1,k2,k3,k4,k5⟩:=h5 x hx
    exact⟨List.mem_cons_of_mem _ k1,k2,k3,List.mem_cons_of_mem _ k4,by simpa using k5⟩
theorem nB{b:aH}(h:cD b)(t s:ID)(q:Int) :
  ((bZ b t s q)=(b,[],false)∧∀e∈b.entries,isE t s e=true→e.bK≠q) ∨
  (∃ e∈b.entries,isE t s e=true∧e.bK=q∧e.up=false∧bZ b t s q=({b with entries:=b.entries.filter fun x=>!isE t s x},[],false)) ∨
  (∃ e∈b.entries,isE t s e=true∧e.bK=q∧e.up=true∧∃ r' u',bZ b t s q=({b with entries:=r'},u',true)∧fS t (b.entries.filter fun x=>!isE t s x) r' ∧
   (∀x∈r',x.tree=t→x.up=true∨cK r' t x.pred=true)∧∀x∈u',x∈r'∧x.tree=t∧x.up=true∧{x with up:=false}∈b.entries.filter (fun x=>!isE t s x)∧cK (b.entries.filter fun x=>!isE t s x) t x.pred=false):=by
 unfold bZ
 cases hf:b.entries.find? (isE t s)with
 | none =>
  left
  refine⟨rfl,fun e he hi=>?_⟩
  have:=List.find?_eq_none.1 hf e he
  exact absurd hi this
 | some e =>
  have he:=List.mem_of_find?_eq_some hf
  have hi:=List.find?_some hf
  by_cases hq:e.bK=q
  ·simp only[if_pos hq]
   cases hu:e.up with
   | false =>
    right;left
    exact⟨e,he,hi,hq,hu,by simp⟩
   | true =>
    right;right
    obtain⟨r',h1,h2,h3,u',h4,h5⟩:=Pe t (b.entries.filter fun x=>!isE t s x) [] []
    refine⟨e,he,hi,hq,hu,r',u',by simp[h1,h4],h2,by simpa using h3,by simpa using h5⟩
  ·left
   refine⟨by simp only[if_neg hq],fun x hx Dy=>?_⟩
   have hkey:x=e:=by
    by_cases hxe:x=e
    ·exact hxe
    ·exfalso
     have k1:x.tree=t∧x.sub=s:=by simpa[isE]using Dy
     have k2:e.tree=t∧e.sub=s:=by simpa[isE]using hi
     obtain⟨i,lO,rfl⟩:=List.mem_iff_getElem.1 hx
     obtain⟨j,SW,rfl⟩:=List.mem_iff_getElem.1 he
     rcases Nat.lt_trichotomy i j with bC|he|bC
     ·have:=List.pairwise_iff_getElem.1 h.re i j lO SW bC
      rw[k2.1,k2.2,nA.2 k1]at this;omega
     ·subst he;exact hxe rfl
     ·have:=List.pairwise_iff_getElem.1 h.re j i SW lO bC
      rw[k1.1,k1.2,nA.2 k2]at this;omega
   rw[hkey];exact hq
theorem cD.entries{b b':aH}(h:cD b)(hb:b'={b with entries:=b'.entries})(hre:fR b'.entries)(he:∀e∈b'.entries,∃ d∈b.entries,e.tree=d.tree∧e.pred=d.pred∧e.bK=d.bK∧(e.up=true→dR b e.tree≠-1))
  (ht:∀e∈b'.entries,e.up=true∨dR b e.tree=-1∨cK b'.entries e.tree e.pred=true):cD b':=by
 have hA:b'.aR=b.aR:=by rw[hb]
 have hN:b'.aM=b.aM:=by rw[hb]
 have hS:b'.seen=b.seen:=by rw[hb]
 have hO:b'.bT=b.bT:=by rw[hb]
 have ho:∀x,gO b' x=gO b x:=fun x=>by unfold gO;rw[hA]
 refine⟨by rw[hN];exact h.aM,by rw[hN];exact h.loc,by rw[hA];exact h.ra,by rw[hS];exact h.rs,by rw[hO];exact h.ro,hre,by rw[hA,hS];exact h.sub,?_,by rw[hA];exact h.pa,by rw[hO];exact h.po,?_,?_,?_⟩
 ·intro a ha;rw[vK hN];rw[hA]at ha;exact h.par a ha
 ·intro e hm
  obtain⟨d,hd,k1,k2,k3,k4⟩:=he e hm
  rw[pV hN (ho _),jC]
  obtain⟨a,a1,a2,a3,a4,a5⟩:=jC.1 (h.ent d hd)
  refine⟨a,by rw[k1];exact a1,by rw[k3];exact a2,by rw[k3];exact a3,fun hu=>?_,by rw[k2];exact a5⟩
  have:=k4 hu
  rw[eY,k1,a1]at this
  exact this
 ·intro e hm
  obtain⟨d,hd,_,k2,_⟩:=he e hm
  rw[k2];exact h.pe d hd
 ·rw[jI]
  intro e hm
  have:dR b' e.tree=dR b e.tree:=by rw[eY,ho,←eY]
  rw[this]
  exact ht e hm
theorem cD.up{b:aH}(h:cD b){e:aX}(he:e∈b.entries)(hu:e.up=true):dR b e.tree≠-1:=by
 obtain⟨a,a1,_,_,a4,_⟩:=jC.1 (h.ent e he)
 rw[eY,a1]
 exact a4 hu
theorem cD.take{b:aH}(h:cD b)(t s:ID)(q:Int):cD (bZ b t s q).1:=by
 have O5:∀x∈b.entries.filter (fun x=>!isE t s x),x∈b.entries:=fun x hx=>(List.mem_filter.1 hx).1
 have hrf:fR (b.entries.filter fun x=>!isE t s x):=h.re.sublist (List.filter_sublist ..)
 rcases nB h t s q with⟨hc,_⟩|⟨e,he,hi,_,hu,hc⟩|⟨e,he,hi,_,hu,r',u',hc,hR,htt,_⟩
 ·rw[hc];exact h
 ·rw[hc]
  refine h.entries rfl hrf ?_ ?_
  ·intro x hx
   exact⟨x,O5 x hx,rfl,rfl,rfl,fun hux=>h.up (O5 x hx) hux⟩
  ·intro x hx
   rcases jI.1 h.tight x (O5 x hx)with h1|h1|h1
   ·exact .inl h1
   ·exact .inr (.inl h1)
   ·refine .inr (.inr ?_)
    rw[jF]at *
    obtain⟨d,hd,k1,k2,k3⟩:=h1
    refine⟨d,List.mem_filter.2 ⟨hd,?_⟩,k1,k2,k3⟩
    cases fI:isE t s d with
    | false=>rfl
    | true =>
     exfalso
     have q1:d.tree=t∧d.sub=s:=by simpa[isE]using fI
     have q2:e.tree=t∧e.sub=s:=by simpa[isE]using hi
     have:d=e:=by
      by_cases hde:d=e
      ·exact hde
      ·exfalso
       obtain⟨i,lO,rfl⟩:=List.mem_iff_getElem.1 hd
       obtain⟨j,SW,rfl⟩:=List.mem_iff_getElem.1 he
       rcases Nat.lt_trichotomy i j with bC|Oh|bC
       ·have:=List.pairwise_iff_getElem.1 h.re i j lO SW bC
        rw[q2.1,q2.2,nA.2 q1]at this;omega
       ·subst Oh;exact hde rfl
       ·have:=List.pairwise_iff_getElem.1 h.re j i SW lO bC
        rw[q1.1,q1.2,nA.2 q2]at this;omega
     rw[this,hu]at k2;cases k2
 ·have hpt:dR b t≠-1:=by
   have:=h.up he hu
   have q2:e.tree=t∧e.sub=s:=by simpa[isE]using hi
   rw[q2.1]at this;exact this
  rw[hc]
  refine h.entries rfl (hR.rising hrf) ?_ ?_
  ·intro x hx
   rcases hR.mem hx with hx|⟨y,hy,h1,h2,rfl⟩
   ·exact⟨x,O5 x hx,rfl,rfl,rfl,fun hux=>h.up (O5 x hx) hux⟩
   ·exact⟨y,O5 y hy,rfl,rfl,rfl,fun _=>by rw[h1];exact hpt⟩
  ·intro x hx
   by_cases hxt:x.tree=t
   ·rcases htt x hx hxt with k|k
    ·exact .inl k
    ·exact .inr (.inr (by rw[hxt];exact k))
   ·have uG:x∈b.entries.filter fun x=>!isE t s x:=by
     rcases hR.mem hx with hx|⟨y,hy,h1,h2,rfl⟩
     ·exact hx
     ·exact absurd h1 hxt
    rcases jI.1 h.tight x (O5 x uG)with h1|h1|h1
    ·exact .inl h1
    ·exact .inr (.inl h1)
    ·refine .inr (.inr (hR.covered ?_))
     rw[jF]at *
     obtain⟨d,hd,k1,k2,k3⟩:=h1
     refine⟨d,List.mem_filter.2 ⟨hd,?_⟩,k1,k2,k3⟩
     have:¬(d.tree=t∧d.sub=s):=fun hh=>hxt (by rw[←k1];exact hh.1)
     simp[isE,this]
theorem Ur{b:aH}(h:cD b)(t s:ID)(q:Int):(bZ b t s q).1.entries.length≤b.entries.length:=by
 rcases nB h t s q with⟨hc,_⟩|⟨e,_,_,_,_,hc⟩|⟨e,_,_,_,_,r',u',hc,hR,_⟩
 ·rw[hc];exact Nat.le_refl _
 ·rw[hc];exact List.length_filter_le ..
 ·rw[hc]
  show r'.length≤_
  rw[hR.len];exact List.length_filter_le ..
theorem Ed(b:aH)(t s:ID)(q:Int):(bZ b t s q).1={b with entries:=(bZ b t s q).1.entries}:=by
 unfold bZ
 split
 ·rfl
 ·split
  ·split<;>rfl
  ·rfl
theorem Dq(b:aH)(e:aX):(dW b e).1={b with entries:=(dW b e).1.entries}:=by
 unfold dW
 split<;>rfl
theorem UI(b:aH)(e:aX):(dW b e).1.entries.length≤b.entries.length+1:=by
 unfold dW
 split
 ·simp only[Kg];exact Nat.le_refl _
 ·exact Nat.le_succ _
theorem SzK.take{b:aH}{n:Nat}(h:SzK b n)(hi:cD b)(t s:ID)(q:Int):SzK (bZ b t s q).1 n:=by
 have h1:=Ur hi t s q
 rw[Ed]at h1 ⊢
 obtain⟨a1,a2,a3,a4,a5⟩:=h
 exact⟨a1,a2,a3,a4,Nat.le_trans h1 a5⟩
theorem SzK.add{b:aH}{n:Nat}(h:SzK b n)(e:aX):SzK (dW b e).1 (n+1):=by
 have h1:=UI b e
 rw[Dq]at h1 ⊢
 obtain⟨a1,a2,a3,a4,a5⟩:=h
 have:(n+1)*(n+1)=n*n+n+n+1:=by rw[Nat.add_mul,Nat.mul_add];omega
 exact⟨a1,Nat.le_succ_of_le a2,Nat.le_succ_of_le a3,Nat.le_succ_of_le a4,by simp only at h1 ⊢;omega⟩
end Go.Dm.Tc
/-
Brokers as one datum: what the machine's steps do to it;what functions answer of a broker that calls Gu.
-/
namespace Go.Dm.Tc
theorem m9(t:dA)(b:aH):DV.agg (iE t b)=aE t b:=_root_.id rfl
theorem GB(sz:Nat)(t:dA)(b:aH):aP sz (aE t b)=iE t b:=_root_.id rfl
theorem l9(t:dA)(b:aH):(iE t b).length=6:=_root_.id rfl
theorem UD(t:dA)(b:aH):(iE t b).take 6=iE t b:=_root_.id rfl
theorem bC_0(t:dA)(b:aH):(iE t b)[0]?=some (.int .i64 b.me):=_root_.id rfl
theorem bC_1(t:dA)(b:aH):(iE t b)[1]?=some (eL t.aM 1 bO b.aM):=_root_.id rfl
theorem bC_2(t:dA)(b:aH):(iE t b)[2]?=some (eL t.aR 4 aG b.aR):=_root_.id rfl
theorem bC_3(t:dA)(b:aH):(iE t b)[3]?=some (eL t.seen 2 eID b.seen):=_root_.id rfl
theorem bC_4(t:dA)(b:aH):(iE t b)[4]?=some (eL t.entries 7 aD b.entries):=_root_.id rfl
theorem bC_5(t:dA)(b:aH):(iE t b)[5]?=some (eL t.bT 3 cP b.bT):=_root_.id rfl
theorem AeI(t:dA)(b:aH)(h:0<(iE t b).length):(iE t b)[0]=.int .i64 b.me:=_root_.id rfl
theorem AeH(t:dA)(b:aH)(h:1<(iE t b).length):(iE t b)[1]=eL t.aM 1 bO b.aM:=_root_.id rfl
theorem AeG(t:dA)(b:aH)(h:2<(iE t b).length):(iE t b)[2]=eL t.aR 4 aG b.aR:=_root_.id rfl
theorem AeF(t:dA)(b:aH)(h:3<(iE t b).length):(iE t b)[3]=eL t.seen 2 eID b.seen:=_root_.id rfl
theorem AeE(t:dA)(b:aH)(h:4<(iE t b).length):(iE t b)[4]=eL t.entries 7 aD b.entries:=_root_.id rfl
theorem AeD(t:dA)(b:aH)(h:5<(iE t b).length):(iE t b)[5]=eL t.bT 3 cP b.bT:=_root_.id rfl
theorem Vj(t:dA)(b:aH):bD 6 (aE t b)=true:=_root_.id rfl
theorem YK(tg:Bool)(h:aA)(n:Nat)(t:dA)(b:aH):resolve tg h (n+2) (aE t b)=some (aE t b):=by
 simp[aE]
theorem o8(n:Nat)(b:aH):bI (n+24) (aE .none b)=true:=by
 simp[aE,dA.none]
theorem ZX(h:aA)(t:dA)(b:aH):jE h (aE t b)=some (aE t b,h):=by
 simp[aE,Td,Eu,Kc,Q0,AJ,Bk,Bj,Fg]
theorem FU(off:Nat)(n:Option Nat)(t:dA)(b:aH):Lf off n (aE t b)=dM n (iE t b) off:=_root_.id rfl
attribute [simp] m9 GB l9 UD bC_0 bC_1 bC_2 bC_3 bC_4 bC_5 AeI AeH AeG AeF AeE AeD Vj YK o8 ZX FU AM Q1 Yj AL Td Kc Eu Q0 AK NR AJ AI NS Bk Bj Fg
section
variable {b:aH} (t:dA)
theorem kAF(h:cD b)(z:fG b)(c d:Int):pcF D t89 [aE t b,.agg [.int .i64 c,.int .i64 d]]=some (.tup [aG ((gO b ⟨c,d⟩).getD qA),.bool (gK (gO b ⟨c,d⟩))]) :=
 s89 _ _ _ _ _ _ _ c d h.ra (by have:=z.adv;omega) ((fL _ _).mono (by decide)) ((gS _ _ _ _).mono (by decide)) ((gS _ _ _ _).mono (by decide)) ((gS _ _ _ _).mono (by decide)) ((gS _ _ _ _).mono (by decide))
def oN(b:aH)(t s:ID):Option aX:=b.entries.find? (isE t s)
theorem kOf(z:fG b)(c d:Int):pcF D E8 [aE t b,.agg [.int .i64 c,.int .i64 d]]=some (eL false 7 aD (ofT ⟨c,d⟩ b.entries)) :=
 s142 _ _ _ _ _ _ _ c d (by have:=z.ent;omega)
theorem MX(h:cD b)(z:fG b)(c d:Int)(p:bJ)(q:Int):pcF D Vc [aE t b,.agg [.int .i64 c,.int .i64 d,bE p,.int .i64 q]]=some (.tup [aE .none (bM b ⟨⟨c,d⟩,p,q⟩).1,.bool (bM b ⟨⟨c,d⟩,p,q⟩).2]):=s102 t b c d p q z h.ra h.rs
theorem Z3(h:cD b)(z:fG b)(c d:Int)(p:bJ)(q:Int):pcF D t99 [aE .none b,.agg [.int .i64 c,.int .i64 d,bE p,.int .i64 q]]=some (.tup [aE .none (bM b ⟨⟨c,d⟩,p,q⟩).1,.bool (bM b ⟨⟨c,d⟩,p,q⟩).2]):=s99 b c d p q z h.ra h.rs
theorem Z5(h:cD b)(z:fG b)(c d q:Int):pcF D Vb [aE t b,.agg [.int .i64 c,.int .i64 d],.int .i64 q]=some (.tup [aE .none (bU b ⟨c,d⟩ q).1,.bool (bU b ⟨c,d⟩ q).2]):=s107 t b c d q z h.ra
theorem Xo(h:cD b)(z:fG b)(c d q:Int):pcF D Mg [aE .none b,.agg [.int .i64 c,.int .i64 d],.int .i64 q]=some (.tup [aE .none (bU b ⟨c,d⟩ q).1,.bool (bU b ⟨c,d⟩ q).2]):=s126 b c d q z h.ra
theorem kAdd(h:cD b)(z:fG b)(tc td sc sd:Int){p:bJ}(hp:cB p)(q:Int)(u:Bool):pcF D G4 [aE .none b,.agg [.int .i64 tc,.int .i64 td,.int .i64 sc,.int .i64 sd,bE p,.int .i64 q,.bool u]]=some (.tup [aE .none (dW b ⟨⟨tc,td⟩,⟨sc,sd⟩,p,q,u⟩).1,.bool (dW b ⟨⟨tc,td⟩,⟨sc,sd⟩,p,q,u⟩).2]) :=
 s105 b ⟨⟨tc,td⟩,⟨sc,sd⟩,p,q,u⟩ z h.asked hp h.ra h.re
theorem Z4(h:cD b)(z:fG b)(tc td sc sd:Int){p:bJ}(hp:cB p)(q:Int)(u:Bool):pcF D t96 [aE .none b,.agg [.int .i64 tc,.int .i64 td,.int .i64 sc,.int .i64 sd,bE p,.int .i64 q,.bool u]]=some (.tup [aE .none (dW b ⟨⟨tc,td⟩,⟨sc,sd⟩,p,q,u⟩).1,.bool (dW b ⟨⟨tc,td⟩,⟨sc,sd⟩,p,q,u⟩).2]) :=
 s96 b ⟨⟨tc,td⟩,⟨sc,sd⟩,p,q,u⟩ z h.asked hp
theorem AdC(h:cD b)(z:fG b)(tc td sc sd q:Int):pcF D E2 [aE .none b,.agg [.int .i64 tc,.int .i64 td],.agg [.int .i64 sc,.int .i64 sd],.int .i64 q]=some (.tup [aE .none (bZ b ⟨tc,td⟩ ⟨sc,sd⟩ q).1,eL false 7 aD (bZ b ⟨tc,td⟩ ⟨sc,sd⟩ q).2.1,.bool (bZ b ⟨tc,td⟩ ⟨sc,sd⟩ q).2.2]) :=
 s161 b tc td sc sd q z h.pe h.re
theorem ZF(h:cD b)(z:fG b)(tc td sc sd q:Int):pcF D Px [aE .none b,.agg [.int .i64 tc,.int .i64 td],.agg [.int .i64 sc,.int .i64 sd],.int .i64 q]=some (.tup [aE .none (bZ b ⟨tc,td⟩ ⟨sc,sd⟩ q).1,eL false 7 aD (bZ b ⟨tc,td⟩ ⟨sc,sd⟩ q).2.1,.bool (bZ b ⟨tc,td⟩ ⟨sc,sd⟩ q).2.2]) :=
 s149 b tc td sc sd q z h.pe h.re
theorem AdD(h:cD b)(z:fG b)(u:dA)(c:aH):pcF D t16 [aE t b,aE u c]=some (.bool (decide (b=c))):=s16 t u b c z h.sizedP
theorem MY(h:cD b)(z:fG b)(u:dA)(c:aH):pcF D t11 [aE t b,aE u c]=some (.bool (decide (b=c))):=s11 t u b c z h.sizedP
end
end Go.Dm.Tc
/-
What the laws' arguments are: numbers of which predicates,steps,brokers are Gu.
-/
namespace Go.Dm.Tc
structure PK where
 has:List Int
 vals:List Int
def ePK(p:PK):DV:=.agg [eL false 1 bO p.has,eL false 1 bO p.vals]
def PK.pred(p:PK):bJ:=eD p.has p.vals
structure mX where
 kind:Int
 bK:Int
 tree:Int
 aW:Int
 seq:Int
 has:List Int
 vals:List Int
def gY(s:mX):DV:=.agg [.int .i64 s.kind,.int .i64 s.bK,.int .i64 s.tree,.int .i64 s.aW,.int .i64 s.seq,eL false 1 bO s.has,eL false 1 bO s.vals]
structure A8 where
 aM:Int
 steps:List mX
def xQ(b:A8):DV:=.agg [.int .i64 b.aM,eL false 7 gY b.steps]
end Go.Dm.Tc
/-
More plain laws of brokers: one entry for a tree and a number;what covers itself;what comes of an entry taken out,of one added.
-/
namespace Go.Dm.Tc
theorem vT{l:List aX}(h:fR l){d e:aX}(hd:d∈l)(he:e∈l)(ht:d.tree=e.tree)(hs:d.sub=e.sub):d=e:=by
 by_cases hde:d=e
 ·exact hde
 ·exfalso
  obtain⟨i,hi,rfl⟩:=List.mem_iff_getElem.1 hd
  obtain⟨j,hj,rfl⟩:=List.mem_iff_getElem.1 he
  rcases Nat.lt_trichotomy i j with bC|Oh|bC
  ·have:=List.pairwise_iff_getElem.1 h i j hi hj bC
   rw[nA.2 ⟨ht,hs⟩]at this;omega
  ·subst Oh;exact hde rfl
  ·have:=List.pairwise_iff_getElem.1 h j i hj hi bC
   rw[nA.2 ⟨ht.symm,hs.symm⟩]at this;omega
theorem qU{t s:ID}{e:aX}:isE t s e=true↔e.tree=t∧e.sub=s:=by simp[isE]
theorem Hl{t s:ID}{e:aX}:isE t s e=false↔¬(e.tree=t∧e.sub=s):=by simp[isE]
theorem Bd{b:aH}(h:fR b.entries){t s:ID}{e:aX}:oN b t s=some e↔e∈b.entries∧e.tree=t∧e.sub=s:=by
 constructor
 ·intro hf
  exact⟨List.mem_of_find?_eq_some hf,qU.1 (List.find?_some hf)⟩
 ·rintro⟨hm,ht,hs⟩
  cases hf:oN b t s with
  | none=>exact absurd (qU.2 ⟨ht,hs⟩) (by have:=List.find?_eq_none.1 hf e hm;simpa using this)
  | some d =>
   have hd:=List.mem_of_find?_eq_some hf
   have hd2:=qU.1 (List.find?_some hf)
   rw[vT h hd hm (hd2.1.trans ht.symm) (hd2.2.trans hs.symm)]
theorem Be{b:aH}{t s:ID}:oN b t s=none↔∀e∈b.entries,¬(e.tree=t∧e.sub=s):=by
 unfold oN
 rw[List.find?_eq_none]
 exact⟨fun h e he=>Hl.1 (by simpa using h e he),fun h e he=>by rw[Hl.2 (h e he)];simp⟩
theorem k9{l:List aX}(h:fR l)(t s:ID):l.countP (isE t s)=if gK (l.find? (isE t s))=true then 1 else 0:=by
 induction l with
 | nil=>rfl
 | cons e l ih =>
  have h':=List.pairwise_cons.1 h
  rw[List.countP_cons,List.find?_cons]
  cases he:isE t s e with
  | true =>
   have:l.countP (isE t s)=0:=by
    rw[List.countP_eq_zero]
    intro x hx Dy
    have k1:=qU.1 he
    have k2:=qU.1 Dy
    have:=h'.1 x hx
    rw[k2.1,k2.2,nA.2 k1]at this;omega
   rw[this];rfl
  | false =>
   rw[ih h'.2];simp
theorem Q5{b:aH}(h:fR b.entries){t s:ID}{e:aX}(he:oN b t s=some e):(b.entries.filter fun x=>!isE t s x).length+1=b.entries.length:=by
 have h1:=k9 h t s
 rw[show b.entries.find? (isE t s)=some e from he]at h1
 have h2:=List.length_eq_countP_add_countP (isE t s) (l:=b.entries)
 rw[h1]at h2
 rw[←List.countP_eq_length_filter]
 have h3:(b.entries.countP fun x=>!isE t s x)=b.entries.countP (fun a=>decide ¬isE t s a=true):=by
  congr 1;funext x;cases isE t s x<;>rfl
 rw[h3,h2];simp[gK];omega
theorem UH{b:aH}{e:aX}{a:bG}(ha:gO b e.tree=some a)(hn:oN b e.tree e.sub=none)(hf:e.bK=a.bN→a.bN=-1):dW b e=({b with entries:=tM {e with up:=pD b e} b.entries},pD b e):=by
 unfold dW
 rw[if_pos (rR.2 ⟨a,ha,fun x hx=>Hl.2 (Be.1 hn x hx),hf⟩)]
theorem IU{b:aH}(h:cD b){t s:ID}{e:aX}(he:oN b t s=some e):(bZ b t s e.bK).2.2=e.up∧(e.up=false→(bZ b t s e.bK).2.1=[])∧(bZ b t s e.bK).1.entries.length+1=b.entries.length ∧
  (∃ r',(bZ b t s e.bK).1.entries=r'∧fS t (b.entries.filter fun x=>!isE t s x) r') ∧
  (∀x∈(bZ b t s e.bK).2.1,oN (bZ b t s e.bK).1 t x.sub=some x∧x.up=true∧jS e.pred x.pred=true∧x.tree=t∧∃ d∈b.entries,isE t s d=false∧d.tree=x.tree∧d.sub=x.sub∧d.pred=x.pred):=by
 have hm:=(Bd h.re).1 he
 have hl:=Q5 h.re he
 rcases nB h t s e.bK with⟨_,tQ⟩|⟨e',kL,hi,_,hu,hc⟩|⟨e',kL,hi,_,hu,r',u',hc,hR,htt,sJ⟩
 ·exact absurd rfl (tQ e hm.1 (qU.2 hm.2))
 ·have gJ:=qU.1 hi
  have:e'=e:=vT h.re kL hm.1 (gJ.1.trans hm.2.1.symm) (gJ.2.trans hm.2.2.symm)
  subst this
  rw[hc]
  exact⟨hu.symm,fun _=>rfl,hl,⟨_,rfl,.refl ..⟩,fun x hx=>by cases hx⟩
 ·have gJ:=qU.1 hi
  have:e'=e:=vT h.re kL hm.1 (gJ.1.trans hm.2.1.symm) (gJ.2.trans hm.2.2.symm)
  subst this
  have hinv:=h.take t s e'.bK
  rw[hc]at hinv ⊢
  refine⟨hu.symm,fun q=>(by rw[hu]at q;cases q),by rw[←hl,←hR.len],⟨_,rfl,hR⟩,fun x hx=>?_⟩
  obtain⟨k1,k2,k3,k4,k5⟩:=sJ x hx
  have k6:=List.mem_filter.1 k4
  refine⟨(Bd hinv.re).2 ⟨k1,k2,rfl⟩,k3,?_,k2,_,k6.1,by simpa using k6.2,rfl,rfl,rfl⟩
  have hpt:dR b t≠-1:=by
   have:=h.up kL hu
   rw[gJ.1]at this;exact this
  rcases jI.1 h.tight _ k6.1 with q|q|q
  ·cases q
  ·exact absurd (by rw[←k2];exact q) hpt
  ·simp only at q
   rw[k2,jF]at q
   obtain⟨d,hd,q1,q2,q3⟩:=q
   cases fI:isE t s d with
   | true =>
    have eJ:=qU.1 fI
    have:d=e':=vT h.re hd kL (eJ.1.trans gJ.1.symm) (eJ.2.trans gJ.2.symm)
    rw[←this];exact q3
   | false =>
    exfalso
    have:cK (b.entries.filter fun x=>!isE t s x) t x.pred=true:=jF.2 ⟨d,List.mem_filter.2 ⟨hd,by rw[fI];rfl⟩,q1,q2,q3⟩
    rw[this]at k5;cases k5
theorem BH(t:ID):∀(rest done iG:List aX),(dF t done rest iG).2.length≤iG.length+rest.length:=by
 intro rest
 induction rest with
 | nil=>intro done iG;simp[dF]
 | cons e rest ih =>
  intro done iG
  unfold dF
  split
  ·have:=ih (done++[{e with up:=true}]) (iG++[{e with up:=true}]);simp at this ⊢;omega
  ·have:=ih (done++[e]) iG;simp at this ⊢;omega
theorem Uq(b:aH)(t s:ID)(q:Int):(bZ b t s q).2.1.length≤b.entries.length:=by
 unfold bZ
 split
 ·simp
 ·split
  ·split
   ·refine Nat.le_trans (BH _ _ _ _) ?_
    simp only[List.length_nil,Nat.zero_add]
    exact List.length_filter_le ..
   ·simp
  ·simp
end Go.Dm.Tc
/-
AdvertsOrder: numbers sorted: the plain law,and the walk.
-/
namespace Go.Dm.Tc
def atL(L:List Int)(i:Nat):Int:=L.getD i 0
def swp(L:List Int)(j:Nat):List Int:=(L.set (j+1) (atL L j)).set j (atL L (j+1))
def bub:Nat→List Int→List Int
 | 0,L=>L
 | j+1,L=>if atL L (j+1)<atL L j then bub j (swp L j)else L
def isr:Nat→Nat→List Int→List Int
 | 0,_,L=>L
 | k+1,i,L=>isr k (i+1) (bub i L)
def Cn(L:List Int):List Int:=isr (L.length-1) 1 L
theorem lS{L:List Int}{i:Nat}(h:i<L.length):atL L i=L[i]:=by simp[atL,h]
theorem JW{L:List Int}{j:Nat}(h:j+1<L.length):(swp L j).Perm L:=by
 unfold swp
 rw[lS (by omega:j<L.length),lS h]
 exact List.set_set_perm h (by omega)
theorem Hg(L:List Int)(j:Nat):(swp L j).length=L.length:=by simp[swp]
theorem Hh{L:List Int}{j:Nat}(h:j+1<L.length)(k:Nat):atL (swp L j) k=if k=j then atL L (j+1)else if k=j+1 then atL L j else atL L k:=by
 have hj:j<L.length:=by omega
 unfold swp atL
 simp only[List.getD_eq_getElem?_getD,List.getElem?_set,List.length_set]
 by_cases h1:k=j
 ·subst h1;simp[hj]
 ·have tN:¬j=k:=fun e=>h1 e.symm
  by_cases h2:k=j+1
  ·subst h2;simp[h]
  ·have Ub:¬j+1=k:=fun e=>h2 e.symm
   simp[h1,tN,h2,Ub]
theorem Ma:∀(j:Nat) {L:List Int},j<L.length→(bub j L).Perm L
 | 0,_,_=>.refl _
 | j+1,L,h=>by
  unfold bub
  split
  ·exact(Ma j (by rw[Hg];omega)).trans (JW h)
  ·exact .refl _
theorem Tq(j:Nat){L:List Int}(h:j<L.length):(bub j L).length=L.length:=(Ma j h).length_eq
theorem Lz{i:Nat}:∀(j:Nat) {L:List Int},j≤i→i<L.length→(∀p q,p<q→q≤i→p≠j→q≠j→atL L p≤atL L q)→(∀q,j<q→q≤i→atL L j≤atL L q)→∀p q,p<q→q≤i→atL (bub j L) p≤atL (bub j L) q
 | 0,L,hj,hi,h1,h2,p,q,uI,hq=>by
  unfold bub
  by_cases hp:p=0
  ·subst hp;exact h2 q uI hq
  ·exact h1 p q uI hq hp (by omega)
 | j+1,L,hj,hi,h1,h2,p,q,uI,hq=>by
  unfold bub
  have hl:j+1<L.length:=by omega
  split
  ·rename_i hc
   refine Lz j (by omega) (by rw[Hg];exact hi) ?_ ?_ p q uI hq
   ·intro p q uI hq hp yP
    rw[Hh hl,Hh hl,if_neg hp,if_neg yP]
    by_cases e1:p=j+1
    ·rw[if_pos e1,if_neg (by omega)]
     exact h1 j q (by omega) hq (by omega) (by omega)
    ·rw[if_neg e1]
     by_cases e2:q=j+1
     ·rw[if_pos e2]
      exact h1 p j (by omega) (by omega) (by omega) (by omega)
     ·rw[if_neg e2]
      exact h1 p q uI hq e1 e2
   ·intro q Ho hq
    rw[Hh hl,Hh hl,if_pos rfl,if_neg (by omega)]
    by_cases e2:q=j+1
    ·rw[if_pos e2];omega
    ·rw[if_neg e2];exact h2 q (by omega) hq
  ·rename_i hc
   by_cases e1:p=j+1
   ·subst e1;exact h2 q uI hq
   ·by_cases e2:q=j+1
    ·subst e2
     by_cases e3:p=j
     ·subst e3;omega
     ·have:=h1 p j (by omega) (by omega) e1 (by omega)
      omega
    ·exact h1 p q uI hq e1 e2
theorem Xp:∀(k i:Nat) {L:List Int},i+k≤L.length→(isr k i L).Perm L
 | 0,_,_,_=>.refl _
 | k+1,i,L,h=>by
  unfold isr
  have hi:i<L.length:=by omega
  exact(Xp k (i+1) (by rw[Tq i hi];omega)).trans (Ma i hi)
theorem Kf:∀(k i:Nat) {L:List Int},i+k≤L.length→(∀p q,p<q→q<i→atL L p≤atL L q)→∀p q,p<q→q<i+k→atL (isr k i L) p≤atL (isr k i L) q
 | 0,_,_,_,hs=>by simpa[isr]using hs
 | k+1,i,L,h,hs=>by
  have hi:i<L.length:=by omega
  unfold isr
  intro p q uI hq
  refine Kf k (i+1) (by rw[Tq i hi];omega) ?_ p q uI (by omega)
  intro p q uI hq
  exact Lz i (Nat.le_refl _) hi (fun p q uI hq _ yP=>hs p q uI (by omega)) (fun q h1 h2=>by omega) p q uI (by omega)
theorem An(L:List Int):(Cn L).Perm L:=by
 unfold Cn
 cases L with
 | nil=>exact .refl _
 | cons a l=>exact Xp _ 1 (by simp;omega)
theorem Sn(L:List Int):(Cn L).Pairwise (·≤·):=by
 rw[List.pairwise_iff_getElem]
 intro p q hp hq uI
 have hl:=(An L).length_eq
 rw[←lS hp,←lS hq]
 unfold Cn at *
 cases L with
 | nil=>simp[isr]at hp
 | cons a l=>exact Kf _ 1 (by simp;omega) (fun p q h1 h2=>by omega) p q uI (by simp at *;omega)
theorem s207(a b:Int):pcF D BP [.int .i64 a,.int .i64 b]=some (.bool (decide (a<b))):=by
 unfold pcF
 rw[aJ _ _ _ _ (by simp[BP])]
 simp[BP,TT,RC,turn]
structure zF(id:Nat)(sp:List DV)(cap:Option Nat)(h h':aA)(L:List Int):Prop where
 get:h'.get id=some (.arr 3 1 (L.map bO++sp) cap)
 n:h'.n=h.n
 lim:h'.lim=h.lim
 wf:WF h'
 oth:∀k,k≠id→h'.get k=h.get k
theorem AcH(S:List Fr)(P:Res→Prop)(id n:Nat)(sp:List DV)(cap:Option Nat)(h:aA)(hl:h.lim≤id)(hn:n≤1000000) :
  ∀(j:Nat) (L:List Int) (f:cT) (h':aA),zF id sp cap h h' L→j<L.length→L.length=n→f 0=.sl id 1 0 n→f 1=.int .i64 0→f 7=.int .i64 j →
  (∀f' rF,f' 0=.sl id 1 0 n→f' 1=.int .i64 0→f' 2=f 2→f' 6=f 6→zF id sp cap h rF (bub j L)→P (ret D 49 S .normal f' rF)) →
  P (run D 49 (.block 2::S) (.loop Pg) f h'):=by
 intro j
 induction j with
 | zero =>
  intro L f h' R hj hL h0 h1 h7 hP
  rw[aC Pg.eq_1]
  simp[h0,h1,h7]
  exact hP _ h' (by simp[h0]) (by simp[h1]) (by simp) (by simp) R
 | succ j ih =>
  intro L f h' R hj hL h0 h1 h7 hP
  have wM:j<L.length:=by omega
  have bC:j<n:=by omega
  have hlt1:j+1<n:=by omega
  have hx:∀k,k<L.length→(L.map bO++sp)[k]?=some (.int .i64 (atL L k)):=fun k hk=>by
   rw[List.getElem?_append_left (by simpa using hk),List.getElem?_map,List.getElem?_eq_getElem hk,lS hk];rfl
  have Z7:=hx (j+1) hj
  have Ao:=hx j wM
  have g:=R.get
  have Nf:h'.lim≤id:=by rw[R.lim];exact hl
  have Xx:=bB g
  have O4:=R.wf
  have Z8:IntKind.i64.wrap (j:Int)=(j:Int):=aT (by omega) (by omega)
  have lO:bQ 1 (.sl id 1 0 n) (.int .i64 ((j:Int)+1))=some (.ptr id 1 (j+1) 0):=by
   have:((j:Int)+1)=((j+1:Nat):Int):=by omega
   rw[this];simp[bQ,asI];omega
  have rY:bQ 1 (.sl id 1 0 n) (.int .i64 (j:Int))=some (.ptr id 1 j 0):=by simp[bQ,asI,bC]
  have Dx:=s207 (atL L (j+1)) (atL L j)
  rw[aC Pg.eq_1]
  by_cases hc:atL L (j+1)<atL L j
  ·simp[h0,h1,h7,g,Z7,Ao,Nf,Xx,O4,Z8,lO,rY,e207,Dx,hc,turn]
   generalize hF:upd _ 7 _=F
   have hb:bub (j+1) L=bub j (swp L j):=by
    show(if atL L (j+1)<atL L j then bub j (swp L j)else L)=_
    rw[if_pos hc]
   have gX:((L.map bO++sp).set (j+1) (.int .i64 (atL L j))).set j (.int .i64 (atL L (j+1)))=(swp L j).map bO++sp:=by
    unfold swp
    rw[List.set_append_left _ _ (by simpa using hj),List.set_append_left _ _ (by simp;omega),List.map_set,List.map_set]
    rfl
   rw[gX]
   have R':zF id sp cap h (h'.set id (.arr 3 1 ((swp L j).map bO++sp) cap)) (swp L j) :=
    ⟨by rw[bY O4 Xx,if_pos rfl],R.n,R.lim,O4.set,fun k hk=>by rw[bY O4 Xx,if_neg hk];exact R.oth k hk⟩
   refine ih (swp L j) F _ R' (by rw[Hg];exact wM) (by rw[Hg];exact hL) ?_ ?_ ?_ ?_
   ·rw[←hF];simp[h0]
   ·rw[←hF];simp[h1]
   ·rw[←hF];simp
   ·intro f' rF a0 a1 a2 a6 RR
    exact hP f' rF a0 a1 (by rw[a2,←hF];simp) (by rw[a6,←hF];simp) (by rw[hb];exact RR)
  ·have hb:bub (j+1) L=L:=by
    show(if atL L (j+1)<atL L j then bub j (swp L j)else L)=_
    rw[if_neg hc]
   simp[h0,h1,h7,g,Z7,Ao,Nf,Xx,O4,Z8,lO,rY,e207,Dx,hc,turn]
   exact hP _ h' (by simp[h0]) (by simp[h1]) (by simp) (by simp) (by rw[hb];exact R)
theorem AcG(id n:Nat)(sp:List DV)(cap:Option Nat)(h:aA)(hl:h.lim≤id)(hn:n≤1000000) :
  ∀(k i:Nat) (L:List Int) (f:cT) (h':aA),zF id sp cap h h' L→i+k=n→L.length=n→f 0=.sl id 1 0 n→f 1=.int .i64 0→f 2=.int .i64 n→f 6=.int .i64 i →
  ∃ rF,fin [] (run D 49 [.block 0] (.loop Ee) f h')=some (.tup [],rF)∧zF id sp cap h rF (isr k i L):=by
 intro k
 induction k with
 | zero =>
  intro i L f h' R hk hL h0 h1 h2 h6
  have hi:i=n:=by omega
  subst hi
  rw[aC Ee.eq_1]
  simp[h2,h6]
  exact⟨h',rfl,R⟩
 | succ k ih =>
  intro i L f h' R hk hL h0 h1 h2 h6
  have bC:i<n:=by omega
  have hw:IntKind.i64.wrap ((i:Int)+1)=(i:Int)+1:=aT (by omega) (by omega)
  rw[aC Ee.eq_1]
  simp[h2,h6,bC]
  generalize hF:upd _ 7 _=F
  refine AcH _ (fun r=>∃ rF,fin [] r=some (.tup [],rF)∧zF id sp cap h rF (isr (k+1) i L)) id n sp cap h hl hn i L F h' R (by omega) hL (by rw[←hF];simp[h0]) (by rw[←hF];simp[h1]) (by rw[←hF];simp) fun f' rF a0 a1 a2 a6 R'=>?_
  have b2:f' 2=.int .i64 n:=by rw[a2,←hF];simp[h2]
  have b6:f' 6=.int .i64 i:=by rw[a6,←hF];simp[h6]
  simp[JK,b6,hw]
  generalize hG:upd _ 6 _=G
  exact ih (i+1) (bub i L) G rF R' (by omega) (by rw[Tq i (by omega)];exact hL) (by rw[←hG];simp[a0]) (by rw[←hG];simp[a1]) (by rw[←hG];simp[b2]) (by rw[←hG];simp)
theorem q201(id:Nat)(sp:List DV)(cap:Option Nat)(h:aA)(L:List Int)(g:h.get id=some (.arr 3 1 (L.map bO++sp) cap))(hl:h.lim≤id)(hn:L.length≤1000000)(wf:WF h) :
  ∃ rF,fc D 201 [.sl id 1 0 L.length,.int .i64 0,.int .i64 L.length] h=some (.tup [],rF)∧zF id sp cap h rF (Cn L):=by
 rw[e201,aJ _ _ _ _ (by simp[C8])]
 simp[C8]
 generalize hF:upd _ 6 _=F
 have R:zF id sp cap h h L:=⟨g,rfl,rfl,wf,fun _ _=>rfl⟩
 unfold Cn
 cases L with
 | nil =>
  have h2:F 2=.int .i64 0:=by rw[←hF];simp
  have h6:F 6=.int .i64 1:=by rw[←hF];simp
  rw[aC Ee.eq_1]
  simp[h2,h6]
  exact⟨h,rfl,R⟩
 | cons a l =>
  refine AcG id (a::l).length sp cap h hl hn ((a::l).length-1) 1 (a::l) F h R (by simp;omega) rfl ?_ ?_ ?_ ?_
  all_goals (rw[←hF];simp)
def ZB(n:Nat):Int:=if n=0 then 0 else if n<2 then 1 else if n<4 then 2 else if n<8 then 3 else 4
theorem s165(n:Nat)(hn:n≤12):pcF D JL [.int .u64 n]=some (.int .i64 (ZB n)):=by
 have:n=0∨n=1∨n=2∨n=3∨n=4∨n=5∨n=6∨n=7∨n=8∨n=9∨n=10∨n=11∨n=12:=by omega
 rcases this with rfl|rfl|rfl|rfl|rfl|rfl|rfl|rfl|rfl|rfl|rfl|rfl|rfl
 ·exact nX (n:=2000) (args:=[.int .u64 0]) Bh rfl (by kernel_rfl)
 ·exact nX (n:=2000) (args:=[.int .u64 1]) Bh rfl (by kernel_rfl)
 ·exact nX (n:=2000) (args:=[.int .u64 2]) Bh rfl (by kernel_rfl)
 ·exact nX (n:=2000) (args:=[.int .u64 3]) Bh rfl (by kernel_rfl)
 ·exact nX (n:=2000) (args:=[.int .u64 4]) Bh rfl (by kernel_rfl)
 ·exact nX (n:=2000) (args:=[.int .u64 5]) Bh rfl (by kernel_rfl)
 ·exact nX (n:=2000) (args:=[.int .u64 6]) Bh rfl (by kernel_rfl)
 ·exact nX (n:=2000) (args:=[.int .u64 7]) Bh rfl (by kernel_rfl)
 ·exact nX (n:=2000) (args:=[.int .u64 8]) Bh rfl (by kernel_rfl)
 ·exact nX (n:=2000) (args:=[.int .u64 9]) Bh rfl (by kernel_rfl)
 ·exact nX (n:=2000) (args:=[.int .u64 10]) Bh rfl (by kernel_rfl)
 ·exact nX (n:=2000) (args:=[.int .u64 11]) Bh rfl (by kernel_rfl)
 ·exact nX (n:=2000) (args:=[.int .u64 12]) Bh rfl (by kernel_rfl)
theorem q164(id:Nat)(sp:List DV)(cap:Option Nat)(h:aA)(L:List Int)(x:Int)(g:h.get id=some (.arr 3 1 (L.map bO++sp) cap))(hl:h.lim≤id)(hn:L.length≤12)(wf:WF h) :
  ∃ rF,fc D 164 [.sl id 1 0 L.length,.int .i64 0,.int .i64 L.length,.int .i64 x] h=some (.tup [],rF)∧zF id sp cap h rF (Cn L):=by
 obtain⟨rF,hq,R⟩:=q201 id sp cap h L g hl (by omega) wf
 refine⟨rF,?_,R⟩
 have hw:IntKind.i64.wrap (L.length:Int)=L.length:=aT (by omega) (by omega)
 have gE:(L.length:Int)≤12:=by omega
 rw[e164,aJ _ _ _ _ (by simp[D8])]
 simp[D8]
 rw[aC D7.eq_1]
 simp[hw,gE,hn,hq,turn]
 rfl
theorem q113(id:Nat)(sp:List DV)(cap:Option Nat)(h:aA)(L:List Int)(g:h.get id=some (.arr 3 1 (L.map bO++sp) cap))(hl:h.lim≤id)(hn:L.length≤12)(wf:WF h) :
  ∃ rF,fc D 113 [.sl id 1 0 L.length] h=some (.tup [],rF)∧zF id sp cap h rF (Cn L):=by
 obtain⟨rF,hq,R⟩:=q164 id sp cap h L (ZB L.length) g hl hn wf
 refine⟨rF,?_,R⟩
 have hb:=s165 L.length hn
 have hw:IntKind.u64.wrap (L.length:Int)=L.length:=by
  have:L.length=0∨L.length=1∨L.length=2∨L.length=3∨L.length=4∨L.length=5∨L.length=6∨L.length=7∨L.length=8∨L.length=9∨L.length=10∨L.length=11∨L.length=12:=by omega
  rcases this with e|e|e|e|e|e|e|e|e|e|e|e|e<;>rw[e]<;>rfl
 rw[e113,aJ _ _ _ _ (by simp[F9])]
 simp[F9,hw,Bh,hb,hq,turn]
 rfl
end Go.Dm.Tc
/-
AdvertsOrder: numbers sorted,and the same ones struck: the walk.
-/
namespace Go.Dm.Tc
def kQ(L:List Int):Prop:=L.Pairwise (·<·)
theorem Fl{A:List Int}{v:Int}(h:kQ A)(hv:∀a∈A,a<v):kQ (A++[v]):=by
 unfold kQ at *
 rw[List.pairwise_append]
 exact⟨h,List.pairwise_singleton ..,fun a ha b hb=>by rw[List.mem_singleton.1 hb];exact hv a ha⟩
theorem tV{L:List Int}{p:Nat}(h:p<L.length):L.take (p+1)=L.take p++[atL L p]:=by
 rw[List.take_succ,List.getElem?_eq_getElem h,lS h];rfl
theorem No{M:List Int}{k:Nat}(h:k<M.length)(v:Int):(M.set k v).take (k+1)=M.take k++[v]:=by
 rw[tV (by simpa using h)]
 congr 1
 ·exact List.take_set_of_le (Nat.le_refl _)
 ·simp[atL,h]
structure yC(L M:List Int)(k p:Nat):Prop where
 len:M.length=L.length
 k1:1≤k
 kp:k<p
 pl:p≤L.length
 tail:∀i,p-1≤i→atL M i=atL L i
 strict:kQ (M.take k)
 mem:∀x,x∈M.take k↔x∈L.take p
 last:atL M (k-1)=atL L (p-1)
theorem yC.start{L:List Int}{k:Nat}(hs:kQ (L.take k))(h1:1≤k)(hk:k<L.length)(he:atL L k=atL L (k-1)):yC L L k (k+1):=by
 refine⟨rfl,h1,by omega,by omega,fun _ _=>rfl,hs,fun x=>?_,by simp[he]⟩
 rw[tV hk,List.mem_append,List.mem_singleton]
 constructor
 ·exact .inl
 ·rintro(h|h)
  ·exact h
  ·rw[h,he]
   have:k-1<L.length:=by omega
   rw[lS this]
   exact List.mem_take_iff_getElem.2 ⟨k-1,by omega,rfl⟩
theorem yC.same{L M:List Int}{k p:Nat}(h:yC L M k p)(hp:p<L.length)(he:atL L p=atL L (p-1)):yC L M k (p+1):=by
 refine⟨h.len,h.k1,by have:=h.kp;omega,by omega,fun i hi=>h.tail i (by omega),h.strict,fun x=>?_,by rw[h.last];simp[he]⟩
 rw[h.mem,tV hp,List.mem_append,List.mem_singleton]
 constructor
 ·exact .inl
 ·rintro(q|q)
  ·exact q
  ·rw[q,he]
   have hkp:=h.kp
   have:p-1<L.length:=by omega
   rw[lS this]
   exact List.mem_take_iff_getElem.2 ⟨p-1,by omega,rfl⟩
theorem yC.more{L M:List Int}{k p:Nat}(h:yC L M k p)(hs:L.Pairwise (·≤·))(hp:p<L.length)(he:atL L p≠atL L (p-1)):yC L (M.set k (atL L p)) (k+1) (p+1):=by
 have hkp:=h.kp
 have HK:=h.k1
 have hkM:k<M.length:=by rw[h.len];omega
 have bC:atL L (p-1)<atL L p:=by
  have:=List.pairwise_iff_getElem.1 hs (p-1) p (by omega) hp (by omega)
  rw[←lS (by omega:p-1<L.length),←lS hp]at this
  omega
 refine⟨by simpa using h.len,by omega,by omega,by omega,?_,?_,?_,?_⟩
 ·intro i hi
  have:atL (M.set k (atL L p)) i=atL M i:=by
   unfold atL
   simp only[List.getD_eq_getElem?_getD,List.getElem?_set]
   rw[if_neg (by omega)]
  rw[this]
  exact h.tail i (by omega)
 ·rw[No hkM]
  refine Fl h.strict fun a ha=>?_
  have dH:a≤atL M (k-1):=by
   obtain⟨i,hi,rfl⟩:=List.mem_take_iff_getElem.1 ha
   by_cases e:i=k-1
   ·subst e;rw[lS (by omega)];exact Int.le_refl _
   ·have:=List.pairwise_iff_getElem.1 h.strict i (k-1) (by simp;omega) (by simp;omega) (by omega)
    simp only[List.getElem_take]at this
    rw[lS (by omega)];omega
  rw[h.last]at dH
  omega
 ·intro x
  rw[No hkM,tV hp,List.mem_append,List.mem_append,h.mem]
 ·have:atL (M.set k (atL L p)) (k+1-1)=atL L p:=by simp[atL,hkM]
  rw[this];rfl
theorem AcJ(S:List Fr)(P:Res→Prop)(id n k0:Nat)(L:List Int)(sp:List DV)(cap:Option Nat)(h:aA)(hl:h.lim≤id)(hn:n≤1000000)(hs:L.Pairwise (·≤·))(hL:L.length=n)(Ew:k0≤n) :
  ∀(j p k:Nat) (M:List Int) (f:cT) (h':aA),zF id sp cap h h' M→yC L M k p→k0<p→p+j=n→f 0=.sl id 1 0 n→f 3=.int .i64 k→f 4=.sl id 1 k0 (n-k0)→f 5=.int .i64 ((p-k0:Nat):Int) →
  (∀k' M' f' rF,f' 0=.sl id 1 0 n→f' 3=.int .i64 k'→zF id sp cap h rF M'→yC L M' k' n→P (ret D 61 S .normal f' rF)) →
  P (run D 61 (.block 2::S) (.loop Qm) f h'):=by
 intro j
 induction j with
 | zero =>
  intro p k M f h' R I hk hp h0 h3 h4 h5 hP
  have hpn:p=n:=by omega
  subst hpn
  rw[aC Qm.eq_1]
  simp[h0,h3,h4,h5]
  exact hP k M _ h' (by simp[h0]) (by simp[h3]) R I
 | succ j ih =>
  intro p k M f h' R I hk hp h0 h3 h4 h5 hP
  have hkp:=I.kp
  have hML:M.length=n:=by rw[I.len,hL]
  have hpn:p<n:=by omega
  have hx:∀i,i<n→(M.map bO++sp)[i]?=some (.int .i64 (atL M i)):=fun i hi=>by
   rw[List.getElem?_append_left (by simp;omega),List.getElem?_map,List.getElem?_eq_getElem (by omega),lS (by omega)];rfl
  have Z7:=hx p hpn
  have Ao:=hx (p-1) (by omega)
  have hxk:=hx k (by omega)
  rw[I.tail p (by omega)]at Z7
  rw[I.tail (p-1) (by omega)]at Ao
  have g:=R.get
  have Nf:h'.lim≤id:=by rw[R.lim];exact hl
  have Xx:=bB g
  have O4:=R.wf
  have lO:bQ 1 (.sl id 1 k0 (n-k0)) (.int .i64 ((p-k0:Nat):Int))=some (.ptr id 1 p 0):=by
   have:p-k0<n-k0:=by omega
   simp[bQ,asI,this];omega
  have Z8:IntKind.i64.wrap (((p-k0:Nat):Int)-1)=((p-k0-1:Nat):Int):=by rw[aT (by omega) (by omega)];omega
  have US:IntKind.i64.wrap (((p-k0:Nat):Int)+1)=((p+1-k0:Nat):Int):=by rw[aT (by omega) (by omega)];omega
  have hw3:IntKind.i64.wrap ((k:Int)+1)=((k+1:Nat):Int):=by rw[aT (by omega) (by omega)];omega
  have rY:bQ 1 (.sl id 1 k0 (n-k0)) (.int .i64 ((p-k0-1:Nat):Int))=some (.ptr id 1 (p-1) 0):=by
   have:p-k0-1<n-k0:=by omega
   simp[bQ,asI,this];omega
  have PG:bQ 1 (.sl id 1 0 n) (.int .i64 (k:Int))=some (.ptr id 1 k 0):=by
   have:k<n:=by omega
   simp[bQ,asI,this]
  have bC:((p-k0:Nat):Int)<((n-k0:Nat):Int):=by omega
  have qW:p-k0<n-k0:=by omega
  rw[aC Qm.eq_1]
  by_cases hc:atL L p=atL L (p-1)
  ·simp[h0,h3,h4,h5,g,Z7,Ao,Nf,Xx,O4,Z8,US,hw3,lO,rY,PG,bC,qW,hc]
   generalize hF:upd _ 5 _=F
   exact ih (p+1) k M F h' R (I.same (by omega) hc) (by omega) (by omega) (by rw[←hF];simp[h0]) (by rw[←hF];simp[h3]) (by rw[←hF];simp[h4]) (by rw[←hF];simp) hP
  ·simp[h0,h3,h4,h5,g,Z7,Ao,Nf,Xx,O4,Z8,US,hw3,lO,rY,PG,bC,qW,hc,hxk]
   generalize hF:upd _ 5 _=F
   have gX:(M.map bO++sp).set k (.int .i64 (atL L p))=(M.set k (atL L p)).map bO++sp:=by
    rw[List.set_append_left _ _ (by simp;omega),List.map_set];rfl
   rw[gX]
   have R':zF id sp cap h (h'.set id (.arr 3 1 ((M.set k (atL L p)).map bO++sp) cap)) (M.set k (atL L p)) :=
    ⟨by rw[bY O4 Xx,if_pos rfl],R.n,R.lim,O4.set,fun i hi=>by rw[bY O4 Xx,if_neg hi];exact R.oth i hi⟩
   exact ih (p+1) (k+1) _ F _ R' (I.more hs (by omega) hc) (by omega) (by omega) (by rw[←hF];simp[h0]) (by rw[←hF];simp) (by rw[←hF];simp[h4]) (by rw[←hF];simp) hP
def VL(id:Nat)(cap:Option Nat)(h:aA)(L:List Int)(r:Res):Prop :=
 ∃ N sp' rF,fin [.t 2] r=some (.sl id 1 0 N.length,rF)∧zF id sp' cap h rF N∧kQ N∧(∀x,x∈N↔x∈L)∧N.length≤L.length
theorem AcI(id n:Nat)(L:List Int)(sp:List DV)(cap:Option Nat)(h:aA)(hl:h.lim≤id)(hn:n≤1000000)(hs:L.Pairwise (·≤·))(hL:L.length=n)(g:h.get id=some (.arr 3 1 (L.map bO++sp) cap))(wf:WF h) :
  ∀(j k:Nat) (f:cT),kQ (L.take k)→1≤k→k+j=n→f 0=.sl id 1 0 n→f 3=.int .i64 k →
  VL id cap h L (run D 61 [.block 0,.seq F7] (.loop Ql) f h):=by
 have R:zF id sp cap h h L:=⟨g,rfl,rfl,wf,fun _ _=>rfl⟩
 have Xx:=bB g
 intro j
 induction j with
 | zero =>
  intro k f dK h1 hk h0 h3
  have PF:k=n:=by omega
  subst PF
  rw[aC Ql.eq_1]
  simp[h0,h3,F7]
  refine⟨L,sp,h,by rw[hL];rfl,R,by rw[←hL,List.take_length]at dK;exact dK,fun x=>Iff.rfl,Nat.le_refl _⟩
 | succ j ih =>
  intro k f dK h1 hk h0 h3
  have PF:k<n:=by omega
  have hx:∀i,i<n→(L.map bO++sp)[i]?=some (.int .i64 (atL L i)):=fun i hi=>by
   rw[List.getElem?_append_left (by simp;omega),List.getElem?_map,List.getElem?_eq_getElem (by omega),lS (by omega)];rfl
  have Z7:=hx k PF
  have Ao:=hx (k-1) (by omega)
  have Z8:IntKind.i64.wrap ((k:Int)-1)=((k-1:Nat):Int):=by rw[aT (by omega) (by omega)];omega
  have hw3:IntKind.i64.wrap ((k:Int)+1)=((k+1:Nat):Int):=by rw[aT (by omega) (by omega)];omega
  have PG:∀i:Nat,i<n→bQ 1 (.sl id 1 0 n) (.int .i64 (i:Int))=some (.ptr id 1 i 0):=fun i hi=>by
   simp[bQ,asI,hi]
  have lO:=PG k PF
  have rY:=PG (k-1) (by omega)
  rw[aC Ql.eq_1]
  by_cases hc:atL L k=atL L (k-1)
  ·have A9:iH h 1 (.sl id 1 0 n) (some (.int .i64 (k:Int))) none=some (.sl id 1 k (n-k)):=by
    simp only[iH,g]
    rw[if_pos ⟨trivial,trivial,by simp;omega⟩]
    simp only[dP,asI]
    rw[if_pos ⟨by omega,by omega⟩]
    simp
   simp[h0,h3,g,Z7,Ao,hl,Xx,wf,Z8,hw3,lO,rY,PF,hc,A9]
   generalize hF:upd _ 5 _=F
   refine AcJ _ (VL id cap h L) id n k L sp cap h hl hn hs hL (by omega) (n-(k+1)) (k+1) k L F h R (yC.start dK h1 (by omega) hc) (by omega) (by omega) (by rw[←hF];simp[h0]) (by rw[←hF];simp[h3]) (by rw[←hF];simp) (by rw[←hF];simp<;>omega) fun k' M f' rF a0 a3 R' I=>?_
   have g':=R'.get
   have Nf:rF.lim≤id:=by rw[R'.lim];exact hl
   have hkp:=I.kp
   have hML:M.length=n:=by rw[I.len,hL]
   have hsl1:iH rF 1 (.sl id 1 0 n) (some (.int .i64 (k':Int))) none=some (.sl id 1 k' (n-k')):=by
    simp only[iH,g']
    rw[if_pos ⟨trivial,trivial,by simp;omega⟩]
    simp only[dP,asI]
    rw[if_pos ⟨by omega,by omega⟩]
    simp
   have P7:=rH (z:=.int .i64 0) (len:=n-k') (off:=k') g' (by simp;omega) Nf (by omega)
   have O4:=R'.wf
   have hnn':=bB g'
   have gX:dD (M.map bO++sp) (List.replicate (n-k') (.int .i64 0)) k'=(M.take k').map bO++(List.replicate (n-k') (.int .i64 0)++sp):=by
    unfold dD
    have e1:(M.map bO++sp).take k'=(M.take k').map bO:=by
     rw[List.take_append_of_le_length (by simp;omega),List.map_take]
    have e2:(M.map bO++sp).drop (k'+(n-k'))=sp:=by
     have:k'+(n-k')=(M.map bO).length:=by simp;omega
     rw[this,List.drop_left]
    simp only[List.length_replicate]
    rw[e1,e2,List.append_assoc]
   obtain⟨X,hX⟩:∃ X,(M.take k').map bO++(List.replicate (n-k') (.int .i64 0)++sp)=X:=⟨_,rfl⟩
   have hXl:n≤X.length:=by rw[←hX];simp;omega
   rw[gX,hX]at P7
   have hsl2:∀H:aA,∀xs c,H.get id=some (.arr 3 1 xs c)→n≤xs.length→iH H 1 (.sl id 1 0 n) none (some (.int .i64 (k':Int)))=some (.sl id 1 0 k'):=fun H xs c hg cH=>by
    simp only[iH,hg]
    rw[if_pos ⟨trivial,trivial,by omega⟩]
    simp only[dP,asI]
    rw[if_pos ⟨by omega,by omega⟩]
    simp
   have HM:(rF.set id (.arr 3 1 (X) cap)).get id=some (.arr 3 1 (X) cap):=by
    rw[bY O4 hnn',if_pos rfl]
   have hs2:=hsl2 _ _ _ HM hXl
   simp[JS,a0,a3,hsl1,P7,uB,hs2]
   refine⟨M.take k',List.replicate (n-k') (.int .i64 0)++sp,(rF.set id (.arr 3 1 (X) cap)),?_,⟨by rw[hX];exact HM,R'.n,R'.lim,O4.set,fun i hi=>by rw[bY O4 hnn',if_neg hi];exact R'.oth i hi⟩,I.strict,fun x=>?_,by simp;omega⟩
   ·have:(M.take k').length=k':=by simp;omega
    rw[this];rfl
   ·rw[I.mem,←hL,List.take_length]
  ·have bC:atL L (k-1)<atL L k:=by
    have:=List.pairwise_iff_getElem.1 hs (k-1) k (by omega) (by omega) (by omega)
    rw[←lS (by omega:k-1<L.length),←lS (by omega:k<L.length)]at this
    omega
   have hst':kQ (L.take (k+1)):=by
    rw[tV (by omega)]
    refine Fl dK fun a ha=>?_
    obtain⟨i,hi,rfl⟩:=List.mem_take_iff_getElem.1 ha
    have dH:L[i]≤atL L (k-1):=by
     rw[lS (by omega)]
     by_cases e:i=k-1
     ·subst e;exact Int.le_refl _
     ·exact List.pairwise_iff_getElem.1 hs i (k-1) (by omega) (by omega) (by omega)
    omega
   simp[h0,h3,g,Z7,Ao,hl,Xx,wf,Z8,hw3,lO,rY,PF,hc,JR]
   generalize hF:upd _ 3 _=F
   exact ih (k+1) F hst' (by omega) (by omega) (by rw[←hF];simp[h0]) (by rw[←hF];simp)
theorem q114(id:Nat)(L:List Int)(sp:List DV)(cap:Option Nat)(h:aA)(hl:h.lim≤id)(hn:L.length≤1000000)(hs:L.Pairwise (·≤·))(g:h.get id=some (.arr 3 1 (L.map bO++sp) cap))(wf:WF h) :
  ∃ N sp' rF,fc D 114 [.sl id 1 0 L.length] h=some (.sl id 1 0 N.length,rF)∧zF id sp' cap h rF N∧kQ N∧(∀x,x∈N↔x∈L)∧N.length≤L.length:=by
 rw[e114,aJ _ _ _ _ (by simp[F8])]
 simp[F8]
 by_cases h2:L.length<2
 ·have Ub:(L.length:Int)<2:=by omega
  simp[h2,Ub]
  refine⟨L,sp,h,⟨rfl,rfl⟩,⟨g,rfl,rfl,wf,fun _ _=>rfl⟩,?_,fun x=>Iff.rfl,Nat.le_refl _⟩
  match L,h2 with
  | [],_=>exact List.Pairwise.nil
  | [a],_=>exact List.pairwise_singleton ..
 ·have Ub:¬(L.length:Int)<2:=by omega
  simp[h2,Ub]
  generalize hF:upd _ 3 _=F
  refine AcI id L.length L sp cap h hl hn hs rfl g wf (L.length-1) 1 F ?_ (Nat.le_refl _) (by omega) (by rw[←hF];simp) (by rw[←hF];simp)
  match L with
  | []=>simp[kQ]
  | a::r=>simp[kQ]
end Go.Dm.Tc
/-
What functions compute,part 30: texts compared;the search among constraints;two constraints in one.
-/
namespace Go.Dm.Tc
theorem II{a b:UInt8}(h1:¬a<b)(h2:¬b<a):a=b:=by
 rw[UInt8.lt_iff_toNat_lt]at h1 h2
 exact UInt8.toNat_inj.1 (by omega)
theorem yQ:∀{a b:List UInt8},Go.Lib.compareBytes a b<0↔Go.Op.bytesLess a b=true
 | [],[]=>by simp[Go.Lib.compareBytes,Go.Op.bytesLess]
 | [],b::bs=>by simp[Go.Lib.compareBytes,Go.Op.bytesLess]
 | a::az,[]=>by simp[Go.Lib.compareBytes,Go.Op.bytesLess]
 | a::az,b::bz=>by
  have ih:=yQ (a:=az) (b:=bz)
  unfold Go.Lib.compareBytes Go.Op.bytesLess
  by_cases h1:a<b
  ·simp[h1]
  ·by_cases h2:b<a
   ·have:a≠b:=fun e=>by subst e;exact h1 h2
    simp[h1,h2,this]
   ·have:=II h1 h2
    simp[h1,h2,this,ih]
theorem Dn:∀{a b:List UInt8},Go.Lib.compareBytes a b=0↔a=b
 | [],[]=>by simp[Go.Lib.compareBytes]
 | [],b::bs=>by simp[Go.Lib.compareBytes]
 | a::az,[]=>by simp[Go.Lib.compareBytes]
 | a::az,b::bz=>by
  have ih:=Dn (a:=az) (b:=bz)
  unfold Go.Lib.compareBytes
  by_cases h1:a<b
  ·have:a≠b:=fun e=>by subst e;have:=IG (a:=a) (b:=a);simp_all
   simp[h1,this]
  ·by_cases h2:b<a
   ·have:a≠b:=fun e=>by subst e;exact h1 h2
    simp[h1,h2,this]
   ·have:=II h1 h2
    simp[h1,h2,this,ih]
theorem s233(a b:List UInt8):pcF D BI [.str a,.str b]=some (.int .i64 (Go.Lib.compareBytes a b)):=by
 unfold pcF
 rw[aJ _ _ _ _ (by simp[BI])]
 simp[BI,e238,nP]
theorem s220(a b:List UInt8):pcF D BK [.str a,.str b]=some (.int .i64 (Go.Lib.compareBytes a b)):=by
 unfold pcF
 rw[aJ _ _ _ _ (by simp[BK])]
 simp[BK,e233,s233]
def eO(s:List UInt8)(c:eQ):Int:=Go.Lib.compareBytes c.name s
theorem s219(c:eQ)(s:List UInt8):pcF D BL [aO c,.str s]=some (.int .i64 (eO s c)):=by
 unfold pcF
 rw[aJ _ _ _ _ (by simp[BL])]
 simp[BL,aO,e220,s220,eO]
theorem l218(t:Bool)(xs:List eQ)(s:List UInt8)(g:Nat)(cap:List DV)(cm:eQ→Int)(hg:∀x∈xs,∀h,fc D g ([aO x,.str s]++cap) h=some (.int .i64 (cm x),h))(hl:xs.length≤1000000)
  (hm:∀i j (hi:i<xs.length) (hj:j<xs.length),i≤j→cm xs[j]<0→cm xs[i]<0) (h:aA) :
  ∀(n i j:Nat) (f:cT),j-i=n→i≤j→j≤xs.length→f 0=eL t 5 aO xs→f 1=.str s→f 2=.func g cap→f 8=.int .i64 xs.length→f 9=.int .i64 i→f 10=.int .i64 j →
  (∀q (hq:q<i),(uH:q<xs.length)→cm xs[q]<0)→(∀q (hq:q<xs.length),j≤q→¬cm xs[q]<0) →
  cW (fin [.t 6,.t 7] (run D 49 [.block 0,.seq Pf] (.loop C6) f h))=some (.tup [.int .i64 (aV cm xs),.bool (eZ cm xs)]):=by
 intro n
 induction n using Nat.strongRecOn with
 | ind n ih =>
  intro i j f hn SY hj h0 h1 h2 h8 h9 hY hJ nN
  rw[aC C6.eq_1]
  by_cases bC:i<j
  ·have hk:(i+j) / 2<xs.length:=by omega
   have Sx:xs[(i+j) / 2]?=some xs[(i+j) / 2]:=List.getElem?_eq_getElem hk
   have sL:=hg xs[(i+j) / 2] (List.getElem_mem hk)
   simp only[aO,List.cons_append,List.nil_append]at sL
   have w1:IntKind.i64.wrap ((i:Int)+j)=((i:Int)+j):=aT (by omega) (by omega)
   have w2:IntKind.u64.wrap ((i:Int)+j)=((i:Int)+j):=Bu (by omega) (by omega)
   have w3:IntKind.i64.wrap (((i+j) / 2:Nat):Int)=((i+j) / 2:Nat):=aT (by omega) (by omega)
   have w4:IntKind.i64.wrap ((((i+j) / 2:Nat):Int)+1)=((((i+j) / 2:Nat):Int)+1):=aT (by omega) (by omega)
   by_cases hc:cm xs[(i+j) / 2]<0
   ·simp[h0,h1,h2,h8,h9,hY,bC,hk,Sx,sL,aO,w1,w2,w3,w4,hc,-Int.natCast_ediv]
    refine ih (j-((i+j) / 2+1)) (by omega) ((i+j) / 2+1) j _ rfl (by omega) hj ?_ ?_ ?_ ?_ ?_ ?_ ?_ nN<;>try simp[h0,h1,h2,h8,hY]
    intro q hq uH
    exact hm q ((i+j) / 2) uH hk (by omega) hc
   ·simp[h0,h1,h2,h8,h9,hY,bC,hk,Sx,sL,aO,w1,w2,w3,w4,hc,-Int.natCast_ediv]
    refine ih ((i+j) / 2-i) (by omega) i ((i+j) / 2) _ rfl (by omega) (by omega) ?_ ?_ ?_ ?_ ?_ ?_ hJ ?_<;>try simp[h0,h1,h2,h8,h9]
    intro q hq uH
    exact Int.not_lt.1 fun hx=>hc (hm ((i+j) / 2) q hk hq uH hx)
  ·have P3:i=j:=by omega
   subst P3
   have dS:aV cm xs=i:=pK hj (fun q hq=>hJ q hq (by omega)) (fun hq=>nN i hq (Nat.le_refl i))
   by_cases hi:i<xs.length
   ·have sL:=hg xs[i] (List.getElem_mem hi)
    simp only[aO,List.cons_append,List.nil_append]at sL
    have Sx:xs[i]?=some xs[i]:=List.getElem?_eq_getElem hi
    simp[Pf,h0,h1,h2,h8,h9,hY,hi,Sx,sL,aO,dS,eZ,aI]
    rfl
   ·simp[Pf,h0,h1,h2,h8,h9,hY,hi,dS,eZ,aI]
theorem s218(t:Bool)(xs:List eQ)(s:List UInt8)(hl:xs.length≤1000000)(hm:∀i j (hi:i<xs.length) (hj:j<xs.length),i≤j→eO s xs[j]<0→eO s xs[i]<0) :
  pcF D BM [eL t 5 aO xs,.str s,.func 219 []]=some (.tup [.int .i64 (aV (eO s) xs),.bool (eZ (eO s) xs)]):=by
 have hg:∀x∈xs,∀h,fc D 219 ([aO x,.str s]++[]) h=some (.int .i64 (eO s x),h):=fun x _ h=>by
  have:=s219 x s
  simp only[aO]at this
  simp[aO,e219,this]
 unfold pcF
 rw[aJ _ _ _ _ (by simp[BM])]
 simp[BM]
 refine l218 t xs s 219 [] (eO s) hg hl hm _ xs.length 0 xs.length _ (by omega) (by omega) (by omega) ?_ ?_ ?_ ?_ ?_ ?_ ?_ ?_<;>simp
 intro q hq uH
 omega
def mxI(a b:Int):Int:=if a<b then b else a
def mnI(a b:Int):Int:=if b<a then b else a
def gU(a b:eQ):Option eQ :=
 if a.kind=1 then(if b.kind=1∧mxI a.lo b.lo≤mnI a.hi b.hi then some {a with lo:=mxI a.lo b.lo,hi:=mnI a.hi b.hi} else none)
 else if b.kind=1 then none
 else if a.kind=2 then(if iY b a.text=true then some a else none)
 else if b.kind=2 then(if iY a b.text=true then some b else none)
 else if a.text.length<b.text.length then(if iN b.text a.text=true then some b else none)
 else(if iN a.text b.text=true then some a else none)
def kW:eQ:=⟨[],0,0,0,[]⟩
def kD(k:Int):Prop:=k=1∨k=2∨k=3
theorem s221(a b:eQ)(ha:kD a.kind)(hb:kD b.kind):pcF D yU [aO a,aO b]=some (.tup [aO ((gU a b).getD kW),.bool (gK (gU a b))]):=by
 obtain⟨nm,k,lo,hi,tx⟩:=a
 obtain⟨nm',k',lo',gJ,tx'⟩:=b
 simp only[kD]at ha hb
 unfold pcF
 rw[aJ _ _ _ _ (by simp[yU])]
 rcases ha with rfl|rfl|rfl
 ·rcases hb with rfl|rfl|rfl
  ·by_cases h:mnI hi gJ<mxI lo lo'
   ·have h':¬mxI lo lo'≤mnI hi gJ:=by omega
    simp only[mnI,mxI]at h h'
    simp[yU,aO,gU,mnI,mxI,h,h',turn,aI,gK,kW]
   ·have h':mxI lo lo'≤mnI hi gJ:=by omega
    simp only[mnI,mxI]at h h'
    simp[yU,aO,gU,mnI,mxI,h,h',turn,aI,gK,kW]
  ·simp[yU,aO,gU,turn,aI,gK,kW]
  ·simp[yU,aO,gU,turn,aI,gK,kW]
 ·rcases hb with rfl|rfl|rfl
  ·simp[yU,aO,gU,turn,aI,gK,kW]
  ·have hh:=DF nm' 2 lo' gJ tx' tx
   cases hq:iY ⟨nm',2,lo',gJ,tx'⟩ tx<;>rw[hq]at hh<;>simp[yU,aO,gU,turn,aI,gK,kW,Yw,I7,uQ,Yx,hh,hq]
  ·have hh:=DF nm' 3 lo' gJ tx' tx
   cases hq:iY ⟨nm',3,lo',gJ,tx'⟩ tx<;>rw[hq]at hh<;>simp[yU,aO,gU,turn,aI,gK,kW,Yw,I7,uQ,Yx,hh,hq]
 ·rcases hb with rfl|rfl|rfl
  ·simp[yU,aO,gU,turn,aI,gK,kW]
  ·have hh:=DF nm 3 lo hi tx tx'
   cases hq:iY ⟨nm,3,lo,hi,tx⟩ tx'<;>rw[hq]at hh<;>simp[yU,aO,gU,turn,aI,gK,kW,Yw,I7,uQ,Yx,hh,hq]
  ·by_cases hl:tx.length<tx'.length
   ·have hh:=DF nm 3 lo hi tx tx'
    have hd:iY ⟨nm,3,lo,hi,tx⟩ tx'=iN tx' tx:=rfl
    rw[hd]at hh
    have Kn:(tx.length:Int)<tx'.length:=by omega
    cases hq:iN tx' tx<;>rw[hq]at hh<;>simp[yU,aO,gU,turn,aI,gK,kW,Yw,I7,uQ,Yx,hh,hq,hl,Kn]
   ·have hh:=DF nm' 3 lo' gJ tx' tx
    have hd:iY ⟨nm',3,lo',gJ,tx'⟩ tx=iN tx tx':=rfl
    rw[hd]at hh
    have Kn:¬(tx.length:Int)<tx'.length:=by omega
    cases hq:iN tx tx'<;>rw[hq]at hh<;>simp[yU,aO,gU,turn,aI,gK,kW,Yw,I7,uQ,Yx,hh,hq,hl,Kn]
end Go.Dm.Tc
