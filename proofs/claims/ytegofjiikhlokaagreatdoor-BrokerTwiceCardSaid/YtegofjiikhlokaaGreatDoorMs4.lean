/- A part of the proof. -/
import Derived.Test.YtegofjiikhlokaaGreatDoorMs3
import Derived.Test.YtegofjiikhlokaaGreatDoorMs2
import Derived.Test.YtegofjiikhlokaaGreatDoorMs1
set_option linter.all false
namespace Go.Dm.Tc
set_option maxRecDepth 20000
theorem r30(xc xd:Int)(t:Bool)(oY:List bG)(hl:oY.length≤1000)(tx tb tn:Nat)(nb:aH)(rY:cD nb)(hz:ZL nb 0)(w:DV)(f:cT)(h:aA)
  (h2:f 2=.ptr 0 6 0 0) (h3:f 3=.ptr 1 2 0 0) (h4:f 4=.ptr 2 6 0 0) (h9:f 9=.nsl) (hW:f 40=eL t 4 aG oY) (hL:f 41=.int .i64 oY.length) (hI:f 42=.int .i64 0)
  (g1:h.get 1=some (.arr tx 2 [.agg [.int .i64 xc,.int .i64 xd]] (some 1))) (g2:h.get 2=some (.arr tb 6 [zB] (some 1))) (gB:h.get 0=some (.arr tn 6 [.agg [.int .i64 nb.me,eL false 1 bO nb.aM,eL false 4 aG nb.aR,eL false 2 eID nb.seen,eL false 7 aD nb.entries,w]] (some 1)))
  (hv:OwnR 3 h w 98 3 (nb.bT.map cP)) (aL:h.lim=0) (hn:3≤h.n) (wf:WF h) :
  cW (fin [.cell 4 (some 6),.t 5] (run D 63 [.block 2,.seq Uw] (.loop Ii) f h))=some (.tup [aE .none (oY.foldl (fA ⟨xc,xd⟩) (nb,[])).1,eL false 8 fY (oY.foldl (fA ⟨xc,xd⟩) (nb,[])).2]):=by
 cases oY with
 | nil =>
  have l2:2<h.n:=by omega
  have r1:∀o,resolve false (h.set 2 o) 198 w=some (eL false 3 cP nb.bT):=fun o=>(hv.aU (o:=o) wf (by decide:2<3) l2).resolve (n:=198) false (fun y _=>(lV y).1) (by decide)
  rw[aC Ii.eq_1]
  simp only[zB]at g2
  simp only[List.length_nil]at hL
  simp[Uw,hL,hI,h2,h4,h9,gB,g2,aL,l2,wf,turn,aI,r1]
  exact⟨rfl,rfl⟩
 | cons o rest =>
  have hi:0<(o::rest).length:=by simp
  obtain⟨⟨oc,od⟩,op,oq⟩:=o
  have Dz:=s98 nb oc od xc xd (-1) rY hz.sized
  have lO:cD (eV nb ⟨oc,od⟩ ⟨xc,xd⟩ (-1)).1:=by rw[jW];exact rY.take ..
  have Cq:ZL (eV nb ⟨oc,od⟩ ⟨xc,xd⟩ (-1)).1 0:=by rw[jW];exact hz.take rY ..
  have hdl:=Yy rY ⟨oc,od⟩ ⟨xc,xd⟩ (-1)
  have wI:=hz.ent
  obtain⟨m,eB⟩:∃ m,h.n=m+3:=⟨h.n-3,by omega⟩
  rw[aC Ii.eq_1]
  simp only[List.foldl_cons]
  have dK:fA ⟨xc,xd⟩ (nb,[]) ⟨⟨oc,od⟩,op,oq⟩=((eV nb ⟨oc,od⟩ ⟨xc,xd⟩ (-1)).1,(eV nb ⟨oc,od⟩ ⟨xc,xd⟩ (-1)).2):=by simp[fA]
  rw[dK]
  generalize hB1:(eV nb ⟨oc,od⟩ ⟨xc,xd⟩ (-1)).1=b1 at *
  generalize hO1:(eV nb ⟨oc,od⟩ ⟨xc,xd⟩ (-1)).2=o1 at *
  simp only[List.length_cons]at hL
  cases hv with
  | nil hv hx =>
   subst hv
   have Hb:DV.agg [.int .i64 nb.me,eL false 1 bO nb.aM,eL false 4 aG nb.aR,eL false 2 eID nb.seen,eL false 7 aD nb.entries,.isl false 0 []]=aE .none nb:=by
    have:nb.bT=[]:=by simpa using hx
    unfold aE
    rw[this];rfl
   simp[hL,hI,hW,aG,h2,h3,h4,h9,eB,g1,gB,aL,wf,turn,e98,Hb,Dz]
   have ofr:∀p1 p2,fO (m+5) (((h.push p1).push p2).push (.arr 100 8 [] (some 0))) (m+3+1+1) 100 8 []:=fun p1 p2=>by
    have:=fO.fresh (lo:=m+5) (h:=(h.push p1).push p2) (ety:=100) (sz:=8) (xs:=[]) (cap:=some 0) (by simp[aL]) (by simp[eB])
    simpa[eB]using this
   generalize hA:aY _ _ _ _ _ _=A
   obtain⟨i1,K1,rfl,u1,x1,y1,j1⟩:=(ofr _ _).append (n:=0) rfl (by simp[wf]) (by simp[eB]) (by simp[aL]) hA (by simp) (by decide)
   clear hA
   have a0:=x1.get 0 (by omega)
   have a1:=x1.get 1 (by omega)
   have a2:=x1.get 2 (by omega)
   have a4:=x1.get (m+3+1) (by omega)
   have al:=x1.lim
   have an:=x1.le
   have ul:=u1.lo
   simp[eB,g1,g2,gB,aL,wf]at a0 a1 a2 a4 al u1
   have m4:¬m+3+1=i1:=by omega
   simp[h9,m4]
   generalize hA:aY _ _ _ _ _ _=A
   obtain⟨i2,K2,rfl,u2,x2,y2,j2⟩:=u1.append (by simp) x1.wf an (by omega) hA (by simp;omega) (by decide)
   clear hA
   have b0:=x2.get 0 (by omega)
   have b1':=x2.get 1 (by omega)
   have b2:=x2.get 2 (by omega)
   have bl:=x2.lim
   have bn:=x2.le
   have l0:0<K2.n:=by omega
   rw[a0]at b0
   rw[a1]at b1'
   rw[a2]at b2
   rw[al]at bl
   simp[hI,h2,b0,bl,l0,x2.wf,turn]
   generalize hF:upd _ 42 _=F
   have SO:OwnR 3 (K2.set 0 (.arr tn 6 [aE .none b1] (some 1))) (.sl i2 8 0 o1.length) 100 8 (o1.map fY):=by
    have:=(u2.toR.aU (o:=.arr tn 6 [aE .none b1] (some 1)) x2.wf (by omega:0<m+5) l0).lower (by omega:3≤m+5)
    simpa using this
   refine l30 xc xd t (⟨⟨oc,od⟩,op,oq⟩::rest) hl tx tb tn rest 1 b1 o1 _ _ F _ rfl lO Cq (Ji o1) (by simp;omega) ?_ ?_ ?_ ?_ ?_ ?_ ?_ ?_ ?_ ?_ SO ?_ ?_ ?_
   all_goals first
    | (rw[←hF];simp[h2,h3,h4,h9,hW,hL];done)
    | (simp[b0,b1',b2,bl,l0,x2.wf];done)
    | (simp;omega)
  | arr iw sp cap hv hg Nf dS =>
   have ho:fO 3 h iw 98 3 (nb.bT.map cP):=⟨⟨sp,cap,hg⟩,Nf,dS⟩
   have P2:=ho.lt
   subst hv
   simp only[List.length_map]at gB
   have k0:¬iw=0:=by omega
   have k1:¬iw=1:=by omega
   have k2:¬iw=2:=by omega
   have k0':¬0=iw:=by omega
   have k1':¬1=iw:=by omega
   have k2':¬2=iw:=by omega
   have k3:¬iw=m+3:=by omega
   have k4:¬iw=m+3+1:=by omega
   have k5:iw<m+3:=by omega
   have k6:iw<m+3+1:=by omega
   have tA:∀p1,iU (h.push p1) (.sl iw 3 0 nb.bT.length)=some (eL false 3 cP nb.bT,(h.push p1).set iw .dead):=fun p1=>NQ ho.push rfl
   have Hb:DV.agg [.int .i64 nb.me,eL false 1 bO nb.aM,eL false 4 aG nb.aR,eL false 2 eID nb.seen,eL false 7 aD nb.entries,eL false 3 cP nb.bT]=aE .none nb:=rfl
   simp[hL,hI,hW,aG,h2,h3,h4,h9,eB,g1,gB,aL,wf,turn,e98,Hb,Dz,tA,k0,k1,k2,k0',k1',k2',k3,k4,k5,k6]
   have ofr:∀p1 p2,fO (m+5) ((((h.set iw .dead).push p1).push p2).push (.arr 100 8 [] (some 0))) (m+3+1+1) 100 8 []:=fun p1 p2=>by
    have:=fO.fresh (lo:=m+5) (h:=((h.set iw .dead).push p1).push p2) (ety:=100) (sz:=8) (xs:=[]) (cap:=some 0) (by simp[aL]) (by simp[eB])
    simpa[eB]using this
   generalize hA:aY _ _ _ _ _ _=A
   obtain⟨i1,K1,rfl,u1,x1,y1,j1⟩:=(ofr _ _).append (n:=0) rfl (by simp[wf]) (by simp[eB]) (by simp[aL]) hA (by simp) (by decide)
   clear hA
   have a0:=x1.get 0 (by omega)
   have a1:=x1.get 1 (by omega)
   have a2:=x1.get 2 (by omega)
   have a4:=x1.get (m+3+1) (by omega)
   have al:=x1.lim
   have an:=x1.le
   have ul:=u1.lo
   simp[eB,g1,g2,gB,aL,wf,k0,k1,k2,k0',k1',k2',k3,k4,k5,k6]at a0 a1 a2 a4 al u1
   have m4:¬m+3+1=i1:=by omega
   simp[h9,m4]
   generalize hA:aY _ _ _ _ _ _=A
   obtain⟨i2,K2,rfl,u2,x2,y2,j2⟩:=u1.append (by simp) x1.wf an (by omega) hA (by simp;omega) (by decide)
   clear hA
   have b0:=x2.get 0 (by omega)
   have b1':=x2.get 1 (by omega)
   have b2:=x2.get 2 (by omega)
   have bl:=x2.lim
   have bn:=x2.le
   have l0:0<K2.n:=by omega
   rw[a0]at b0
   rw[a1]at b1'
   rw[a2]at b2
   rw[al]at bl
   simp[hI,h2,b0,bl,l0,x2.wf,turn]
   generalize hF:upd _ 42 _=F
   have SO:OwnR 3 (K2.set 0 (.arr tn 6 [aE .none b1] (some 1))) (.sl i2 8 0 o1.length) 100 8 (o1.map fY):=by
    have:=(u2.toR.aU (o:=.arr tn 6 [aE .none b1] (some 1)) x2.wf (by omega:0<m+5) l0).lower (by omega:3≤m+5)
    simpa using this
   refine l30 xc xd t (⟨⟨oc,od⟩,op,oq⟩::rest) hl tx tb tn rest 1 b1 o1 _ _ F _ rfl lO Cq (Ji o1) (by simp;omega) ?_ ?_ ?_ ?_ ?_ ?_ ?_ ?_ ?_ ?_ SO ?_ ?_ ?_
   all_goals first
    | (rw[←hF];simp[h2,h3,h4,h9,hW,hL];done)
    | (simp[b0,b1',b2,bl,l0,x2.wf];done)
    | (simp;omega)
end Go.Dm.Tc
/-
What the reference's functions compute,part 20: the end of a subscription,all of it.
-/
namespace Go.Dm.Tc
theorem cD.endOwn{b:aH}(h:cD b)(x:ID):cD (endOwn b x):=by
 obtain⟨h1,h2,h3,h4,h5,h6,h7,h8,h9,hY,lG,gE,lY⟩:=h
 refine⟨h1,h2,h3,h4,nT (fun o:fT=>o.id) x h5,h6,h7,h8,h9,?_,lG,gE,lY⟩
 intro o ho
 exact hY o ((List.mem_filter.1 ho).1)
theorem ZL.endOwn{b:aH}(h:ZL b 0)(x:ID):ZL (endOwn b x) 0 :=
 ⟨h.aM,h.adv,h.seen,Nat.le_trans (List.length_filter_le ..) h.own,h.ent⟩
theorem s30(b:aH)(xc xd:Int)(hi:cD b)(hz:ZL b 0)(ha:b.aR.length≤1000) :
  pcF D t30 [aE .none b,.agg [.int .i64 xc,.int .i64 xd]]=some (.tup [aE .none (dG b ⟨xc,xd⟩).1,eL false 8 fY (dG b ⟨xc,xd⟩).2]):=by
 unfold pcF
 rw[aJ _ _ _ _ (by simp[t30])]
 simp[t30]
 generalize hF:upd _ 17 _=F
 generalize hH:aA.push _ _=H
 have g0:H.get 0=some (.arr 36 6 [aE .none b] (some 1)):=by rw[←hH];simp
 have g1:H.get 1=some (.arr 40 2 [.agg [.int .i64 xc,.int .i64 xd]] (some 1)):=by rw[←hH];simp
 have g2:H.get 2=some (.arr 36 6 [.agg [.int .i64 0,.nsl,.nsl,.nsl,.nsl,.nsl]] (some 1)):=by rw[←hH];simp
 have AB:H.n=3:=by rw[←hH];simp
 have aL:H.lim=0:=by rw[←hH];simp
 have wf:WF H:=by rw[←hH];simp
 refine m30 [] xc xd false b.bT hz.own _ H g1 aL (fun r=>cW (fin [.cell 4 (some 6),.t 5] r)=some (.tup [aE .none (dG b ⟨xc,xd⟩).1,eL false 8 fY (dG b ⟨xc,xd⟩).2])) b.bT 0 [] .nsl F H rfl ⟨Nat.zero_le _,Nat.zero_le _⟩ (by rw[←hF];simp) (by rw[←hF];simp) (by rw[←hF];simp[dA.none]) (by rw[←hF];simp) (by rw[←hF];simp) (.nil rfl rfl) (.refl (by omega) wf) fun f' h' v' q6 qr SS x=>?_
 have q2:f' 2=.ptr 0 6 0 0:=by rw[qr 2 (by decide),←hF];simp
 have q3:f' 3=.ptr 1 2 0 0:=by rw[qr 3 (by decide),←hF];simp
 have q4:f' 4=.ptr 2 6 0 0:=by rw[qr 4 (by decide),←hF];simp
 have a0:=(x.get 0 (by decide)).trans g0
 have a1:=(x.get 1 (by decide)).trans g1
 have a2:=(x.get 2 (by decide)).trans g2
 have al:=x.lim.trans aL
 have hn:=x.le
 have l0:0<h'.n:=by omega
 have l2:2<h'.n:=by omega
 simp only[List.nil_append]at SS
 have cH:=SS.lenV
 simp only[List.length_map]at cH
 by_cases he:(cQ (fun o:fT=>o.id) ⟨xc,xd⟩ b.bT).length=b.bT.length
 ·have hu:dG b ⟨xc,xd⟩=(b,[]):=by simp only[dG,he,if_true]
  rw[hu]
  rw[he]at cH
  simp[Uv,q2,q3,q4,q6,a0,a1,a2,al,cH,l2,x.wf,turn,aI,iD]
 ·have hu:dG b ⟨xc,xd⟩=b.aR.foldl (fA ⟨xc,xd⟩) (endOwn b ⟨xc,xd⟩,[]):=by simp only[dG,if_neg he]
  rw[hu]
  have kL:¬((cQ (fun o:fT=>o.id) ⟨xc,xd⟩ b.bT).length:Int)=b.bT.length:=by omega
  simp[Uv,q2,q3,q4,q6,a0,a1,a2,al,cH,he,kL,l0,l2,x.wf,turn,SS.bD,SS.aP]
  generalize hF2:upd _ 42 _=F2
  refine r30 xc xd false b.aR ha 40 36 36 (endOwn b ⟨xc,xd⟩) (hi.endOwn _) (hz.endOwn _) v' F2 _ ?_ ?_ ?_ ?_ ?_ ?_ ?_ ?_ ?_ ?_ (SS.aU x.wf (by decide) l0) ?_ ?_ ?_
  all_goals first
   | (rw[←hF2];simp[q2,q3,q4];done)
   | (rw[←hF2];simp[q2,q3,q4,dA.none];done)
   | (simp[a1,l0,x.wf];rfl)
   | (simp[a1,a2,al,l0,x.wf,zB];done)
   | (simp[l0,x.wf];rfl)
   | (simp;omega)
end Go.Dm.Tc
/-
What the reference's functions compute,part 21: a message comes by a link;a broker's side.
-/
namespace Go.Dm.Tc
theorem tW(t:Bool)(h:aA)(n:Nat):resolve t h (n+1) (.isl false 0 [])=some (.isl false 0 []):=rfl
def fZ(b:aH)(q k:Int)(t s:ID)(p:bJ):aH×List jN :=
 if k=1 then bW b q t p else if k=2 then bS b q t else if k=3 then gI b q t s p else eV b t s q
theorem s23(b:aH)(q k tc td sc sd:Int)(p:bJ)(hi:cD b)(hz:ZL b b.bT.length)(hp:cB p)(hf:hU b q=true)(hJ:b.aR.length<100000∧b.seen.length<100000)(hk:k=1∨k=2∨k=3∨k=4) :
  pcF D t23 [aE .none b,.int .i64 q,.agg [.int .i64 k,.int .i64 tc,.int .i64 td,.int .i64 sc,.int .i64 sd,bE p,.isl false 0 []]]=some (.tup [aE .none (fZ b q k ⟨tc,td⟩ ⟨sc,sd⟩ p).1,eL false 8 fY (fZ b q k ⟨tc,td⟩ ⟨sc,sd⟩ p).2,.isl false 0 []]):=by
 have h1:=s31 b tc td q p hi hz hp hf hJ
 have h2:=s59 b tc td q hi hz.sized
 have h3:=s60 b k tc td sc sd q p hi hz.sized hp
 have h4:=s61 b k tc td sc sd q p hi hz.sized
 have Dt:∀os:List jN,bI 199 (eL false 8 fY os)=true:=fun os=>eS (fun y _=>(fK y).2) 199 (by decide)
 unfold pcF
 rw[aJ _ _ _ _ (by simp[t23])]
 rcases hk with rfl|rfl|rfl|rfl
 ·simp[t23,fZ,e31,h1,turn,aI,Dt]
 ·simp[t23,fZ,e59,h2,turn,aI,Dt]
 ·simp[t23,fZ,e60,tW,h3,turn,aI,Dt]
 ·simp[t23,fZ,e61,tW,h4,turn,aI,Dt]
def fJ(b:aH)(n:Int):Int:=(b.aM[(aS n 0 b.aM.length).toNat]?).getD (-1)
theorem s27(t:dA)(b:aH)(n:Int)(hz:fG b):pcF D t27 [aE t b,.int .i64 n]=some (.int .i64 (fJ b n)):=by
 unfold fJ
 have hw:=s8 n 0 b.aM.length (by omega) (by decide) (by have:=hz.aM;omega)
 obtain⟨w1,w2⟩:=dB n (lo:=0) (hi:=b.aM.length) (by omega)
 generalize aS n 0 b.aM.length=w at *
 obtain⟨k,rfl⟩:∃ k:Nat,w=k:=⟨w.toNat,by omega⟩
 unfold pcF
 rw[aJ _ _ _ _ (by simp[t27])]
 by_cases hk:k<b.aM.length
 ·simp[t27,e8,hw,hk,bO]
 ·simp[t27,e8,hw,hk]
end Go.Dm.Tc
/-
What every broker keeps that is told anything: plain laws.
-/
namespace Go.Dm.Tc
structure wK(a b:aH)(k:Nat):Prop where
 me:b.me=a.me
 aM:b.aM=a.aM
 adv:b.aR=a.aR
 seen:b.seen=a.seen
 own:b.bT=a.bT
 ent:b.entries.length≤a.entries.length+k
theorem wK.refl(a:aH)(k:Nat):wK a a k:=⟨rfl,rfl,rfl,rfl,rfl,by omega⟩
theorem wK.trans{a b c:aH}{j k:Nat}(h1:wK a b j)(h2:wK b c k):wK a c (j+k) :=
 ⟨h2.me.trans h1.me,h2.aM.trans h1.aM,h2.adv.trans h1.adv,h2.seen.trans h1.seen,h2.own.trans h1.own,by have:=h1.ent;have:=h2.ent;omega⟩
theorem wK.mono{a b:aH}{j k:Nat}(h:wK a b j)(hk:j≤k):wK a b k:=⟨h.me,h.aM,h.adv,h.seen,h.own,by have:=h.ent;omega⟩
theorem Ow(b:aH)(e:aX):wK b (dW b e).1 1:=by
 obtain⟨h1,h2,h3,h4,h5,h6⟩:=yS b e
 exact⟨h5,h1,h2,h3,h4,h6⟩
theorem Zz(bK:Int)(x:ID)(p:bJ):∀(l:List fT) (st:aH×List jN),cD st.1→(∀o∈l,cB o.pred)→cD (l.foldl (dJ bK x p) st).1∧wK st.1 (l.foldl (dJ bK x p) st).1 l.length
 | [],st,h,_=>⟨h,.refl _ _⟩
 | o::r,st,h,hp=>by
  have h1:cD (dJ bK x p st o).1∧wK st.1 (dJ bK x p st o).1 1:=by
   unfold dJ
   split
   ·exact⟨h.add (by simp[hU]) (hp o (List.mem_cons_self ..)),Ow ..⟩
   ·exact⟨h,.refl _ _⟩
  have h2:=Zz bK x p r (dJ bK x p st o) h1.1 fun o ho=>hp o (List.mem_cons_of_mem _ ho)
  exact⟨h2.1,(h1.2.trans h2.2).mono (by simp only[List.length_cons];omega)⟩
theorem Vd(x:ID)(p:bJ)(hp:cB p):∀(l:List bG) (st:aH×List jN),cD st.1→cD (l.foldl (dZ x p) st).1∧wK st.1 (l.foldl (dZ x p) st).1 l.length
 | [],st,h=>⟨h,.refl _ _⟩
 | o::r,st,h=>by
  have h1:cD (dZ x p st o).1∧wK st.1 (dZ x p st o).1 1:=by
   unfold dZ
   split
   ·exact⟨h.add (by simp[hU]) hp,Ow ..⟩
   ·exact⟨h,.refl _ _⟩
  have h2:=Vd x p hp r (dZ x p st o) h1.1
  exact⟨h2.1,(h1.2.trans h2.2).mono (by simp only[List.length_cons];omega)⟩
theorem Yo(x:ID):∀(l:List bG) (st:aH×List jN),cD st.1→cD (l.foldl (fA x) st).1∧wK st.1 (l.foldl (fA x) st).1 0
 | [],st,h=>⟨h,.refl _ _⟩
 | o::r,st,h=>by
  have h1:cD (fA x st o).1∧wK st.1 (fA x st o).1 0:=by
   unfold fA
   rw[jW]
   refine⟨h.take ..,?_⟩
   have hl:=Ur h o.id x (-1)
   rw[Ed]at hl ⊢
   exact⟨rfl,rfl,rfl,rfl,rfl,hl⟩
  have h2:=Yo x r (fA x st o) h1.1
  exact⟨h2.1,(h1.2.trans h2.2).mono (by omega)⟩
end Go.Dm.Tc
/-
What every broker keeps that is told anything,call by call.
-/
namespace Go.Dm.Tc
theorem Re(n:Nat):(n+1)*(n+1)=n*n+n+n+1:=by rw[Nat.add_mul,Nat.mul_add];omega
theorem wK.sz{a b:aH}{k n:Nat}(h:wK a b k)(z:SzK a n)(hk:k≤n+n+1):SzK b (n+1):=by
 obtain⟨h1,h2,h3,h4,h5,h6⟩:=h
 obtain⟨z1,z2,z3,z4,z5⟩:=z
 have:=Re n
 exact⟨by rw[h2];exact z1,by rw[h3];omega,by rw[h4];omega,by rw[h5];omega,by omega⟩
theorem sF{b:aH}{n:Nat}(h:cD b)(z:SzK b n){bK:Int}{x:ID}{p:bJ}(hf:hU b bK=true)(hp:cB p):cD (bW b bK x p).1∧SzK (bW b bK x p).1 (n+1):=by
 unfold bW
 split
 ·rename_i hq
  have hi:=h.learn (a:=⟨x,p,bK⟩) hf hp
  have hk:=Zz bK x p b.bT ((bM b ⟨x,p,bK⟩).1,sQ b.aM bK 1 x.aW x.seq 0 0 p) hi h.po
  refine⟨hk.1,?_⟩
  obtain⟨h1,h2,h3,h4,h5,h6⟩:=hk.2
  have z':=z.learn ⟨x,p,bK⟩
  have he:(bM b ⟨x,p,bK⟩).1.entries=b.entries:=by unfold bM;split<;>rfl
  have hn:(bM b ⟨x,p,bK⟩).1.aM=b.aM:=by unfold bM;split<;>rfl
  have ho:(bM b ⟨x,p,bK⟩).1.bT=b.bT:=by unfold bM;split<;>rfl
  obtain⟨z1,z2,z3,z4,z5⟩:=z
  have:=Re n
  simp only at h2 h3 h4 h5 h6
  rw[he]at h6
  exact⟨by rw[h2,hn];exact z1,by rw[h3];exact z'.adv,by rw[h4];exact z'.seen,by rw[h5,ho];omega,by omega⟩
 ·exact⟨h,z.mono (by omega)⟩
theorem tU{b:aH}{n:Nat}(h:cD b)(z:SzK b n)(bK:Int)(x:ID):cD (bS b bK x).1∧SzK (bS b bK x).1 (n+1):=by
 unfold bS
 split
 ·exact⟨h.forget x bK,(z.forget x bK).mono (by omega)⟩
 ·exact⟨h,z.mono (by omega)⟩
theorem Jw{b:aH}{n:Nat}(h:cD b)(z:SzK b n){q:Int}{t s:ID}{p:bJ}(hf:hU b q=true)(hp:cB p):cD (gI b q t s p).1∧SzK (gI b q t s p).1 (n+1) :=
 ⟨h.add hf hp,z.add _⟩
theorem Oq{b:aH}{n:Nat}(h:cD b)(z:SzK b n)(t s:ID)(q:Int):cD (eV b t s q).1∧SzK (eV b t s q).1 (n+1):=by
 rw[jW]
 exact⟨h.take ..,(z.take h ..).mono (by omega)⟩
theorem It{b:aH}{n:Nat}(h:cD b)(z:SzK b n){x:ID}{p:bJ}(hp:cB p):cD (eW b x p).1∧SzK (eW b x p).1 (n+1):=by
 unfold eW
 split
 ·exact⟨h,z.mono (by omega)⟩
 ·rename_i hh
  have hi:=h.subOwn hp (AF h.ro x (by simpa using hh))
  have hk:=Vd x p hp b.aR (subOwn b x p,[]) hi
  refine⟨hk.1,?_⟩
  obtain⟨h1,h2,h3,h4,h5,h6⟩:=hk.2
  have hl:(subOwn b x p).bT.length=b.bT.length+1:=FG ..
  obtain⟨z1,z2,z3,z4,z5⟩:=z
  have:=Re n
  simp only at h2 h3 h4 h5 h6
  exact⟨by rw[h2];exact z1,by rw[h3];exact Nat.le_succ_of_le z2,by rw[h4];exact Nat.le_succ_of_le z3,by rw[h5,hl];omega,by have:(subOwn b x p).entries=b.entries:=rfl;rw[this]at h6;omega⟩
theorem Eb{b:aH}{n:Nat}(h:cD b)(z:SzK b n)(x:ID):cD (dG b x).1∧SzK (dG b x).1 (n+1):=by
 unfold dG
 split
 ·exact⟨h,z.mono (by omega)⟩
 ·have hk:=Yo x b.aR (endOwn b x,[]) (h.endOwn x)
  have z':SzK (endOwn b x) n:=⟨z.aM,z.adv,z.seen,Nat.le_trans (List.length_filter_le ..) z.own,z.ent⟩
  exact⟨hk.1,hk.2.sz z' (by omega)⟩
end Go.Dm.Tc
/-
The broker that numbers make: what it is.
-/
namespace Go.Dm.Tc
def cO(b:aH)(q:mX):aH :=
 let t:ID:=⟨aS q.tree 0 2,0⟩
 let x:ID:=⟨aS q.aW 0 4,aS q.seq 0 2⟩
 let f:=fJ b q.bK
 let k:=aS q.kind 1 7
 let p:=eD q.has q.vals
 if k=6 then(eW b x p).1 else if k=7 then(dG b x).1
 else if k=3∧f=-1∨k=4∧f=-1∨k=5 then(bW b f t p).1
 else(fZ b f k t x p).1
def kB(n:Nat):List Int:=(List.range n).map fun i:Nat=>((i:Int)+1)
def bX(n:Nat):aH:=⟨0,kB n,[],[],[],[]⟩
def vY(aM:Int)(l:List mX):aH:=(l.take 12).foldl cO (bX (aS aM 1 4).toNat)
theorem gF(b:aH)(n:Int):hU b (fJ b n)=true:=by
 unfold fJ hU
 cases h:b.aM[(aS n 0 b.aM.length).toNat]? with
 | none=>simp
 | some x=>simp[List.mem_of_getElem? h]
theorem dX{b:aH}{n:Nat}(h:cD b)(z:SzK b n)(q:mX):cD (cO b q)∧SzK (cO b q) (n+1):=by
 have hp:=fC q.has q.vals
 have hf:=gF b q.bK
 unfold cO
 simp only
 split
 ·exact It h z hp
 ·split
  ·exact Eb h z _
  ·split
   ·exact sF h z hf hp
   ·unfold fZ
    split
    ·exact sF h z hf hp
    ·split
     ·exact tU h z _ _
     ·split
      ·exact Jw h z hf hp
      ·exact Oq h z _ _ _
theorem Fy(n:Nat)(hn:n≤4):mF (fun x y=>decide (x<y)) (kB n)=true∧∀x∈kB n,0≤x:=by
 rcases n with _|_|_|_|_|n
 ·decide
 ·decide
 ·decide
 ·decide
 ·decide
 ·omega
theorem vB(n:Nat)(hn:n≤4):cD (bX n)∧SzK (bX n) 0 :=
 ⟨cD.start (Fy n hn).1 (Fy n hn).2,SzK.start (by simp[kB];omega)⟩
theorem Ic : ∀ (l : List mX) {b : aH} {n : Nat}, cD b → SzK b n → cD (l.foldl cO b) ∧ SzK (l.foldl cO b) (n + l.length)
  | [], _, _, h, z => ⟨h, z⟩
  | q :: r, b, n, h, z => by
    obtain⟨h1, z1⟩ := dX h z q
    obtain⟨h2, z2⟩ := Ic r h1 z1
    exact⟨h2, by have : n + (q :: r).length = n + 1 + r.length := by simp only[List.length_cons]; omega
                 rw[this]; exact z2⟩
theorem Tr(aM:Int)(l:List mX):cD (vY aM l)∧SzK (vY aM l) 12:=by
 have hw:=dB aM (lo:=1) (hi:=4) (by decide)
 obtain⟨h,z⟩:=vB (aS aM 1 4).toNat (by omega)
 obtain⟨h2,z2⟩:=Ic (l.take 12) h z
 exact⟨h2,z2.mono (by simp only[List.length_take];omega)⟩
end Go.Dm.Tc
/-
The broker that numbers make: the walk.
-/
namespace Go.Dm.Tc
set_option maxHeartbeats 4000000 in
theorem l7(t:Bool)(aM:Int)(l:List mX)(hh:∀q∈l,q.has.length≤9223372036854775807)(tx tb tn:Nat) :
  ∀(n i:Nat) (nb:aH) (f:cT) (h:aA),12-i=n→cD nb→SzK nb i→i≤12 →
  f 1=.ptr 0 2 0 0→f 2=.ptr 1 6 0 0→f 3=.ptr 2 6 0 0→f 5=.int .i64 i →
  h.get 0=some (.arr tx 2 [.agg [.int .i64 aM,eL t 7 gY l]] (some 1))→h.get 1=some (.arr tb 6 [zB] (some 1))→h.get 2=some (.arr tn 6 [aE .none nb] (some 1))→h.lim=0→3≤h.n→WF h →
  cW (fin [.cell 2 (some 6)] (run D 124 [.block 2,.seq C4] (.loop Uu) f h))=some (aE .none (((l.take 12).drop i).foldl cO nb)):=by
 intro n
 induction n with
 | zero =>
  intro i nb f h hn hi hz kU h1 h2 h3 h5 g0 g1 g2 aL AB wf
  have:i=12:=by omega
  subst this
  have he:(l.take 12).drop 12=[]:=List.drop_eq_nil_of_le (by simp;omega)
  have l1:1<h.n:=by omega
  rw[aC Uu.eq_1,he]
  simp only[zB]at g1
  by_cases bC:12<l.length
  ·have qW:(12:Int)<l.length:=by omega
   simp[qW,C4,h1,h2,h3,h5,g0,g1,g2,bC,aL,l1,wf,turn]
  ·have qW:¬(12:Int)<l.length:=by omega
   simp[qW,C4,h1,h2,h3,h5,g0,g1,g2,bC,aL,l1,wf,turn]
 | succ n ih =>
  intro i nb f h hn hi hz kU h1 h2 h3 h5 g0 g1 g2 aL AB wf
  have hi12':i<12:=by omega
  have Cy:(i:Int)<12:=by omega
  by_cases bC:i<l.length
  ·have rU:(i:Int)<l.length:=by omega
   have hz':fG nb:=hz.sized (by omega)
   have oC:=s27 .none nb l[i].bK hz'
   have oE:=s28 false false l[i].has l[i].vals (hh _ (List.getElem_mem bC))
   have w1:=s8 l[i].tree 0 2 (by decide) (by decide) (by decide)
   have w2:=s8 l[i].aW 0 4 (by decide) (by decide) (by decide)
   have w3:=s8 l[i].seq 0 2 (by decide) (by decide) (by decide)
   have w4:=s8 l[i].kind 1 7 (by decide) (by decide) (by decide)
   obtain⟨m,eB⟩:∃ m,h.n=m+3:=⟨h.n-3,by omega⟩
   rw[aC Uu.eq_1]
   by_cases k6:aS l[i].kind 1 7=6
   ·simp[h1,h3,h5,g0,g2,bC,rU,Cy,aL,wf,eB,turn,gY,e8,w1,w2,w3,w4,e27,oC,e28,oE,k6]
    have hS:=s29 nb (aS l[i].aW 0 4) (aS l[i].seq 0 2) (eD l[i].has l[i].vals) hi ⟨by have:=hz.aM;omega,by have:=hz.adv;omega,by have:=hz.seen;omega,by have:=hz.own;omega,by have:=hz.ent;have:=hz.adv;have:=Nat.mul_le_mul kU kU;omega⟩ (fC ..) (by have:=hz.own;omega)
    have vM:cO nb l[i]=(eW nb ⟨aS l[i].aW 0 4,aS l[i].seq 0 2⟩ (eD l[i].has l[i].vals)).1:=by simp[cO,k6]
    have Dz:(l.take 12).drop i=l[i]::(l.take 12).drop (i+1):=by
     have:i<(l.take 12).length:=by simp;omega
     rw[List.drop_eq_getElem_cons this];simp
    rw[Dz,List.foldl_cons]
    simp[e29,hS,eB,g2,aL,wf,h3,h5,turn,uZ]
    rw[aT (by omega) (by omega)]
    generalize hF:upd _ 5 _=F
    have hk:=dX hi hz l[i]
    rw[←vM]
    refine ih (i+1) (cO nb l[i]) F _ (by omega) hk.1 hk.2 (by omega) ?_ ?_ ?_ ?_ ?_ ?_ ?_ ?_ ?_ ?_
    all_goals first
     | (rw[←hF];simp[h1,h2,h3];done)
     | (simp[eB,g0,g1,g2,aL,wf];done)
     | (simp[eB]<;>omega)
   ·by_cases k7:aS l[i].kind 1 7=7
    ·simp[h1,h3,h5,g0,g2,bC,rU,Cy,aL,wf,eB,turn,gY,e8,w1,w2,w3,w4,e27,oC,e28,oE,k7]
     have hS:=s30 nb (aS l[i].aW 0 4) (aS l[i].seq 0 2) hi ⟨by have:=hz.aM;omega,by have:=hz.adv;omega,by have:=hz.seen;omega,by have:=hz.own;omega,by have:=hz.ent;have:=Nat.mul_le_mul kU kU;omega⟩ (by have:=hz.adv;omega)
     have vM:cO nb l[i]=(dG nb ⟨aS l[i].aW 0 4,aS l[i].seq 0 2⟩).1:=by simp[cO,k7]
     have Dz:(l.take 12).drop i=l[i]::(l.take 12).drop (i+1):=by
      have:i<(l.take 12).length:=by simp;omega
      rw[List.drop_eq_getElem_cons this];simp
     rw[Dz,List.foldl_cons]
     simp[e30,hS,eB,g2,aL,wf,h3,h5,turn,uZ]
     rw[aT (by omega) (by omega)]
     generalize hF:upd _ 5 _=F
     have hk:=dX hi hz l[i]
     rw[←vM]
     refine ih (i+1) (cO nb l[i]) F _ (by omega) hk.1 hk.2 (by omega) ?_ ?_ ?_ ?_ ?_ ?_ ?_ ?_ ?_ ?_
     all_goals first
      | (rw[←hF];simp[h1,h2,h3];done)
      | (simp[eB,g0,g1,g2,aL,wf];done)
      | (simp[eB]<;>omega)
    ·by_cases k5:aS l[i].kind 1 7=5
     ·simp[h1,h3,h5,g0,g2,bC,rU,Cy,aL,wf,eB,turn,gY,e8,w1,w2,w3,w4,e27,oC,e28,oE,k5]
      have hS:=s31 nb (aS l[i].tree 0 2) 0 (fJ nb l[i].bK) (eD l[i].has l[i].vals) hi ⟨by have:=hz.aM;omega,by have:=hz.adv;omega,by have:=hz.seen;omega,by have:=hz.own;omega,by have:=hz.ent;have:=hz.own;have:=Nat.mul_le_mul kU kU;omega⟩ (fC ..) (gF ..) ⟨by have:=hz.adv;omega,by have:=hz.seen;omega⟩
      have vM:cO nb l[i]=(bW nb (fJ nb l[i].bK) ⟨aS l[i].tree 0 2,0⟩ (eD l[i].has l[i].vals)).1:=by simp[cO,k5]
      have Dz:(l.take 12).drop i=l[i]::(l.take 12).drop (i+1):=by
       have:i<(l.take 12).length:=by simp;omega
       rw[List.drop_eq_getElem_cons this];simp
      rw[Dz,List.foldl_cons]
      simp[e31,hS,eB,g2,aL,wf,h3,h5,turn,uZ]
      rw[aT (by omega) (by omega)]
      generalize hF:upd _ 5 _=F
      have hk:=dX hi hz l[i]
      rw[←vM]
      refine ih (i+1) (cO nb l[i]) F _ (by omega) hk.1 hk.2 (by omega) ?_ ?_ ?_ ?_ ?_ ?_ ?_ ?_ ?_ ?_
      all_goals first
       | (rw[←hF];simp[h1,h2,h3];done)
       | (simp[eB,g0,g1,g2,aL,wf];done)
       | (simp[eB]<;>omega)
     ·by_cases k3:aS l[i].kind 1 7=3∧fJ nb l[i].bK=-1
      ·simp[h1,h3,h5,g0,g2,bC,rU,Cy,aL,wf,eB,turn,gY,e8,w1,w2,w3,w4,e27,oC,e28,oE,k3.1,k3.2]
       have hS:=s31 nb (aS l[i].tree 0 2) 0 (fJ nb l[i].bK) (eD l[i].has l[i].vals) hi ⟨by have:=hz.aM;omega,by have:=hz.adv;omega,by have:=hz.seen;omega,by have:=hz.own;omega,by have:=hz.ent;have:=hz.own;have:=Nat.mul_le_mul kU kU;omega⟩ (fC ..) (gF ..) ⟨by have:=hz.adv;omega,by have:=hz.seen;omega⟩
       have hS2:=hS
       rw[k3.2]at hS2
       have vM:cO nb l[i]=(bW nb (fJ nb l[i].bK) ⟨aS l[i].tree 0 2,0⟩ (eD l[i].has l[i].vals)).1:=by simp[cO,k3.1,k3.2]
       have Dz:(l.take 12).drop i=l[i]::(l.take 12).drop (i+1):=by
        have:i<(l.take 12).length:=by simp;omega
        rw[List.drop_eq_getElem_cons this];simp
       rw[Dz,List.foldl_cons]
       simp[e31,hS2,eB,g2,aL,wf,h3,h5,turn,uZ]
       rw[aT (by omega) (by omega)]
       generalize hF:upd _ 5 _=F
       have hk:=dX hi hz l[i]
       rw[k3.2]at vM
       rw[←vM]
       refine ih (i+1) (cO nb l[i]) F _ (by omega) hk.1 hk.2 (by omega) ?_ ?_ ?_ ?_ ?_ ?_ ?_ ?_ ?_ ?_
       all_goals first
        | (rw[←hF];simp[h1,h2,h3];done)
        | (simp[eB,g0,g1,g2,aL,wf];done)
        | (simp[eB]<;>omega)
      ·by_cases k4:aS l[i].kind 1 7=4∧fJ nb l[i].bK=-1
       ·simp[h1,h3,h5,g0,g2,bC,rU,Cy,aL,wf,eB,turn,gY,e8,w1,w2,w3,w4,e27,oC,e28,oE,k4.1,k4.2]
        have hS:=s31 nb (aS l[i].tree 0 2) 0 (fJ nb l[i].bK) (eD l[i].has l[i].vals) hi ⟨by have:=hz.aM;omega,by have:=hz.adv;omega,by have:=hz.seen;omega,by have:=hz.own;omega,by have:=hz.ent;have:=hz.own;have:=Nat.mul_le_mul kU kU;omega⟩ (fC ..) (gF ..) ⟨by have:=hz.adv;omega,by have:=hz.seen;omega⟩
        have hS2:=hS
        rw[k4.2]at hS2
        have vM:cO nb l[i]=(bW nb (fJ nb l[i].bK) ⟨aS l[i].tree 0 2,0⟩ (eD l[i].has l[i].vals)).1:=by simp[cO,k4.1,k4.2]
        have Dz:(l.take 12).drop i=l[i]::(l.take 12).drop (i+1):=by
         have:i<(l.take 12).length:=by simp;omega
         rw[List.drop_eq_getElem_cons this];simp
        rw[Dz,List.foldl_cons]
        simp[e31,hS2,eB,g2,aL,wf,h3,h5,turn,uZ]
        rw[aT (by omega) (by omega)]
        generalize hF:upd _ 5 _=F
        have hk:=dX hi hz l[i]
        rw[k4.2]at vM
        rw[←vM]
        refine ih (i+1) (cO nb l[i]) F _ (by omega) hk.1 hk.2 (by omega) ?_ ?_ ?_ ?_ ?_ ?_ ?_ ?_ ?_ ?_
        all_goals first
         | (rw[←hF];simp[h1,h2,h3];done)
         | (simp[eB,g0,g1,g2,aL,wf];done)
         | (simp[eB]<;>omega)
       ·have NH:aS l[i].kind 1 7=1∨aS l[i].kind 1 7=2∨aS l[i].kind 1 7=3∨aS l[i].kind 1 7=4:=by have:=dB l[i].kind (lo:=1) (hi:=7) (by decide);omega
        have hk5:=NH
        rcases hk5 with kk|kk|kk|kk
        ·simp[h1,h3,h5,g0,g2,bC,rU,Cy,aL,wf,eB,turn,gY,e8,w1,w2,w3,w4,e27,oC,e28,oE,kk]
         have hS:=s23 nb (fJ nb l[i].bK) (aS l[i].kind 1 7) (aS l[i].tree 0 2) 0 (aS l[i].aW 0 4) (aS l[i].seq 0 2) (eD l[i].has l[i].vals) hi ⟨by have:=hz.aM;omega,by have:=hz.adv;omega,by have:=hz.seen;omega,by have:=hz.own;omega,by have:=hz.ent;have:=hz.own;have:=Nat.mul_le_mul kU kU;omega⟩ (fC ..) (gF ..) ⟨by have:=hz.adv;omega,by have:=hz.seen;omega⟩ NH
         rw[kk]at hS
         have vM:cO nb l[i]=(fZ nb (fJ nb l[i].bK) 1 ⟨aS l[i].tree 0 2,0⟩ ⟨aS l[i].aW 0 4,aS l[i].seq 0 2⟩ (eD l[i].has l[i].vals)).1:=by simp[cO,kk]
         have Dz:(l.take 12).drop i=l[i]::(l.take 12).drop (i+1):=by
          have:i<(l.take 12).length:=by simp;omega
          rw[List.drop_eq_getElem_cons this];simp
         rw[Dz,List.foldl_cons]
         simp[e23,hS,eB,g2,aL,wf,h3,h5,turn,uZ]
         rw[aT (by omega) (by omega)]
         generalize hF:upd _ 5 _=F
         have hk:=dX hi hz l[i]
         rw[←vM]
         refine ih (i+1) (cO nb l[i]) F _ (by omega) hk.1 hk.2 (by omega) ?_ ?_ ?_ ?_ ?_ ?_ ?_ ?_ ?_ ?_
         all_goals first
          | (rw[←hF];simp[h1,h2,h3];done)
          | (simp[eB,g0,g1,g2,aL,wf];done)
          | (simp[eB]<;>omega)
        ·simp[h1,h3,h5,g0,g2,bC,rU,Cy,aL,wf,eB,turn,gY,e8,w1,w2,w3,w4,e27,oC,e28,oE,kk]
         have hS:=s23 nb (fJ nb l[i].bK) (aS l[i].kind 1 7) (aS l[i].tree 0 2) 0 (aS l[i].aW 0 4) (aS l[i].seq 0 2) (eD l[i].has l[i].vals) hi ⟨by have:=hz.aM;omega,by have:=hz.adv;omega,by have:=hz.seen;omega,by have:=hz.own;omega,by have:=hz.ent;have:=hz.own;have:=Nat.mul_le_mul kU kU;omega⟩ (fC ..) (gF ..) ⟨by have:=hz.adv;omega,by have:=hz.seen;omega⟩ NH
         rw[kk]at hS
         have vM:cO nb l[i]=(fZ nb (fJ nb l[i].bK) 2 ⟨aS l[i].tree 0 2,0⟩ ⟨aS l[i].aW 0 4,aS l[i].seq 0 2⟩ (eD l[i].has l[i].vals)).1:=by simp[cO,kk]
         have Dz:(l.take 12).drop i=l[i]::(l.take 12).drop (i+1):=by
          have:i<(l.take 12).length:=by simp;omega
          rw[List.drop_eq_getElem_cons this];simp
         rw[Dz,List.foldl_cons]
         simp[e23,hS,eB,g2,aL,wf,h3,h5,turn,uZ]
         rw[aT (by omega) (by omega)]
         generalize hF:upd _ 5 _=F
         have hk:=dX hi hz l[i]
         rw[←vM]
         refine ih (i+1) (cO nb l[i]) F _ (by omega) hk.1 hk.2 (by omega) ?_ ?_ ?_ ?_ ?_ ?_ ?_ ?_ ?_ ?_
         all_goals first
          | (rw[←hF];simp[h1,h2,h3];done)
          | (simp[eB,g0,g1,g2,aL,wf];done)
          | (simp[eB]<;>omega)
        ·have kf:¬fJ nb l[i].bK=-1:=fun e=>k3 ⟨kk,e⟩
         simp[h1,h3,h5,g0,g2,bC,rU,Cy,aL,wf,eB,turn,gY,e8,w1,w2,w3,w4,e27,oC,e28,oE,kk,kf]
         have hS:=s23 nb (fJ nb l[i].bK) (aS l[i].kind 1 7) (aS l[i].tree 0 2) 0 (aS l[i].aW 0 4) (aS l[i].seq 0 2) (eD l[i].has l[i].vals) hi ⟨by have:=hz.aM;omega,by have:=hz.adv;omega,by have:=hz.seen;omega,by have:=hz.own;omega,by have:=hz.ent;have:=hz.own;have:=Nat.mul_le_mul kU kU;omega⟩ (fC ..) (gF ..) ⟨by have:=hz.adv;omega,by have:=hz.seen;omega⟩ NH
         rw[kk]at hS
         have vM:cO nb l[i]=(fZ nb (fJ nb l[i].bK) 3 ⟨aS l[i].tree 0 2,0⟩ ⟨aS l[i].aW 0 4,aS l[i].seq 0 2⟩ (eD l[i].has l[i].vals)).1:=by simp[cO,kk,kf]
         have Dz:(l.take 12).drop i=l[i]::(l.take 12).drop (i+1):=by
          have:i<(l.take 12).length:=by simp;omega
          rw[List.drop_eq_getElem_cons this];simp
         rw[Dz,List.foldl_cons]
         simp[e23,hS,eB,g2,aL,wf,h3,h5,turn,uZ]
         rw[aT (by omega) (by omega)]
         generalize hF:upd _ 5 _=F
         have hk:=dX hi hz l[i]
         rw[←vM]
         refine ih (i+1) (cO nb l[i]) F _ (by omega) hk.1 hk.2 (by omega) ?_ ?_ ?_ ?_ ?_ ?_ ?_ ?_ ?_ ?_
         all_goals first
          | (rw[←hF];simp[h1,h2,h3];done)
          | (simp[eB,g0,g1,g2,aL,wf];done)
          | (simp[eB]<;>omega)
        ·have kf:¬fJ nb l[i].bK=-1:=fun e=>k4 ⟨kk,e⟩
         simp[h1,h3,h5,g0,g2,bC,rU,Cy,aL,wf,eB,turn,gY,e8,w1,w2,w3,w4,e27,oC,e28,oE,kk,kf]
         have hS:=s23 nb (fJ nb l[i].bK) (aS l[i].kind 1 7) (aS l[i].tree 0 2) 0 (aS l[i].aW 0 4) (aS l[i].seq 0 2) (eD l[i].has l[i].vals) hi ⟨by have:=hz.aM;omega,by have:=hz.adv;omega,by have:=hz.seen;omega,by have:=hz.own;omega,by have:=hz.ent;have:=hz.own;have:=Nat.mul_le_mul kU kU;omega⟩ (fC ..) (gF ..) ⟨by have:=hz.adv;omega,by have:=hz.seen;omega⟩ NH
         rw[kk]at hS
         have vM:cO nb l[i]=(fZ nb (fJ nb l[i].bK) 4 ⟨aS l[i].tree 0 2,0⟩ ⟨aS l[i].aW 0 4,aS l[i].seq 0 2⟩ (eD l[i].has l[i].vals)).1:=by simp[cO,kk,kf]
         have Dz:(l.take 12).drop i=l[i]::(l.take 12).drop (i+1):=by
          have:i<(l.take 12).length:=by simp;omega
          rw[List.drop_eq_getElem_cons this];simp
         rw[Dz,List.foldl_cons]
         simp[e23,hS,eB,g2,aL,wf,h3,h5,turn,uZ]
         rw[aT (by omega) (by omega)]
         generalize hF:upd _ 5 _=F
         have hk:=dX hi hz l[i]
         rw[←vM]
         refine ih (i+1) (cO nb l[i]) F _ (by omega) hk.1 hk.2 (by omega) ?_ ?_ ?_ ?_ ?_ ?_ ?_ ?_ ?_ ?_
         all_goals first
          | (rw[←hF];simp[h1,h2,h3];done)
          | (simp[eB,g0,g1,g2,aL,wf];done)
          | (simp[eB]<;>omega)
  ·have rU:¬(i:Int)<l.length:=by omega
   have he:(l.take 12).drop i=[]:=List.drop_eq_nil_of_le (by simp;omega)
   have l1:1<h.n:=by omega
   rw[aC Uu.eq_1,he]
   simp only[zB]at g1
   simp[C4,h1,h2,h3,h5,g0,g1,g2,bC,rU,aL,l1,wf,turn]
end Go.Dm.Tc
/-
The broker that numbers make: its neighbours,and the first that it is told.
-/
namespace Go.Dm.Tc
theorem TI{lo:Nat}{h:aA}{i ety:Nat}{os:List Int}{n:Nat}(o:fO lo h i ety 1 (os.map bO))(hn:n=os.length):iU h (.sl i 1 0 n)=some (eL false 1 bO os,h.set i .dead):=by
 subst hn
 obtain⟨⟨sp,cap,hg⟩,hl,_⟩:=o
 have hb:(List.take os.length (List.map bO os++sp)).all (fX 200 0)=true:=by
  rw[List.take_left' (by simp),List.all_eq_true]
  intro x hx
  obtain⟨y,_,rfl⟩:=List.mem_map.1 hx
  rfl
 simp only[iU,hg,hl,List.drop_zero,hb,List.length_append,List.length_map,Nat.zero_add,Nat.le_add_right,and_self,if_true]
 rw[List.take_left' (by simp)]
 cases os<;>rfl
theorem Wm{t:Bool}{ety K:Nat}(H:aA)(sp:List DV)(cap:Option Nat):En t H 198 1 0 K (some (.arr ety 1 ((kB K).map bO++sp) cap))=some (eL t 1 bO (kB K)):=by
 have hl:(kB K).length=K:=by simp[kB]
 rw[fV,if_pos ⟨rfl,by simp[hl]⟩,List.drop_zero,List.take_left' (by simp[hl])]
 have:wE t H 198 ((kB K).map bO)=some ((kB K).map bO):=pJ fun x hx=>by
  obtain⟨y,_,rfl⟩:=List.mem_map.1 hx
  exact ED.1 y t H 198 (by decide)
 rw[this]
 rfl
theorem yK(n:Nat):(kB n).length=n:=by simp[kB]
set_option maxHeartbeats 4000000 in
theorem n7(t:Bool)(aM:Int)(l:List mX)(hh:∀q∈l,q.has.length≤9223372036854775807)(tx tb tn:Nat)
  (K:Nat) (hK:K≤4) (iw:Nat) (f:cT) (h:aA)
  (h1:f 1=.ptr 0 2 0 0) (h2:f 2=.ptr 1 6 0 0) (h3:f 3=.ptr 2 6 0 0) (h5:f 5=.int .i64 0)
  (g0:h.get 0=some (.arr tx 2 [.agg [.int .i64 aM,eL t 7 gY l]] (some 1))) (g1:h.get 1=some (.arr tb 6 [zB] (some 1))) (g2:h.get 2=some (.arr tn 6 [.agg [.int .i64 0,.sl iw 1 0 K,.nsl,.nsl,.nsl,.nsl]] (some 1)))
  (ho:fO 3 h iw 3 1 ((kB K).map bO)) (aL:h.lim=0) (AB:3≤h.n) (wf:WF h) :
  cW (fin [.cell 2 (some 6)] (run D 124 [.block 2,.seq C4] (.loop Uu) f h))=some (aE .none ((l.take 12).foldl cO (bX K))):=by
 obtain⟨hi,hz⟩:=vB K hK
 have P2:=ho.lt
 have SZ:=ho.lo
 have l1:1<h.n:=by omega
 by_cases bC:0<l.length
 ·have rU:(0:Int)<l.length:=by omega
  have hz':fG (bX K):=hz.sized (by omega)
  have oC:=s27 ⟨true,false,false,false,false⟩ (bX K) l[0].bK hz'
  have oE:=s28 false false l[0].has l[0].vals (hh _ (List.getElem_mem bC))
  have w1:=s8 l[0].tree 0 2 (by decide) (by decide) (by decide)
  have w2:=s8 l[0].aW 0 4 (by decide) (by decide) (by decide)
  have w3:=s8 l[0].seq 0 2 (by decide) (by decide) (by decide)
  have w4:=s8 l[0].kind 1 7 (by decide) (by decide) (by decide)
  obtain⟨m,eB⟩:∃ m,h.n=m+3:=⟨h.n-3,by omega⟩
  have m0:¬iw=0:=by omega
  have m1:¬iw=1:=by omega
  have m2:¬iw=2:=by omega
  have m0':¬0=iw:=by omega
  have m1':¬1=iw:=by omega
  have m2':¬2=iw:=by omega
  have m3:¬iw=m+3:=by omega
  have m4:¬iw=m+3+1:=by omega
  have m5:¬iw=m+3+1+1:=by omega
  have m6:¬iw=m+3+1+1+1:=by omega
  have j3:iw<m+3:=by omega
  have j4:iw<m+3+1:=by omega
  have j5:iw<m+3+1+1:=by omega
  have j6:iw<m+3+1+1+1:=by omega
  have tA:∀o1 o2 o3 o4,iU ((((h.push o1).push o2).push o3).push o4) (.sl iw 1 0 K)=some (eL false 1 bO (kB K),((((h.push o1).push o2).push o3).push o4).set iw .dead):=fun o1 o2 o3 o4=>TI ho.push.push.push.push (yK K).symm
  obtain⟨sp,cap,hg⟩:=ho.get
  have O7:∀H,En true H 198 1 0 K (some (.arr 3 1 ((kB K).map bO++sp) cap))=some (eL true 1 bO (kB K)):=fun H=>Wm H sp cap
  have Hb:DV.agg [.int .i64 0,eL false 1 bO (kB K),.isl false 0 [],.isl false 0 [],.isl false 0 [],.isl false 0 []]=aE .none (bX K):=rfl
  have TC:DV.agg [.int .i64 0,eL true 1 bO (kB K),.isl false 0 [],.isl false 0 [],.isl false 0 [],.isl false 0 []]=aE ⟨true,false,false,false,false⟩ (bX K):=rfl
  have hfold:(l.take 12).foldl cO (bX K)=((l.take 12).drop 1).foldl cO (cO (bX K) l[0]):=by cases l with
   | nil=>simp at bC
   | cons a l=>simp
  have kU:0≤12:=by decide
  obtain⟨R,hR⟩:∃ R,R=aE .none (((l.take 12).drop 1).foldl cO (cO (bX K) l[0])):=⟨_,rfl⟩
  rw[hfold,←hR,aC Uu.eq_1]
  by_cases k6:aS l[0].kind 1 7=6
  ·simp[h1,h3,h5,g0,g2,bC,rU,aL,wf,eB,turn,gY,e8,w1,w2,w3,w4,e27,O7,-fV,hg,j3,j4,j5,j6,m0,m1,m2,m0',m1',m2',m3,m4,m5,m6,TC,oC,e28,oE,k6]
   have hS:=s29 (bX K) (aS l[0].aW 0 4) (aS l[0].seq 0 2) (eD l[0].has l[0].vals) hi ⟨by have:=hz.aM;omega,by have:=hz.adv;omega,by have:=hz.seen;omega,by have:=hz.own;omega,by have:=hz.ent;have:=hz.adv;have:=Nat.mul_le_mul kU kU;omega⟩ (fC ..) (by have:=hz.own;omega)
   have vM:cO (bX K) l[0]=(eW (bX K) ⟨aS l[0].aW 0 4,aS l[0].seq 0 2⟩ (eD l[0].has l[0].vals)).1:=by simp[cO,k6]
   simp[e29,hS,eB,g2,aL,wf,h3,h5,turn,tA,Hb,j3,j4,j5,j6,m0,m1,m2,m0',m1',m2',m3,m4,m5,m6,uZ]
   rw[hR]
   generalize hF:upd _ 5 _=F
   have hk:=dX hi hz l[0]
   rw[←vM]
   refine l7 t aM l hh tx tb tn 11 1 (cO (bX K) l[0]) F _ (by decide) hk.1 hk.2 (by decide) ?_ ?_ ?_ ?_ ?_ ?_ ?_ ?_ ?_ ?_
   all_goals first
    | (rw[←hF];simp[h1,h2,h3];done)
    | (simp[eB,g0,g1,g2,aL,wf,j3,j4,j5,j6,m0,m1,m2,m0',m1',m2',m3,m4,m5,m6];done)
    | (simp[eB,m0,m1,m2,m0',m1',m2',m3,m4,m5,m6]<;>omega)
  ·by_cases k7:aS l[0].kind 1 7=7
   ·simp[h1,h3,h5,g0,g2,bC,rU,aL,wf,eB,turn,gY,e8,w1,w2,w3,w4,e27,O7,-fV,hg,j3,j4,j5,j6,m0,m1,m2,m0',m1',m2',m3,m4,m5,m6,TC,oC,e28,oE,k7]
    have hS:=s30 (bX K) (aS l[0].aW 0 4) (aS l[0].seq 0 2) hi ⟨by have:=hz.aM;omega,by have:=hz.adv;omega,by have:=hz.seen;omega,by have:=hz.own;omega,by have:=hz.ent;have:=Nat.mul_le_mul kU kU;omega⟩ (by have:=hz.adv;omega)
    have vM:cO (bX K) l[0]=(dG (bX K) ⟨aS l[0].aW 0 4,aS l[0].seq 0 2⟩).1:=by simp[cO,k7]
    simp[e30,hS,eB,g2,aL,wf,h3,h5,turn,tA,Hb,j3,j4,j5,j6,m0,m1,m2,m0',m1',m2',m3,m4,m5,m6,uZ]
    rw[hR]
    generalize hF:upd _ 5 _=F
    have hk:=dX hi hz l[0]
    rw[←vM]
    refine l7 t aM l hh tx tb tn 11 1 (cO (bX K) l[0]) F _ (by decide) hk.1 hk.2 (by decide) ?_ ?_ ?_ ?_ ?_ ?_ ?_ ?_ ?_ ?_
    all_goals first
     | (rw[←hF];simp[h1,h2,h3];done)
     | (simp[eB,g0,g1,g2,aL,wf,j3,j4,j5,j6,m0,m1,m2,m0',m1',m2',m3,m4,m5,m6];done)
     | (simp[eB,m0,m1,m2,m0',m1',m2',m3,m4,m5,m6]<;>omega)
   ·by_cases k5:aS l[0].kind 1 7=5
    ·simp[h1,h3,h5,g0,g2,bC,rU,aL,wf,eB,turn,gY,e8,w1,w2,w3,w4,e27,O7,-fV,hg,j3,j4,j5,j6,m0,m1,m2,m0',m1',m2',m3,m4,m5,m6,TC,oC,e28,oE,k5]
     have hS:=s31 (bX K) (aS l[0].tree 0 2) 0 (fJ (bX K) l[0].bK) (eD l[0].has l[0].vals) hi ⟨by have:=hz.aM;omega,by have:=hz.adv;omega,by have:=hz.seen;omega,by have:=hz.own;omega,by have:=hz.ent;have:=hz.own;have:=Nat.mul_le_mul kU kU;omega⟩ (fC ..) (gF ..) ⟨by have:=hz.adv;omega,by have:=hz.seen;omega⟩
     have vM:cO (bX K) l[0]=(bW (bX K) (fJ (bX K) l[0].bK) ⟨aS l[0].tree 0 2,0⟩ (eD l[0].has l[0].vals)).1:=by simp[cO,k5]
     simp[e31,hS,eB,g2,aL,wf,h3,h5,turn,tA,Hb,j3,j4,j5,j6,m0,m1,m2,m0',m1',m2',m3,m4,m5,m6,uZ]
     rw[hR]
     generalize hF:upd _ 5 _=F
     have hk:=dX hi hz l[0]
     rw[←vM]
     refine l7 t aM l hh tx tb tn 11 1 (cO (bX K) l[0]) F _ (by decide) hk.1 hk.2 (by decide) ?_ ?_ ?_ ?_ ?_ ?_ ?_ ?_ ?_ ?_
     all_goals first
      | (rw[←hF];simp[h1,h2,h3];done)
      | (simp[eB,g0,g1,g2,aL,wf,j3,j4,j5,j6,m0,m1,m2,m0',m1',m2',m3,m4,m5,m6];done)
      | (simp[eB,m0,m1,m2,m0',m1',m2',m3,m4,m5,m6]<;>omega)
    ·by_cases k3:aS l[0].kind 1 7=3∧fJ (bX K) l[0].bK=-1
     ·simp[h1,h3,h5,g0,g2,bC,rU,aL,wf,eB,turn,gY,e8,w1,w2,w3,w4,e27,O7,-fV,hg,j3,j4,j5,j6,m0,m1,m2,m0',m1',m2',m3,m4,m5,m6,TC,oC,e28,oE,k3.1,k3.2]
      have hS:=s31 (bX K) (aS l[0].tree 0 2) 0 (fJ (bX K) l[0].bK) (eD l[0].has l[0].vals) hi ⟨by have:=hz.aM;omega,by have:=hz.adv;omega,by have:=hz.seen;omega,by have:=hz.own;omega,by have:=hz.ent;have:=hz.own;have:=Nat.mul_le_mul kU kU;omega⟩ (fC ..) (gF ..) ⟨by have:=hz.adv;omega,by have:=hz.seen;omega⟩
      have hS2:=hS
      rw[k3.2]at hS2
      have vM:cO (bX K) l[0]=(bW (bX K) (fJ (bX K) l[0].bK) ⟨aS l[0].tree 0 2,0⟩ (eD l[0].has l[0].vals)).1:=by simp[cO,k3.1,k3.2]
      simp[e31,hS2,eB,g2,aL,wf,h3,h5,turn,tA,Hb,j3,j4,j5,j6,m0,m1,m2,m0',m1',m2',m3,m4,m5,m6,uZ]
      rw[hR]
      generalize hF:upd _ 5 _=F
      have hk:=dX hi hz l[0]
      rw[k3.2]at vM
      rw[←vM]
      refine l7 t aM l hh tx tb tn 11 1 (cO (bX K) l[0]) F _ (by decide) hk.1 hk.2 (by decide) ?_ ?_ ?_ ?_ ?_ ?_ ?_ ?_ ?_ ?_
      all_goals first
       | (rw[←hF];simp[h1,h2,h3];done)
       | (simp[eB,g0,g1,g2,aL,wf,j3,j4,j5,j6,m0,m1,m2,m0',m1',m2',m3,m4,m5,m6];done)
       | (simp[eB,m0,m1,m2,m0',m1',m2',m3,m4,m5,m6]<;>omega)
     ·by_cases k4:aS l[0].kind 1 7=4∧fJ (bX K) l[0].bK=-1
      ·simp[h1,h3,h5,g0,g2,bC,rU,aL,wf,eB,turn,gY,e8,w1,w2,w3,w4,e27,O7,-fV,hg,j3,j4,j5,j6,m0,m1,m2,m0',m1',m2',m3,m4,m5,m6,TC,oC,e28,oE,k4.1,k4.2]
       have hS:=s31 (bX K) (aS l[0].tree 0 2) 0 (fJ (bX K) l[0].bK) (eD l[0].has l[0].vals) hi ⟨by have:=hz.aM;omega,by have:=hz.adv;omega,by have:=hz.seen;omega,by have:=hz.own;omega,by have:=hz.ent;have:=hz.own;have:=Nat.mul_le_mul kU kU;omega⟩ (fC ..) (gF ..) ⟨by have:=hz.adv;omega,by have:=hz.seen;omega⟩
       have hS2:=hS
       rw[k4.2]at hS2
       have vM:cO (bX K) l[0]=(bW (bX K) (fJ (bX K) l[0].bK) ⟨aS l[0].tree 0 2,0⟩ (eD l[0].has l[0].vals)).1:=by simp[cO,k4.1,k4.2]
       simp[e31,hS2,eB,g2,aL,wf,h3,h5,turn,tA,Hb,j3,j4,j5,j6,m0,m1,m2,m0',m1',m2',m3,m4,m5,m6,uZ]
       rw[hR]
       generalize hF:upd _ 5 _=F
       have hk:=dX hi hz l[0]
       rw[k4.2]at vM
       rw[←vM]
       refine l7 t aM l hh tx tb tn 11 1 (cO (bX K) l[0]) F _ (by decide) hk.1 hk.2 (by decide) ?_ ?_ ?_ ?_ ?_ ?_ ?_ ?_ ?_ ?_
       all_goals first
        | (rw[←hF];simp[h1,h2,h3];done)
        | (simp[eB,g0,g1,g2,aL,wf,j3,j4,j5,j6,m0,m1,m2,m0',m1',m2',m3,m4,m5,m6];done)
        | (simp[eB,m0,m1,m2,m0',m1',m2',m3,m4,m5,m6]<;>omega)
      ·have NH:aS l[0].kind 1 7=1∨aS l[0].kind 1 7=2∨aS l[0].kind 1 7=3∨aS l[0].kind 1 7=4:=by have:=dB l[0].kind (lo:=1) (hi:=7) (by decide);omega
       have hk5:=NH
       rcases hk5 with kk|kk|kk|kk
       ·simp[h1,h3,h5,g0,g2,bC,rU,aL,wf,eB,turn,gY,e8,w1,w2,w3,w4,e27,O7,-fV,hg,j3,j4,j5,j6,m0,m1,m2,m0',m1',m2',m3,m4,m5,m6,TC,oC,e28,oE,kk]
        have hS:=s23 (bX K) (fJ (bX K) l[0].bK) (aS l[0].kind 1 7) (aS l[0].tree 0 2) 0 (aS l[0].aW 0 4) (aS l[0].seq 0 2) (eD l[0].has l[0].vals) hi ⟨by have:=hz.aM;omega,by have:=hz.adv;omega,by have:=hz.seen;omega,by have:=hz.own;omega,by have:=hz.ent;have:=hz.own;have:=Nat.mul_le_mul kU kU;omega⟩ (fC ..) (gF ..) ⟨by have:=hz.adv;omega,by have:=hz.seen;omega⟩ NH
        rw[kk]at hS
        have vM:cO (bX K) l[0]=(fZ (bX K) (fJ (bX K) l[0].bK) 1 ⟨aS l[0].tree 0 2,0⟩ ⟨aS l[0].aW 0 4,aS l[0].seq 0 2⟩ (eD l[0].has l[0].vals)).1:=by simp[cO,kk]
        simp[e23,hS,eB,g2,aL,wf,h3,h5,turn,tA,Hb,j3,j4,j5,j6,m0,m1,m2,m0',m1',m2',m3,m4,m5,m6,uZ]
        rw[hR]
        generalize hF:upd _ 5 _=F
        have hk:=dX hi hz l[0]
        rw[←vM]
        refine l7 t aM l hh tx tb tn 11 1 (cO (bX K) l[0]) F _ (by decide) hk.1 hk.2 (by decide) ?_ ?_ ?_ ?_ ?_ ?_ ?_ ?_ ?_ ?_
        all_goals first
         | (rw[←hF];simp[h1,h2,h3];done)
         | (simp[eB,g0,g1,g2,aL,wf,j3,j4,j5,j6,m0,m1,m2,m0',m1',m2',m3,m4,m5,m6];done)
         | (simp[eB,m0,m1,m2,m0',m1',m2',m3,m4,m5,m6]<;>omega)
       ·simp[h1,h3,h5,g0,g2,bC,rU,aL,wf,eB,turn,gY,e8,w1,w2,w3,w4,e27,O7,-fV,hg,j3,j4,j5,j6,m0,m1,m2,m0',m1',m2',m3,m4,m5,m6,TC,oC,e28,oE,kk]
        have hS:=s23 (bX K) (fJ (bX K) l[0].bK) (aS l[0].kind 1 7) (aS l[0].tree 0 2) 0 (aS l[0].aW 0 4) (aS l[0].seq 0 2) (eD l[0].has l[0].vals) hi ⟨by have:=hz.aM;omega,by have:=hz.adv;omega,by have:=hz.seen;omega,by have:=hz.own;omega,by have:=hz.ent;have:=hz.own;have:=Nat.mul_le_mul kU kU;omega⟩ (fC ..) (gF ..) ⟨by have:=hz.adv;omega,by have:=hz.seen;omega⟩ NH
        rw[kk]at hS
        have vM:cO (bX K) l[0]=(fZ (bX K) (fJ (bX K) l[0].bK) 2 ⟨aS l[0].tree 0 2,0⟩ ⟨aS l[0].aW 0 4,aS l[0].seq 0 2⟩ (eD l[0].has l[0].vals)).1:=by simp[cO,kk]
        simp[e23,hS,eB,g2,aL,wf,h3,h5,turn,tA,Hb,j3,j4,j5,j6,m0,m1,m2,m0',m1',m2',m3,m4,m5,m6,uZ]
        rw[hR]
        generalize hF:upd _ 5 _=F
        have hk:=dX hi hz l[0]
        rw[←vM]
        refine l7 t aM l hh tx tb tn 11 1 (cO (bX K) l[0]) F _ (by decide) hk.1 hk.2 (by decide) ?_ ?_ ?_ ?_ ?_ ?_ ?_ ?_ ?_ ?_
        all_goals first
         | (rw[←hF];simp[h1,h2,h3];done)
         | (simp[eB,g0,g1,g2,aL,wf,j3,j4,j5,j6,m0,m1,m2,m0',m1',m2',m3,m4,m5,m6];done)
         | (simp[eB,m0,m1,m2,m0',m1',m2',m3,m4,m5,m6]<;>omega)
       ·have kf:¬fJ (bX K) l[0].bK=-1:=fun e=>k3 ⟨kk,e⟩
        simp[h1,h3,h5,g0,g2,bC,rU,aL,wf,eB,turn,gY,e8,w1,w2,w3,w4,e27,O7,-fV,hg,j3,j4,j5,j6,m0,m1,m2,m0',m1',m2',m3,m4,m5,m6,TC,oC,e28,oE,kk,kf]
        have hS:=s23 (bX K) (fJ (bX K) l[0].bK) (aS l[0].kind 1 7) (aS l[0].tree 0 2) 0 (aS l[0].aW 0 4) (aS l[0].seq 0 2) (eD l[0].has l[0].vals) hi ⟨by have:=hz.aM;omega,by have:=hz.adv;omega,by have:=hz.seen;omega,by have:=hz.own;omega,by have:=hz.ent;have:=hz.own;have:=Nat.mul_le_mul kU kU;omega⟩ (fC ..) (gF ..) ⟨by have:=hz.adv;omega,by have:=hz.seen;omega⟩ NH
        rw[kk]at hS
        have vM:cO (bX K) l[0]=(fZ (bX K) (fJ (bX K) l[0].bK) 3 ⟨aS l[0].tree 0 2,0⟩ ⟨aS l[0].aW 0 4,aS l[0].seq 0 2⟩ (eD l[0].has l[0].vals)).1:=by simp[cO,kk,kf]
        simp[e23,hS,eB,g2,aL,wf,h3,h5,turn,tA,Hb,j3,j4,j5,j6,m0,m1,m2,m0',m1',m2',m3,m4,m5,m6,uZ]
        rw[hR]
        generalize hF:upd _ 5 _=F
        have hk:=dX hi hz l[0]
        rw[←vM]
        refine l7 t aM l hh tx tb tn 11 1 (cO (bX K) l[0]) F _ (by decide) hk.1 hk.2 (by decide) ?_ ?_ ?_ ?_ ?_ ?_ ?_ ?_ ?_ ?_
        all_goals first
         | (rw[←hF];simp[h1,h2,h3];done)
         | (simp[eB,g0,g1,g2,aL,wf,j3,j4,j5,j6,m0,m1,m2,m0',m1',m2',m3,m4,m5,m6];done)
         | (simp[eB,m0,m1,m2,m0',m1',m2',m3,m4,m5,m6]<;>omega)
       ·have kf:¬fJ (bX K) l[0].bK=-1:=fun e=>k4 ⟨kk,e⟩
        simp[h1,h3,h5,g0,g2,bC,rU,aL,wf,eB,turn,gY,e8,w1,w2,w3,w4,e27,O7,-fV,hg,j3,j4,j5,j6,m0,m1,m2,m0',m1',m2',m3,m4,m5,m6,TC,oC,e28,oE,kk,kf]
        have hS:=s23 (bX K) (fJ (bX K) l[0].bK) (aS l[0].kind 1 7) (aS l[0].tree 0 2) 0 (aS l[0].aW 0 4) (aS l[0].seq 0 2) (eD l[0].has l[0].vals) hi ⟨by have:=hz.aM;omega,by have:=hz.adv;omega,by have:=hz.seen;omega,by have:=hz.own;omega,by have:=hz.ent;have:=hz.own;have:=Nat.mul_le_mul kU kU;omega⟩ (fC ..) (gF ..) ⟨by have:=hz.adv;omega,by have:=hz.seen;omega⟩ NH
        rw[kk]at hS
        have vM:cO (bX K) l[0]=(fZ (bX K) (fJ (bX K) l[0].bK) 4 ⟨aS l[0].tree 0 2,0⟩ ⟨aS l[0].aW 0 4,aS l[0].seq 0 2⟩ (eD l[0].has l[0].vals)).1:=by simp[cO,kk,kf]
        simp[e23,hS,eB,g2,aL,wf,h3,h5,turn,tA,Hb,j3,j4,j5,j6,m0,m1,m2,m0',m1',m2',m3,m4,m5,m6,uZ]
        rw[hR]
        generalize hF:upd _ 5 _=F
        have hk:=dX hi hz l[0]
        rw[←vM]
        refine l7 t aM l hh tx tb tn 11 1 (cO (bX K) l[0]) F _ (by decide) hk.1 hk.2 (by decide) ?_ ?_ ?_ ?_ ?_ ?_ ?_ ?_ ?_ ?_
        all_goals first
         | (rw[←hF];simp[h1,h2,h3];done)
         | (simp[eB,g0,g1,g2,aL,wf,j3,j4,j5,j6,m0,m1,m2,m0',m1',m2',m3,m4,m5,m6];done)
         | (simp[eB,m0,m1,m2,m0',m1',m2',m3,m4,m5,m6]<;>omega)
 ·have sZ:l=[]:=by cases l<;>simp_all
  subst sZ
  obtain⟨sp,cap,hg⟩:=ho.get
  have O7:∀H,En false H 198 1 0 K (some (.arr 3 1 ((kB K).map bO++sp) cap))=some (eL false 1 bO (kB K)):=fun H=>Wm H sp cap
  have Hb:DV.agg [.int .i64 0,eL false 1 bO (kB K),.isl false 0 [],.isl false 0 [],.isl false 0 [],.isl false 0 []]=aE .none (bX K):=rfl
  have k1:¬iw=1:=by omega
  have k2:¬iw=2:=by omega
  have l2:2<h.n:=by omega
  rw[aC Uu.eq_1]
  simp only[zB]at g1
  simp[C4,h1,h2,h3,h5,g0,g1,g2,aL,l1,l2,wf,turn,O7,-fV,hg,k1,k2,Hb]
theorem M9(i:Nat):(kB (i+1)).map bO=(kB i).map bO++[.int .i64 ((i:Int)+1)]:=by
 simp[kB,List.range_succ,bO]
theorem r7(t:Bool)(aM:Int)(l:List mX)(hh:∀q∈l,q.has.length≤9223372036854775807)(tx tb tn:Nat)(K:Nat)(hK1:1≤K)(hK:K≤4) :
  ∀(n i:Nat) (v:DV) (f:cT) (h:aA),K-i=n→i≤K→f 1=.ptr 0 2 0 0→f 2=.ptr 1 6 0 0→f 3=.ptr 2 6 0 0→f 14=.int .i64 K→f 15=.int .i64 i →
  h.get 0=some (.arr tx 2 [.agg [.int .i64 aM,eL t 7 gY l]] (some 1))→h.get 1=some (.arr tb 6 [zB] (some 1))→h.get 2=some (.arr tn 6 [.agg [.int .i64 0,v,.nsl,.nsl,.nsl,.nsl]] (some 1)) →
  OwnR 3 h v 3 1 ((kB i).map bO)→h.lim=0→3≤h.n→WF h →
  cW (fin [.cell 2 (some 6)] (run D 124 [.block 0,.seq WB] (.loop QL) f h))=some (aE .none ((l.take 12).foldl cO (bX K))):=by
 intro n
 induction n with
 | zero =>
  intro i v f h hn hi h1 h2 h3 Gc zC g0 g1 g2 ho aL AB wf
  have:i=K:=by omega
  subst this
  rw[aC QL.eq_1]
  simp[Gc,zC,WB]
  cases ho with
  | nil hv hx=>exact absurd hx (by rw[List.map_eq_nil_iff];intro e;have:=yK i;rw[e]at this;simp at this;omega)
  | arr iw sp cap hv hg Dx P1 =>
   rw[hv]at g2
   rw[List.length_map,yK]at g2
   refine n7 t aM l hh tx tb tn i hK iw _ _ ?_ ?_ ?_ ?_ g0 g1 g2 ⟨⟨sp,cap,hg⟩,Dx,P1⟩ aL AB wf
   all_goals simp[h1,h2,h3]
 | succ n ih =>
  intro i v f h hn hi h1 h2 h3 Gc zC g0 g1 g2 ho aL AB wf
  have bC:i<K:=by omega
  have rU:(i:Int)<K:=by omega
  obtain⟨m,eB⟩:∃ m,h.n=m+3:=⟨h.n-3,by omega⟩
  rw[aC QL.eq_1]
  simp[h3,Gc,zC,bC,rU,g2,eB,aL,wf,turn,w8]
  rw[aT (by omega) (by omega)]
  generalize hA:aY _ _ _ _ _ _=A
  obtain⟨v',H,rfl,p',x',_⟩:=OwnR.append (lo:=3) ho.push (by simp[wf]) (by simp[eB]) (by simp[aL]) hA (by simp[yK];omega) (by decide)
  rw[←M9]at p'
  clear hA
  have a0:=x'.get 0 (by decide)
  have a1:=x'.get 1 (by decide)
  have a2:=x'.get 2 (by decide)
  have al:=x'.lim
  have aw:=x'.wf
  have an:=x'.le
  have l2:2<H.n:=by omega
  simp[eB,g0,g1,g2,aL]at a0 a1 a2 al
  obtain⟨m',hm'⟩:∃ m',H.n=m'+3:=⟨H.n-3,by omega⟩
  have dK:bD 1 v'=true∧aP 1 v'=[v']:=⟨p'.bD,by cases p' with
   | nil hv _=>rw[hv];rfl
   | arr _ _ _ hv _ _ _=>rw[hv];rfl⟩
  simp[h3,zC,a2,al,aw,hm',turn,dK.1,dK.2]
  rw[aT (by omega) (by omega)]
  generalize hF:upd _ 15 _=F
  refine ih (i+1) v' F _ (by omega) (by omega) ?_ ?_ ?_ ?_ ?_ ?_ ?_ ?_ (p'.aU aw (by decide) l2) ?_ ?_ ?_
  all_goals first
   | (rw[←hF];simp[h1,h2,h3,Gc];done)
   | (simp[hm',a0,a1,a2,al,aw];done)
   | (simp[hm']<;>omega)
theorem s7(t:Bool)(aM:Int)(l:List mX)(hh:∀q∈l,q.has.length≤9223372036854775807) :
  pcF D t7 [.agg [.int .i64 aM,eL t 7 gY l]]=some (aE .none (vY aM l)):=by
 have hw:=s8 aM 1 4 (by decide) (by decide) (by decide)
 have hb:=dB aM (lo:=1) (hi:=4) (by decide)
 unfold vY
 generalize aS aM 1 4=w at *
 obtain⟨K,rfl⟩:∃ K:Nat,w=K:=⟨w.toNat,by omega⟩
 rw[Int.toNat_natCast]
 unfold pcF
 rw[aJ _ _ _ _ (by simp[t7])]
 simp[t7,e8,hw]
 refine r7 t aM l hh 24 36 36 K (by omega) (by omega) K 0 .nsl _ _ (by omega) (by omega) ?_ ?_ ?_ ?_ ?_ ?_ ?_ ?_ (.nil rfl rfl) ?_ ?_ ?_
 all_goals simp[zB]
end Go.Dm.Tc
/-
The broker that numbers make: how far its numbers go.
-/
namespace Go.Dm.Tc
structure lI(b:aH):Prop where
 aM:∀x∈b.aM,1≤x∧x≤4
 ne:0<b.aM.length
 seen:∀x∈b.seen,x.aW≤4
 own:∀o∈b.bT,o.id.aW≤4
 ent:∀e∈b.entries,e.sub.aW≤4
theorem lI.learn{b:aH}(h:lI b){a:bG}(ha:a.id.aW≤4):lI (bM b a).1:=by
 unfold bM
 split
 ·exact h
 ·refine⟨h.aM,h.ne,fun x hx=>?_,h.own,h.ent⟩
  have hx:=(nZ (fun x:ID=>x) a.id b.seen x).1 hx
  rcases hx with rfl|hx
  ·exact ha
  ·exact h.seen x hx
theorem lI.forget{b:aH}(h:lI b)(x:ID)(q:Int):lI (bU b x q).1:=by
 unfold bU
 split
 ·exact h
 ·split
  ·exact⟨h.aM,h.ne,h.seen,h.own,fun e he=>h.ent e (fW.1 he).1⟩
  ·exact h
theorem lI.add{b:aH}(h:lI b){e:aX}(he:e.sub.aW≤4):lI (dW b e).1:=by
 unfold dW
 split
 ·refine⟨h.aM,h.ne,h.seen,h.own,fun x hx=>?_⟩
  rcases rS.1 hx with rfl|hx
  ·exact he
  ·exact h.ent x hx
 ·exact h
theorem lI.take{b:aH}(h:lI b)(hi:cD b)(t s:ID)(q:Int):lI (bZ b t s q).1:=by
 rcases nB hi t s q with⟨e,_⟩|⟨e,_,_,_,_,ht⟩|⟨e,_,_,_,_,r',u',ht,hr,_⟩
 ·rw[e];exact h
 ·rw[ht]
  exact⟨h.aM,h.ne,h.seen,h.own,fun x hx=>h.ent x (List.mem_filter.1 hx).1⟩
 ·rw[ht]
  refine⟨h.aM,h.ne,h.seen,h.own,fun x hx=>?_⟩
  rcases hr.mem hx with hx|⟨y,hy,_,_,rfl⟩
  ·exact h.ent x (List.mem_filter.1 hx).1
  ·exact h.ent y (List.mem_filter.1 hy).1
theorem Y8(bK:Int)(x:ID)(p:bJ):∀(l:List fT) (st:aH×List jN),lI st.1→(∀o∈l,o.id.aW≤4)→lI (l.foldl (dJ bK x p) st).1
 | [],_,h,_=>h
 | o::r,st,h,hp=>by
  have h1:lI (dJ bK x p st o).1:=by
   unfold dJ
   split
   ·exact h.add (hp o (List.mem_cons_self ..))
   ·exact h
  exact Y8 bK x p r _ h1 fun o ho=>hp o (List.mem_cons_of_mem _ ho)
theorem Y7(x:ID)(p:bJ)(hx:x.aW≤4):∀(l:List bG) (st:aH×List jN),lI st.1→lI (l.foldl (dZ x p) st).1
 | [],_,h=>h
 | o::r,st,h=>by
  have h1:lI (dZ x p st o).1:=by
   unfold dZ
   split
   ·exact h.add hx
   ·exact h
  exact Y7 x p hx r _ h1
theorem Xl(x:ID):∀(l:List bG) (st:aH×List jN),cD st.1→lI st.1→lI (l.foldl (fA x) st).1
 | [],_,_,h=>h
 | o::r,st,hi,h=>by
  have h1:lI (fA x st o).1:=by
   unfold fA
   rw[jW]
   exact h.take hi ..
  have h2:cD (fA x st o).1:=by
   unfold fA
   rw[jW]
   exact hi.take ..
  exact Xl x r _ h2 h1
theorem zM{b:aH}(h:lI b)(bK:Int){x:ID}(hx:x.aW≤4)(p:bJ):lI (bW b bK x p).1:=by
 unfold bW
 split
 ·exact Y8 _ _ _ _ _ (h.learn (a:=⟨x,p,bK⟩) hx) h.own
 ·exact h
theorem Gw{b:aH}(h:lI b)(bK:Int)(x:ID):lI (bS b bK x).1:=by
 unfold bS
 split
 ·exact h.forget ..
 ·exact h
theorem Mz{b:aH}(h:lI b){x:ID}(hx:x.aW≤4)(p:bJ):lI (eW b x p).1:=by
 unfold eW
 split
 ·exact h
 ·refine Y7 _ _ hx _ _ ⟨h.aM,h.ne,h.seen,fun o ho=>?_,h.ent⟩
  have ho:=(nZ (fun o:fT=>o.id) ⟨x,p⟩ b.bT o).1 ho
  rcases ho with rfl|ho
  ·exact hx
  ·exact h.own o ho
theorem Gv{b:aH}(h:lI b)(hi:cD b)(x:ID):lI (dG b x).1:=by
 unfold dG
 split
 ·exact h
 ·exact Xl _ _ _ (hi.endOwn x) ⟨h.aM,h.ne,h.seen,fun o ho=>h.own o (fW.1 ho).1,h.ent⟩
theorem IT{b:aH}(h:lI b)(hi:cD b)(q:mX):lI (cO b q):=by
 have w1:=dB q.tree (lo:=0) (hi:=2) (by decide)
 have w2:=dB q.aW (lo:=0) (hi:=4) (by decide)
 have hT:(⟨aS q.tree 0 2,0⟩:ID).aW≤4:=by simp only;omega
 have hX:(⟨aS q.aW 0 4,aS q.seq 0 2⟩:ID).aW≤4:=by simp only;omega
 unfold cO
 simp only
 split
 ·exact Mz h hX _
 ·split
  ·exact Gv h hi _
  ·split
   ·exact zM h _ hT _
   ·unfold fZ
    split
    ·exact zM h _ hT _
    ·split
     ·exact Gw h _ _
     ·split
      ·exact h.add hX
      ·rw[jW];exact h.take hi ..
theorem Nn:∀(l:List mX) {b:aH} {n:Nat},cD b→SzK b n→lI b→lI (l.foldl cO b)
 | [],_,_,_,_,h=>h
 | q::r,_,_,hi,z,h=>Nn r (dX hi z q).1 (dX hi z q).2 (IT h hi q)
theorem CX(n : Nat)(h1 : 1 ≤ n)(hn : n ≤ 4) : lI (bX n) :=
  ⟨by rcases n with _ | _ | _ | _ | _ | n
      · decide
      · decide
      · decide
      · decide
      · decide
      · omega, by simp[bX, kB]; omega, fun x h => (by cases h), fun x h => (by cases h), fun x h => (by cases h)⟩
theorem Zo(aM:Int)(l:List mX):lI (vY aM l):=by
 have hw:=dB aM (lo:=1) (hi:=4) (by decide)
 obtain⟨h,z⟩:=vB (aS aM 1 4).toNat (by omega)
 exact Nn (l.take 12) h z (CX _ (by omega) (by omega))
end Go.Dm.Tc
/-
SubsFrom: plain laws.
-/
namespace Go.Dm.Tc
theorem C3{b:aH}{t s:ID}{q:Int}{e:aX}(he:oN b t s=some e)(hq:e.bK≠q):bZ b t s q=(b,[],false):=by
 unfold bZ
 rw[show b.entries.find? (isE t s)=some e from he]
 simp only[if_neg hq]
theorem BG{b:aH}(h:cD b){t s:ID}{e:aX}(he:oN b t s=some e):oN (bZ b t s e.bK).1 t s=none:=by
 obtain⟨_,_,_,⟨r',h1,h2⟩,_⟩:=IU h he
 rw[Be,h1]
 intro x hx
 have tQ:∀y∈b.entries.filter (fun x=>!isE t s x),¬(y.tree=t∧y.sub=s):=fun y hy=>Hl.1 (by simpa using(List.mem_filter.1 hy).2)
 rcases h2.mem hx with hx|⟨y,hy,_,_,rfl⟩
 ·exact tQ x hx
 ·exact tQ y hy
theorem HF{b:aH}{e d:aX}(he:oN b e.tree e.sub=some d):dW b e=(b,false):=by
 unfold dW
 rw[if_neg]
 intro hm
 obtain⟨a,_,hn,_⟩:=rR.1 hm
 have:=hn d (List.mem_of_find?_eq_some he)
 rw[List.find?_some (p:=isE e.tree e.sub) he]at this
 cases this
theorem o0{b:aH}{e:aX}(h:∀a,gO b e.tree=some a→e.bK=a.bN∧a.bN≠-1):dW b e=(b,false):=by
 unfold dW
 rw[if_neg]
 intro hm
 obtain⟨a,ha,_,hf⟩:=rR.1 hm
 obtain⟨h1,h2⟩:=h a ha
 exact h2 (hf h1)
theorem o6{b:aH}(h:cD b){e:aX}{a:bG}(ha:gO b e.tree=some a)(hn:oN b e.tree e.sub=none)(hf:e.bK=a.bN→a.bN=-1)(hl:hU b e.bK=true)(hp:cB e.pred) :
  oN (dW b e).1 e.tree e.sub=some {e with up:=pD b e}∧(dW b e).2=pD b e∧(dW b e).1.entries.length=b.entries.length+1∧(pD b e=true→a.bN≠-1):=by
 have hi:=h.add hl hp
 have hy:=UH ha hn hf
 refine⟨?_,by rw[hy],by rw[hy];exact Kg ..,?_⟩
 ·rw[Bd hi.re,hy]
  exact⟨rS.2 (.inl rfl),rfl,rfl⟩
 ·unfold pD
  rw[eY,ha]
  simp
  intro q _;exact q
theorem fresh{b:aH}(h:lI b)(t s:ID)(hs:4<s.aW):oN b t s=none:=by
 rw[Be]
 rintro e he ⟨_,hq⟩
 have:=h.ent e he
 rw[hq]at this;omega
end Go.Dm.Tc
/-
What the program's routes compute,part 1: where a subscription of its own stands;an entry added,passed on.
-/
namespace Go.Dm.Tc
theorem s108(b:aH)(tc td sc sd q:Int)(p:bJ)(hi:cD b)(hz:fG b)(hp:cB p) :
  pcF D G3 [aE .none b,.agg [.int .i64 tc,.int .i64 td,.int .i64 sc,.int .i64 sd,bE p,.int .i64 q,.bool false]]=some (.tup [aE .none (gI b q ⟨tc,td⟩ ⟨sc,sd⟩ p).1,eL false 8 fY (gI b q ⟨tc,td⟩ ⟨sc,sd⟩ p).2]):=by
 have oJ:=kAdd hi hz tc td sc sd hp q false
 have hF:=kAF .none hi hz tc td
 unfold pcF
 rw[aJ _ _ _ _ (by simp[G3])]
 cases hu:(dW b ⟨⟨tc,td⟩,⟨sc,sd⟩,p,q,false⟩).2 with
 | false =>
  rw[hu]at oJ
  have hd:gI b q ⟨tc,td⟩ ⟨sc,sd⟩ p=((dW b ⟨⟨tc,td⟩,⟨sc,sd⟩,p,q,false⟩).1,[]):=by simp[gI,hu]
  rw[hd]
  obtain⟨⟨vc,vd⟩,vp,vq⟩:bG:=(gO b ⟨tc,td⟩).getD qA
  generalize (gO b ⟨tc,td⟩).getD qA=a at *
  obtain⟨⟨vc,vd⟩,vp,vq⟩:=a
  simp[G3,e89,hF,aG,TV,oJ,turn,aI,iD]
 | true =>
  rw[hu]at oJ
  obtain⟨⟨⟨ac,ad⟩,ap,aq⟩,ha⟩:=AT hu
  rw[ha]at hF
  have xF:dR b ⟨tc,td⟩=aq:=by rw[eY,ha];rfl
  have hd:gI b q ⟨tc,td⟩ ⟨sc,sd⟩ p=((dW b ⟨⟨tc,td⟩,⟨sc,sd⟩,p,q,false⟩).1,[⟨aq,3,⟨tc,td⟩,⟨sc,sd⟩,p⟩]):=by simp[gI,hu,xF]
  rw[hd]
  have ri:∀h,resolve false h 197 (.isl false 0 [])=some (.isl false 0 []):=fun _=>rfl
  simp[G3,ri,e89,hF,aG,TV,oJ,turn,j7,YJ,aI]
  have Dt:bI 199 (eL false 8 fY [⟨aq,3,⟨tc,td⟩,⟨sc,sd⟩,p⟩])=true:=eS (fun y _=>(fK y).2) 199 (by decide)
  exact⟨Dt,rfl⟩
end Go.Dm.Tc
/-
What the program's routes compute,part 2: an entry taken out;subscriptions by a link.
-/
namespace Go.Dm.Tc
theorem l109(S:List Fr)(t:Bool)(iG:List aX)(hl:iG.length≤100000)(ac ad to:Int)(ap:bJ)(h0:aA)(aL:h0.lim≤5)(g4:h0.get 4=some (.arr 93 4 [.agg [.int .i64 ac,.int .i64 ad,bE ap,.int .i64 to]] (some 1)))(P:Res→Prop) :
  ∀(rest:List aX) (i:Nat) (fE:List jN) (es:List DV) (v:DV) (f:cT) (h:aA),iG.drop i=rest→jX es fE→(es.length≤i∧i≤iG.length)→f 10=.ptr 4 4 0 0→f 14=v→f 35=eL t 7 aD iG→f 36=.int .i64 iG.length→f 37=.int .i64 i→OwnR 5 h v 100 8 es→Ext 5 h0 h →
  (∀f' h' v' qM,f' 14=v'→(∀r,r<12→f' r=f r)→qM.length≤iG.length→jX qM (fE++kE to rest)→OwnR 5 h' v' 100 8 qM→Ext 5 h0 h'→P (run D 60 S Ir f' h')) →
  P (run D 60 (.block 0::.seq Ir::S) (.loop Qr) f h):=by
 intro rest
 induction rest with
 | nil =>
  intro i fE es v f h hd hr he hY Gc h35 HQ B2 ho x hP
  have hi:=bH hd
  have:¬(i<iG.length):=by omega
  have k:∀r q:Nat,r<12→12≤q→¬r=q:=fun r q h1 h2=>by omega
  rw[aC Qr.eq_1]
  simp[HQ,B2,this]
  refine hP _ h v es (by simp[Gc]) (fun r HJ=>by simp[k r _ HJ]) (by omega) (by simpa[kE]using hr) ho x
 | cons e rest ih =>
  intro i fE es v f h hd hr he hY Gc h35 HQ B2 ho x hP
  obtain⟨hi,kL,eJ⟩:=bR hd
  obtain⟨⟨tc,td⟩,⟨sc,sd⟩,p,q,u⟩:=e
  have hnl:=x.le
  have Dv:=x.lim
  have a4:=(x.get 4 (by decide)).trans g4
  have k:∀r q:Nat,r<12→12≤q→¬r=q:=fun r q h1 h2=>by omega
  obtain⟨m,eB⟩:∃ m,h.n=m+5:=⟨h.n-5,by omega⟩
  rw[aC Qr.eq_1]
  have Nf:h.lim≤m+5:=by omega
  simp[hY,Gc,h35,HQ,B2,hi,kL,a4,aD,eB,x.wf,turn,Nf,j7,YJ]
  generalize hA:aY _ _ _ _ _ _=A
  obtain⟨v',K,rfl,p',x',_⟩:=OwnR.append (ho.push.push) (by simp[x.wf]) (by simp[eB]<;>omega) (by simp[eB];omega) hA (by simp;omega) (by decide)
  clear hA
  simp[B2]
  rw[aT (by omega) (by omega)]
  generalize hF:upd _ 37 _=F
  have Aq:=jX.append hr (jX.one (to:=to) (k:=3) (tc:=tc) (td:=td) (ic:=sc) (id:=sd) (pd:=bE p) (ad:=.isl false 0 []) (.inl rfl) (.inr rfl))
  refine ih (i+1) _ _ v' F K eJ Aq ⟨by simp;omega,by omega⟩ ?_ ?_ ?_ ?_ ?_ (by simpa[tX]using p') ((x.push.push).trans x') ?_
  all_goals first
   | (rw[←hF];simp[hY,Gc,h35,HQ];done)
   | skip
  intro f' h' v2 qM a1 a3 a4 a5 a6 a7
  refine hP f' h' v2 qM a1 (fun r HJ=>?_) a4 (by simpa[kE]using a5) a6 a7
  rw[a3 r HJ,←hF]
  simp[k r _ HJ]
theorem s109(b:aH)(tc td sc sd q:Int)(hi:cD b)(hz:fG b) :
  pcF D G2 [aE .none b,.agg [.int .i64 tc,.int .i64 td],.agg [.int .i64 sc,.int .i64 sd],.int .i64 q]=some (.tup [aE .none (eV b ⟨tc,td⟩ ⟨sc,sd⟩ q).1,eL false 8 fY (eV b ⟨tc,td⟩ ⟨sc,sd⟩ q).2]):=by
 have ht:=AdC hi hz tc td sc sd q
 have hFd:=kAF .none hi hz tc td
 unfold pcF
 rw[aJ _ _ _ _ (by simp[G2])]
 cases hu:(bZ b ⟨tc,td⟩ ⟨sc,sd⟩ q).2.2 with
 | false =>
  rw[hu]at ht
  have hd:eV b ⟨tc,td⟩ ⟨sc,sd⟩ q=((bZ b ⟨tc,td⟩ ⟨sc,sd⟩ q).1,[]):=by simp[eV,hu]
  rw[hd]
  generalize (gO b ⟨tc,td⟩).getD qA=a at *
  obtain⟨⟨vc,vd⟩,vp,vq⟩:=a
  simp[G2,e89,hFd,aG,e161,ht,turn,aI,iD]
 | true =>
  rw[hu]at ht
  obtain⟨Kw,⟨⟨ac,ad⟩,ap,aq⟩,ha⟩:=Us hi hu
  rw[ha]at hFd
  have xF:dR b ⟨tc,td⟩=aq:=by rw[eY,ha];rfl
  have hd:eV b ⟨tc,td⟩ ⟨sc,sd⟩ q=((bZ b ⟨tc,td⟩ ⟨sc,sd⟩ q).1,kE aq (bZ b ⟨tc,td⟩ ⟨sc,sd⟩ q).2.1++[⟨aq,4,⟨tc,td⟩,⟨sc,sd⟩,[]⟩]):=by simp[eV,hu,xF]
  rw[hd]
  simp[G2,e89,hFd,aG,e161,ht,turn]
  generalize hF:upd _ 37 _=F
  generalize hH:aA.push _ _=H0
  have hul:(bZ b ⟨tc,td⟩ ⟨sc,sd⟩ q).2.1.length≤100000:=Nat.le_trans (Ie hi ..) hz.ent
  generalize (bZ b ⟨tc,td⟩ ⟨sc,sd⟩ q).2.1=iG at *
  generalize Bt:(bZ b ⟨tc,td⟩ ⟨sc,sd⟩ q).1=b1 at *
  have ZP:H0.n=5:=by rw[←hH];simp
  have sZ:H0.lim=0:=by rw[←hH];simp
  have hw0:WF H0:=by rw[←hH];simp
  refine l109 [] false iG hul ac ad aq ap H0 (by omega) (by rw[←hH];simp) (fun r=>cW (fin [.cell 8 (some 6),.t 9] r)=some (.tup [aE .none b1,eL false 8 fY (kE aq iG++[⟨aq,4,⟨tc,td⟩,⟨sc,sd⟩,[]⟩])])) iG 0 [] [] .nsl F H0 rfl jX.nil ⟨by simp,Nat.zero_le _⟩ (by rw[←hF];simp) (by rw[←hF];simp) (by rw[←hF];simp) (by rw[←hF];simp) (by rw[←hF];simp) (.nil rfl rfl) (.refl (by omega) hw0) fun f' h' v' qM q14 qr kZ hrw SS x=>?_
  have q4:f' 4=.ptr 0 6 0 0:=by rw[qr 4 (by decide),←hF];simp
  have q5:f' 5=.ptr 1 2 0 0:=by rw[qr 5 (by decide),←hF];simp
  have q6:f' 6=.ptr 2 2 0 0:=by rw[qr 6 (by decide),←hF];simp
  have q8:f' 8=.ptr 3 6 0 0:=by rw[qr 8 (by decide),←hF];simp
  have q10:f' 10=.ptr 4 4 0 0:=by rw[qr 10 (by decide),←hF];simp
  have a0:h'.get 0=some (.arr 36 6 [aE .none b1] (some 1)):=(x.get 0 (by decide)).trans (by rw[←hH];simp)
  have a1:h'.get 1=some (.arr 40 2 [.agg [.int .i64 tc,.int .i64 td]] (some 1)):=(x.get 1 (by decide)).trans (by rw[←hH];simp)
  have a2:h'.get 2=some (.arr 40 2 [.agg [.int .i64 sc,.int .i64 sd]] (some 1)):=(x.get 2 (by decide)).trans (by rw[←hH];simp)
  have a3:h'.get 3=some (.arr 36 6 [.agg [.int .i64 0,.nsl,.nsl,.nsl,.nsl,.nsl]] (some 1)):=(x.get 3 (by decide)).trans (by rw[←hH];simp)
  have a4:h'.get 4=some (.arr 93 4 [.agg [.int .i64 ac,.int .i64 ad,bE ap,.int .i64 aq]] (some 1)):=(x.get 4 (by decide)).trans (by rw[←hH];simp)
  have al:h'.lim=0:=x.lim.trans sZ
  obtain⟨m,eB⟩:∃ m,h'.n=m+5:=⟨h'.n-5,by have:=x.le;omega⟩
  have gX:=jX.append hrw (jX.one (to:=aq) (k:=4) (tc:=tc) (td:=td) (ic:=sc) (id:=sd) (pd:=.nsl) (ad:=.nsl) (p:=[]) (.inr ⟨rfl,rfl⟩) (.inl rfl))
  simp only[List.nil_append]at gX
  have Dt:bI 199 (eL false 8 fY (kE aq iG++[⟨aq,4,⟨tc,td⟩,⟨sc,sd⟩,[]⟩]))=true:=eS (fun y _=>(fK y).2) 199 (by decide)
  cases SS with
  | nil hv hx =>
   subst hv
   subst hx
   simp[Ir,q4,q5,q6,q8,q10,q14,a0,a1,a2,a3,a4,al,eB,x.wf]
   generalize hA:aY _ _ _ _ _ _=A
   obtain⟨v2,K,rfl,p',x',_⟩:=OwnR.append (lo:=5) (OwnR.start 5 _ 100 8) (by simp[x.wf]) (by simp[eB]<;>omega) (by simp[eB,al]) hA (by simp<;>omega) (by decide)
   clear hA
   have b0:=x'.get 0 (by decide)
   have b1':=x'.get 1 (by decide)
   have b2:=x'.get 2 (by decide)
   have b3:=x'.get 3 (by decide)
   have b4:=x'.get 4 (by decide)
   have bl:=x'.lim
   have bn:=x'.le
   have l3:3<K.n:=by omega
   simp[eB,a0,a1,a2,a3,a4,al]at b0 b1' b2 b3 b4 bl p'
   have r1:∀o,resolve false (Dm.wl (K.set 3 o) 0) 199 v2=some (eL false 8 fY (kE aq iG++[⟨aq,4,⟨tc,td⟩,⟨sc,sd⟩,[]⟩])):=fun o=>pW ((by simpa[tX]using(p'.aU (o:=o) x'.wf (by decide) l3).wl (Nat.zero_le _)):OwnR 5 (Dm.wl (K.set 3 o) 0) v2 100 8 _) gX false (by decide)
   simp[q8,b0,b1',b2,b3,b4,bl,al,l3,x'.wf,turn,aI,r1,Dt]
  | arr id sp cap hv hg Nf dS =>
   subst hv
   have Kq:=bB hg
   have e0:¬0=id:=by omega
   have e1:¬1=id:=by omega
   have e2:¬2=id:=by omega
   have e4:¬4=id:=by omega
   simp[Ir,q4,q5,q6,q8,q10,q14,a0,a1,a2,a3,a4,al,eB,x.wf,e0,e1,e2,e4]
   generalize hA:aY _ _ _ _ _ _=A
   obtain⟨v2,K,rfl,p',x',_⟩:=OwnR.append (lo:=5) (OwnR.push (.arr id sp cap rfl hg Nf dS)) (by simp[x.wf]) (by simp[eB]<;>omega) (by simp[eB,al]) hA (by simp<;>omega) (by decide)
   clear hA
   have b0:=x'.get 0 (by decide)
   have b1':=x'.get 1 (by decide)
   have b2:=x'.get 2 (by decide)
   have b3:=x'.get 3 (by decide)
   have b4:=x'.get 4 (by decide)
   have bl:=x'.lim
   have bn:=x'.le
   have l3:3<K.n:=by omega
   simp[eB,a0,a1,a2,a3,a4,al]at b0 b1' b2 b3 b4 bl p'
   have r1:∀o,resolve false (K.set 3 o) 199 v2=some (eL false 8 fY (kE aq iG++[⟨aq,4,⟨tc,td⟩,⟨sc,sd⟩,[]⟩])):=fun o=>pW ((by simpa[tX]using p'.aU (o:=o) x'.wf (by decide) l3):OwnR 5 (K.set 3 o) v2 100 8 _) gX false (by decide)
   simp[q8,b0,b1',b2,b3,b4,bl,al,l3,x'.wf,turn,aI,r1,Dt]
theorem s36(b:aH)(k tc td sc sd q:Int)(p:bJ)(hi:cD b)(hz:fG b) :
  pcF D t36 [aE .none b,.int .i64 q,.agg [.int .i64 k,.int .i64 tc,.int .i64 td,.int .i64 sc,.int .i64 sd,bE p,.isl false 0 []]]=some (.tup [aE .none (eV b ⟨tc,td⟩ ⟨sc,sd⟩ q).1,eL false 8 fY (eV b ⟨tc,td⟩ ⟨sc,sd⟩ q).2]):=by
 have hd:=s109 b tc td sc sd q hi hz
 have Dt:∀os:List jN,bI 199 (eL false 8 fY os)=true:=fun os=>eS (fun y _=>(fK y).2) 199 (by decide)
 unfold pcF
 rw[aJ _ _ _ _ (by simp[t36])]
 simp[t36,e109,hd,turn,aI,Dt]
theorem s35(b:aH)(k tc td sc sd q:Int)(p:bJ)(hi:cD b)(hz:fG b)(hp:cB p) :
  pcF D t35 [aE .none b,.int .i64 q,.agg [.int .i64 k,.int .i64 tc,.int .i64 td,.int .i64 sc,.int .i64 sd,bE p,.isl false 0 []]]=some (.tup [aE .none (gI b q ⟨tc,td⟩ ⟨sc,sd⟩ p).1,eL false 8 fY (gI b q ⟨tc,td⟩ ⟨sc,sd⟩ p).2]):=by
 have hd:=s108 b tc td sc sd q p hi hz hp
 have Dt:∀os:List jN,bI 199 (eL false 8 fY os)=true:=fun os=>eS (fun y _=>(fK y).2) 199 (by decide)
 unfold pcF
 rw[aJ _ _ _ _ (by simp[t35])]
 simp[t35,e108,hd,turn,aI,Dt]
end Go.Dm.Tc
/-
Publications: an attribute by its name,does a predicate match one.
-/
namespace Go.Dm.Tc
def Ez:List Att→List UInt8→Option Val
 | [],_=>none
 | a::r,n=>if a.name=n then some a.val else Ez r n
def PR:Val:=⟨false,0,[]⟩
theorem l199(t:Bool)(l:List Att)(n:List UInt8)(hl:l.length≤1000000)(h0:aA)(g0:h0.get 0=some (.arr 106 3 [.agg [.bool false,.int .i64 0,.str []]] (some 1)))(aL:h0.lim=0) :
  ∀(rest:List Att) (i:Nat) (f:cT) (h:aA),l.drop i=rest→f 1=.str n→f 4=.ptr 0 3 0 0→f 8=eL t 4 gC l→f 9=.int .i64 l.length→f 10=.int .i64 i→Ext 1 h0 h →
  cW (fin [.cell 4 (some 3),.t 5] (run D 22 [.block 0,.seq C9] (.loop Ph) f h))=some (.tup [uQ ((Ez rest n).getD PR),.bool (Ez rest n).isSome]):=by
 intro rest
 induction rest with
 | nil =>
  intro i f h hd h1 h4 h8 h9 hY hx
  have hi:=bH hd
  have:¬(i<l.length):=by omega
  have g:=(hx.get 0 (by decide)).trans g0
  have hlH:h.lim=0:=hx.lim.trans aL
  have wf:=hx.wf
  have hn:0<h.n:=hx.le
  rw[aC Ph.eq_1]
  simp[C9,h4,h9,hY,this,g,hlH,wf,hn,turn,aI,Ez,PR,uQ]
 | cons a rest ih =>
  intro i f h hd h1 h4 h8 h9 hY hx
  obtain⟨hi,he,eJ⟩:=bR hd
  have g:=(hx.get 0 (by decide)).trans g0
  have hlH:h.lim=0:=hx.lim.trans aL
  have wf:=hx.wf
  have hn:0<h.n:=hx.le
  have n0:¬0=h.n:=by omega
  have hw:IntKind.i64.wrap ((i:Int)+1)=(i:Int)+1:=aT (by omega) (by omega)
  obtain⟨nm,b,k,s⟩:=a
  rw[aC Ph.eq_1]
  by_cases hc:nm=n
  ·have hg:Ez (⟨nm,b,k,s⟩::rest) n=some ⟨b,k,s⟩:=by simp[Ez,hc]
   rw[hg]
   simp[h1,h4,h8,h9,hY,hi,he,gC,hc,hlH,g,n0,wf,hn,turn,aI,uQ]
  ·have hg:Ez (⟨nm,b,k,s⟩::rest) n=Ez rest n:=by simp[Ez,hc]
   rw[hg]
   simp[h1,h4,h8,h9,hY,hi,he,gC,hc,hlH,g,n0,wf,hn,hw]
   generalize hF:upd _ 10 _=F
   exact ih (i+1) F _ eJ (by rw[←hF];simp[h1]) (by rw[←hF];simp[h4]) (by rw[←hF];simp[h8]) (by rw[←hF];simp[h9]) (by rw[←hF];simp) hx.push
theorem s199(t:Bool)(l:List Att)(n:List UInt8)(hl:l.length≤1000000):pcF D BQ [eL t 4 gC l,.str n]=some (.tup [uQ ((Ez l n).getD PR),.bool (Ez l n).isSome]):=by
 unfold pcF
 rw[aJ _ _ _ _ (by simp[BQ])]
 simp[BQ,-hZ]
 generalize hF:upd _ 10 _=F
 exact l199 t l n hl _ (by simp) (by simp) l 0 F _ rfl (by rw[←hF];simp) (by rw[←hF];simp) (by rw[←hF];simp) (by rw[←hF];simp) (by rw[←hF];simp) (.refl (by simp) (by simp))
def Ar(c:eQ)(v:Val):Bool :=
 if c.kind=1 then !v.isText && decide (c.lo≤v.n) && decide (v.n≤c.hi)else if c.kind=2 then v.isText && (v.text == c.text)else if c.kind=3 then v.isText && iN v.text c.text else false
theorem v200(c:eQ)(v:Val):pcF D zY [.agg [.str c.name,.int .i64 c.kind,.int .i64 c.lo,.int .i64 c.hi,.str c.text],.agg [.bool v.isText,.int .i64 v.n,.str v.text]]=some (.bool (Ar c v)):=by
 obtain⟨nm,k,lo,hi,tx⟩:=c
 obtain⟨b,n,s⟩:=v
 unfold pcF
 rw[aJ _ _ _ _ (by simp[zY])]
 by_cases k1:k=1
 ·subst k1
  cases b<;>by_cases a1:lo≤n<;>by_cases a2:n≤hi<;>simp[zY,Ar,a1,a2]
 ·by_cases k2:k=2
  ·subst k2
   cases b<;>simp[zY,Ar]
  ·by_cases k3:k=3
   ·subst k3
    cases b<;>simp[zY,Ar,d8,YG]
   ·simp[zY,Ar,k1,k2,k3]
def nG(p:bJ)(l:List Att):Bool:=p.all fun c=>match Ez l c.name with|some v=>Ar c v|none=>false
theorem l162(t u:Bool)(p:bJ)(l:List Att)(hp:p.length≤1000000)(hl:l.length≤1000000) :
  ∀(rest:List eQ) (i:Nat) (f:cT) (h:aA),p.drop i=rest→h.lim=0→WF h→f 1=eL u 4 gC l→f 9=eL t 5 aO p→f 10=.int .i64 p.length→f 11=.int .i64 i →
  cW (fin [.t 4] (run D 31 [.block 0,.seq E1] (.loop Pt) f h))=some (.bool (nG rest l)):=by
 intro rest
 induction rest with
 | nil =>
  intro i f h hd aL wf h1 h9 hY lG
  have hi:=bH hd
  have:¬(i<p.length):=by omega
  rw[aC Pt.eq_1]
  simp[E1,hY,lG,this,nG]
 | cons c rest ih =>
  intro i f h hd aL wf h1 h9 hY lG
  obtain⟨hi,he,eJ⟩:=bR hd
  have hw:IntKind.i64.wrap ((i:Int)+1)=(i:Int)+1:=aT (by omega) (by omega)
  have hG:=s199 u l c.name hl
  have hf:∀h,resolve true h 200 (eL u 4 gC l)=some (eL u 4 gC l):=fun h=>gS _ _ _ _ true h 200 (by decide)
  rw[aC Pt.eq_1]
  cases hg:Ez l c.name with
  | none =>
   rw[hg]at hG
   have hm:nG (c::rest) l=false:=by simp[nG,hg]
   rw[hm]
   simp[h1,h9,hY,lG,hi,he,aO,aL,wf,d9,hG,uQ,PR,turn]
  | some v =>
   rw[hg]at hG
   obtain⟨b,n,s⟩:=v
   have hH:=v200 c ⟨b,n,s⟩
   cases hv:Ar c ⟨b,n,s⟩with
   | false =>
    rw[hv]at hH
    have hm:nG (c::rest) l=false:=by simp[nG,hg,hv]
    rw[hm]
    simp[h1,h9,hY,lG,hi,he,aO,aL,wf,d9,hG,uQ,turn,Yx,hH]
   | true =>
    rw[hv]at hH
    have hm:nG (c::rest) l=nG rest l:=by simp[nG,hg,hv]
    rw[hm]
    simp[h1,h9,hY,lG,hi,he,aO,aL,wf,d9,hG,uQ,turn,Yx,hH,hw]
    generalize hF:upd _ 11 _=F
    exact ih (i+1) F _ eJ (by simp[aL]) (by simp[wf]) (by rw[←hF];simp[h1]) (by rw[←hF];simp[h9]) (by rw[←hF];simp[hY]) (by rw[←hF];simp)
theorem s162(t u:Bool)(p:bJ)(l:List Att)(hp:p.length≤1000000)(hl:l.length≤1000000):pcF D Pu [eL t 5 aO p,eL u 4 gC l]=some (.bool (nG p l)):=by
 unfold pcF
 rw[aJ _ _ _ _ (by simp[Pu])]
 simp[Pu,-hZ]
 generalize hF:upd _ 11 _=F
 exact l162 t u p l hp hl p 0 F _ rfl (by simp) (by simp) (by rw[←hF];simp) (by rw[←hF];simp) (by rw[←hF];simp) (by rw[←hF];simp)
end Go.Dm.Tc
/-
Publications Gu of numbers.
-/
namespace Go.Dm.Tc
def Oa(n:Int):Val:=if HC n=0 then⟨false,aS (IntKind.i64.wrap (n.tdiv 2)) 0 9,[]⟩else⟨true,0,qK.getD (aS (IntKind.i64.wrap (n.tdiv 2)) 0 6).toNat []⟩
theorem s101(n:Int):pcF D G6 [.int .i64 n]=some (uQ (Oa n)):=by
 unfold pcF
 rw[aJ _ _ _ _ (by simp[G6])]
 have w1:=s8 (IntKind.i64.wrap (n.tdiv 2)) 0 9 (by decide) (by decide) (by decide)
 have w2:=s8 (IntKind.i64.wrap (n.tdiv 2)) 0 6 (by decide) (by decide) (by decide)
 have hq:cN .quo (.int .i64 n) (.int .i64 2)=some (.int .i64 (IntKind.i64.wrap (n.tdiv 2))):=rfl
 by_cases h0:HC n=0
 ·simp[G6,tH,h0,hq,e8,w1,turn,Oa,uQ]
 ·have b1:=dB (IntKind.i64.wrap (n.tdiv 2)) (show(0:Int)≤6 by decide)
  have bC:(aS (IntKind.i64.wrap (n.tdiv 2)) 0 6).toNat<qK.length:=by simp[qK];omega
  obtain⟨tx,hx⟩:∃ tx,qK[(aS (IntKind.i64.wrap (n.tdiv 2)) 0 6).toNat]?=some tx:=⟨_,List.getElem?_eq_getElem bC⟩
  simp[G6,tH,h0,hq,e8,w2,turn,i8,YI,b1.1,hx,Bg,Oa,uQ]
def kJ(has vals:List Int):List (List UInt8)→Nat→List Att→List Att
 | [],_,eR=>eR
 | nm::r,i,eR=>if i<has.length∧EM (has.getD i 0)=true∧eR.length<5 then kJ has vals r (i+1) (eR++[⟨nm,Oa (zL vals i)⟩])else kJ has vals r (i+1) eR
def MI(has vals:List Int):List Att:=kJ has vals lL 0 []
theorem Al(has vals:List Int):∀(r:List (List UInt8)) (i:Nat) (eR:List Att),eR.length≤5→(kJ has vals r i eR).length≤5
 | [],_,_,h=>h
 | nm::r,i,eR,h=>by
  rw[kJ]
  split
  ·rename_i hc
   exact Al has vals r _ _ (by simp;omega)
  ·exact Al has vals r _ _ h
theorem EU(has vals:List Int):(MI has vals).length≤5:=Al has vals _ _ _ (by simp)
theorem Er(x:Att):jP 20 (gC x)∧Unl 22 (gC x):=⟨jJ (by
  intro y hy
  simp only[List.mem_cons,List.not_mem_nil,or_false]at hy
  rcases hy with rfl|rfl|rfl|rfl
  all_goals first|exact fL _ _|exact rG _|exact Dc _),kX (by
  intro y hy
  simp only[List.mem_cons,List.not_mem_nil,or_false]at hy
  rcases hy with rfl|rfl|rfl|rfl
  all_goals first|exact(lC _ _).mono (by decide)|exact(wP _).mono (by decide)|exact(uY _).mono (by decide))⟩
theorem RT{lo:Nat}{h:aA}{v:DV}{ety:Nat}{ys:List Att}(w:Own lo h v ety 4 (ys.map gC)):cW (some (v,h))=some (eL false 4 gC ys):=w.out (fun y _=>(Er y).1.mono (by decide)) (fun y _=>(Er y).2.mono (by decide)) (k:=22) (by decide)
theorem l32(th tv:Bool)(has vals:List Int)(tp:Nat)(h0:aA)(g0:h0.get 0=some (.arr tp 2 [.agg [eL th 1 bO has,eL tv 1 bO vals]] (some 1)))(aL:h0.lim=0) :
  ∀(rest:List (List UInt8)) (eR:List Att) (i:Nat) (f:cT) (h:aA),lL.drop i=rest→eR.length≤i→f 1=.ptr 0 2 0 0→f 6=eL false 1 Bg lL→f 7=.int .i64 7→f 8=.int .i64 i→Own 1 h (f 3) 108 4 (eR.map gC)→Ext 1 h0 h →
  cW (fin [.t 2] (run D 44 [.block 0,.seq JH] (.loop W3) f h))=some (eL false 4 gC (kJ has vals rest i eR)):=by
 intro rest
 induction rest with
 | nil =>
  intro eR i f h hd ha h1 h6 h7 h8 ho hx
  have hi:=bH hd
  have:¬((i:Int)<7):=by simp[lL]at hi;omega
  rw[aC W3.eq_1]
  simp[JH,h7,h8,this,kJ]
  exact RT ho
 | cons nm rest ih =>
  intro eR i f h hd ha h1 h6 h7 h8 ho hx
  obtain⟨hi,he,eJ⟩:=bR hd
  have hi7:i<7:=by simpa[lL]using hi
  have bC:(i:Int)<7:=by omega
  have Ng:=(hx.get 0 (by decide)).trans g0
  have w1:IntKind.i64.wrap ((i:Int)+1)=(i:Int)+1:=aT (by omega) (by omega)
  have hpk:=s93 tv vals i
  have cH:lenV h 1 (f 3)=some (.int .i64 (eR.length:Int)):=by simpa using ho.lenV
  rw[aC W3.eq_1]
  by_cases c1:i<has.length
  ·obtain⟨b,hb⟩:∃ b,has[i]=b:=⟨_,rfl⟩
   have Kt:has.getD i 0=b:=by rw[List.getD_eq_getElem?_getD,List.getElem?_eq_getElem c1,hb];rfl
   by_cases c2:HC b=1
   ·by_cases c3:eR.length<5
    ·have c3':(eR.length:Int)<5:=by omega
     have hm:kJ has vals (nm::rest) i eR=kJ has vals rest (i+1) (eR++[⟨nm,Oa (zL vals i)⟩]):=by simp only[kJ];rw[if_pos ⟨c1,by rw[Kt];simp[EM,c2],c3⟩]
     rw[hm]
     simp[h1,h6,h7,h8,bC,Ng,hi,he,Bg,bO,c1,hb,tH,c2,cH,c3',e93,hpk,e101,s101,uQ]
     generalize hA:aY _ _ _ _ _ _=A
     obtain⟨v',h',rfl,Kk,uG⟩:=ho.push.append hx.push.wf hx.push.le (by rw[hx.push.lim,aL];omega) hA (by simp;omega) (by decide)
     simp[w1,h8]
     refine ih (eR++[⟨nm,Oa (zL vals i)⟩]) (i+1) _ h' eJ (by simp;omega) ?_ ?_ ?_ ?_ ?_ (hx.push.trans uG)<;>simp[h1,h6,h7]
     simpa[gC]using Kk
    ·have c3':¬(eR.length:Int)<5:=by omega
     have hm:kJ has vals (nm::rest) i eR=kJ has vals rest (i+1) eR:=by simp only[kJ];rw[if_neg (fun q=>c3 q.2.2)]
     rw[hm]
     simp[h1,h6,h7,h8,bC,Ng,hi,he,Bg,bO,c1,hb,tH,c2,cH,c3',w1]
     refine ih eR (i+1) _ h eJ (by omega) ?_ ?_ ?_ ?_ ?_ hx<;>simp[h1,h6,h7,ho]
   ·have hm:kJ has vals (nm::rest) i eR=kJ has vals rest (i+1) eR:=by simp only[kJ];rw[if_neg (fun q=>c2 (by rw[Kt]at q;simpa[EM]using q.2.1))]
    rw[hm]
    simp[h1,h6,h7,h8,bC,Ng,hi,he,Bg,bO,c1,hb,tH,c2,w1]
    refine ih eR (i+1) _ h eJ (by omega) ?_ ?_ ?_ ?_ ?_ hx<;>simp[h1,h6,h7,ho]
  ·have c1':¬((i:Int)<has.length):=by omega
   have hm:kJ has vals (nm::rest) i eR=kJ has vals rest (i+1) eR:=by simp only[kJ];rw[if_neg (fun q=>c1 q.1)]
   rw[hm]
   simp[h1,h6,h7,h8,bC,Ng,hi,he,Bg,c1,w1]
   refine ih eR (i+1) _ h eJ (by omega) ?_ ?_ ?_ ?_ ?_ hx<;>simp[h1,h6,h7,ho]
theorem s32(th tv:Bool)(has vals:List Int) :
  pcF D t32 [.agg [eL th 1 bO has,eL tv 1 bO vals]]=some (eL false 4 gC (MI has vals)):=by
 unfold pcF
 rw[aJ _ _ _ _ (by simp[t32])]
 simp[t32,e91,s91]
 refine l32 th tv has vals 28 _ ?_ ?_ lL [] 0 _ _ rfl (by simp) ?_ ?_ ?_ ?_ ?_ (Ext.refl ?_ ?_)<;>simp[lL]
 exact .start _ _ _ _
end Go.Dm.Tc
/-
Messages Gu of numbers.
-/
namespace Go.Dm.Tc
structure Fi where
 kind:Int
 aW:Int
 seq:Int
 own:Int
 num:Int
 has:List Int
 vals:List Int
 thas:List Int
 tvals:List Int
def wC(k:Fi):DV:=.agg [.int .i64 k.kind,.int .i64 k.aW,.int .i64 k.seq,.int .i64 k.own,.int .i64 k.num,eL false 1 bO k.has,eL false 1 bO k.vals,eL false 1 bO k.thas,eL false 1 bO k.tvals]
def Fi.knd(k:Fi):Int:=aS k.kind 1 5
def xB(k:Fi):Msg:=⟨k.knd,⟨aS k.aW 0 4,aS k.seq 0 4⟩,if 3≤k.knd then⟨aS k.own 0 4,aS k.num 0 4⟩else⟨0,0⟩,if k.knd=1∨k.knd=3 then eD k.has k.vals else[],if k.knd=5 then MI k.thas k.tvals else[]⟩
theorem QC(n:Nat)(xs:List Att):bI (n+23) (eL false 4 gC xs)=true:=eS (fun x _=>(Er x).2) _ (by omega)
theorem s9(k:Fi)(hl:k.has.length≤9223372036854775807):pcF D t9 [wC k]=some (vU (xB k)):=by
 obtain⟨kd,cl,sq,ow,nm,has,vals,thas,tvals⟩:=k
 have w1:=s8 kd 1 5 (by decide) (by decide) (by decide)
 have w2:=fun m=>s8 m 0 4 (by decide) (by decide) (by decide)
 have hP:=s28 false false has vals hl
 have hT:=s32 false false thas tvals
 have b:=dB kd (show(1:Int)≤5 by decide)
 obtain⟨K,hK⟩:∃ K,aS kd 1 5=K:=⟨_,rfl⟩
 rw[hK]at w1 b
 have hf:∀(xs:List Int) h,resolve true h 199 (eL false 1 bO xs)=some (eL false 1 bO xs):=fun xs h=>gS _ _ _ _ true h 199 (by decide)
 unfold pcF
 rw[aJ _ _ _ _ (by simp[t9])]
 have hc:K=1∨K=2∨K=3∨K=4∨K=5:=by omega
 rcases hc with rfl|rfl|rfl|rfl|rfl
 all_goals
  simp[t9,wC,e8,w1,w2,e28,hP,e32,hT,hf,turn,aI,QC]
  simp[xB,Fi.knd,hK,vU,bE,iD]
end Go.Dm.Tc
/-
Carrying publications: the links it goes on by,the clients it is for.
-/
namespace Go.Dm.Tc
theorem q163(id:Nat)(sp:List DV)(cap:Option Nat)(h:aA)(L:List Int)(g:h.get id=some (.arr 3 1 (L.map bO++sp) cap))(hl:h.lim≤id)(hn:L.length≤12)(wf:WF h) :
  ∃ N sp' rF,fc D 163 [.sl id 1 0 L.length] h=some (.sl id 1 0 N.length,rF)∧rF.get id=some (.arr 3 1 (N.map bO++sp') cap)∧rF.lim=h.lim∧kQ N∧(∀x,x∈N↔x∈L)∧N.length≤12:=by
 obtain⟨K2,h2,R2⟩:=q113 id sp cap h L g hl hn wf
 have A9:=(An L).length_eq
 obtain⟨N,sp',K3,h3,R3,sN,mN,lN⟩:=q114 id (Cn L) sp cap K2 (by rw[R2.lim];exact hl) (by omega) (Sn _) R2.get R2.wf
 rw[A9]at h3
 refine⟨N,sp',K3,?_,R3.get,by rw[R3.lim,R2.lim],sN,fun y=>by rw[mN,(An _).mem_iff],by omega⟩
 rw[e163,aJ _ _ _ _ (by simp[D9])]
 simp[D9,h2,h3,turn]
theorem n201(h:aA):fc D 201 [.nsl,.int .i64 0,.int .i64 0] h=some (.tup [],h):=by
 rw[e201,aJ _ _ _ _ (by simp[C8])]
 simp[C8]
 generalize hF:upd _ 6 _=F
 have h2:F 2=.int .i64 0:=by rw[←hF];simp
 have h6:F 6=.int .i64 1:=by rw[←hF];simp
 rw[aC Ee.eq_1]
 simp[h2,h6]
 rfl
theorem n164(h:aA)(x:Int):fc D 164 [.nsl,.int .i64 0,.int .i64 0,.int .i64 x] h=some (.tup [],h):=by
 have hw:IntKind.i64.wrap (0:Int)=0:=rfl
 rw[e164,aJ _ _ _ _ (by simp[D8])]
 simp[D8]
 rw[aC D7.eq_1]
 simp[hw,n201]
 rfl
theorem n113(h:aA):fc D 113 [.nsl] h=some (.tup [],h):=by
 have hb:pcF D JL [.int .u64 0]=some (.int .i64 (ZB 0)):=s165 0 (by decide)
 rw[e113,aJ _ _ _ _ (by simp[F9])]
 simp[F9,Bh,hb,n164]
 rfl
theorem n114(h:aA):fc D 114 [.nsl] h=some (.nsl,h):=by
 rw[e114,aJ _ _ _ _ (by simp[F8])]
 simp[F8]
theorem n163(h:aA):fc D 163 [.nsl] h=some (.nsl,h):=by
 rw[e163,aJ _ _ _ _ (by simp[D9])]
 simp[D9,n113,n114]
theorem Jj{h:aA}{v:DV}{L:List Int}(w:OwnR 0 h v 3 1 (L.map bO))(wf:WF h)(hn:L.length≤12) :
  ∃ N v' h',fc D 163 [v] h=some (v',h')∧cW (some (v',h'))=some (eL false 1 bO N)∧kQ N∧(∀x,x∈N↔x∈L)∧N.length≤12:=by
 cases w with
 | nil hv hx =>
  have uG:L=[]:=by simpa using hx
  subst hv;subst uG
  exact⟨[],.nsl,h,n163 h,rfl,List.Pairwise.nil,fun _=>Iff.rfl,by simp⟩
 | arr id sp cap hv hg aL dS =>
  rw[List.length_map]at hv
  subst hv
  obtain⟨N,sp',K,h1,h2,h3,h4,h5,h6⟩:=q163 id sp cap h L hg aL hn wf
  have w:OwnR 0 K (.sl id 1 0 N.length) 3 1 (N.map bO):=.arr id sp' cap (by simp) h2 (by rw[h3];exact aL) dS
  exact⟨N,_,K,h1,w.out (k:=22) (fun y _=>(kI y).1.mono (by decide)) (fun y _=>(kI y).2) (by decide),h4,h5,h6⟩
def wJ(l:List Att):List aX→List Int
 | []=>[]
 | e::r=>if e.bK≠-1∧nG e.pred l=true then e.bK::wJ l r else wJ l r
theorem Yh(l:List Att):∀es,(wJ l es).length≤es.length
 | []=>Nat.le_refl _
 | e::r=>by have:=Yh l r;rw[wJ];split<;>simp<;>omega
theorem l110(P:Res→Prop)(u:Bool)(l:List Att)(hl:l.length≤1000000)(es:List aX)(Au:es.length≤100000)(hp:∀e∈es,e.pred.length≤1000000) :
  ∀(rest:List aX) (eR:List Int) (i:Nat) (f:cT) (h:aA),es.drop i=rest→eR.length≤i→f 2=eL u 4 gC l→f 12=eL false 7 aD es→f 13=.int .i64 es.length→f 14=.int .i64 i→OwnR 0 h (f 7) 3 1 (eR.map bO)→h.lim=0→WF h →
  (∀F H,OwnR 0 H (F 7) 3 1 ((eR++wJ l rest).map bO)→H.lim=0→WF H→P (run D 35 [] Qq F H)) →
  P (run D 35 [.block 0,.seq Qq] (.loop Qp) f h):=by
 intro rest
 induction rest with
 | nil =>
  intro eR i f h hd ha h2 gE lY Gc ho aL wf mV
  have hi:=bH hd
  have:¬(i<es.length):=by omega
  rw[aC Qp.eq_1]
  simp[lY,Gc,this]
  exact mV _ _ (by simpa[wJ]using ho) aL wf
 | cons e rest ih =>
  intro eR i f h hd ha h2 gE lY Gc ho aL wf mV
  obtain⟨hi,he,eJ⟩:=bR hd
  have hw:IntKind.i64.wrap ((i:Int)+1)=(i:Int)+1:=aT (by omega) (by omega)
  have hM:=s162 false u e.pred l (hp e (by rw[←he];exact List.getElem_mem hi)) hl
  have hf:∀h,resolve true h 200 (eL u 4 gC l)=some (eL u 4 gC l):=fun h=>gS _ _ _ _ true h 200 (by decide)
  rw[aC Qp.eq_1]
  by_cases c1:e.bK=-1
  ·have hN:wJ l (e::rest)=wJ l rest:=by rw[wJ,if_neg (fun q=>q.1 c1)]
   rw[hN]at mV
   simp[h2,gE,lY,Gc,hi,he,aD,aL,wf,c1,hw]
   generalize hF:upd _ 14 _=F
   exact ih eR (i+1) F _ eJ (by omega) (by rw[←hF];simp[h2]) (by rw[←hF];simp[gE]) (by rw[←hF];simp[lY]) (by rw[←hF];simp) (by rw[←hF];simp;exact ho.push) (by simp[aL]) (by simp[wf]) mV
  ·cases c2:nG e.pred l with
   | false =>
    rw[c2]at hM
    have hN:wJ l (e::rest)=wJ l rest:=by rw[wJ,if_neg (fun q=>by rw[c2]at q;cases q.2)]
    rw[hN]at mV
    have hM':pcF D Pu [bE e.pred,eL u 4 gC l]=some (.bool false):=hM
    simp[h2,gE,lY,Gc,hi,he,aD,aL,wf,c1,hw,TU,hM',hf]
    generalize hF:upd _ 14 _=F
    exact ih eR (i+1) F _ eJ (by omega) (by rw[←hF];simp[h2]) (by rw[←hF];simp[gE]) (by rw[←hF];simp[lY]) (by rw[←hF];simp) (by rw[←hF];simp;exact ho.push) (by simp[aL]) (by simp[wf]) mV
   | true =>
    rw[c2]at hM
    have hN:wJ l (e::rest)=e.bK::wJ l rest:=by rw[wJ,if_pos ⟨c1,c2⟩]
    rw[hN,List.append_cons]at mV
    have hM':pcF D Pu [bE e.pred,eL u 4 gC l]=some (.bool true):=hM
    simp[h2,gE,lY,Gc,hi,he,aD,aL,wf,c1,hw,TU,hM',hf]
    generalize hA:aY _ _ _ _ _ _=A
    obtain⟨w,K,rfl,Kk,uG,_⟩:=ho.push.push.append (by simp[wf]) (Nat.zero_le _) (by simp[aL]) hA (by simp;omega) (by decide)
    clear hA
    have hKl:K.lim=0:=by rw[uG.lim];simp[aL]
    simp[Gc,hw]
    generalize hF:upd _ 14 _=F
    exact ih (eR++[e.bK]) (i+1) F K eJ (by simp;omega) (by rw[←hF];simp[h2]) (by rw[←hF];simp[gE]) (by rw[←hF];simp[lY]) (by rw[←hF];simp) (by rw[←hF];simp;simpa[bO]using Kk) hKl uG.wf mV
theorem s110(t:dA)(b:aH)(c d:Int)(u:Bool)(l:List Att)(hl:l.length≤1000000)(z:fG b)(hp:∀e∈b.entries,e.pred.length≤1000000)(gE:(ofT ⟨c,d⟩ b.entries).length≤12) :
  ∃ N,pcF D CQ [aE t b,.agg [.int .i64 c,.int .i64 d],eL u 4 gC l]=some (eL false 1 bO N)∧kQ N∧(∀x,x∈N↔x∈wJ l (ofT ⟨c,d⟩ b.entries))∧N.length≤12:=by
 have hO:=kOf t z c d
 unfold pcF
 rw[aJ _ _ _ _ (by simp[CQ])]
 simp[CQ,e142,hO,-hZ]
 generalize hF:upd _ 14 _=F
 generalize hH:aA.push _ _=H
 refine l110 (fun r=>∃ N,cW (fin [.t 6] r)=some (eL false 1 bO N)∧kQ N∧(∀x,x∈N↔x∈wJ l (ofT ⟨c,d⟩ b.entries))∧N.length≤12) u l hl (ofT ⟨c,d⟩ b.entries) (by omega) (fun e he=>hp e (List.mem_filter.1 he).1) (ofT ⟨c,d⟩ b.entries) [] 0 F H rfl (Nat.zero_le _) (by rw[←hF];simp) (by rw[←hF];simp) (by rw[←hF];simp) (by rw[←hF];simp) (.nil (by rw[←hF];simp) rfl) (by rw[←hH];simp) (by rw[←hH];simp) fun F1 H1 o1 l1 w1=>?_
 rw[List.nil_append]at o1
 have Tz:=Yh l (ofT ⟨c,d⟩ b.entries)
 obtain⟨N,v',h',k1,k2,k3,k4,k5⟩:=Jj o1 w1 (by omega)
 refine⟨N,?_,k3,k4,k5⟩
 simp[Qq,k1,-hZ]
 exact k2
def Bl(l:List Att):List fT→List Int
 | []=>[]
 | o::r=>if nG o.pred l=true then o.id.aW::Bl l r else Bl l r
theorem Zj(l:List Att):∀os,(Bl l os).length≤os.length
 | []=>Nat.le_refl _
 | o::r=>by have:=Zj l r;rw[Bl];split<;>simp<;>omega
theorem l111(P:Res→Prop)(t u:Bool)(l:List Att)(hl:l.length≤1000000)(os:List fT)(Au:os.length≤100000)(hp:∀o∈os,o.pred.length≤1000000) :
  ∀(rest:List fT) (eR:List Int) (i:Nat) (f:cT) (h:aA),os.drop i=rest→eR.length≤i→f 1=eL u 4 gC l→f 9=eL t 3 cP os→f 10=.int .i64 os.length→f 11=.int .i64 i→OwnR 0 h (f 5) 3 1 (eR.map bO)→h.lim=0→WF h →
  (∀F H,OwnR 0 H (F 5) 3 1 ((eR++Bl l rest).map bO)→H.lim=0→WF H→P (run D 28 [] Qo F H)) →
  P (run D 28 [.block 0,.seq Qo] (.loop Qn) f h):=by
 intro rest
 induction rest with
 | nil =>
  intro eR i f h hd ha h1 h9 hY lG ho aL wf mV
  have hi:=bH hd
  have:¬(i<os.length):=by omega
  rw[aC Qn.eq_1]
  simp[hY,lG,this]
  exact mV _ _ (by simpa[Bl]using ho) aL wf
 | cons o rest ih =>
  intro eR i f h hd ha h1 h9 hY lG ho aL wf mV
  obtain⟨hi,he,eJ⟩:=bR hd
  have hw:IntKind.i64.wrap ((i:Int)+1)=(i:Int)+1:=aT (by omega) (by omega)
  have hM:pcF D Pu [bE o.pred,eL u 4 gC l]=some (.bool (nG o.pred l)):=s162 false u o.pred l (hp o (by rw[←he];exact List.getElem_mem hi)) hl
  have hf:∀h,resolve true h 200 (eL u 4 gC l)=some (eL u 4 gC l):=fun h=>gS _ _ _ _ true h 200 (by decide)
  rw[aC Qn.eq_1]
  cases c2:nG o.pred l with
  | false =>
   rw[c2]at hM
   have hN:Bl l (o::rest)=Bl l rest:=by rw[Bl,if_neg (by rw[c2];decide)]
   rw[hN]at mV
   simp[h1,h9,hY,lG,hi,he,cP,aL,wf,hw,TU,hM,hf]
   generalize hF:upd _ 11 _=F
   exact ih eR (i+1) F _ eJ (by omega) (by rw[←hF];simp[h1]) (by rw[←hF];simp[h9]) (by rw[←hF];simp[hY]) (by rw[←hF];simp) (by rw[←hF];simp;exact ho.push) (by simp[aL]) (by simp[wf]) mV
  | true =>
   rw[c2]at hM
   have hN:Bl l (o::rest)=o.id.aW::Bl l rest:=by rw[Bl,if_pos c2]
   rw[hN,List.append_cons]at mV
   simp[h1,h9,hY,lG,hi,he,cP,aL,wf,hw,TU,hM,hf]
   generalize hA:aY _ _ _ _ _ _=A
   obtain⟨w,K,rfl,Kk,uG,_⟩:=ho.push.push.append (by simp[wf]) (Nat.zero_le _) (by simp[aL]) hA (by simp;omega) (by decide)
   clear hA
   have hKl:K.lim=0:=by rw[uG.lim];simp[aL]
   simp[lG,hw]
   generalize hF:upd _ 11 _=F
   exact ih (eR++[o.id.aW]) (i+1) F K eJ (by simp;omega) (by rw[←hF];simp[h1]) (by rw[←hF];simp[h9]) (by rw[←hF];simp[hY]) (by rw[←hF];simp) (by rw[←hF];simp;simpa[bO]using Kk) hKl uG.wf mV
theorem s111(t:dA)(b:aH)(u:Bool)(l:List Att)(hl:l.length≤1000000)(hp:∀o∈b.bT,o.pred.length≤1000000)(gE:b.bT.length≤12) :
  ∃ N,pcF D CP [aE t b,eL u 4 gC l]=some (eL false 1 bO N)∧kQ N∧(∀x,x∈N↔x∈Bl l b.bT)∧N.length≤12:=by
 unfold pcF
 rw[aJ _ _ _ _ (by simp[CP])]
 simp[CP,iE,-hZ]
 generalize hF:upd _ 11 _=F
 generalize hH:aA.push _ _=H
 refine l111 (fun r=>∃ N,cW (fin [.t 4] r)=some (eL false 1 bO N)∧kQ N∧(∀x,x∈N↔x∈Bl l b.bT)∧N.length≤12) t.5 u l hl b.bT (by omega) hp b.bT [] 0 F H rfl (Nat.zero_le _) (by rw[←hF];simp) (by rw[←hF];simp) (by rw[←hF];simp) (by rw[←hF];simp) (.nil (by rw[←hF];simp) rfl) (by rw[←hH];simp) (by rw[←hH];simp) fun F1 H1 o1 l1 w1=>?_
 rw[List.nil_append]at o1
 have Tz:=Zj l b.bT
 obtain⟨N,v',h',k1,k2,k3,k4,k5⟩:=Jj o1 w1 (by omega)
 refine⟨N,?_,k3,k4,k5⟩
 simp[Qo,k1,-hZ]
 exact k2
end Go.Dm.Tc
/-
Carrying publications: what is put out,what is delivered.
-/
namespace Go.Dm.Tc
def ePO(m:Msg)(n:Int):DV:=.agg [.int .i64 n,.int .i64 m.kind,.int .i64 m.tree.aW,.int .i64 m.tree.seq,.int .i64 m.id.aW,.int .i64 m.id.seq,bE m.pred,eL false 4 gC m.gN]
def zD(m:Msg)(c:Int):DV:=.agg [.int .i64 c,.int .i64 m.id.aW,.int .i64 m.id.seq,eL false 4 gC m.gN]
theorem PU(x:Att):Unl 2 (gC x):=Oy (k:=1) (by
 intro y hy
 simp only[List.mem_cons,List.not_mem_nil,or_false]at hy
 rcases hy with rfl|rfl|rfl|rfl
 all_goals first|exact lC _ _|exact wP _|exact uY _)
theorem Uf(l:List Att):Unl 21 (eL false 4 gC l):=(eS fun x _=>PU x).mono (by decide)
theorem Jr(m:Msg)(n:Int):jP 20 (ePO m n)∧Unl 22 (ePO m n):=⟨jJ (by
  intro y hy
  simp only[List.mem_cons,List.not_mem_nil,or_false]at hy
  rcases hy with rfl|rfl|rfl|rfl|rfl|rfl|rfl|rfl
  all_goals first|exact fL _ _|exact gS _ _ _ _),kX (by
  intro y hy
  simp only[List.mem_cons,List.not_mem_nil,or_false]at hy
  rcases hy with rfl|rfl|rfl|rfl|rfl|rfl|rfl|rfl
  all_goals first|exact(lC _ _).mono (by decide)|exact(tT _).mono (by decide)|exact Uf _)⟩
theorem Ep(m:Msg)(n:Int):jP 20 (zD m n)∧Unl 22 (zD m n):=⟨jJ (by
  intro y hy
  simp only[List.mem_cons,List.not_mem_nil,or_false]at hy
  rcases hy with rfl|rfl|rfl|rfl
  all_goals first|exact fL _ _|exact gS _ _ _ _),kX (by
  intro y hy
  simp only[List.mem_cons,List.not_mem_nil,or_false]at hy
  rcases hy with rfl|rfl|rfl|rfl
  all_goals first|exact(lC _ _).mono (by decide)|exact Uf _)⟩
theorem SC{lo:Nat}{h:aA}{v:DV}{ety sz k oV eM:Nat}{xs ys:List DV}{cap:Option Nat}(w:OwnR lo h v ety sz xs)(g:h.get k=some (.arr oV eM ys cap))(eG:ety≠oV):xZ v k:=by
 intro a b c e
 cases w with
 | nil hv _=>rw[hv]at e;cases e
 | arr id sp cp hv hg _ _ =>
  rw[hv]at e
  cases e
  rw[g]at hg
  cases hg
  exact eG rfl
theorem YO{lo:Nat}{h h':aA}{v:DV}{ety sz:Nat}{xs:List DV}(w:OwnR lo h v ety sz xs)(hg:∀k ys cap,h.get k=some (.arr ety sz ys cap)→h'.get k=h.get k)(hl:h'.lim=h.lim):OwnR lo h' v ety sz xs:=by
 cases w with
 | nil hv hx=>exact .nil hv hx
 | arr id sp cap hv g a b=>exact .arr id sp cap hv (by rw[hg id _ _ g];exact g) (by rw[hl];exact a) b
theorem l37a(P:Res→Prop)(m:Msg)(tp:Nat)(N:List Int)(hN:N.length≤100)(h0:aA)(g1:h0.get 1=some (.arr tp 7 [vU m] (some 1)))(aL:h0.lim=0) :
  ∀(rest:List Int) (eR:List Int) (i:Nat) (f:cT) (h:aA),N.drop i=rest→eR.length≤i→f 3=.ptr 0 6 0 0→f 5=.ptr 1 7 0 0→f 11=.nsl→f 36=eL false 1 bO N→f 37=.int .i64 N.length→f 38=.int .i64 i→OwnR 3 h (f 10) 100 8 (eR.map (ePO m))→Ext 3 h0 h →
  (∀F H,F 3=.ptr 0 6 0 0→F 5=.ptr 1 7 0 0→F 11=.nsl→OwnR 3 H (F 10) 100 8 ((eR++rest).map (ePO m))→Ext 3 h0 H→P (run D 70 [] W0 F H)) →
  P (run D 70 [.block 0,.seq W0] (.loop V9) f h):=by
 intro rest
 induction rest with
 | nil =>
  intro eR i f h hd ha h3 h5 lG HQ B2 NN ho hx mV
  have hi:=bH hd
  have:¬(i<N.length):=by omega
  rw[aC V9.eq_1]
  simp[B2,NN,this]
  exact mV _ _ (by simp[h3]) (by simp[h5]) (by simp[lG]) (by simpa using ho) hx
 | cons n rest ih =>
  intro eR i f h hd ha h3 h5 lG HQ B2 NN ho hx mV
  obtain⟨hi,he,eJ⟩:=bR hd
  have hw:IntKind.i64.wrap ((i:Int)+1)=(i:Int)+1:=aT (by omega) (by omega)
  have G1:=(hx.get 1 (by decide)).trans g1
  have hlH:h.lim=0:=hx.lim.trans aL
  rw[List.append_cons]at mV
  rw[aC V9.eq_1]
  simp[h3,h5,HQ,B2,NN,hi,he,bO,G1,vU,hlH]
  generalize hA:aY _ _ _ _ _ _=A
  obtain⟨w,K,rfl,Kk,uG,_⟩:=ho.push.append hx.push.wf (hx.push.le) (by simp[hlH]) hA (by simp;omega) (by decide)
  clear hA
  simp[NN,hw]
  generalize hF:upd _ 38 _=F
  exact ih (eR++[n]) (i+1) F K eJ (by simp;omega) (by rw[←hF];simp[h3]) (by rw[←hF];simp[h5]) (by rw[←hF];simp[lG]) (by rw[←hF];simp[HQ]) (by rw[←hF];simp[B2]) (by rw[←hF];simp) (by rw[←hF];simp;simpa[ePO]using Kk) (hx.push.trans uG) mV
theorem l37b(P:Res→Prop)(m:Msg)(tp:Nat)(N:List Int)(hN:N.length≤100)(os:List Int)(h0:aA)(g1:h0.get 1=some (.arr tp 7 [vU m] (some 1)))(aL:h0.lim=0) :
  ∀(rest:List Int) (eR:List Int) (i:Nat) (f:cT) (h:aA),N.drop i=rest→eR.length≤i→f 5=.ptr 1 7 0 0→f 52=eL false 1 bO N→f 53=.int .i64 N.length→f 54=.int .i64 i→OwnR 3 h (f 11) 103 4 (eR.map (zD m))→OwnR 3 h (f 10) 100 8 (os.map (ePO m))→Ext 3 h0 h →
  (∀F H,OwnR 3 H (F 11) 103 4 ((eR++rest).map (zD m))→OwnR 3 H (F 10) 100 8 (os.map (ePO m))→Ext 3 h0 H→P (run D 70 [] W1 F H)) →
  P (run D 70 [.block 2,.seq W1] (.loop V8) f h):=by
 intro rest
 induction rest with
 | nil =>
  intro eR i f h hd ha h5 h52 h53 h54 ho hp hx mV
  have hi:=bH hd
  have:¬(i<N.length):=by omega
  rw[aC V8.eq_1]
  simp[h53,h54,this]
  exact mV _ _ (by simpa using ho) (by simpa using hp) hx
 | cons n rest ih =>
  intro eR i f h hd ha h5 h52 h53 h54 ho hp hx mV
  obtain⟨hi,he,eJ⟩:=bR hd
  have hw:IntKind.i64.wrap ((i:Int)+1)=(i:Int)+1:=aT (by omega) (by omega)
  have G1:=(hx.get 1 (by decide)).trans g1
  have hlH:h.lim=0:=hx.lim.trans aL
  rw[List.append_cons]at mV
  rw[aC V8.eq_1]
  simp[h5,h52,h53,h54,hi,he,bO,G1,vU,hlH]
  generalize hA:aY _ _ _ _ _ _=A
  obtain⟨w,K,rfl,Kk,uG,fr,_⟩:=qY ho.push hx.push.wf (hx.push.le) (by simp[hlH]) hA (by simp;omega) (by decide)
  clear hA
  have qQ:=YO (hp.push (o:=.arr 103 4 [.agg [.int .i64 n,.int .i64 m.id.aW,.int .i64 m.id.seq,eL false 4 gC m.gN]] (some 1))) (fun j ys cap gj=>fr j (bB gj) (SC ho.push gj (by decide))) uG.lim
  simp[h54,hw]
  generalize hF:upd _ 54 _=F
  exact ih (eR++[n]) (i+1) F K eJ (by simp;omega) (by rw[←hF];simp[h5]) (by rw[←hF];simp[h52]) (by rw[←hF];simp[h53]) (by rw[←hF];simp) (by rw[←hF];simp;simpa[zD]using Kk) (by rw[←hF];simpa using qQ) (hx.push.trans uG) mV
structure VK(b:aH)(bK:Int)(m:Msg)(N C:List Int):Prop where
 yes:∀a,gO b m.tree=some a→a.bN=bK→kQ N∧(∀x,x∈N↔x∈wJ m.gN (ofT m.tree b.entries))∧kQ C∧(∀x,x∈C↔x∈Bl m.gN b.bT)
 no:(∀a,gO b m.tree=some a→a.bN≠bK)→N=[]∧C=[]
theorem s37(t:dA)(b:aH)(bK:Int)(m:Msg)(hi:cD b)(z:fG b)(FI:m.gN.length≤1000000)(gE:(ofT m.tree b.entries).length≤12)(ho:b.bT.length≤12) :
  ∃ N C,pcF D t37 [aE t b,.int .i64 bK,vU m]=some (.tup [eL false 8 (ePO m) N,eL false 4 (zD m) C])∧VK b bK m N C∧N.length≤1000∧C.length≤1000:=by
 have hA:=kAF (t:=t) hi z m.tree.aW m.tree.seq
 have hme:(⟨m.tree.aW,m.tree.seq⟩:ID)=m.tree:=rfl
 rw[hme]at hA
 have Z9:∀e∈b.entries,e.pred.length≤1000000:=fun e he=>(hi.pe e he).names.1
 have UU:∀o∈b.bT,o.pred.length≤1000000:=fun o h=>(hi.po o h).names.1
 obtain⟨N,hN,n1,n2,n3⟩:=s110 t b m.tree.aW m.tree.seq false m.gN FI z Z9 gE
 obtain⟨C,hC,c1,c2,c3⟩:=s111 t b false m.gN FI UU ho
 have hf:∀h,resolve true h 200 (eL false 4 gC m.gN)=some (eL false 4 gC m.gN):=fun h=>gS _ _ _ _ true h 200 (by decide)
 unfold pcF
 rw[aJ _ _ _ _ (by simp[t37])]
 cases ha:gO b m.tree with
 | none =>
  rw[ha]at hA
  refine⟨[],[],?_,⟨fun a h=>(by rw[ha]at h;cases h),fun _=>⟨rfl,rfl⟩⟩,by simp,by simp⟩
  simp[t37,e89,hA,gK,vU,aG,qA,turn,iD,aI]
 | some a =>
  rw[ha]at hA
  by_cases hp:a.bN=bK
  ·refine⟨N,C,?_,⟨fun _ _ _=>⟨n1,n2,c1,c2⟩,fun h=>absurd hp (h a ha)⟩,by omega,by omega⟩
   simp[t37,e89,hA,gK,vU,aG,hp,turn,e110,hN,hf,-hZ]
   generalize hF:upd _ 38 _=F
   generalize hH:aA.push _ _=H
   refine l37a (fun r=>cW (fin [.t 6,.t 7] r)=some (.tup [eL false 8 (ePO m) N,eL false 4 (zD m) C])) m 44 N (by omega) H (by rw[←hH];simp[vU]) (by rw[←hH];simp) N [] 0 F H rfl (Nat.zero_le _) (by rw[←hF];simp) (by rw[←hF];simp) (by rw[←hF];simp) (by rw[←hF];simp) (by rw[←hF];simp) (by rw[←hF];simp) (.nil (by rw[←hF];simp) rfl) (.refl (by rw[←hH];simp) (by rw[←hH];simp)) fun F1 H1 a3 a5 a11 o1 x1=>?_
   rw[List.nil_append]at o1
   have g0:H.get 0=some (.arr 36 6 [aE t b] (some 1)):=by rw[←hH];simp
   have g1:H.get 1=some (.arr 44 7 [vU m] (some 1)):=by rw[←hH];simp[vU]
   have sZ:H.lim=0:=by rw[←hH];simp
   have G0:=(x1.get 0 (by decide)).trans g0
   have G1:=(x1.get 1 (by decide)).trans g1
   have Dx:H1.lim=0:=x1.lim.trans sZ
   simp[W0,a3,a5,G0,G1,vU,e111,hC,hf,-hZ]
   generalize hF2:upd _ 54 _=F2
   refine l37b (fun r=>cW (fin [.t 6,.t 7] r)=some (.tup [eL false 8 (ePO m) N,eL false 4 (zD m) C])) m 44 C (by omega) N H1 G1 Dx C [] 0 F2 H1 rfl (Nat.zero_le _) (by rw[←hF2];simp[a5]) (by rw[←hF2];simp) (by rw[←hF2];simp) (by rw[←hF2];simp) (.nil (by rw[←hF2];simp[a11]) rfl) (by rw[←hF2];simpa using o1) (.refl x1.le x1.wf) fun F3 H3 o3 p3 x3=>?_
   rw[List.nil_append]at o3
   have r1:resolve false H3 199 (F3 10)=some (eL false 8 (ePO m) N):=p3.resolve false (fun y _=>(Jr m y).1) (by decide)
   have r2:resolve false H3 199 (F3 11)=some (eL false 4 (zD m) C):=o3.resolve false (fun y _=>(Ep m y).1) (by decide)
   simp[W1,aI,-hZ]
   exact EF (k:=23) (by simp[r1,r2]) (fun d hd=>by
    simp only[List.mem_cons,List.not_mem_nil,or_false]at hd
    rcases hd with rfl|rfl
    ·exact eS fun y _=>(Jr m y).2
    ·exact eS fun y _=>(Ep m y).2) (by decide)
  ·refine⟨[],[],?_,⟨fun a' h qQ=>(by rw[ha]at h;cases h;exact absurd qQ hp),fun _=>⟨rfl,rfl⟩⟩,by simp,by simp⟩
   simp[t37,e89,hA,gK,vU,aG,hp,turn,iD,aI]
end Go.Dm.Tc
/-
The broker: rows put out are the same as themselves;what a message does.
-/
namespace Go.Dm.Tc
theorem x42(m:Msg)(hp:m.pred.length≤1000000)(ha:m.gN.length≤1000000):pcF D t42 [.agg [.int .i64 m.kind,.int .i64 m.tree.aW,.int .i64 m.tree.seq,.int .i64 m.id.aW,.int .i64 m.id.seq,bE m.pred,eL false 4 gC m.gN],.agg [.int .i64 m.kind,.int .i64 m.tree.aW,.int .i64 m.tree.seq,.int .i64 m.id.aW,.int .i64 m.id.seq,bE m.pred,eL false 4 gC m.gN]]=some (.bool true):=by
 have q1:pcF D t41 [bE m.pred,bE m.pred]=some (.bool true):=by
  have:=s41 false false m.pred m.pred hp
  simpa[bE]using this
 have q2:pcF D t43 [eL false 4 gC m.gN,eL false 4 gC m.gN]=some (.bool true):=by
  have:=s43 false false m.gN m.gN ha
  simpa using this
 have hf:∀h,resolve true h 200 (eL false 4 gC m.gN)=some (eL false 4 gC m.gN):=fun h=>gS _ _ _ _ true h 200 (by decide)
 unfold pcF
 rw[aJ _ _ _ _ (by simp[t42])]
 simp[t42,e41,q1,e43,q2,hf]
theorem xl12(m:Msg)(hp:m.pred.length≤1000000)(ha:m.gN.length≤1000000)(N:List Int)(hN:N.length≤1000) :
  ∀(rest:List Int) (i:Nat) (f:cT) (h:aA),N.drop i=rest→h.lim=0→f 0=eL false 8 (ePO m) N→f 1=eL false 8 (ePO m) N→f 12=.int .i64 N.length→f 13=.int .i64 i →
  cW (fin [.t 4] (run D 42 [.block 0,.seq JO] (.loop W9) f h))=some (.bool true):=by
 intro rest
 induction rest with
 | nil =>
  intro i f h hd aL h0 h1 gE lY
  have hi:=bH hd
  have:¬(i<N.length):=by omega
  rw[aC W9.eq_1]
  simp[JO,gE,lY,this]
 | cons n rest ih =>
  intro i f h hd aL h0 h1 gE lY
  obtain⟨hi,he,eJ⟩:=bR hd
  have hw:IntKind.i64.wrap ((i:Int)+1)=(i:Int)+1:=aT (by omega) (by omega)
  have hM:=x42 m hp ha
  have hf:∀h,resolve true h 199 (eL false 4 gC m.gN)=some (eL false 4 gC m.gN):=fun h=>gS _ _ _ _ true h 199 (by decide)
  rw[aC W9.eq_1]
  simp[h0,h1,gE,lY,hi,he,ePO,e42,hM,hf,aL,hw]
  generalize hF:upd _ 13 _=F
  exact ih (i+1) F h eJ aL (by rw[←hF];simp[h0]) (by rw[←hF];simp[h1]) (by rw[←hF];simp[gE]) (by rw[←hF];simp)
theorem x12(m:Msg)(hp:m.pred.length≤1000000)(ha:m.gN.length≤1000000)(N:List Int)(hN:N.length≤1000):pcF D t12 [eL false 8 (ePO m) N,eL false 8 (ePO m) N]=some (.bool true):=by
 unfold pcF
 rw[aJ _ _ _ _ (by simp[t12])]
 simp[t12]
 generalize hF:upd _ 13 _=F
 have:=xl12 m hp ha N hN N 0 F oH rfl rfl (by rw[←hF];simp) (by rw[←hF];simp) (by rw[←hF];simp) (by rw[←hF];simp)
 simpa using this
theorem xl13(m:Msg)(ha:m.gN.length≤1000000)(N:List Int)(hN:N.length≤1000) :
  ∀(rest:List Int) (i:Nat) (f:cT) (h:aA),N.drop i=rest→h.lim=0→f 0=eL false 4 (zD m) N→f 1=eL false 4 (zD m) N→f 12=.int .i64 N.length→f 13=.int .i64 i →
  cW (fin [.t 4] (run D 55 [.block 0,.seq JN] (.loop W8) f h))=some (.bool true):=by
 intro rest
 induction rest with
 | nil =>
  intro i f h hd aL h0 h1 gE lY
  have hi:=bH hd
  have:¬(i<N.length):=by omega
  rw[aC W8.eq_1]
  simp[JN,gE,lY,this]
 | cons n rest ih =>
  intro i f h hd aL h0 h1 gE lY
  obtain⟨hi,he,eJ⟩:=bR hd
  have hw:IntKind.i64.wrap ((i:Int)+1)=(i:Int)+1:=aT (by omega) (by omega)
  have q2:pcF D t43 [eL false 4 gC m.gN,eL false 4 gC m.gN]=some (.bool true):=by
   have:=s43 false false m.gN m.gN ha
   simpa using this
  have hf:∀h,resolve true h 200 (eL false 4 gC m.gN)=some (eL false 4 gC m.gN):=fun h=>gS _ _ _ _ true h 200 (by decide)
  rw[aC W8.eq_1]
  simp[h0,h1,gE,lY,hi,he,zD,e43,q2,hf,aL,hw]
  generalize hF:upd _ 13 _=F
  exact ih (i+1) F h eJ aL (by rw[←hF];simp[h0]) (by rw[←hF];simp[h1]) (by rw[←hF];simp[gE]) (by rw[←hF];simp)
theorem x13(m:Msg)(ha:m.gN.length≤1000000)(N:List Int)(hN:N.length≤1000):pcF D t13 [eL false 4 (zD m) N,eL false 4 (zD m) N]=some (.bool true):=by
 unfold pcF
 rw[aJ _ _ _ _ (by simp[t13])]
 simp[t13]
 generalize hF:upd _ 13 _=F
 have:=xl13 m ha N hN N 0 F oH rfl rfl (by rw[←hF];simp) (by rw[←hF];simp) (by rw[←hF];simp) (by rw[←hF];simp)
 simpa using this
theorem s10(b:aH)(q k tc td sc sd:Int)(p:bJ)(hi:cD b)(hz:ZL b b.bT.length)(hp:cB p)(hf:hU b q=true)(hJ:b.aR.length<100000∧b.seen.length<100000)(hk:k=1∨k=2∨k=3∨k=4) :
  pcF D t10 [aE .none b,.int .i64 q,.agg [.int .i64 k,.int .i64 tc,.int .i64 td,.int .i64 sc,.int .i64 sd,bE p,.isl false 0 []]]=some (.tup [aE .none (fZ b q k ⟨tc,td⟩ ⟨sc,sd⟩ p).1,eL false 8 fY (fZ b q k ⟨tc,td⟩ ⟨sc,sd⟩ p).2,.isl false 0 []]):=by
 have h1:=s33 b tc td q p hi hz hp hf hJ
 have h2:=s34 b tc td q hi hz.sized
 have h3:=s35 b k tc td sc sd q p hi hz.sized hp
 have h4:=s36 b k tc td sc sd q p hi hz.sized
 have Dt:∀os:List jN,bI 199 (eL false 8 fY os)=true:=fun os=>eS (fun y _=>(fK y).2) 199 (by decide)
 unfold pcF
 rw[aJ _ _ _ _ (by simp[t10])]
 rcases hk with rfl|rfl|rfl|rfl
 ·simp[t10,fZ,e33,h1,turn,aI,Dt]
 ·simp[t10,fZ,e34,h2,turn,aI,Dt]
 ·simp[t10,fZ,e35,tW,h3,turn,aI,Dt]
 ·simp[t10,fZ,e36,tW,h4,turn,aI,Dt]
theorem p10(b:aH)(q:Int)(m:Msg)(hk:m.kind=5)(hi:cD b)(z:fG b)(FI:m.gN.length≤1000000)(gE:(ofT m.tree b.entries).length≤12)(ho:b.bT.length≤12) :
  ∃ N C,pcF D t10 [aE .none b,.int .i64 q,vU m]=some (.tup [aE .none b,eL false 8 (ePO m) N,eL false 4 (zD m) C])∧VK b q m N C∧N.length≤1000∧C.length≤1000:=by
 obtain⟨N,C,hP,ok,hn⟩:=s37 .none b q m hi z FI gE ho
 have hu1:∀n,23≤n→bI n (eL false 8 (ePO m) N)=true:=fun n hn=>eS (fun y _=>(Jr m y).2) n hn
 have Dt:∀n,23≤n→bI n (eL false 4 (zD m) C)=true:=fun n hn=>eS (fun y _=>(Ep m y).2) n hn
 refine⟨N,C,?_,ok,?_,?_⟩
 ·obtain⟨k,t,i,p,a⟩:=m
  simp only at hk
  subst hk
  unfold pcF
  rw[aJ _ _ _ _ (by simp[t10])]
  simp only[vU]at hP
  have v1:=hu1 199 (by decide)
  have v2:=Dt 199 (by decide)
  simp[t10,vU,e37,hP,turn,aI,v1,v2]
 ·exact hn.1
 ·exact hn.2
theorem s15(b:aH)(q k tc td sc sd:Int)(p:bJ)(hi:cD b)(hz:ZL b b.bT.length)(hp:cB p)(hf:hU b q=true)(hJ:b.aR.length<100000∧b.seen.length<100000)(hk:k=1∨k=2∨k=3∨k=4)(he:fZ b q k ⟨tc,td⟩ ⟨sc,sd⟩ p=(b,[])) :
  pcF D t15 [aE .none b,.int .i64 q,.agg [.int .i64 k,.int .i64 tc,.int .i64 td,.int .i64 sc,.int .i64 sd,bE p,.isl false 0 []]]=some (.bool true):=by
 have h1:=s10 b q k tc td sc sd p hi hz hp hf hJ hk
 rw[he]at h1
 have h2:pcF D t16 [aE .none b,aE .none b]=some (.bool true):=by
  have:=AdD (t:=.none) hi hz.sized .none b
  simpa using this
 unfold pcF
 rw[aJ _ _ _ _ (by simp[t15])]
 simp[t15,e10,tW,h1,e16,h2,turn]
end Go.Dm.Tc
/-
Plain laws: a message told once more changes nothing more;a tree's entries are no more than what was told.
-/
namespace Go.Dm.Tc
theorem Te{α:Type}{key:α→ID}(x:ID)(l:List α):(cQ key x l).find? (fun a=>key a=x)=none:=by
 rw[List.find?_eq_none]
 intro a ha
 simpa using(sP ha).2
theorem Zx(bK:Int)(x:ID)(p:bJ):∀(l:List fT) (st:aH×List jN),(l.foldl (dJ bK x p) st).1.seen=st.1.seen
 | [],_=>rfl
 | o::r,st=>by
  rw[List.foldl_cons,Zx bK x p r]
  unfold dJ
  split
  ·rw[Dq]
  ·rfl
theorem KH{c:aH}(q:Int){x:ID}(p:bJ)(h:x∈c.seen):bW c q x p=(c,[]):=by
 have:(bM c ⟨x,p,q⟩).2=false:=by unfold bM;rw[if_pos h]
 unfold bW
 rw[if_neg (by rw[this];decide)]
theorem Aj{c:aH}(q:Int){x:ID}(h:c.aR.find? (fun a=>a.id=x)=none):bS c q x=(c,[]):=by
 have:(bU c x q).2=false:=by unfold bU;rw[h]
 unfold bS
 rw[if_neg (by rw[this];decide)]
theorem BC(b:aH)(q:Int)(x:ID)(p:bJ):bW (bW b q x p).1 q x p=((bW b q x p).1,[]):=by
 have hs:x∈(bW b q x p).1.seen:=by
  unfold bW
  split
  ·rw[Zx]
   unfold bM
   split
   ·assumption
   ·exact(nZ _ _ _ _).2 (.inl rfl)
  ·rename_i hn
   unfold bM at hn
   split at hn
   ·assumption
   ·exact absurd rfl hn
 exact KH q p hs
theorem Uh(b:aH)(q:Int)(x:ID):bS (bS b q x).1 q x=((bS b q x).1,[]):=by
 cases hf:b.aR.find? (fun a=>a.id=x)with
 | none=>rw[Aj q hf];exact Aj q hf
 | some a =>
  by_cases hp:a.bN=q
  ·have e:bU b x q=({b with aR:=cQ (fun a=>a.id) x b.aR,entries:=cQ (fun e=>e.tree) x b.entries},true):=by
    unfold bU;rw[hf];simp only[if_pos hp]
   have e2:(bS b q x).1={b with aR:=cQ (fun a=>a.id) x b.aR,entries:=cQ (fun e=>e.tree) x b.entries}:=by
    unfold bS;rw[e,if_pos rfl]
   rw[e2]
   exact Aj q (Te (key:=fun a:bG=>a.id) x b.aR)
  ·have e:bU b x q=(b,false):=by
    unfold bU;rw[hf];simp only[if_neg hp]
   have e2:bS b q x=(b,[]):=by
    unfold bS;rw[e,if_neg (by simp)]
   rw[e2];exact e2
theorem BA{b:aH}(h:cD b){q:Int}{t s:ID}{p:bJ}(hl:hU b q=true)(hp:cB p):gI (gI b q t s p).1 q t s p=((gI b q t s p).1,[]):=by
 have again:∀(c:aH) (d:aX),oN c t s=some d→gI c q t s p=(c,[]):=fun c d hd=>by
  have:=HF (b:=c) (e:=⟨t,s,p,q,false⟩) hd
  unfold gI
  rw[this];rfl
 cases he:oN b t s with
 | some d=>rw[again b d he];exact again b d he
 | none =>
  by_cases hn:∀a,gO b t=some a→q=a.bN∧a.bN≠-1
  ·have:=o0 (b:=b) (e:=⟨t,s,p,q,false⟩) hn
   have e:gI b q t s p=(b,[]):=by unfold gI;rw[this];rfl
   rw[e];exact e
  ·obtain⟨a,hn⟩:=Classical.not_forall.1 hn
   rw[Classical.not_imp]at hn
   obtain⟨ha,hn⟩:=hn
   obtain⟨h1,_⟩:=o6 (e:=⟨t,s,p,q,false⟩) h ha he (fun e=>Classical.byContradiction fun k=>hn ⟨e,k⟩) hl hp
   exact again _ _ h1
theorem BB{b:aH}(h:cD b)(q:Int)(t s:ID):eV (eV b t s q).1 t s q=((eV b t s q).1,[]):=by
 have none_:∀c:aH,oN c t s=none→eV c t s q=(c,[]):=fun c hc=>by
  have:bZ c t s q=(c,[],false):=by
   unfold bZ
   rw[show c.entries.find? (isE t s)=none from hc]
  unfold eV
  rw[this];rfl
 cases he:oN b t s with
 | none=>rw[none_ b he];exact none_ b he
 | some e =>
  by_cases hq:e.bK=q
  ·have:=BG h he
   rw[hq,←jW]at this
   exact none_ _ this
  ·have h1:=C3 he hq
   have e:eV b t s q=(b,[]):=by unfold eV;rw[h1];rfl
   rw[e];exact e
theorem t6{b:aH}(h:cD b){q k:Int}{t s:ID}{p:bJ}(hl:hU b q=true)(hp:cB p):fZ (fZ b q k t s p).1 q k t s p=((fZ b q k t s p).1,[]):=by
 unfold fZ
 split
 ·exact BC b q t p
 ·split
  ·exact Uh b q t
  ·split
   ·exact BA h hl hp
   ·exact BB h q t s
theorem CW{b:aH}{n:Nat}(h:cD b)(z:SzK b n){q k:Int}{t s:ID}{p:bJ}(hf:hU b q=true)(hp:cB p):cD (fZ b q k t s p).1∧SzK (fZ b q k t s p).1 (n+1):=by
 unfold fZ
 split
 ·exact sF h z hf hp
 ·split
  ·exact tU h z _ _
  ·split
   ·exact Jw h z hf hp
   ·exact Oq h z _ _ _
def mO(T:ID)(b:aH):Nat:=(ofT T b.entries).length
theorem LZ(T:ID)(a b:List aX):ofT T (a++b)=ofT T a++ofT T b:=by unfold ofT;rw[List.filter_append]
theorem SB(T:ID)(e:aX)(l:List aX):(ofT T (tM e l)).length=(ofT T l).length+if e.tree=T then 1 else 0:=by
 have h:(ofT T l).length=(ofT T (l.take (aV (fB e.tree e.sub) l))).length+(ofT T (l.drop (aV (fB e.tree e.sub) l))).length:=by
  rw[←List.length_append,←LZ,List.take_append_drop]
 unfold tM
 rw[LZ,List.length_append,h]
 have:ofT T (e::l.drop (aV (fB e.tree e.sub) l))=(if e.tree=T then[e]else[])++ofT T (l.drop (aV (fB e.tree e.sub) l)):=by
  unfold ofT
  by_cases hc:e.tree=T<;>simp[hc]
 rw[this,List.length_append]
 split<;>simp<;>omega
theorem Tn(T:ID)(b:aH)(e:aX):mO T (dW b e).1≤mO T b+if e.tree=T then 1 else 0:=by
 unfold dW
 split
 ·have:=SB T {e with up:=pD b e} b.entries
  unfold mO;simp only at this ⊢;omega
 ·exact Nat.le_add_right ..
theorem EL{T t:ID}{a a':List aX}(h:fS t a a'):(ofT T a').length=(ofT T a).length:=by
 induction h with
 | nil=>rfl
 | keep e _ ih=>unfold ofT at *;simp only[List.filter_cons];split<;>simp[ih]
 | up e ht hu _ ih=>unfold ofT at *;simp only[List.filter_cons];split<;>simp[ih]
theorem Es(T:ID)(f:aX→Bool)(l:List aX):(ofT T (l.filter f)).length≤(ofT T l).length:=by
 unfold ofT
 rw[List.filter_filter]
 have:l.filter (fun a=>decide (a.tree=T) && f a)=(l.filter fun a=>decide (a.tree=T)).filter f:=by
  rw[List.filter_filter];congr 1;funext a;rw[Bool.and_comm]
 rw[this]
 exact List.length_filter_le ..
theorem Zd{b:aH}(h:cD b)(T t s:ID)(q:Int):mO T (bZ b t s q).1≤mO T b:=by
 unfold mO
 rcases nB h t s q with⟨h1,_⟩|⟨e,_,_,_,_,h1⟩|⟨e,_,_,_,_,r',u',h1,h2,_⟩
 ·rw[h1];exact Nat.le_refl _
 ·rw[h1];exact Es ..
 ·rw[h1]
  show(ofT T r').length≤_
  rw[EL h2];exact Es ..
theorem Zg(T:ID)(bK:Int)(x:ID)(p:bJ):∀(l:List fT) (st:aH×List jN),mO T (l.foldl (dJ bK x p) st).1≤mO T st.1+if x=T then l.length else 0
 | [],st=>by simp
 | o::r,st=>by
  rw[List.foldl_cons]
  have ih:=Zg T bK x p r (dJ bK x p st o)
  have h1:mO T (dJ bK x p st o).1≤mO T st.1+if x=T then 1 else 0:=by
   unfold dJ
   split
   ·exact Tn T st.1 ⟨x,o.id,o.pred,-1,false⟩
   ·split<;>simp
  split at h1
  ·rename_i hx;rw[if_pos hx]at ih ⊢;simp;omega
  ·rename_i hx;rw[if_neg hx]at ih ⊢;omega
theorem Ze(T x:ID)(p:bJ):∀(l:List bG) (st:aH×List jN),mO T (l.foldl (dZ x p) st).1≤mO T st.1+(l.filter fun a=>decide (a.id=T)).length
 | [],st=>by simp
 | a::r,st=>by
  rw[List.foldl_cons]
  have ih:=Ze T x p r (dZ x p st a)
  have h1:mO T (dZ x p st a).1≤mO T st.1+if a.id=T then 1 else 0:=by
   unfold dZ
   split
   ·exact Tn T st.1 ⟨a.id,x,p,-1,false⟩
   ·split<;>simp
  by_cases hx:a.id=T
  ·rw[if_pos hx]at h1
   simp[hx];omega
  ·rw[if_neg hx]at h1
   simp[hx];omega
theorem Zf(T x:ID):∀(l:List bG) (st:aH×List jN),cD st.1→mO T (l.foldl (fA x) st).1≤mO T st.1
 | [],st,_=>Nat.le_refl _
 | a::r,st,h=>by
  rw[List.foldl_cons]
  have h1:(fA x st a).1=(bZ st.1 a.id x (-1)).1:=by unfold fA;rw[jW]
  have hi:cD (fA x st a).1:=by rw[h1];exact h.take ..
  have ih:=Zf T x r (fA x st a) hi
  have h2:=Zd h T a.id x (-1)
  have h3:mO T (fA x st a).1=mO T (bZ st.1 a.id x (-1)).1:=by rw[h1]
  omega
theorem Xv{T:ID}:∀{l:List bG},(l.map (·.id)).Nodup→(l.filter fun a=>decide (a.id=T)).length≤1
 | [],_=>by simp
 | a::r,h=>by
  rw[List.map_cons,List.nodup_cons]at h
  have ih:=Xv (T:=T) h.2
  by_cases hc:a.id=T
  ·have:r.filter (fun a=>decide (a.id=T))=[]:=by
    rw[List.filter_eq_nil_iff]
    intro y hy
    have:y.id≠T:=fun e=>h.1 (by rw[hc,←e];exact List.mem_map_of_mem hy)
    simpa using this
   simp[hc,this]
  ·simp[hc];exact ih
theorem Rp{l:List ID}(h:eE l):l.Nodup:=by
 rw[List.nodup_iff_pairwise_ne]
 exact h.imp fun {a b} VE e=>by subst e;rw[iV]at VE;omega
def TrK(b:aH)(n:Nat):Prop:=∀T,mO T b≤n
theorem TrK.mono{b:aH}{n m:Nat}(h:TrK b n)(hn:n≤m):TrK b m:=fun T=>Nat.le_trans (h T) hn
theorem SD{b:aH}(h:cD b){x:ID}(hx:x ∉ b.seen):mO x b=0:=by
 unfold mO ofT
 rw[List.length_eq_zero_iff,List.filter_eq_nil_iff]
 intro e he
 have hr:=h.ent e he
 unfold mQ at hr
 cases hf:b.aR.find? (fun a=>a.id=e.tree)with
 | none=>rw[hf]at hr;cases hr
 | some a =>
  have ha:=h.sub a (List.mem_of_find?_eq_some hf)
  have hi:a.id=e.tree:=by simpa using List.find?_some hf
  intro hc
  have hc:e.tree=x:=by simpa using hc
  exact hx (by rw[←hc,←hi];exact ha)
theorem OY{b:aH}{n:Nat}(h:cD b)(z:SzK b n)(r:TrK b n)(q:Int)(x:ID)(p:bJ):TrK (bW b q x p).1 (n+1):=by
 intro T
 unfold bW
 by_cases hs:x∈b.seen
 ·have:bM b ⟨x,p,q⟩=(b,false):=by unfold bM;rw[if_pos hs]
  rw[this,if_neg (by simp)]
  have:=r T;show mO T b≤_;omega
 ·have e:(bM b ⟨x,p,q⟩).2=true:=by unfold bM;rw[if_neg hs]
  have e2:(bM b ⟨x,p,q⟩).1.entries=b.entries:=by unfold bM;rw[if_neg hs]
  rw[if_pos e]
  have:=Zg T q x p b.bT ((bM b ⟨x,p,q⟩).1,sQ b.aM q 1 x.aW x.seq 0 0 p)
  have e3:mO T (bM b ⟨x,p,q⟩).1=mO T b:=by unfold mO;rw[e2]
  have hT:=r T
  have ho:=z.own
  simp only at this
  split at this
  ·rename_i hx;subst hx
   have:=SD h hs
   omega
  ·omega
theorem IF{b:aH}{n:Nat}(r:TrK b n)(q:Int)(x:ID):TrK (bS b q x).1 (n+1):=by
 intro T
 have hT:=r T
 unfold bS bU
 cases hf:b.aR.find? (fun a=>a.id=x)with
 | none=>simp;omega
 | some a =>
  by_cases hp:a.bN=q
  ·simp[hp]
   show(ofT T (b.entries.filter fun e=>!decide (e.tree=x))).length≤_
   exact Nat.le_trans (Es ..) (by unfold mO at hT;omega)
  ·simp[hp];omega
theorem XY{b:aH}{n:Nat}(r:TrK b n)(q:Int)(t s:ID)(p:bJ):TrK (gI b q t s p).1 (n+1):=by
 intro T
 have hT:=r T
 have:=Tn T b ⟨t,s,p,q,false⟩
 unfold gI
 simp only
 split at this<;>omega
theorem d4{b:aH}{n:Nat}(h:cD b)(r:TrK b n)(q:Int)(t s:ID):TrK (eV b t s q).1 (n+1):=by
 intro T
 have hT:=r T
 have:=Zd h T t s q
 rw[jW];omega
theorem Qu{b:aH}{n:Nat}(h:cD b)(r:TrK b n)(x:ID)(p:bJ):TrK (eW b x p).1 (n+1):=by
 intro T
 have hT:=r T
 unfold eW
 split
 ·show mO T b≤_;omega
 ·have:=Ze T x p b.aR (subOwn b x p,[])
  have h1:=Xv (T:=T) (Rp h.ra)
  have e:mO T (subOwn b x p)=mO T b:=rfl
  simp only at this
  omega
theorem Ib{b:aH}{n:Nat}(h:cD b)(r:TrK b n)(x:ID):TrK (dG b x).1 (n+1):=by
 intro T
 have hT:=r T
 unfold dG
 split
 ·show mO T b≤_;omega
 ·have:=Zf T x b.aR (endOwn b x,[]) (h.endOwn x)
  have e:mO T (endOwn b x)=mO T b:=rfl
  simp only at this
  omega
theorem QH{b:aH}{n:Nat}(h:cD b)(z:SzK b n)(r:TrK b n)(q:mX):TrK (cO b q) (n+1):=by
 unfold cO
 simp only
 split
 ·exact Qu h r _ _
 ·split
  ·exact Ib h r _
  ·split
   ·exact OY h z r _ _ _
   ·unfold fZ
    split
    ·exact OY h z r _ _ _
    ·split
     ·exact IF r _ _
     ·split
      ·exact XY r _ _ _ _
      ·exact d4 h r _ _ _
theorem Uo:∀(l:List mX) {b:aH} {n:Nat},cD b→SzK b n→TrK b n→TrK (l.foldl cO b) (n+l.length)
 | [],_,_,_,_,r=>r
 | q::l,b,n,h,z,r=>by
  obtain⟨h1,z1⟩:=dX h z q
  have:=Uo l h1 z1 (QH h z r q)
  rw[List.foldl_cons,List.length_cons]
  exact this.mono (by omega)
theorem S6(aM:Int)(l:List mX):TrK (vY aM l) 12:=by
 have hw:=dB aM (lo:=1) (hi:=4) (by decide)
 obtain⟨h,z⟩:=vB (aS aM 1 4).toNat (by omega)
 exact(Uo (l.take 12) h z (fun T=>by simp[mO,bX,ofT])).mono (by simp only[List.length_take];omega)
end Go.Dm.Tc
